/-
  Contracts of months, before of span; month, year of its reference.
-/
import Derived.Test.YtjkcgbidceakjaaDoorD10
namespace Go.Proofs.YtjkcgbidceakjaaDoor
open Go.RowKit
set_option linter.unusedVariables false
set_option linter.unusedSimpArgs false
theorem leaps_c (z : Int) (h0 : 1699 ≤ z) (h1 : z ≤ 2201) (w : World) : Calls Tryd.prog 85 #[.int .i64 z] w fun e w' => e = .returned (.int .i64 (leaps z)) ∧ w' = w := by
  unfold leaps
  go_enter Tryd.func85, Tryd.ntmps85
  go_wp2
  go_ret
  exact ⟨(by first | rfl | (simp; done) | (simp; omega) | (simp [*]; done)), rfl⟩
theorem before_c (y : Int) (h0 : 1700 ≤ y) (h1 : y ≤ 2202) (w : World) : Calls Tryd.prog 73 #[.int .i64 y] w fun e w' => e = .returned (.int .i64 (before y)) ∧ w' = w := by
  have HL := Lib.hid (fun W => leaps_c (y - 1) (by omega) (by omega) W)
  have HM := Lib.hid (fun W => leaps_c 1699 (by omega) (by omega) W)
  have hl : 0 ≤ leaps (y - 1) ∧ leaps (y - 1) ≤ 3000 := by unfold leaps; omega
  have hm : leaps 1699 = 412 := by decide
  unfold before
  rw [hm] at HM ⊢
  obtain ⟨x, hx⟩ : ∃ x, leaps (y - 1) = x := ⟨_, rfl⟩
  rw [hx] at HL hl ⊢
  clear hx hm
  obtain ⟨hl0, hl1⟩ := hl
  go_enter Tryd.func73, Tryd.ntmps73
  go_wp2_with fail
  refine (HL.out _).mono ?_
  rintro e w' ⟨rfl, rfl⟩
  go_wp2_with fail
  refine (HM.out _).mono ?_
  rintro e w' ⟨rfl, rfl⟩
  go_wp2
  go_ret
  exact ⟨(by first | rfl | (simp; done) | (simp; omega) | (simp [*]; done)), rfl⟩
theorem year_c (y : Int) (w : World) : Calls Tryd.prog 70 #[.int .i64 y] w fun e w' => e = .returned (.int .i64 (ylen y)) ∧ w' = w := by
  have HL := Lib.hid (fun W => rLeap_c y W)
  unfold ylen
  cases h : leapB y
  · rw [h] at HL
    clear h
    go_enter Tryd.func70, Tryd.ntmps70
    go_wp2_with fail
    refine (HL.out _).mono ?_
    rintro e w' ⟨rfl, rfl⟩
    go_wp2
    go_ret
    exact ⟨(by first | rfl | (simp; done) | (simp; omega) | (simp [*]; done)), rfl⟩
  · rw [h] at HL
    clear h
    go_enter Tryd.func70, Tryd.ntmps70
    go_wp2_with fail
    refine (HL.out _).mono ?_
    rintro e w' ⟨rfl, rfl⟩
    go_wp2
    go_ret
    exact ⟨(by first | rfl | (simp; done) | (simp; omega) | (simp [*]; done)), rfl⟩
theorem month_c (y m : Int) (w : World) : Calls Tryd.prog 71 #[.int .i64 y, .int .i64 m] w fun e w' => e = .returned (.int .i64 (mlen y m)) ∧ w' = w := by
  have HL := Lib.hid (fun W => rLeap_c y W)
  by_cases h30 : m = 4 ∨ m = 6 ∨ m = 9 ∨ m = 11
  · rw [show mlen y m = 30 from by unfold mlen; rw [if_pos h30]]
    rcases h30 with rfl | rfl | rfl | rfl
    all_goals
      go_enter Tryd.func71, Tryd.ntmps71
      go_wp2
      go_ret
      exact ⟨(by first | rfl | (simp; done) | (simp; omega) | (simp [*]; done)), rfl⟩
  · by_cases h2 : m = 2
    · subst h2
      cases h : leapB y
      · rw [show mlen y 2 = 28 from by unfold mlen; simp [h]]
        rw [h] at HL
        clear h h30
        go_enter Tryd.func71, Tryd.ntmps71
        go_wp2_with fail
        refine (HL.out _).mono ?_
        rintro e w' ⟨rfl, rfl⟩
        go_wp2
        go_ret
        exact ⟨(by first | rfl | (simp; done) | (simp; omega) | (simp [*]; done)), rfl⟩
      · rw [show mlen y 2 = 29 from by unfold mlen; simp [h]]
        rw [h] at HL
        clear h h30
        go_enter Tryd.func71, Tryd.ntmps71
        go_wp2_with fail
        refine (HL.out _).mono ?_
        rintro e w' ⟨rfl, rfl⟩
        go_wp2
        go_ret
        exact ⟨(by first | rfl | (simp; done) | (simp; omega) | (simp [*]; done)), rfl⟩
    · rw [show mlen y m = 31 from by unfold mlen; rw [if_neg h30, if_neg h2]]
      have n4 : m ≠ 4 := by omega
      have n6 : m ≠ 6 := by omega
      have n9 : m ≠ 9 := by omega
      have n11 : m ≠ 11 := by omega
      clear h30
      go_enter Tryd.func71, Tryd.ntmps71
      go_wp2
      go_ret
      exact ⟨(by first | rfl | (simp; done) | (simp; omega) | (simp [*]; done)), rfl⟩
def febL (y : Int) : Int := if leapB y then 29 else 28
def monthsV (y : Int) : Value := .agg #[.int .i64 31, .int .i64 (febL y), .int .i64 31, .int .i64 30, .int .i64 31, .int .i64 30, .int .i64 31, .int .i64 31, .int .i64 30, .int .i64 31, .int .i64 30, .int .i64 31]
theorem months_c (y : Int) (w : World) : Calls Tryd.prog 67 #[.int .i64 y] w fun e w' => e = .returned (monthsV y) ∧ Below w.heap.size w w' := by
  have HL := Lib.hid (fun W => Leap_c y W)
  unfold monthsV febL
  cases h : leapB y
  · rw [h] at HL
    clear h
    go_enter Tryd.func67, Tryd.ntmps67
    go_wp2_with fail
    refine (HL.out _).mono ?_
    rintro e w' ⟨rfl, rfl⟩
    go_wp2
    refine bodyPost_ret (v := .agg #[.int .i64 31, .int .i64 28, .int .i64 31, .int .i64 30, .int .i64 31, .int .i64 30, .int .i64 31, .int .i64 31, .int .i64 30, .int .i64 31, .int .i64 30, .int .i64 31]) (by simp [results, Tryd.results67, go_sem, *] <;> (repeat' apply And.intro) <;> rfl) rfl ⟨rfl, ?_⟩
    (repeat (first | (with_reducible exact Below.refl _ _) | (with_reducible assumption) | (with_reducible refine Below.drew ?_) | (with_reducible refine Below.allocS ?_ _) | (with_reducible refine Below.setCell ?_ ?_ _) | (with_reducible refine Below.step ?_ (by assumption)) | (with_reducible refine Below.drewN' ?_ _))); (try any_goals (first | (with_reducible assumption) | (simp; done) | (simp; omega) | omega))
  · rw [h] at HL
    clear h
    go_enter Tryd.func67, Tryd.ntmps67
    go_wp2_with fail
    refine (HL.out _).mono ?_
    rintro e w' ⟨rfl, rfl⟩
    go_wp2
    refine bodyPost_ret (v := .agg #[.int .i64 31, .int .i64 29, .int .i64 31, .int .i64 30, .int .i64 31, .int .i64 30, .int .i64 31, .int .i64 31, .int .i64 30, .int .i64 31, .int .i64 30, .int .i64 31]) (by simp [results, Tryd.results67, go_sem, *] <;> (repeat' apply And.intro) <;> rfl) rfl ⟨rfl, ?_⟩
    (repeat (first | (with_reducible exact Below.refl _ _) | (with_reducible assumption) | (with_reducible refine Below.drew ?_) | (with_reducible refine Below.allocS ?_ _) | (with_reducible refine Below.setCell ?_ ?_ _) | (with_reducible refine Below.step ?_ (by assumption)) | (with_reducible refine Below.drewN' ?_ _))); (try any_goals (first | (with_reducible assumption) | (simp; done) | (simp; omega) | omega))
end Go.Proofs.YtjkcgbidceakjaaDoor
