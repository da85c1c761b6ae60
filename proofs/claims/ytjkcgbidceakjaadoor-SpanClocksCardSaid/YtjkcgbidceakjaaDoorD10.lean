/-
  Contracts of Leap, isDay, Weekday of span and of its reference.
-/
import Derived.Test.YtjkcgbidceakjaaDoorD3
import Derived.Test.YtjkcgbidceakjaaDoorM3
namespace Go.Proofs.YtjkcgbidceakjaaDoor
open Go.RowKit
set_option linter.unusedVariables false
set_option linter.unusedSimpArgs false
theorem leap_cases (y : Int) : (leapB y = false ∧ (y < 1700 ∨ 1700 ≤ y ∧ (2200 < y ∨ y ≤ 2200 ∧ (y % 4 ≠ 0 ∨ y % 4 = 0 ∧ y % 100 = 0 ∧ y % 400 ≠ 0)))) ∨ (leapB y = true ∧ 1700 ≤ y ∧ y ≤ 2200 ∧ y % 4 = 0 ∧ (y % 100 ≠ 0 ∨ y % 100 = 0 ∧ y % 400 = 0)) := by
  cases h : leapB y
  · refine Or.inl ⟨rfl, ?_⟩
    simp [leapB] at h
    omega
  · refine Or.inr ⟨rfl, ?_⟩
    simp [leapB] at h
    omega
theorem Leap_c (y : Int) (w : World) : Calls Tryd.prog 39 #[.int .i64 y] w fun e w' => e = .returned (.bool (leapB y)) ∧ w' = w := by
  rcases leap_cases y with ⟨h, h1 | ⟨h1, h2 | ⟨h2, h3 | ⟨h3, h4, h5⟩⟩⟩⟩ | ⟨h, h1, h2, h3, h4 | ⟨h4, h5⟩⟩
  all_goals
    rw [h]
    clear h
    have e1 : 1700 ≤ y → y.tmod 4 = y % 4 ∧ y.tmod 100 = y % 100 ∧ y.tmod 400 = y % 400 := fun h => ⟨Int.tmod_eq_emod_of_nonneg (by omega), Int.tmod_eq_emod_of_nonneg (by omega), Int.tmod_eq_emod_of_nonneg (by omega)⟩
  · clear e1
    go_enter Tryd.func39, Tryd.ntmps39
    go_wp2
    go_ret
    exact ⟨(by first | rfl | (simp; done) | (simp; omega) | (simp [*]; done)), rfl⟩
  · clear e1
    go_enter Tryd.func39, Tryd.ntmps39
    go_wp2
    go_ret
    exact ⟨(by first | rfl | (simp; done) | (simp; omega) | (simp [*]; done)), rfl⟩
  all_goals
    obtain ⟨e1, e2, e3⟩ := e1 h1
    go_enter Tryd.func39, Tryd.ntmps39
    go_wp2
    go_ret
    exact ⟨(by first | rfl | (simp; done) | (simp; omega) | (simp [*]; done)), rfl⟩
def dayB (day : Int) : Bool := decide (0 ≤ day) && decide (day ≤ 182985)
theorem isDay_c (day : Int) (w : World) : Calls Tryd.prog 72 #[.int .i64 day] w fun e w' => e = .returned (.bool (dayB day)) ∧ w' = w := by
  unfold dayB
  by_cases h1 : 0 ≤ day
  · by_cases h2 : day ≤ 182985
    · simp only [decide_eq_true h1, decide_eq_true h2, Bool.and_self]
      go_enter Tryd.func72, Tryd.ntmps72
      go_wp2
      go_ret
      exact ⟨(by first | rfl | (simp; done) | (simp; omega) | (simp [*]; done)), rfl⟩
    · simp only [decide_eq_true h1, decide_eq_false h2, Bool.and_false]
      go_enter Tryd.func72, Tryd.ntmps72
      go_wp2
      go_ret
      exact ⟨(by first | rfl | (simp; done) | (simp; omega) | (simp [*]; done)), rfl⟩
  · simp only [decide_eq_false h1, Bool.false_and]
    go_enter Tryd.func72, Tryd.ntmps72
    go_wp2
    go_ret
    exact ⟨(by first | rfl | (simp; done) | (simp; omega) | (simp [*]; done)), rfl⟩
theorem rLeap_c (y : Int) (w : World) : Calls Tryd.prog 40 #[.int .i64 y] w fun e w' => e = .returned (.bool (leapB y)) ∧ w' = w := by
  have HW := Lib.hid (fun W => within_c y 1700 2200 W)
  rcases leap_cases y with ⟨h, h1 | ⟨h1, h2 | ⟨h2, h3 | ⟨h3, h4, h5⟩⟩⟩⟩ | ⟨h, h1, h2, h3, h4 | ⟨h4, h5⟩⟩
  all_goals
    rw [h]
    clear h
    have e1 : 1700 ≤ y → y.tmod 4 = y % 4 ∧ y.tmod 100 = y % 100 ∧ y.tmod 400 = y % 400 := fun h => ⟨Int.tmod_eq_emod_of_nonneg (by omega), Int.tmod_eq_emod_of_nonneg (by omega), Int.tmod_eq_emod_of_nonneg (by omega)⟩
  · rw [show (decide (1700 ≤ y) && decide (y ≤ 2200)) = false from by simp; omega] at HW
    clear e1
    go_enter Tryd.func40, Tryd.ntmps40
    go_wp2_with fail
    refine (HW.out _).mono ?_
    rintro e w' ⟨rfl, rfl⟩
    go_wp2
    go_ret
    exact ⟨(by first | rfl | (simp; done) | (simp; omega) | (simp [*]; done)), rfl⟩
  · rw [show (decide (1700 ≤ y) && decide (y ≤ 2200)) = false from by simp; omega] at HW
    clear e1
    go_enter Tryd.func40, Tryd.ntmps40
    go_wp2_with fail
    refine (HW.out _).mono ?_
    rintro e w' ⟨rfl, rfl⟩
    go_wp2
    go_ret
    exact ⟨(by first | rfl | (simp; done) | (simp; omega) | (simp [*]; done)), rfl⟩
  all_goals
    obtain ⟨e1, e2, e3⟩ := e1 h1
    rw [show (decide (1700 ≤ y) && decide (y ≤ 2200)) = true from by simp; omega] at HW
    go_enter Tryd.func40, Tryd.ntmps40
    go_wp2_with fail
    refine (HW.out _).mono ?_
    rintro e w' ⟨rfl, rfl⟩
    go_wp2
    go_ret
    exact ⟨(by first | rfl | (simp; done) | (simp; omega) | (simp [*]; done)), rfl⟩
def wdayR (day : Int) : Int × Int := if dayB day then ((day + 4) % 7, 0) else (0, 7)
theorem Weekday_c (day : Int) (w : World) : Calls Tryd.prog 37 #[.int .i64 day] w fun e w' => e = .returned (.tuple #[.int .i64 (wdayR day).1, .int .i64 (wdayR day).2]) ∧ w' = w := by
  have HW := Lib.hid (fun W => isDay_c day W)
  unfold wdayR
  cases h : dayB day
  · rw [h] at HW
    clear h
    go_enter Tryd.func37, Tryd.ntmps37
    go_wp2_with fail
    refine (HW.out _).mono ?_
    rintro e w' ⟨rfl, rfl⟩
    go_wp2
    refine bodyPost_ret (v := .tuple #[.int .i64 0, .int .i64 7]) (by simp [results, Tryd.results37, go_sem, *] <;> (repeat' apply And.intro) <;> rfl) rfl ⟨rfl, ?_⟩
    rfl
  · rw [h] at HW
    obtain ⟨h0, h1⟩ : 0 ≤ day ∧ day ≤ 182985 := by simpa [dayB] using h
    clear h
    go_enter Tryd.func37, Tryd.ntmps37
    go_wp2_with fail
    refine (HW.out _).mono ?_
    rintro e w' ⟨rfl, rfl⟩
    go_wp2
    refine bodyPost_ret (v := .tuple #[.int .i64 (HMod.hMod (day + 4) 7), .int .i64 0]) (by simp [results, Tryd.results37, go_sem, *] <;> (repeat' apply And.intro) <;> rfl) rfl ⟨rfl, ?_⟩
    rfl
theorem rWeekday_c (day : Int) (w : World) : Calls Tryd.prog 38 #[.int .i64 day] w fun e w' => e = .returned (.tuple #[.int .i64 (wdayR day).1, .int .i64 (wdayR day).2]) ∧ w' = w := by
  have HW := Lib.hid (fun W => within_c day 0 182985 W)
  rw [show (decide (0 ≤ day) && decide (day ≤ 182985)) = dayB day from rfl] at HW
  unfold wdayR
  cases h : dayB day
  · rw [h] at HW
    clear h
    go_enter Tryd.func38, Tryd.ntmps38
    go_wp2_with fail
    refine (HW.out _).mono ?_
    rintro e w' ⟨rfl, rfl⟩
    go_wp2
    refine bodyPost_ret (v := .tuple #[.int .i64 0, .int .i64 7]) (by simp [results, Tryd.results38, go_sem, *] <;> (repeat' apply And.intro) <;> rfl) rfl ⟨rfl, ?_⟩
    rfl
  · rw [h] at HW
    obtain ⟨h0, h1⟩ : 0 ≤ day ∧ day ≤ 182985 := by simpa [dayB] using h
    clear h
    go_enter Tryd.func38, Tryd.ntmps38
    go_wp2_with fail
    refine (HW.out _).mono ?_
    rintro e w' ⟨rfl, rfl⟩
    go_wp2
    refine bodyPost_ret (v := .tuple #[.int .i64 (HMod.hMod (day + 4) 7), .int .i64 0]) (by simp [results, Tryd.results38, go_sem, *] <;> (repeat' apply And.intro) <;> rfl) rfl ⟨rfl, ?_⟩
    rfl
end Go.Proofs.YtjkcgbidceakjaaDoor
