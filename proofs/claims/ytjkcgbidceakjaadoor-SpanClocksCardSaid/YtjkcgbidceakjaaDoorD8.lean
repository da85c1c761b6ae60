/-
  Contracts of parts, Sidereal, Mean of span and of its reference.
-/
import Derived.Test.YtjkcgbidceakjaaDoorD3
namespace Go.Proofs.YtjkcgbidceakjaaDoor
open Go.RowKit
set_option linter.unusedVariables false
set_option linter.unusedSimpArgs false
def skyR (t a b : Int) : Int × Int := if 0 ≤ t ∧ t ≤ 1000000000000 then (t * a / b, 0) else (0, 7)
def two (p : Int × Int) : Value := .tuple #[.int .i64 p.1, .int .i64 p.2]
theorem parts_sid (t : Int) (h0 : 0 ≤ t) (h1 : t ≤ 1000000000000) (w : World) : Calls Tryd.prog 65 #[.int .i64 t, .int .i64 3662422, .int .i64 3652422] w fun e w' => e = .returned (.int .i64 (t * 3662422 / 3652422)) ∧ Below w.heap.size w w' := by
  have z1 : Int.tdiv t 3652422 = t / 3652422 := Int.tdiv_eq_ediv_of_nonneg h0
  have z2 : Int.tmod t 3652422 = t % 3652422 := Int.tmod_eq_emod_of_nonneg h0
  have q0 : 0 ≤ t % 3652422 * 3662422 := by omega
  have z3 : Int.tdiv (t % 3652422 * 3662422) 3652422 = t % 3652422 * 3662422 / 3652422 := Int.tdiv_eq_ediv_of_nonneg q0
  have e : t / 3652422 * 3662422 + t % 3652422 * 3662422 / 3652422 = t * 3662422 / 3652422 := parts_eq t 3662422 3652422 (by omega)
  have m1 : IntKind.i64.wrap (t / 3652422 * 3662422) = t / 3652422 * 3662422 := IntWalk.i64_in _ (by omega)
  have m2 : IntKind.i64.wrap (t % 3652422 * 3662422) = t % 3652422 * 3662422 := IntWalk.i64_in _ (by omega)
  have m3 : IntKind.i64.wrap (t / 3652422 * 3662422 + t % 3652422 * 3662422 / 3652422) = t / 3652422 * 3662422 + t % 3652422 * 3662422 / 3652422 := IntWalk.i64_in _ (by omega)
  rw [← e]
  clear e
  go_enter Tryd.func65, Tryd.ntmps65
  go_wp2
  go_quiet (fail)
  go_wp2
  go_ret
  exact ⟨(by first | rfl | (simp; done) | (simp; omega) | (simp [*]; done)), by (repeat (first | (with_reducible exact Below.refl _ _) | (with_reducible assumption) | (with_reducible refine Below.drew ?_) | (with_reducible refine Below.allocS ?_ _) | (with_reducible refine Below.setCell ?_ ?_ _) | (with_reducible refine Below.step ?_ (by assumption)) | (with_reducible refine Below.drewN' ?_ _))); (try any_goals (first | (with_reducible assumption) | (simp; done) | (simp; omega) | omega))⟩
theorem Sidereal_c (t : Int) (w : World) : Calls Tryd.prog 17 #[.int .i64 t] w fun e w' => e = .returned (two (skyR t 3662422 3652422)) ∧ Below w.heap.size w w' := by
  unfold skyR
  by_cases h : 0 ≤ t ∧ t ≤ 1000000000000
  · rw [if_pos h]
    obtain ⟨h0, h1⟩ := h
    have HP := Lib.hid (fun W => parts_sid t h0 h1 W)
    obtain ⟨x, hx⟩ : ∃ x, t * 3662422 / 3652422 = x := ⟨_, rfl⟩
    rw [hx] at HP ⊢
    clear hx
    go_enter Tryd.func17, Tryd.ntmps17
    go_wp2_with fail
    refine (HP.out _).mono ?_
    rintro e w1 ⟨rfl, hb1⟩
    have g1 : Below w.heap.size w w1 := by (repeat (first | exact Below.refl _ _ | refine Below.drew ?_ | refine Below.allocS ?_ _ | refine Below.step ?_ (by assumption) | refine Below.setCell ?_ (by simp <;> omega) _ | refine Below.drewN' ?_ _))
    clear hb1
    go_wp2
    refine bodyPost_ret (v := .tuple #[.int .i64 x, .int .i64 0]) (by simp [results, Tryd.results17, go_sem, *] <;> (repeat' apply And.intro) <;> rfl) rfl ⟨rfl, ?_⟩
    (repeat (first | (with_reducible exact Below.refl _ _) | (with_reducible assumption) | (with_reducible refine Below.drew ?_) | (with_reducible refine Below.allocS ?_ _) | (with_reducible refine Below.setCell ?_ ?_ _) | (with_reducible refine Below.step ?_ (by assumption)) | (with_reducible refine Below.drewN' ?_ _))); (try any_goals (first | (with_reducible assumption) | (simp; done) | (simp; omega) | omega))
  · rw [if_neg h]
    have h' : t < 0 ∨ 0 ≤ t ∧ 1000000000000 < t := by omega
    clear h
    rcases h' with h0 | ⟨h0, h1⟩
    · go_enter Tryd.func17, Tryd.ntmps17
      go_wp2
      refine bodyPost_ret (v := .tuple #[.int .i64 0, .int .i64 7]) (by simp [results, Tryd.results17, go_sem, *] <;> (repeat' apply And.intro) <;> rfl) rfl ⟨rfl, ?_⟩
      (repeat (first | (with_reducible exact Below.refl _ _) | (with_reducible assumption) | (with_reducible refine Below.drew ?_) | (with_reducible refine Below.allocS ?_ _) | (with_reducible refine Below.setCell ?_ ?_ _) | (with_reducible refine Below.step ?_ (by assumption)) | (with_reducible refine Below.drewN' ?_ _))); (try any_goals (first | (with_reducible assumption) | (simp; done) | (simp; omega) | omega))
    · go_enter Tryd.func17, Tryd.ntmps17
      go_wp2
      refine bodyPost_ret (v := .tuple #[.int .i64 0, .int .i64 7]) (by simp [results, Tryd.results17, go_sem, *] <;> (repeat' apply And.intro) <;> rfl) rfl ⟨rfl, ?_⟩
      (repeat (first | (with_reducible exact Below.refl _ _) | (with_reducible assumption) | (with_reducible refine Below.drew ?_) | (with_reducible refine Below.allocS ?_ _) | (with_reducible refine Below.setCell ?_ ?_ _) | (with_reducible refine Below.step ?_ (by assumption)) | (with_reducible refine Below.drewN' ?_ _))); (try any_goals (first | (with_reducible assumption) | (simp; done) | (simp; omega) | omega))
theorem rSidereal_c (t : Int) (w : World) : Calls Tryd.prog 18 #[.int .i64 t] w fun e w' => e = .returned (two (skyR t 3662422 3652422)) ∧ Below w.heap.size w w' := by
  have HW := Lib.hid (fun W => within_c t 0 1000000000000 W)
  unfold skyR
  by_cases h : 0 ≤ t ∧ t ≤ 1000000000000
  · rw [if_pos h]
    rw [show (decide (0 ≤ t) && decide (t ≤ 1000000000000)) = true from by simp [h]] at HW
    obtain ⟨h0, h1⟩ := h
    go_enter Tryd.func18, Tryd.ntmps18
    go_wp2_with fail
    refine (HW.out _).mono ?_
    rintro e w' ⟨rfl, rfl⟩
    go_wp2
    refine bodyPost_ret (v := .tuple #[.int .i64 (t * 3662422 / 3652422), .int .i64 0]) (by simp [results, Tryd.results18, go_sem, *] <;> (repeat' apply And.intro) <;> rfl) rfl ⟨rfl, ?_⟩
    (repeat (first | (with_reducible exact Below.refl _ _) | (with_reducible assumption) | (with_reducible refine Below.drew ?_) | (with_reducible refine Below.allocS ?_ _) | (with_reducible refine Below.setCell ?_ ?_ _) | (with_reducible refine Below.step ?_ (by assumption)) | (with_reducible refine Below.drewN' ?_ _))); (try any_goals (first | (with_reducible assumption) | (simp; done) | (simp; omega) | omega))
  · rw [if_neg h]
    rw [show (decide (0 ≤ t) && decide (t ≤ 1000000000000)) = false from by simp; omega] at HW
    clear h
    go_enter Tryd.func18, Tryd.ntmps18
    go_wp2_with fail
    refine (HW.out _).mono ?_
    rintro e w' ⟨rfl, rfl⟩
    go_wp2
    refine bodyPost_ret (v := .tuple #[.int .i64 0, .int .i64 7]) (by simp [results, Tryd.results18, go_sem, *] <;> (repeat' apply And.intro) <;> rfl) rfl ⟨rfl, ?_⟩
    (repeat (first | (with_reducible exact Below.refl _ _) | (with_reducible assumption) | (with_reducible refine Below.drew ?_) | (with_reducible refine Below.allocS ?_ _) | (with_reducible refine Below.setCell ?_ ?_ _) | (with_reducible refine Below.step ?_ (by assumption)) | (with_reducible refine Below.drewN' ?_ _))); (try any_goals (first | (with_reducible assumption) | (simp; done) | (simp; omega) | omega))
theorem parts_mean (t : Int) (h0 : 0 ≤ t) (h1 : t ≤ 1000000000000) (w : World) : Calls Tryd.prog 65 #[.int .i64 t, .int .i64 3652422, .int .i64 3662422] w fun e w' => e = .returned (.int .i64 (t * 3652422 / 3662422)) ∧ Below w.heap.size w w' := by
  have z1 : Int.tdiv t 3662422 = t / 3662422 := Int.tdiv_eq_ediv_of_nonneg h0
  have z2 : Int.tmod t 3662422 = t % 3662422 := Int.tmod_eq_emod_of_nonneg h0
  have q0 : 0 ≤ t % 3662422 * 3652422 := by omega
  have z3 : Int.tdiv (t % 3662422 * 3652422) 3662422 = t % 3662422 * 3652422 / 3662422 := Int.tdiv_eq_ediv_of_nonneg q0
  have e : t / 3662422 * 3652422 + t % 3662422 * 3652422 / 3662422 = t * 3652422 / 3662422 := parts_eq t 3652422 3662422 (by omega)
  have m1 : IntKind.i64.wrap (t / 3662422 * 3652422) = t / 3662422 * 3652422 := IntWalk.i64_in _ (by omega)
  have m2 : IntKind.i64.wrap (t % 3662422 * 3652422) = t % 3662422 * 3652422 := IntWalk.i64_in _ (by omega)
  have m3 : IntKind.i64.wrap (t / 3662422 * 3652422 + t % 3662422 * 3652422 / 3662422) = t / 3662422 * 3652422 + t % 3662422 * 3652422 / 3662422 := IntWalk.i64_in _ (by omega)
  rw [← e]
  clear e
  go_enter Tryd.func65, Tryd.ntmps65
  go_wp2
  go_quiet (fail)
  go_wp2
  go_ret
  exact ⟨(by first | rfl | (simp; done) | (simp; omega) | (simp [*]; done)), by (repeat (first | (with_reducible exact Below.refl _ _) | (with_reducible assumption) | (with_reducible refine Below.drew ?_) | (with_reducible refine Below.allocS ?_ _) | (with_reducible refine Below.setCell ?_ ?_ _) | (with_reducible refine Below.step ?_ (by assumption)) | (with_reducible refine Below.drewN' ?_ _))); (try any_goals (first | (with_reducible assumption) | (simp; done) | (simp; omega) | omega))⟩
theorem Mean_c (t : Int) (w : World) : Calls Tryd.prog 19 #[.int .i64 t] w fun e w' => e = .returned (two (skyR t 3652422 3662422)) ∧ Below w.heap.size w w' := by
  unfold skyR
  by_cases h : 0 ≤ t ∧ t ≤ 1000000000000
  · rw [if_pos h]
    obtain ⟨h0, h1⟩ := h
    have HP := Lib.hid (fun W => parts_mean t h0 h1 W)
    obtain ⟨x, hx⟩ : ∃ x, t * 3652422 / 3662422 = x := ⟨_, rfl⟩
    rw [hx] at HP ⊢
    clear hx
    go_enter Tryd.func19, Tryd.ntmps19
    go_wp2_with fail
    refine (HP.out _).mono ?_
    rintro e w1 ⟨rfl, hb1⟩
    have g1 : Below w.heap.size w w1 := by (repeat (first | exact Below.refl _ _ | refine Below.drew ?_ | refine Below.allocS ?_ _ | refine Below.step ?_ (by assumption) | refine Below.setCell ?_ (by simp <;> omega) _ | refine Below.drewN' ?_ _))
    clear hb1
    go_wp2
    refine bodyPost_ret (v := .tuple #[.int .i64 x, .int .i64 0]) (by simp [results, Tryd.results19, go_sem, *] <;> (repeat' apply And.intro) <;> rfl) rfl ⟨rfl, ?_⟩
    (repeat (first | (with_reducible exact Below.refl _ _) | (with_reducible assumption) | (with_reducible refine Below.drew ?_) | (with_reducible refine Below.allocS ?_ _) | (with_reducible refine Below.setCell ?_ ?_ _) | (with_reducible refine Below.step ?_ (by assumption)) | (with_reducible refine Below.drewN' ?_ _))); (try any_goals (first | (with_reducible assumption) | (simp; done) | (simp; omega) | omega))
  · rw [if_neg h]
    have h' : t < 0 ∨ 0 ≤ t ∧ 1000000000000 < t := by omega
    clear h
    rcases h' with h0 | ⟨h0, h1⟩
    · go_enter Tryd.func19, Tryd.ntmps19
      go_wp2
      refine bodyPost_ret (v := .tuple #[.int .i64 0, .int .i64 7]) (by simp [results, Tryd.results19, go_sem, *] <;> (repeat' apply And.intro) <;> rfl) rfl ⟨rfl, ?_⟩
      (repeat (first | (with_reducible exact Below.refl _ _) | (with_reducible assumption) | (with_reducible refine Below.drew ?_) | (with_reducible refine Below.allocS ?_ _) | (with_reducible refine Below.setCell ?_ ?_ _) | (with_reducible refine Below.step ?_ (by assumption)) | (with_reducible refine Below.drewN' ?_ _))); (try any_goals (first | (with_reducible assumption) | (simp; done) | (simp; omega) | omega))
    · go_enter Tryd.func19, Tryd.ntmps19
      go_wp2
      refine bodyPost_ret (v := .tuple #[.int .i64 0, .int .i64 7]) (by simp [results, Tryd.results19, go_sem, *] <;> (repeat' apply And.intro) <;> rfl) rfl ⟨rfl, ?_⟩
      (repeat (first | (with_reducible exact Below.refl _ _) | (with_reducible assumption) | (with_reducible refine Below.drew ?_) | (with_reducible refine Below.allocS ?_ _) | (with_reducible refine Below.setCell ?_ ?_ _) | (with_reducible refine Below.step ?_ (by assumption)) | (with_reducible refine Below.drewN' ?_ _))); (try any_goals (first | (with_reducible assumption) | (simp; done) | (simp; omega) | omega))
theorem rMean_c (t : Int) (w : World) : Calls Tryd.prog 20 #[.int .i64 t] w fun e w' => e = .returned (two (skyR t 3652422 3662422)) ∧ Below w.heap.size w w' := by
  have HW := Lib.hid (fun W => within_c t 0 1000000000000 W)
  unfold skyR
  by_cases h : 0 ≤ t ∧ t ≤ 1000000000000
  · rw [if_pos h]
    rw [show (decide (0 ≤ t) && decide (t ≤ 1000000000000)) = true from by simp [h]] at HW
    obtain ⟨h0, h1⟩ := h
    go_enter Tryd.func20, Tryd.ntmps20
    go_wp2_with fail
    refine (HW.out _).mono ?_
    rintro e w' ⟨rfl, rfl⟩
    go_wp2
    refine bodyPost_ret (v := .tuple #[.int .i64 (t * 3652422 / 3662422), .int .i64 0]) (by simp [results, Tryd.results20, go_sem, *] <;> (repeat' apply And.intro) <;> rfl) rfl ⟨rfl, ?_⟩
    (repeat (first | (with_reducible exact Below.refl _ _) | (with_reducible assumption) | (with_reducible refine Below.drew ?_) | (with_reducible refine Below.allocS ?_ _) | (with_reducible refine Below.setCell ?_ ?_ _) | (with_reducible refine Below.step ?_ (by assumption)) | (with_reducible refine Below.drewN' ?_ _))); (try any_goals (first | (with_reducible assumption) | (simp; done) | (simp; omega) | omega))
  · rw [if_neg h]
    rw [show (decide (0 ≤ t) && decide (t ≤ 1000000000000)) = false from by simp; omega] at HW
    clear h
    go_enter Tryd.func20, Tryd.ntmps20
    go_wp2_with fail
    refine (HW.out _).mono ?_
    rintro e w' ⟨rfl, rfl⟩
    go_wp2
    refine bodyPost_ret (v := .tuple #[.int .i64 0, .int .i64 7]) (by simp [results, Tryd.results20, go_sem, *] <;> (repeat' apply And.intro) <;> rfl) rfl ⟨rfl, ?_⟩
    (repeat (first | (with_reducible exact Below.refl _ _) | (with_reducible assumption) | (with_reducible refine Below.drew ?_) | (with_reducible refine Below.allocS ?_ _) | (with_reducible refine Below.setCell ?_ ?_ _) | (with_reducible refine Below.step ?_ (by assumption)) | (with_reducible refine Below.drewN' ?_ _))); (try any_goals (first | (with_reducible assumption) | (simp; done) | (simp; omega) | omega))
end Go.Proofs.YtjkcgbidceakjaaDoor
