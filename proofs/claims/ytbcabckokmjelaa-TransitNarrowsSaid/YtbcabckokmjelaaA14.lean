/-
  Difference of both.
-/
import Derived.Test.YtbcabckokmjelaaA13
namespace Go.Proofs.Ytbcabckokmjelaa
open Go.RowKit
set_option linter.unusedVariables false
set_option linter.unusedSimpArgs false
theorem crE_cases (o : Obs) : crE o = 0 ∧ crV o = crQ o ∧ fitsB o = true ∧ crN o o.ts.length ≠ 0 ∨ (crE o = 1 ∨ crE o = 8) := by
  unfold crE crV
  by_cases h : fitsB o = true
  · rw [if_pos h, if_pos h]
    by_cases hN : crN o o.ts.length = 0
    · rw [if_pos hN]; exact .inr (.inr rfl)
    · rw [if_neg hN, if_neg hN]; exact .inl ⟨rfl, rfl, h, hN⟩
  · rw [if_neg h]; exact .inr (.inl rfl)
theorem Difference_c (o : Obs) (A T : Option Addr) (ca ct : Nat) (w : World) (h : ObsAt o A T w) :
    Calls Try.prog 16 #[.agg #[.slice A o.xs.length ca, .int .i64 o.e], .agg #[.string o.nm, .int .i64 o.a, .int .i64 o.b, .int .i64 o.c, .slice T o.ts.length ct]] w fun r w' => r = .returned (.tuple #[.int .i64 (dfV o), .int .i64 (crE o)]) ∧ Below w.heap.size w w' := by
  have H1 := Lib.hid (fun W hb => Crossing_c o A T ca ct W (h.step hb))
  clear h
  rcases crE_cases o with ⟨e0, e1, hf, hN⟩ | hE
  · unfold dfV
    rw [if_pos e0]
    rw [e0, e1] at H1
    rw [e0]
    have hq := crQ_bd (fits_at hf) hN
    have ha := (fits_at hf).a
    clear hf hN e0 e1
    generalize crQ o = Q at *
    have HD := Lib.hid (fun W => folded_c (o.a - Q) (by omega) (by omega) W)
    have v1 : IntKind.i64.wrap (o.a - Q) = o.a - Q := IntWalk.i64_in _ (by omega)
    go_enter Try.func16, Try.ntmps16
    go_wp2_with fail
    refine (H1.out _ (by (repeat (first | exact Below.refl _ _ | refine Below.drew ?_ | refine Below.allocS ?_ _ | refine Below.step ?_ (by assumption) | refine Below.setCell ?_ (by simp <;> omega) _ | refine Below.drewN' ?_ _)))).mono ?_
    rintro e w1 ⟨rfl, hb1⟩
    have x1_0_0 : w1.cell? ⟨w.heap.size, 0, none⟩ = some (.slice A o.xs.length ca) := keep_cell hb1 (by simp [go_sem, *])
    have x1_0_1 : w1.cell? ⟨w.heap.size, 1, none⟩ = some (.int .i64 o.e) := keep_cell hb1 (by simp [go_sem, *])
    have y1_0 : w.heap.size < w1.heap.size := cell?_lt x1_0_0
    have x1_1_0 : w1.cell? ⟨w.heap.size + 1, 0, none⟩ = some (.string o.nm) := keep_cell hb1 (by simp [go_sem, *])
    have x1_1_1 : w1.cell? ⟨w.heap.size + 1, 1, none⟩ = some (.int .i64 o.a) := keep_cell hb1 (by simp [go_sem, *])
    have x1_1_2 : w1.cell? ⟨w.heap.size + 1, 2, none⟩ = some (.int .i64 o.b) := keep_cell hb1 (by simp [go_sem, *])
    have x1_1_3 : w1.cell? ⟨w.heap.size + 1, 3, none⟩ = some (.int .i64 o.c) := keep_cell hb1 (by simp [go_sem, *])
    have x1_1_4 : w1.cell? ⟨w.heap.size + 1, 4, none⟩ = some (.slice T o.ts.length ct) := keep_cell hb1 (by simp [go_sem, *])
    have y1_1 : w.heap.size + 1 < w1.heap.size := cell?_lt x1_1_0
    have g1 : Below w.heap.size w w1 := by (repeat (first | exact Below.refl _ _ | refine Below.drew ?_ | refine Below.allocS ?_ _ | refine Below.step ?_ (by assumption) | refine Below.setCell ?_ (by simp <;> omega) _ | refine Below.drewN' ?_ _))
    clear hb1
    go_wp2_with fail
    refine (HD.out _).mono ?_
    rintro e w' ⟨rfl, hw'⟩; replace hw' := hw'.symm; subst hw'
    go_wp2
    go_ret2
    exact ⟨rfl, by (repeat (first | exact Below.refl _ _ | refine Below.drew ?_ | refine Below.allocS ?_ _ | refine Below.step ?_ (by assumption) | refine Below.setCell ?_ (by simp <;> omega) _ | refine Below.drewN' ?_ _))⟩
  · have e0 : dfV o = 0 := by unfold dfV; rw [if_neg (by omega)]
    rw [e0]
    clear e0
    generalize crV o = V at *
    rcases hE with hE | hE
    all_goals
      rw [hE]
      rw [hE] at H1
      clear hE
      go_enter Try.func16, Try.ntmps16
      go_wp2_with fail
      refine (H1.out _ (by (repeat (first | exact Below.refl _ _ | refine Below.drew ?_ | refine Below.allocS ?_ _ | refine Below.step ?_ (by assumption) | refine Below.setCell ?_ (by simp <;> omega) _ | refine Below.drewN' ?_ _)))).mono ?_
      rintro e w1 ⟨rfl, hb1⟩
      have x1_0_0 : w1.cell? ⟨w.heap.size, 0, none⟩ = some (.slice A o.xs.length ca) := keep_cell hb1 (by simp [go_sem, *])
      have x1_0_1 : w1.cell? ⟨w.heap.size, 1, none⟩ = some (.int .i64 o.e) := keep_cell hb1 (by simp [go_sem, *])
      have y1_0 : w.heap.size < w1.heap.size := cell?_lt x1_0_0
      have x1_1_0 : w1.cell? ⟨w.heap.size + 1, 0, none⟩ = some (.string o.nm) := keep_cell hb1 (by simp [go_sem, *])
      have x1_1_1 : w1.cell? ⟨w.heap.size + 1, 1, none⟩ = some (.int .i64 o.a) := keep_cell hb1 (by simp [go_sem, *])
      have x1_1_2 : w1.cell? ⟨w.heap.size + 1, 2, none⟩ = some (.int .i64 o.b) := keep_cell hb1 (by simp [go_sem, *])
      have x1_1_3 : w1.cell? ⟨w.heap.size + 1, 3, none⟩ = some (.int .i64 o.c) := keep_cell hb1 (by simp [go_sem, *])
      have x1_1_4 : w1.cell? ⟨w.heap.size + 1, 4, none⟩ = some (.slice T o.ts.length ct) := keep_cell hb1 (by simp [go_sem, *])
      have y1_1 : w.heap.size + 1 < w1.heap.size := cell?_lt x1_1_0
      have g1 : Below w.heap.size w w1 := by (repeat (first | exact Below.refl _ _ | refine Below.drew ?_ | refine Below.allocS ?_ _ | refine Below.step ?_ (by assumption) | refine Below.setCell ?_ (by simp <;> omega) _ | refine Below.drewN' ?_ _))
      clear hb1
      go_wp2
      go_ret2
      exact ⟨rfl, by (repeat (first | exact Below.refl _ _ | refine Below.drew ?_ | refine Below.allocS ?_ _ | refine Below.step ?_ (by assumption) | refine Below.setCell ?_ (by simp <;> omega) _ | refine Below.drewN' ?_ _))⟩
theorem rDifference_c (o : Obs) (A T : Option Addr) (ca ct : Nat) (w : World) (h : ObsAt o A T w) :
    Calls Try.prog 17 #[.agg #[.slice A o.xs.length ca, .int .i64 o.e], .agg #[.string o.nm, .int .i64 o.a, .int .i64 o.b, .int .i64 o.c, .slice T o.ts.length ct]] w fun r w' => r = .returned (.tuple #[.int .i64 (dfV o), .int .i64 (crE o)]) ∧ Below w.heap.size w w' := by
  have H1 := Lib.hid (fun W hb => rCrossing_c o A T ca ct W (h.step hb))
  clear h
  rcases crE_cases o with ⟨e0, e1, hf, hN⟩ | hE
  · unfold dfV
    rw [if_pos e0]
    rw [e0, e1] at H1
    rw [e0]
    have hq := crQ_bd (fits_at hf) hN
    have ha := (fits_at hf).a
    clear hf hN e0 e1
    generalize crQ o = Q at *
    have HD := Lib.hid (fun W => rfolded_c (o.a - Q) (by omega) (by omega) W)
    have v1 : IntKind.i64.wrap (o.a - Q) = o.a - Q := IntWalk.i64_in _ (by omega)
    go_enter Try.func17, Try.ntmps17
    go_wp2_with fail
    refine (H1.out _ (by (repeat (first | exact Below.refl _ _ | refine Below.drew ?_ | refine Below.allocS ?_ _ | refine Below.step ?_ (by assumption) | refine Below.setCell ?_ (by simp <;> omega) _ | refine Below.drewN' ?_ _)))).mono ?_
    rintro e w1 ⟨rfl, hb1⟩
    have x1_0_0 : w1.cell? ⟨w.heap.size, 0, none⟩ = some (.slice A o.xs.length ca) := keep_cell hb1 (by simp [go_sem, *])
    have x1_0_1 : w1.cell? ⟨w.heap.size, 1, none⟩ = some (.int .i64 o.e) := keep_cell hb1 (by simp [go_sem, *])
    have y1_0 : w.heap.size < w1.heap.size := cell?_lt x1_0_0
    have x1_1_0 : w1.cell? ⟨w.heap.size + 1, 0, none⟩ = some (.string o.nm) := keep_cell hb1 (by simp [go_sem, *])
    have x1_1_1 : w1.cell? ⟨w.heap.size + 1, 1, none⟩ = some (.int .i64 o.a) := keep_cell hb1 (by simp [go_sem, *])
    have x1_1_2 : w1.cell? ⟨w.heap.size + 1, 2, none⟩ = some (.int .i64 o.b) := keep_cell hb1 (by simp [go_sem, *])
    have x1_1_3 : w1.cell? ⟨w.heap.size + 1, 3, none⟩ = some (.int .i64 o.c) := keep_cell hb1 (by simp [go_sem, *])
    have x1_1_4 : w1.cell? ⟨w.heap.size + 1, 4, none⟩ = some (.slice T o.ts.length ct) := keep_cell hb1 (by simp [go_sem, *])
    have y1_1 : w.heap.size + 1 < w1.heap.size := cell?_lt x1_1_0
    have g1 : Below w.heap.size w w1 := by (repeat (first | exact Below.refl _ _ | refine Below.drew ?_ | refine Below.allocS ?_ _ | refine Below.step ?_ (by assumption) | refine Below.setCell ?_ (by simp <;> omega) _ | refine Below.drewN' ?_ _))
    clear hb1
    go_wp2_with fail
    refine (HD.out _).mono ?_
    rintro e w' ⟨rfl, hw'⟩; replace hw' := hw'.symm; subst hw'
    go_wp2
    go_ret2
    exact ⟨rfl, by (repeat (first | exact Below.refl _ _ | refine Below.drew ?_ | refine Below.allocS ?_ _ | refine Below.step ?_ (by assumption) | refine Below.setCell ?_ (by simp <;> omega) _ | refine Below.drewN' ?_ _))⟩
  · have e0 : dfV o = 0 := by unfold dfV; rw [if_neg (by omega)]
    rw [e0]
    clear e0
    generalize crV o = V at *
    rcases hE with hE | hE
    all_goals
      rw [hE]
      rw [hE] at H1
      clear hE
      go_enter Try.func17, Try.ntmps17
      go_wp2_with fail
      refine (H1.out _ (by (repeat (first | exact Below.refl _ _ | refine Below.drew ?_ | refine Below.allocS ?_ _ | refine Below.step ?_ (by assumption) | refine Below.setCell ?_ (by simp <;> omega) _ | refine Below.drewN' ?_ _)))).mono ?_
      rintro e w1 ⟨rfl, hb1⟩
      have x1_0_0 : w1.cell? ⟨w.heap.size, 0, none⟩ = some (.slice A o.xs.length ca) := keep_cell hb1 (by simp [go_sem, *])
      have x1_0_1 : w1.cell? ⟨w.heap.size, 1, none⟩ = some (.int .i64 o.e) := keep_cell hb1 (by simp [go_sem, *])
      have y1_0 : w.heap.size < w1.heap.size := cell?_lt x1_0_0
      have x1_1_0 : w1.cell? ⟨w.heap.size + 1, 0, none⟩ = some (.string o.nm) := keep_cell hb1 (by simp [go_sem, *])
      have x1_1_1 : w1.cell? ⟨w.heap.size + 1, 1, none⟩ = some (.int .i64 o.a) := keep_cell hb1 (by simp [go_sem, *])
      have x1_1_2 : w1.cell? ⟨w.heap.size + 1, 2, none⟩ = some (.int .i64 o.b) := keep_cell hb1 (by simp [go_sem, *])
      have x1_1_3 : w1.cell? ⟨w.heap.size + 1, 3, none⟩ = some (.int .i64 o.c) := keep_cell hb1 (by simp [go_sem, *])
      have x1_1_4 : w1.cell? ⟨w.heap.size + 1, 4, none⟩ = some (.slice T o.ts.length ct) := keep_cell hb1 (by simp [go_sem, *])
      have y1_1 : w.heap.size + 1 < w1.heap.size := cell?_lt x1_1_0
      have g1 : Below w.heap.size w w1 := by (repeat (first | exact Below.refl _ _ | refine Below.drew ?_ | refine Below.allocS ?_ _ | refine Below.step ?_ (by assumption) | refine Below.setCell ?_ (by simp <;> omega) _ | refine Below.drewN' ?_ _))
      clear hb1
      go_wp2
      go_ret2
      exact ⟨rfl, by (repeat (first | exact Below.refl _ _ | refine Below.drew ?_ | refine Below.allocS ?_ _ | refine Below.step ?_ (by assumption) | refine Below.setCell ?_ (by simp <;> omega) _ | refine Below.drewN' ?_ _))⟩
end Go.Proofs.Ytbcabckokmjelaa
