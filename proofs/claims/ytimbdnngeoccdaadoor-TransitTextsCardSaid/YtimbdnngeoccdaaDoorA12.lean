/-
  Crossing of transit.
-/
import Derived.Test.YtimbdnngeoccdaaDoorA11
namespace Go.Proofs.YtimbdnngeoccdaaDoor
open Go.RowKit
set_option linter.unusedVariables false
set_option linter.unusedSimpArgs false
/-- The crossing of a transit that fits, some wire not missed. -/
def crQ (o : Obs) : Int := crS o o.ts.length / (1000 * (crN o o.ts.length : Int))
def crV (o : Obs) : Int := if fitsB o = true then (if crN o o.ts.length = 0 then 0 else crQ o) else 0
def crE (o : Obs) : Int := if fitsB o = true then (if crN o o.ts.length = 0 then 8 else 0) else 1
theorem Crossing_c (o : Obs) (A T : Option Addr) (ca ct : Nat) (w : World) (h : ObsAt o A T w) :
    Calls Tryd.prog 19 #[.agg #[.slice A o.xs.length ca, .int .i64 o.e], .agg #[.string o.nm, .int .i64 o.a, .int .i64 o.b, .int .i64 o.c, .slice T o.ts.length ct]] w fun r w' => r = .returned (.tuple #[.int .i64 (crV o), .int .i64 (crE o)]) ∧ Below w.heap.size w w' := by
  have H1 := Lib.hid (fun W hb => Fits_c o A T ca ct W (h.step hb))
  have H2 := Lib.hid (fun hf W hb => crossing_c o A T ca ct W (h.step hb) hf)
  clear h
  unfold crV crE
  cases hf : fitsB o
  · rw [hf] at H1
    clear hf
    go_enter Tryd.func19, Tryd.ntmps19
    go_wp2_with fail
    refine (H1.out _ (by (repeat (first | exact Below.refl _ _ | refine Below.drew ?_ | refine Below.allocS ?_ _ | refine Below.step ?_ (by assumption) | refine Below.setCell ?_ (by simp <;> omega) _ | refine Below.drewN' ?_ _)))).mono ?_
    rintro e w1 ⟨rfl, hb1⟩
    have x1_0_0 : w1.cell? ⟨w.heap.size, 0, none⟩ = some (.slice A o.xs.length ca) := keep_cell hb1 (by simp [go_sem, *])
    have x1_0_1 : w1.cell? ⟨w.heap.size, 1, none⟩ = some (.int .i64 o.e) := keep_cell hb1 (by simp [go_sem, *])
    have y1_0 : w.heap.size < w1.heap.size := cell?_lt x1_0_0
    have x1_1_0 : w1.cell? ⟨w.heap.size + 1, 0, none⟩ = some (.string o.nm) := keep_cell hb1 (by simp [go_sem, *])
    have x1_1_1 : w1.cell? ⟨w.heap.size + 1, 1, none⟩ = some (.int .i64 o.a) := keep_cell hb1 (by simp [go_sem, *])
    have x1_1_2 : w1.cell? ⟨w.heap.size + 1, 2, none⟩ = some (.int .i64 o.b) := keep_cell hb1 (by simp [go_sem, *])
    have x1_1_3 : w1.cell? ⟨w.heap.size + 1, 3, none⟩ = some (.int .i64 o.c) := keep_cell hb1 (by simp [go_sem, *])
    have x1_1_4 : w1.cell? ⟨w.heap.size + 1, 4, none⟩ = some (.slice T o.ts.length ct) := keep_cell hb1 (by simp [go_sem, *])
    have y1_1 : w.heap.size + 1 < w1.heap.size := cell?_lt x1_1_0
    have g1 : Below w.heap.size w w1 := by (repeat (first | exact Below.refl _ _ | refine Below.drew ?_ | refine Below.allocS ?_ _ | refine Below.step ?_ (by assumption) | refine Below.setCell ?_ (by simp <;> omega) _ | refine Below.drewN' ?_ _))
    clear hb1
    go_wp2
    go_ret2
    exact ⟨rfl, by (repeat (first | exact Below.refl _ _ | refine Below.drew ?_ | refine Below.allocS ?_ _ | refine Below.step ?_ (by assumption) | refine Below.setCell ?_ (by simp <;> omega) _ | refine Below.drewN' ?_ _))⟩
  have H3 := Lib.hid (H2.out (fits_at hf))
  rw [hf] at H1
  clear hf H2
  by_cases hN : crN o o.ts.length = 0
  · rw [if_pos hN, if_pos hN]
    rw [if_pos hN, decide_eq_false (show ¬ crN o o.ts.length ≠ 0 by simp [hN])] at H3
    clear hN
    go_enter Tryd.func19, Tryd.ntmps19
    go_wp2_with fail
    refine (H1.out _ (by (repeat (first | exact Below.refl _ _ | refine Below.drew ?_ | refine Below.allocS ?_ _ | refine Below.step ?_ (by assumption) | refine Below.setCell ?_ (by simp <;> omega) _ | refine Below.drewN' ?_ _)))).mono ?_
    rintro e w1 ⟨rfl, hb1⟩
    have x1_0_0 : w1.cell? ⟨w.heap.size, 0, none⟩ = some (.slice A o.xs.length ca) := keep_cell hb1 (by simp [go_sem, *])
    have x1_0_1 : w1.cell? ⟨w.heap.size, 1, none⟩ = some (.int .i64 o.e) := keep_cell hb1 (by simp [go_sem, *])
    have y1_0 : w.heap.size < w1.heap.size := cell?_lt x1_0_0
    have x1_1_0 : w1.cell? ⟨w.heap.size + 1, 0, none⟩ = some (.string o.nm) := keep_cell hb1 (by simp [go_sem, *])
    have x1_1_1 : w1.cell? ⟨w.heap.size + 1, 1, none⟩ = some (.int .i64 o.a) := keep_cell hb1 (by simp [go_sem, *])
    have x1_1_2 : w1.cell? ⟨w.heap.size + 1, 2, none⟩ = some (.int .i64 o.b) := keep_cell hb1 (by simp [go_sem, *])
    have x1_1_3 : w1.cell? ⟨w.heap.size + 1, 3, none⟩ = some (.int .i64 o.c) := keep_cell hb1 (by simp [go_sem, *])
    have x1_1_4 : w1.cell? ⟨w.heap.size + 1, 4, none⟩ = some (.slice T o.ts.length ct) := keep_cell hb1 (by simp [go_sem, *])
    have y1_1 : w.heap.size + 1 < w1.heap.size := cell?_lt x1_1_0
    have g1 : Below w.heap.size w w1 := by (repeat (first | exact Below.refl _ _ | refine Below.drew ?_ | refine Below.allocS ?_ _ | refine Below.step ?_ (by assumption) | refine Below.setCell ?_ (by simp <;> omega) _ | refine Below.drewN' ?_ _))
    clear hb1
    go_wp2_with fail
    refine (H3.out _ (by (repeat (first | exact Below.refl _ _ | refine Below.drew ?_ | refine Below.allocS ?_ _ | refine Below.step ?_ (by assumption) | refine Below.setCell ?_ (by simp <;> omega) _ | refine Below.drewN' ?_ _)))).mono ?_
    rintro e w2 ⟨rfl, hb2⟩
    have x2_0_0 : w2.cell? ⟨w.heap.size, 0, none⟩ = some (.slice A o.xs.length ca) := keep_cell hb2 (by simp [go_sem, *])
    have x2_0_1 : w2.cell? ⟨w.heap.size, 1, none⟩ = some (.int .i64 o.e) := keep_cell hb2 (by simp [go_sem, *])
    have y2_0 : w.heap.size < w2.heap.size := cell?_lt x2_0_0
    have x2_1_0 : w2.cell? ⟨w.heap.size + 1, 0, none⟩ = some (.string o.nm) := keep_cell hb2 (by simp [go_sem, *])
    have x2_1_1 : w2.cell? ⟨w.heap.size + 1, 1, none⟩ = some (.int .i64 o.a) := keep_cell hb2 (by simp [go_sem, *])
    have x2_1_2 : w2.cell? ⟨w.heap.size + 1, 2, none⟩ = some (.int .i64 o.b) := keep_cell hb2 (by simp [go_sem, *])
    have x2_1_3 : w2.cell? ⟨w.heap.size + 1, 3, none⟩ = some (.int .i64 o.c) := keep_cell hb2 (by simp [go_sem, *])
    have x2_1_4 : w2.cell? ⟨w.heap.size + 1, 4, none⟩ = some (.slice T o.ts.length ct) := keep_cell hb2 (by simp [go_sem, *])
    have y2_1 : w.heap.size + 1 < w2.heap.size := cell?_lt x2_1_0
    have g2 : Below w.heap.size w w2 := by (repeat (first | exact Below.refl _ _ | refine Below.drew ?_ | refine Below.allocS ?_ _ | refine Below.step ?_ (by assumption) | refine Below.setCell ?_ (by simp <;> omega) _ | refine Below.drewN' ?_ _))
    clear hb2 g1 x1_0_0 x1_0_1 x1_1_0 x1_1_1 x1_1_2 x1_1_3 x1_1_4 y1_0 y1_1
    go_wp2
    go_ret2
    exact ⟨rfl, by (repeat (first | exact Below.refl _ _ | refine Below.drew ?_ | refine Below.allocS ?_ _ | refine Below.step ?_ (by assumption) | refine Below.setCell ?_ (by simp <;> omega) _ | refine Below.drewN' ?_ _))⟩
  · rw [if_neg hN, if_neg hN]
    rw [if_neg hN, decide_eq_true (show crN o o.ts.length ≠ 0 from hN)] at H3
    unfold crQ
    generalize crS o o.ts.length / (1000 * (crN o o.ts.length : Int)) = Q at *
    clear hN
    go_enter Tryd.func19, Tryd.ntmps19
    go_wp2_with fail
    refine (H1.out _ (by (repeat (first | exact Below.refl _ _ | refine Below.drew ?_ | refine Below.allocS ?_ _ | refine Below.step ?_ (by assumption) | refine Below.setCell ?_ (by simp <;> omega) _ | refine Below.drewN' ?_ _)))).mono ?_
    rintro e w1 ⟨rfl, hb1⟩
    have x1_0_0 : w1.cell? ⟨w.heap.size, 0, none⟩ = some (.slice A o.xs.length ca) := keep_cell hb1 (by simp [go_sem, *])
    have x1_0_1 : w1.cell? ⟨w.heap.size, 1, none⟩ = some (.int .i64 o.e) := keep_cell hb1 (by simp [go_sem, *])
    have y1_0 : w.heap.size < w1.heap.size := cell?_lt x1_0_0
    have x1_1_0 : w1.cell? ⟨w.heap.size + 1, 0, none⟩ = some (.string o.nm) := keep_cell hb1 (by simp [go_sem, *])
    have x1_1_1 : w1.cell? ⟨w.heap.size + 1, 1, none⟩ = some (.int .i64 o.a) := keep_cell hb1 (by simp [go_sem, *])
    have x1_1_2 : w1.cell? ⟨w.heap.size + 1, 2, none⟩ = some (.int .i64 o.b) := keep_cell hb1 (by simp [go_sem, *])
    have x1_1_3 : w1.cell? ⟨w.heap.size + 1, 3, none⟩ = some (.int .i64 o.c) := keep_cell hb1 (by simp [go_sem, *])
    have x1_1_4 : w1.cell? ⟨w.heap.size + 1, 4, none⟩ = some (.slice T o.ts.length ct) := keep_cell hb1 (by simp [go_sem, *])
    have y1_1 : w.heap.size + 1 < w1.heap.size := cell?_lt x1_1_0
    have g1 : Below w.heap.size w w1 := by (repeat (first | exact Below.refl _ _ | refine Below.drew ?_ | refine Below.allocS ?_ _ | refine Below.step ?_ (by assumption) | refine Below.setCell ?_ (by simp <;> omega) _ | refine Below.drewN' ?_ _))
    clear hb1
    go_wp2_with fail
    refine (H3.out _ (by (repeat (first | exact Below.refl _ _ | refine Below.drew ?_ | refine Below.allocS ?_ _ | refine Below.step ?_ (by assumption) | refine Below.setCell ?_ (by simp <;> omega) _ | refine Below.drewN' ?_ _)))).mono ?_
    rintro e w2 ⟨rfl, hb2⟩
    have x2_0_0 : w2.cell? ⟨w.heap.size, 0, none⟩ = some (.slice A o.xs.length ca) := keep_cell hb2 (by simp [go_sem, *])
    have x2_0_1 : w2.cell? ⟨w.heap.size, 1, none⟩ = some (.int .i64 o.e) := keep_cell hb2 (by simp [go_sem, *])
    have y2_0 : w.heap.size < w2.heap.size := cell?_lt x2_0_0
    have x2_1_0 : w2.cell? ⟨w.heap.size + 1, 0, none⟩ = some (.string o.nm) := keep_cell hb2 (by simp [go_sem, *])
    have x2_1_1 : w2.cell? ⟨w.heap.size + 1, 1, none⟩ = some (.int .i64 o.a) := keep_cell hb2 (by simp [go_sem, *])
    have x2_1_2 : w2.cell? ⟨w.heap.size + 1, 2, none⟩ = some (.int .i64 o.b) := keep_cell hb2 (by simp [go_sem, *])
    have x2_1_3 : w2.cell? ⟨w.heap.size + 1, 3, none⟩ = some (.int .i64 o.c) := keep_cell hb2 (by simp [go_sem, *])
    have x2_1_4 : w2.cell? ⟨w.heap.size + 1, 4, none⟩ = some (.slice T o.ts.length ct) := keep_cell hb2 (by simp [go_sem, *])
    have y2_1 : w.heap.size + 1 < w2.heap.size := cell?_lt x2_1_0
    have g2 : Below w.heap.size w w2 := by (repeat (first | exact Below.refl _ _ | refine Below.drew ?_ | refine Below.allocS ?_ _ | refine Below.step ?_ (by assumption) | refine Below.setCell ?_ (by simp <;> omega) _ | refine Below.drewN' ?_ _))
    clear hb2 g1 x1_0_0 x1_0_1 x1_1_0 x1_1_1 x1_1_2 x1_1_3 x1_1_4 y1_0 y1_1
    go_wp2
    go_ret2
    exact ⟨rfl, by (repeat (first | exact Below.refl _ _ | refine Below.drew ?_ | refine Below.allocS ?_ _ | refine Below.step ?_ (by assumption) | refine Below.setCell ?_ (by simp <;> omega) _ | refine Below.drewN' ?_ _))⟩
theorem crQ_bd {o : Obs} (h : FitsAt o) (hN : crN o o.ts.length ≠ 0) : -700000000 ≤ crQ o ∧ crQ o ≤ 700000000 := by
  have hl : o.ts.length ≤ 7 := by have := h.n7; have := h.len; omega
  have hs := crS_bd h o.ts.length (Nat.le_refl _)
  unfold crQ
  generalize crS o o.ts.length = S at *
  generalize crN o o.ts.length = N at *
  have hd : (1000 : Int) ≤ 1000 * (N : Int) := by omega
  constructor
  · rw [Int.le_ediv_iff_mul_le (by omega)]
    omega
  · refine Int.le_of_lt_add_one ?_
    rw [Int.ediv_lt_iff_lt_mul (by omega)]
    omega
def dfV (o : Obs) : Int := if crE o = 0 then foldD (o.a - crQ o) else 0
end Go.Proofs.YtimbdnngeoccdaaDoor
