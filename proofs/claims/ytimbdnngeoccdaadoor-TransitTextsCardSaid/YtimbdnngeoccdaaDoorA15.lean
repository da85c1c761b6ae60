/-
  The statements' own helpers: wide, awake.
-/
import Derived.Test.YtimbdnngeoccdaaDoorTT
import Derived.Test.YtimbdnngeoccdaaDoorA14
namespace Go.Proofs.YtimbdnngeoccdaaDoor
open Go.RowKit
set_option linter.unusedVariables false
set_option linter.unusedSimpArgs false
def WideR (n : Nat) (r : Ending) : Prop := ∃ X : Bool, r = .returned (.bool X) ∧ (X = false → n ≤ 8 ∨ 13 ≤ n ∧ n ≤ 50)
def awO : Obs := ⟨[-10000, 0, 10000], 0, ⟨#[97]⟩, 0, 0, 2000, [80000, -1, 120000]⟩
theorem awO_1 : crV awO = 100000 := by decide +kernel
theorem awO_2 : crE awO = 0 := by decide +kernel
theorem RdL.three {w : World} {b : Nat} {x y z : Int} (h0 : w.cell? ⟨b, 0, none⟩ = some (.int .i64 x)) (h1 : w.cell? ⟨b, 1, none⟩ = some (.int .i64 y)) (h2 : w.cell? ⟨b, 2, none⟩ = some (.int .i64 z)) : RdL w w.heap.size inE 1 (some ⟨b, 0, none⟩) [x, y, z] := by
  intro _
  refine ⟨b, 0, rfl, cell?_lt h0, fun i hi j v hv => ?_⟩
  have hj : j < 1 := (List.getElem?_eq_some_iff.1 hv).1
  obtain rfl : j = 0 := by omega
  simp [inE] at hv
  subst hv
  match i, hi with
  | 0, _ => simpa using h0
  | 1, _ => simpa using h1
  | 2, _ => simpa using h2
theorem awake_c (w : World) : Calls Tryd.prog 5 #[] w fun e w' => e = .returned (.bool true) ∧ Below w.heap.size w w' := by
  have H1 := Lib.hid (fun A T ca ct W h => awO_1 ▸ awO_2 ▸ Crossing_c awO A T ca ct W h)
  have H2 := Lib.hid (fun W => Folded_c 43200000 W)
  rw [show foV 43200000 = -43200000 from by decide +kernel, show foE 43200000 = 0 from by decide +kernel] at H2
  go_enter Tryd.func5, Tryd.ntmps5
  go_wp2_with fail
  refine (H1.out (some ⟨w.heap.size, 0, none⟩) (some ⟨w.heap.size + 2, 0, none⟩) 3 3 _ ⟨by decide, by decide, by decide, RdL.three (by simp [go_sem, *]) (by simp [go_sem, *]) (by simp [go_sem, *]), RdL.three (by simp [go_sem, *]) (by simp [go_sem, *]) (by simp [go_sem, *])⟩).mono ?_
  rintro e w1 ⟨rfl, hb1⟩
  have x1_0_0 : w1.cell? ⟨w.heap.size, 0, none⟩ = some (.int .i64 (-10000)) := keep_cell hb1 (by simp [go_sem, *])
  have x1_0_1 : w1.cell? ⟨w.heap.size, 1, none⟩ = some (.int .i64 0) := keep_cell hb1 (by simp [go_sem, *])
  have x1_0_2 : w1.cell? ⟨w.heap.size, 2, none⟩ = some (.int .i64 10000) := keep_cell hb1 (by simp [go_sem, *])
  have y1_0 : w.heap.size < w1.heap.size := cell?_lt x1_0_0
  have x1_1_0 : w1.cell? ⟨w.heap.size + 1, 0, none⟩ = some (.slice (some ⟨w.heap.size, 0, none⟩) 3 3) := keep_cell hb1 (by simp [go_sem, *])
  have x1_1_1 : w1.cell? ⟨w.heap.size + 1, 1, none⟩ = some (.int .i64 0) := keep_cell hb1 (by simp [go_sem, *])
  have y1_1 : w.heap.size + 1 < w1.heap.size := cell?_lt x1_1_0
  have x1_2_0 : w1.cell? ⟨w.heap.size + 2, 0, none⟩ = some (.int .i64 80000) := keep_cell hb1 (by simp [go_sem, *])
  have x1_2_1 : w1.cell? ⟨w.heap.size + 2, 1, none⟩ = some (.int .i64 (-1)) := keep_cell hb1 (by simp [go_sem, *])
  have x1_2_2 : w1.cell? ⟨w.heap.size + 2, 2, none⟩ = some (.int .i64 120000) := keep_cell hb1 (by simp [go_sem, *])
  have y1_2 : w.heap.size + 2 < w1.heap.size := cell?_lt x1_2_0
  have g1 : Below w.heap.size w w1 := by (repeat (first | exact Below.refl _ _ | refine Below.drew ?_ | refine Below.allocS ?_ _ | refine Below.step ?_ (by assumption) | refine Below.setCell ?_ (by simp <;> omega) _ | refine Below.drewN' ?_ _))
  clear hb1
  go_wp2_with fail
  refine (H2.out _).mono ?_
  rintro e w' ⟨rfl, hw'⟩; replace hw' := hw'.symm; subst hw'
  go_wp2
  go_ret
  exact ⟨rfl, by (repeat (first | exact Below.refl _ _ | refine Below.drew ?_ | refine Below.allocS ?_ _ | refine Below.step ?_ (by assumption) | refine Below.setCell ?_ (by simp <;> omega) _ | refine Below.drewN' ?_ _))⟩
end Go.Proofs.YtimbdnngeoccdaaDoor
