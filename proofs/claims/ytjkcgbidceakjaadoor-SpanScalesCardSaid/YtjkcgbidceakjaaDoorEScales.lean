/-
  The walk of the law SpanScales: Scaled of span and of its reference answer the same. No conditions.
-/

import Derived.Test.YtjkcgbidceakjaaDoorD22
import Derived.Laws.StructEq
namespace Go.Proofs.YtjkcgbidceakjaaDoor
open Go.RowKit
set_option linter.unusedVariables false
set_option linter.unusedSimpArgs false
set_option maxHeartbeats 2000000 in
set_option maxRecDepth 100000 in
theorem SpanScales_walk (a b c d : Int) (w0 : I64 a) (w1 : I64 b) (w2 : I64 c) (w3 : I64 d) (w : World) : Calls Tryd.prog 3 #[.agg #[.int .i64 a, .int .i64 b], .agg #[.int .i64 c, .int .i64 d]] w fun e w' => e = .returned (.bool true) ∧ Below w.heap.size w w' := by
  have H1 := Lib.hid (fun W => Scaled_c a b c d W)
  have H2 := Lib.hid (fun W => rScaled_c a b c d W)
  obtain ⟨p, q, z, h1⟩ : ∃ p q z, scaR a b c d = (p, q, z) := ⟨_, _, _, rfl⟩
  rw [h1] at H1 H2
  clear h1 w0 w1 w2 w3
  unfold retV at *
  go_enter Tryd.func3, Tryd.ntmps3
  go_wp2_with fail
  refine (H1.out _).mono ?_
  rintro e w1 ⟨rfl, hb1⟩
  have x1_0_0 : w1.cell? ⟨w.heap.size, 0, none⟩ = some (.int .i64 a) := keep_cell hb1 (by simp [go_sem, *])
  have x1_0_1 : w1.cell? ⟨w.heap.size, 1, none⟩ = some (.int .i64 b) := keep_cell hb1 (by simp [go_sem, *])
  have y1_0 : w.heap.size < w1.heap.size := cell?_lt x1_0_0
  have x1_1_0 : w1.cell? ⟨w.heap.size + 1, 0, none⟩ = some (.int .i64 c) := keep_cell hb1 (by simp [go_sem, *])
  have x1_1_1 : w1.cell? ⟨w.heap.size + 1, 1, none⟩ = some (.int .i64 d) := keep_cell hb1 (by simp [go_sem, *])
  have y1_1 : w.heap.size + 1 < w1.heap.size := cell?_lt x1_1_0
  have g1 : Below w.heap.size w w1 := by (repeat (first | exact Below.refl _ _ | refine Below.drew ?_ | refine Below.allocS ?_ _ | refine Below.step ?_ (by assumption) | refine Below.setCell ?_ (by simp <;> omega) _ | refine Below.drewN' ?_ _))
  clear hb1
  go_wp2_with fail
  refine (H2.out _).mono ?_
  rintro e w2 ⟨rfl, hb2⟩
  have x2_0_0 : w2.cell? ⟨w.heap.size, 0, none⟩ = some (.int .i64 a) := keep_cell hb2 (by simp [go_sem, *])
  have x2_0_1 : w2.cell? ⟨w.heap.size, 1, none⟩ = some (.int .i64 b) := keep_cell hb2 (by simp [go_sem, *])
  have y2_0 : w.heap.size < w2.heap.size := cell?_lt x2_0_0
  have x2_1_0 : w2.cell? ⟨w.heap.size + 1, 0, none⟩ = some (.int .i64 c) := keep_cell hb2 (by simp [go_sem, *])
  have x2_1_1 : w2.cell? ⟨w.heap.size + 1, 1, none⟩ = some (.int .i64 d) := keep_cell hb2 (by simp [go_sem, *])
  have y2_1 : w.heap.size + 1 < w2.heap.size := cell?_lt x2_1_0
  have x2_2_0 : w2.cell? ⟨w1.heap.size, 0, none⟩ = some (.int .i64 p) := keep_cell hb2 (by simp [go_sem, *])
  have x2_2_1 : w2.cell? ⟨w1.heap.size, 1, none⟩ = some (.int .i64 q) := keep_cell hb2 (by simp [go_sem, *])
  have y2_2 : w1.heap.size < w2.heap.size := cell?_lt x2_2_0
  have g2 : Below w.heap.size w w2 := by (repeat (first | exact Below.refl _ _ | refine Below.drew ?_ | refine Below.allocS ?_ _ | refine Below.step ?_ (by assumption) | refine Below.setCell ?_ (by simp <;> omega) _ | refine Below.drewN' ?_ _))
  clear hb2 g1 x1_0_0 x1_0_1 x1_1_0 x1_1_1 y1_0 y1_1
  go_wp2_with fail
  refine (awake_c _).mono ?_
  rintro e w3 ⟨rfl, hb3⟩
  have x3_0_0 : w3.cell? ⟨w.heap.size, 0, none⟩ = some (.int .i64 a) := keep_cell hb3 (by simp [go_sem, *])
  have x3_0_1 : w3.cell? ⟨w.heap.size, 1, none⟩ = some (.int .i64 b) := keep_cell hb3 (by simp [go_sem, *])
  have y3_0 : w.heap.size < w3.heap.size := cell?_lt x3_0_0
  have x3_1_0 : w3.cell? ⟨w.heap.size + 1, 0, none⟩ = some (.int .i64 c) := keep_cell hb3 (by simp [go_sem, *])
  have x3_1_1 : w3.cell? ⟨w.heap.size + 1, 1, none⟩ = some (.int .i64 d) := keep_cell hb3 (by simp [go_sem, *])
  have y3_1 : w.heap.size + 1 < w3.heap.size := cell?_lt x3_1_0
  have x3_2_0 : w3.cell? ⟨w1.heap.size, 0, none⟩ = some (.int .i64 p) := keep_cell hb3 (by simp [go_sem, *])
  have x3_2_1 : w3.cell? ⟨w1.heap.size, 1, none⟩ = some (.int .i64 q) := keep_cell hb3 (by simp [go_sem, *])
  have y3_2 : w1.heap.size < w3.heap.size := cell?_lt x3_2_0
  have x3_3_0 : w3.cell? ⟨w2.heap.size, 0, none⟩ = some (.int .i64 p) := keep_cell hb3 (by simp [go_sem, *])
  have x3_3_1 : w3.cell? ⟨w2.heap.size, 1, none⟩ = some (.int .i64 q) := keep_cell hb3 (by simp [go_sem, *])
  have y3_3 : w2.heap.size < w3.heap.size := cell?_lt x3_3_0
  have g3 : Below w.heap.size w w3 := by (repeat (first | exact Below.refl _ _ | refine Below.drew ?_ | refine Below.allocS ?_ _ | refine Below.step ?_ (by assumption) | refine Below.setCell ?_ (by simp <;> omega) _ | refine Below.drewN' ?_ _))
  clear hb3 g2 x2_0_0 x2_0_1 x2_1_0 x2_1_1 x2_2_0 x2_2_1 y2_0 y2_1 y2_2
  go_wp2
  go_ret
  exact ⟨(by first | rfl | (simp; done) | (simp; omega) | (simp [*]; done)), by (repeat (first | (with_reducible exact Below.refl _ _) | (with_reducible assumption) | (with_reducible refine Below.drew ?_) | (with_reducible refine Below.allocS ?_ _) | (with_reducible refine Below.setCell ?_ ?_ _) | (with_reducible refine Below.step ?_ (by assumption)) | (with_reducible refine Below.drewN' ?_ _))); (try any_goals (first | (with_reducible assumption) | (simp; done) | (simp; omega) | omega))⟩
end Go.Proofs.YtjkcgbidceakjaaDoor
