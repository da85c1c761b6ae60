/-
  The walk of the law SpanFractions: sums and products are commutative, associative and distributive, and Compare is an order. No conditions.
-/
import Derived.Test.YtjkcgbidceakjaaDoorM4
import Derived.Test.YtjkcgbidceakjaaDoorD14
import Derived.Test.YtjkcgbidceakjaaDoorD22
import Derived.Laws.StructEq
import Derived.Deep.DeepCutAuto
namespace Go.Proofs.YtjkcgbidceakjaaDoor
open Go.RowKit
set_option linter.unusedVariables false
set_option linter.unusedSimpArgs false
set_option maxHeartbeats 2000000 in
set_option maxRecDepth 100000 in
theorem SpanFractions_walk (a b c d e f : Int) (w0 : I64 a) (w1 : I64 b) (w2 : I64 c) (w3 : I64 d) (w4 : I64 e) (w5 : I64 f) (w : World) : Calls Tryd.prog 12 #[.agg #[.int .i64 a, .int .i64 b], .agg #[.int .i64 c, .int .i64 d], .agg #[.int .i64 e, .int .i64 f]] w fun e w' => e = .returned (.bool true) ∧ Below w.heap.size w w' := by
  have V1 := Lib.hid (fun W => rValidRatio_c a b W)
  have V2 := Lib.hid (fun W => rValidRatio_c c d W)
  have V3 := Lib.hid (fun W => rValidRatio_c e f W)
  clear w0 w1 w2 w3 w4 w5
  cases h1 : okRat a b
  · rw [h1] at V1
    clear h1
    go_enter Tryd.func12, Tryd.ntmps12
    go_wp2_with fail
    refine (V1.out _).mono ?_
    rintro e w1 ⟨rfl, hb1⟩
    have x1_0_0 : w1.cell? ⟨w.heap.size, 0, none⟩ = some (.int .i64 a) := keep_cell hb1 (by simp [go_sem, *])
    have x1_0_1 : w1.cell? ⟨w.heap.size, 1, none⟩ = some (.int .i64 b) := keep_cell hb1 (by simp [go_sem, *])
    have y1_0 : w.heap.size < w1.heap.size := cell?_lt x1_0_0
    have x1_1_0 : w1.cell? ⟨w.heap.size + 1, 0, none⟩ = some (.int .i64 c) := keep_cell hb1 (by simp [go_sem, *])
    have x1_1_1 : w1.cell? ⟨w.heap.size + 1, 1, none⟩ = some (.int .i64 d) := keep_cell hb1 (by simp [go_sem, *])
    have y1_1 : w.heap.size + 1 < w1.heap.size := cell?_lt x1_1_0
    have x1_2_0 : w1.cell? ⟨w.heap.size + 1 + 1, 0, none⟩ = some (.int .i64 e) := keep_cell hb1 (by simp [go_sem, *])
    have x1_2_1 : w1.cell? ⟨w.heap.size + 1 + 1, 1, none⟩ = some (.int .i64 f) := keep_cell hb1 (by simp [go_sem, *])
    have y1_2 : w.heap.size + 1 + 1 < w1.heap.size := cell?_lt x1_2_0
    have g1 : Below w.heap.size w w1 := by (repeat (first | exact Below.refl _ _ | refine Below.drew ?_ | refine Below.allocS ?_ _ | refine Below.step ?_ (by assumption) | refine Below.setCell ?_ (by simp <;> omega) _ | refine Below.drewN' ?_ _))
    clear hb1
    go_wp2_with fail
    refine (awake_c _).mono ?_
    rintro e w2 ⟨rfl, hb2⟩
    have x2_0_0 : w2.cell? ⟨w.heap.size, 0, none⟩ = some (.int .i64 a) := keep_cell hb2 (by simp [go_sem, *])
    have x2_0_1 : w2.cell? ⟨w.heap.size, 1, none⟩ = some (.int .i64 b) := keep_cell hb2 (by simp [go_sem, *])
    have y2_0 : w.heap.size < w2.heap.size := cell?_lt x2_0_0
    have x2_1_0 : w2.cell? ⟨w.heap.size + 1, 0, none⟩ = some (.int .i64 c) := keep_cell hb2 (by simp [go_sem, *])
    have x2_1_1 : w2.cell? ⟨w.heap.size + 1, 1, none⟩ = some (.int .i64 d) := keep_cell hb2 (by simp [go_sem, *])
    have y2_1 : w.heap.size + 1 < w2.heap.size := cell?_lt x2_1_0
    have x2_2_0 : w2.cell? ⟨w.heap.size + 1 + 1, 0, none⟩ = some (.int .i64 e) := keep_cell hb2 (by simp [go_sem, *])
    have x2_2_1 : w2.cell? ⟨w.heap.size + 1 + 1, 1, none⟩ = some (.int .i64 f) := keep_cell hb2 (by simp [go_sem, *])
    have y2_2 : w.heap.size + 1 + 1 < w2.heap.size := cell?_lt x2_2_0
    have g2 : Below w.heap.size w w2 := by (repeat (first | exact Below.refl _ _ | refine Below.drew ?_ | refine Below.allocS ?_ _ | refine Below.step ?_ (by assumption) | refine Below.setCell ?_ (by simp <;> omega) _ | refine Below.drewN' ?_ _))
    clear hb2 g1 x1_0_0 x1_0_1 x1_1_0 x1_1_1 x1_2_0 x1_2_1 y1_0 y1_1 y1_2
    go_wp2
    go_ret
    exact ⟨(by first | rfl | (simp; done) | (simp; omega) | (simp [*]; done)), by (repeat (first | (with_reducible exact Below.refl _ _) | (with_reducible assumption) | (with_reducible refine Below.drew ?_) | (with_reducible refine Below.allocS ?_ _) | (with_reducible refine Below.setCell ?_ ?_ _) | (with_reducible refine Below.step ?_ (by assumption)) | (with_reducible refine Below.drewN' ?_ _))); (try any_goals (first | (with_reducible assumption) | (simp; done) | (simp; omega) | omega))⟩
  cases h2 : okRat c d
  · rw [h1] at V1
    rw [h2] at V2
    clear h1 h2
    go_enter Tryd.func12, Tryd.ntmps12
    go_wp2_with fail
    refine (V1.out _).mono ?_
    rintro e w1 ⟨rfl, hb1⟩
    have x1_0_0 : w1.cell? ⟨w.heap.size, 0, none⟩ = some (.int .i64 a) := keep_cell hb1 (by simp [go_sem, *])
    have x1_0_1 : w1.cell? ⟨w.heap.size, 1, none⟩ = some (.int .i64 b) := keep_cell hb1 (by simp [go_sem, *])
    have y1_0 : w.heap.size < w1.heap.size := cell?_lt x1_0_0
    have x1_1_0 : w1.cell? ⟨w.heap.size + 1, 0, none⟩ = some (.int .i64 c) := keep_cell hb1 (by simp [go_sem, *])
    have x1_1_1 : w1.cell? ⟨w.heap.size + 1, 1, none⟩ = some (.int .i64 d) := keep_cell hb1 (by simp [go_sem, *])
    have y1_1 : w.heap.size + 1 < w1.heap.size := cell?_lt x1_1_0
    have x1_2_0 : w1.cell? ⟨w.heap.size + 1 + 1, 0, none⟩ = some (.int .i64 e) := keep_cell hb1 (by simp [go_sem, *])
    have x1_2_1 : w1.cell? ⟨w.heap.size + 1 + 1, 1, none⟩ = some (.int .i64 f) := keep_cell hb1 (by simp [go_sem, *])
    have y1_2 : w.heap.size + 1 + 1 < w1.heap.size := cell?_lt x1_2_0
    have g1 : Below w.heap.size w w1 := by (repeat (first | exact Below.refl _ _ | refine Below.drew ?_ | refine Below.allocS ?_ _ | refine Below.step ?_ (by assumption) | refine Below.setCell ?_ (by simp <;> omega) _ | refine Below.drewN' ?_ _))
    clear hb1
    go_wp2_with fail
    refine (V2.out _).mono ?_
    rintro e w2 ⟨rfl, hb2⟩
    have x2_0_0 : w2.cell? ⟨w.heap.size, 0, none⟩ = some (.int .i64 a) := keep_cell hb2 (by simp [go_sem, *])
    have x2_0_1 : w2.cell? ⟨w.heap.size, 1, none⟩ = some (.int .i64 b) := keep_cell hb2 (by simp [go_sem, *])
    have y2_0 : w.heap.size < w2.heap.size := cell?_lt x2_0_0
    have x2_1_0 : w2.cell? ⟨w.heap.size + 1, 0, none⟩ = some (.int .i64 c) := keep_cell hb2 (by simp [go_sem, *])
    have x2_1_1 : w2.cell? ⟨w.heap.size + 1, 1, none⟩ = some (.int .i64 d) := keep_cell hb2 (by simp [go_sem, *])
    have y2_1 : w.heap.size + 1 < w2.heap.size := cell?_lt x2_1_0
    have x2_2_0 : w2.cell? ⟨w.heap.size + 1 + 1, 0, none⟩ = some (.int .i64 e) := keep_cell hb2 (by simp [go_sem, *])
    have x2_2_1 : w2.cell? ⟨w.heap.size + 1 + 1, 1, none⟩ = some (.int .i64 f) := keep_cell hb2 (by simp [go_sem, *])
    have y2_2 : w.heap.size + 1 + 1 < w2.heap.size := cell?_lt x2_2_0
    have g2 : Below w.heap.size w w2 := by (repeat (first | exact Below.refl _ _ | refine Below.drew ?_ | refine Below.allocS ?_ _ | refine Below.step ?_ (by assumption) | refine Below.setCell ?_ (by simp <;> omega) _ | refine Below.drewN' ?_ _))
    clear hb2 g1 x1_0_0 x1_0_1 x1_1_0 x1_1_1 x1_2_0 x1_2_1 y1_0 y1_1 y1_2
    go_wp2_with fail
    refine (awake_c _).mono ?_
    rintro e w3 ⟨rfl, hb3⟩
    have x3_0_0 : w3.cell? ⟨w.heap.size, 0, none⟩ = some (.int .i64 a) := keep_cell hb3 (by simp [go_sem, *])
    have x3_0_1 : w3.cell? ⟨w.heap.size, 1, none⟩ = some (.int .i64 b) := keep_cell hb3 (by simp [go_sem, *])
    have y3_0 : w.heap.size < w3.heap.size := cell?_lt x3_0_0
    have x3_1_0 : w3.cell? ⟨w.heap.size + 1, 0, none⟩ = some (.int .i64 c) := keep_cell hb3 (by simp [go_sem, *])
    have x3_1_1 : w3.cell? ⟨w.heap.size + 1, 1, none⟩ = some (.int .i64 d) := keep_cell hb3 (by simp [go_sem, *])
    have y3_1 : w.heap.size + 1 < w3.heap.size := cell?_lt x3_1_0
    have x3_2_0 : w3.cell? ⟨w.heap.size + 1 + 1, 0, none⟩ = some (.int .i64 e) := keep_cell hb3 (by simp [go_sem, *])
    have x3_2_1 : w3.cell? ⟨w.heap.size + 1 + 1, 1, none⟩ = some (.int .i64 f) := keep_cell hb3 (by simp [go_sem, *])
    have y3_2 : w.heap.size + 1 + 1 < w3.heap.size := cell?_lt x3_2_0
    have g3 : Below w.heap.size w w3 := by (repeat (first | exact Below.refl _ _ | refine Below.drew ?_ | refine Below.allocS ?_ _ | refine Below.step ?_ (by assumption) | refine Below.setCell ?_ (by simp <;> omega) _ | refine Below.drewN' ?_ _))
    clear hb3 g2 x2_0_0 x2_0_1 x2_1_0 x2_1_1 x2_2_0 x2_2_1 y2_0 y2_1 y2_2
    go_wp2
    go_ret
    exact ⟨(by first | rfl | (simp; done) | (simp; omega) | (simp [*]; done)), by (repeat (first | (with_reducible exact Below.refl _ _) | (with_reducible assumption) | (with_reducible refine Below.drew ?_) | (with_reducible refine Below.allocS ?_ _) | (with_reducible refine Below.setCell ?_ ?_ _) | (with_reducible refine Below.step ?_ (by assumption)) | (with_reducible refine Below.drewN' ?_ _))); (try any_goals (first | (with_reducible assumption) | (simp; done) | (simp; omega) | omega))⟩
  cases h3 : okRat e f
  · rw [h1] at V1
    rw [h2] at V2
    rw [h3] at V3
    clear h1 h2 h3
    go_enter Tryd.func12, Tryd.ntmps12
    go_wp2_with fail
    refine (V1.out _).mono ?_
    rintro e w1 ⟨rfl, hb1⟩
    have x1_0_0 : w1.cell? ⟨w.heap.size, 0, none⟩ = some (.int .i64 a) := keep_cell hb1 (by simp [go_sem, *])
    have x1_0_1 : w1.cell? ⟨w.heap.size, 1, none⟩ = some (.int .i64 b) := keep_cell hb1 (by simp [go_sem, *])
    have y1_0 : w.heap.size < w1.heap.size := cell?_lt x1_0_0
    have x1_1_0 : w1.cell? ⟨w.heap.size + 1, 0, none⟩ = some (.int .i64 c) := keep_cell hb1 (by simp [go_sem, *])
    have x1_1_1 : w1.cell? ⟨w.heap.size + 1, 1, none⟩ = some (.int .i64 d) := keep_cell hb1 (by simp [go_sem, *])
    have y1_1 : w.heap.size + 1 < w1.heap.size := cell?_lt x1_1_0
    have x1_2_0 : w1.cell? ⟨w.heap.size + 1 + 1, 0, none⟩ = some (.int .i64 e) := keep_cell hb1 (by simp [go_sem, *])
    have x1_2_1 : w1.cell? ⟨w.heap.size + 1 + 1, 1, none⟩ = some (.int .i64 f) := keep_cell hb1 (by simp [go_sem, *])
    have y1_2 : w.heap.size + 1 + 1 < w1.heap.size := cell?_lt x1_2_0
    have g1 : Below w.heap.size w w1 := by (repeat (first | exact Below.refl _ _ | refine Below.drew ?_ | refine Below.allocS ?_ _ | refine Below.step ?_ (by assumption) | refine Below.setCell ?_ (by simp <;> omega) _ | refine Below.drewN' ?_ _))
    clear hb1
    go_wp2_with fail
    refine (V2.out _).mono ?_
    rintro e w2 ⟨rfl, hb2⟩
    have x2_0_0 : w2.cell? ⟨w.heap.size, 0, none⟩ = some (.int .i64 a) := keep_cell hb2 (by simp [go_sem, *])
    have x2_0_1 : w2.cell? ⟨w.heap.size, 1, none⟩ = some (.int .i64 b) := keep_cell hb2 (by simp [go_sem, *])
    have y2_0 : w.heap.size < w2.heap.size := cell?_lt x2_0_0
    have x2_1_0 : w2.cell? ⟨w.heap.size + 1, 0, none⟩ = some (.int .i64 c) := keep_cell hb2 (by simp [go_sem, *])
    have x2_1_1 : w2.cell? ⟨w.heap.size + 1, 1, none⟩ = some (.int .i64 d) := keep_cell hb2 (by simp [go_sem, *])
    have y2_1 : w.heap.size + 1 < w2.heap.size := cell?_lt x2_1_0
    have x2_2_0 : w2.cell? ⟨w.heap.size + 1 + 1, 0, none⟩ = some (.int .i64 e) := keep_cell hb2 (by simp [go_sem, *])
    have x2_2_1 : w2.cell? ⟨w.heap.size + 1 + 1, 1, none⟩ = some (.int .i64 f) := keep_cell hb2 (by simp [go_sem, *])
    have y2_2 : w.heap.size + 1 + 1 < w2.heap.size := cell?_lt x2_2_0
    have g2 : Below w.heap.size w w2 := by (repeat (first | exact Below.refl _ _ | refine Below.drew ?_ | refine Below.allocS ?_ _ | refine Below.step ?_ (by assumption) | refine Below.setCell ?_ (by simp <;> omega) _ | refine Below.drewN' ?_ _))
    clear hb2 g1 x1_0_0 x1_0_1 x1_1_0 x1_1_1 x1_2_0 x1_2_1 y1_0 y1_1 y1_2
    go_wp2_with fail
    refine (V3.out _).mono ?_
    rintro e w3 ⟨rfl, hb3⟩
    have x3_0_0 : w3.cell? ⟨w.heap.size, 0, none⟩ = some (.int .i64 a) := keep_cell hb3 (by simp [go_sem, *])
    have x3_0_1 : w3.cell? ⟨w.heap.size, 1, none⟩ = some (.int .i64 b) := keep_cell hb3 (by simp [go_sem, *])
    have y3_0 : w.heap.size < w3.heap.size := cell?_lt x3_0_0
    have x3_1_0 : w3.cell? ⟨w.heap.size + 1, 0, none⟩ = some (.int .i64 c) := keep_cell hb3 (by simp [go_sem, *])
    have x3_1_1 : w3.cell? ⟨w.heap.size + 1, 1, none⟩ = some (.int .i64 d) := keep_cell hb3 (by simp [go_sem, *])
    have y3_1 : w.heap.size + 1 < w3.heap.size := cell?_lt x3_1_0
    have x3_2_0 : w3.cell? ⟨w.heap.size + 1 + 1, 0, none⟩ = some (.int .i64 e) := keep_cell hb3 (by simp [go_sem, *])
    have x3_2_1 : w3.cell? ⟨w.heap.size + 1 + 1, 1, none⟩ = some (.int .i64 f) := keep_cell hb3 (by simp [go_sem, *])
    have y3_2 : w.heap.size + 1 + 1 < w3.heap.size := cell?_lt x3_2_0
    have g3 : Below w.heap.size w w3 := by (repeat (first | exact Below.refl _ _ | refine Below.drew ?_ | refine Below.allocS ?_ _ | refine Below.step ?_ (by assumption) | refine Below.setCell ?_ (by simp <;> omega) _ | refine Below.drewN' ?_ _))
    clear hb3 g2 x2_0_0 x2_0_1 x2_1_0 x2_1_1 x2_2_0 x2_2_1 y2_0 y2_1 y2_2
    go_wp2_with fail
    refine (awake_c _).mono ?_
    rintro e w4 ⟨rfl, hb4⟩
    have x4_0_0 : w4.cell? ⟨w.heap.size, 0, none⟩ = some (.int .i64 a) := keep_cell hb4 (by simp [go_sem, *])
    have x4_0_1 : w4.cell? ⟨w.heap.size, 1, none⟩ = some (.int .i64 b) := keep_cell hb4 (by simp [go_sem, *])
    have y4_0 : w.heap.size < w4.heap.size := cell?_lt x4_0_0
    have x4_1_0 : w4.cell? ⟨w.heap.size + 1, 0, none⟩ = some (.int .i64 c) := keep_cell hb4 (by simp [go_sem, *])
    have x4_1_1 : w4.cell? ⟨w.heap.size + 1, 1, none⟩ = some (.int .i64 d) := keep_cell hb4 (by simp [go_sem, *])
    have y4_1 : w.heap.size + 1 < w4.heap.size := cell?_lt x4_1_0
    have x4_2_0 : w4.cell? ⟨w.heap.size + 1 + 1, 0, none⟩ = some (.int .i64 e) := keep_cell hb4 (by simp [go_sem, *])
    have x4_2_1 : w4.cell? ⟨w.heap.size + 1 + 1, 1, none⟩ = some (.int .i64 f) := keep_cell hb4 (by simp [go_sem, *])
    have y4_2 : w.heap.size + 1 + 1 < w4.heap.size := cell?_lt x4_2_0
    have g4 : Below w.heap.size w w4 := by (repeat (first | exact Below.refl _ _ | refine Below.drew ?_ | refine Below.allocS ?_ _ | refine Below.step ?_ (by assumption) | refine Below.setCell ?_ (by simp <;> omega) _ | refine Below.drewN' ?_ _))
    clear hb4 g3 x3_0_0 x3_0_1 x3_1_0 x3_1_1 x3_2_0 x3_2_1 y3_0 y3_1 y3_2
    go_wp2
    go_ret
    exact ⟨(by first | rfl | (simp; done) | (simp; omega) | (simp [*]; done)), by (repeat (first | (with_reducible exact Below.refl _ _) | (with_reducible assumption) | (with_reducible refine Below.drew ?_) | (with_reducible refine Below.allocS ?_ _) | (with_reducible refine Below.setCell ?_ ?_ _) | (with_reducible refine Below.step ?_ (by assumption)) | (with_reducible refine Below.drewN' ?_ _))); (try any_goals (first | (with_reducible assumption) | (simp; done) | (simp; omega) | omega))⟩
  rw [h1] at V1
  rw [h2] at V2
  rw [h3] at V3
  have H1 := Lib.hid (fun W => Add_c a b c d W)
  have H2 := Lib.hid (fun W => Add_c c d a b W)
  have H3 := Lib.hid (fun W => Add_c c d e f W)
  rw [add_comm' a b c d] at H2
  obtain ⟨p, q, e1, r1⟩ : ∃ p q z, addR a b c d = (p, q, z) := ⟨_, _, _, rfl⟩
  rw [r1] at H1 H2
  obtain ⟨r, s, g1, r3⟩ : ∃ X Y Z, addR c d e f = (X, Y, Z) := ⟨_, _, _, rfl⟩
  rw [r3] at H3
  have H4 := Lib.hid (fun W => Add_c p q e f W)
  have H5 := Lib.hid (fun W => Add_c a b r s W)
  obtain ⟨x, y, k1, r4⟩ : ∃ X Y Z, addR p q e f = (X, Y, Z) := ⟨_, _, _, rfl⟩
  rw [r4] at H4
  obtain ⟨u, v, i1, r5⟩ : ∃ X Y Z, addR a b r s = (X, Y, Z) := ⟨_, _, _, rfl⟩
  rw [r5] at H5
  have H7 := Lib.hid (fun W => Mul_c a b e f W)
  have H8 := Lib.hid (fun W => Mul_c c d e f W)
  obtain ⟨r2, s2, j1, r7⟩ : ∃ X Y Z, mulR a b e f = (X, Y, Z) := ⟨_, _, _, rfl⟩
  rw [r7] at H7
  obtain ⟨t2, o2, k2, r8⟩ : ∃ X Y Z, mulR c d e f = (X, Y, Z) := ⟨_, _, _, rfl⟩
  rw [r8] at H8
  have H9 := Lib.hid (fun W => Mul_c p q e f W)
  have H10 := Lib.hid (fun W => Add_c r2 s2 t2 o2 W)
  obtain ⟨x2, y2, m1, r9⟩ : ∃ X Y Z, mulR p q e f = (X, Y, Z) := ⟨_, _, _, rfl⟩
  rw [r9] at H9
  obtain ⟨u2, v2, n1, r10⟩ : ∃ X Y Z, addR r2 s2 t2 o2 = (X, Y, Z) := ⟨_, _, _, rfl⟩
  rw [r10] at H10
  have H11 := Lib.hid (fun W => Compare_c a b c d W)
  have H12 := Lib.hid (fun W => Compare_c c d e f W)
  have H13 := Lib.hid (fun W => Compare_c a b e f W)
  have H14 := Lib.hid (fun W => Compare_c c d a b W)
  have H15 := Lib.hid (fun W => Sub_c a b c d W)
  obtain ⟨p3, q3, o3, r15⟩ : ∃ X Y Z, subR a b c d = (X, Y, Z) := ⟨_, _, _, rfl⟩
  rw [r15] at H15
  have H16 := Lib.hid (fun W => Compare_c p3 q3 0 1 W)
  have KA := Lib.hid (show e1 = 0 → g1 = 0 → k1 = 0 → i1 = 0 → x = u ∧ y = v by rintro rfl rfl rfl rfl; exact assoc_law h1 h2 h3 r1 r3 r4 r5)
  have KD := Lib.hid (show e1 = 0 → j1 = 0 → k2 = 0 → m1 = 0 → n1 = 0 → x2 = u2 ∧ y2 = v2 by rintro rfl rfl rfl rfl rfl; exact distr_law h1 h2 h3 r1 r7 r8 r9 r10)
  have KC := Lib.hid (cmp_eq h1 h2)
  have KT := Lib.hid (cmp_trans h1 h2 h3)
  have KS := Lib.hid (show o3 = 0 → cmpR p3 q3 0 1 = cmpR a b c d by rintro rfl; exact cmp_sub h1 h2 r15)
  have KN := Lib.hid (show cmpR c d a b = -cmpR a b c d by rw [cmp_ok h2 h1, cmp_ok h1 h2]; exact sgn_anti _ _)
  have K1 := Lib.hid (show cmpR a b c d = -1 ∨ cmpR a b c d = 0 ∨ cmpR a b c d = 1 by rw [cmp_ok h1 h2]; rcases sgn_cases (a * d) (c * b) with h | h | h <;> omega)
  have K2 := Lib.hid (show cmpR c d e f = -1 ∨ cmpR c d e f = 0 ∨ cmpR c d e f = 1 by rw [cmp_ok h2 h3]; rcases sgn_cases (c * f) (e * d) with h | h | h <;> omega)
  have K3 := Lib.hid (show cmpR a b e f = -1 ∨ cmpR a b e f = 0 ∨ cmpR a b e f = 1 by rw [cmp_ok h1 h3]; rcases sgn_cases (a * f) (e * b) with h | h | h <;> omega)
  rw [KN.out] at H14
  clear KN r1 r3 r4 r5 r7 r8 r9 r10 r15 h1 h2 h3
  generalize cmpR p3 q3 0 1 = S at *
  generalize cmpR a b c d = P at *
  generalize cmpR c d e f = Q at *
  generalize cmpR a b e f = R at *
  unfold retV at *
  go_enter Tryd.func12, Tryd.ntmps12
  go_wp2_with fail
  refine (V1.out _).mono ?_
  rintro e w1 ⟨rfl, hb1⟩
  have x1_0_0 : w1.cell? ⟨w.heap.size, 0, none⟩ = some (.int .i64 a) := keep_cell hb1 (by simp [go_sem, *])
  have x1_0_1 : w1.cell? ⟨w.heap.size, 1, none⟩ = some (.int .i64 b) := keep_cell hb1 (by simp [go_sem, *])
  have y1_0 : w.heap.size < w1.heap.size := cell?_lt x1_0_0
  have x1_1_0 : w1.cell? ⟨w.heap.size + 1, 0, none⟩ = some (.int .i64 c) := keep_cell hb1 (by simp [go_sem, *])
  have x1_1_1 : w1.cell? ⟨w.heap.size + 1, 1, none⟩ = some (.int .i64 d) := keep_cell hb1 (by simp [go_sem, *])
  have y1_1 : w.heap.size + 1 < w1.heap.size := cell?_lt x1_1_0
  have x1_2_0 : w1.cell? ⟨w.heap.size + 1 + 1, 0, none⟩ = some (.int .i64 e) := keep_cell hb1 (by simp [go_sem, *])
  have x1_2_1 : w1.cell? ⟨w.heap.size + 1 + 1, 1, none⟩ = some (.int .i64 f) := keep_cell hb1 (by simp [go_sem, *])
  have y1_2 : w.heap.size + 1 + 1 < w1.heap.size := cell?_lt x1_2_0
  have g1 : Below w.heap.size w w1 := by (repeat (first | exact Below.refl _ _ | refine Below.drew ?_ | refine Below.allocS ?_ _ | refine Below.step ?_ (by assumption) | refine Below.setCell ?_ (by simp <;> omega) _ | refine Below.drewN' ?_ _))
  clear hb1
  go_wp2_with fail
  refine (V2.out _).mono ?_
  rintro e w2 ⟨rfl, hb2⟩
  have x2_0_0 : w2.cell? ⟨w.heap.size, 0, none⟩ = some (.int .i64 a) := keep_cell hb2 (by simp [go_sem, *])
  have x2_0_1 : w2.cell? ⟨w.heap.size, 1, none⟩ = some (.int .i64 b) := keep_cell hb2 (by simp [go_sem, *])
  have y2_0 : w.heap.size < w2.heap.size := cell?_lt x2_0_0
  have x2_1_0 : w2.cell? ⟨w.heap.size + 1, 0, none⟩ = some (.int .i64 c) := keep_cell hb2 (by simp [go_sem, *])
  have x2_1_1 : w2.cell? ⟨w.heap.size + 1, 1, none⟩ = some (.int .i64 d) := keep_cell hb2 (by simp [go_sem, *])
  have y2_1 : w.heap.size + 1 < w2.heap.size := cell?_lt x2_1_0
  have x2_2_0 : w2.cell? ⟨w.heap.size + 1 + 1, 0, none⟩ = some (.int .i64 e) := keep_cell hb2 (by simp [go_sem, *])
  have x2_2_1 : w2.cell? ⟨w.heap.size + 1 + 1, 1, none⟩ = some (.int .i64 f) := keep_cell hb2 (by simp [go_sem, *])
  have y2_2 : w.heap.size + 1 + 1 < w2.heap.size := cell?_lt x2_2_0
  have g2 : Below w.heap.size w w2 := by (repeat (first | exact Below.refl _ _ | refine Below.drew ?_ | refine Below.allocS ?_ _ | refine Below.step ?_ (by assumption) | refine Below.setCell ?_ (by simp <;> omega) _ | refine Below.drewN' ?_ _))
  clear hb2 g1 x1_0_0 x1_0_1 x1_1_0 x1_1_1 x1_2_0 x1_2_1 y1_0 y1_1 y1_2
  go_wp2_with fail
  refine (V3.out _).mono ?_
  rintro e w3 ⟨rfl, hb3⟩
  have x3_0_0 : w3.cell? ⟨w.heap.size, 0, none⟩ = some (.int .i64 a) := keep_cell hb3 (by simp [go_sem, *])
  have x3_0_1 : w3.cell? ⟨w.heap.size, 1, none⟩ = some (.int .i64 b) := keep_cell hb3 (by simp [go_sem, *])
  have y3_0 : w.heap.size < w3.heap.size := cell?_lt x3_0_0
  have x3_1_0 : w3.cell? ⟨w.heap.size + 1, 0, none⟩ = some (.int .i64 c) := keep_cell hb3 (by simp [go_sem, *])
  have x3_1_1 : w3.cell? ⟨w.heap.size + 1, 1, none⟩ = some (.int .i64 d) := keep_cell hb3 (by simp [go_sem, *])
  have y3_1 : w.heap.size + 1 < w3.heap.size := cell?_lt x3_1_0
  have x3_2_0 : w3.cell? ⟨w.heap.size + 1 + 1, 0, none⟩ = some (.int .i64 e) := keep_cell hb3 (by simp [go_sem, *])
  have x3_2_1 : w3.cell? ⟨w.heap.size + 1 + 1, 1, none⟩ = some (.int .i64 f) := keep_cell hb3 (by simp [go_sem, *])
  have y3_2 : w.heap.size + 1 + 1 < w3.heap.size := cell?_lt x3_2_0
  have g3 : Below w.heap.size w w3 := by (repeat (first | exact Below.refl _ _ | refine Below.drew ?_ | refine Below.allocS ?_ _ | refine Below.step ?_ (by assumption) | refine Below.setCell ?_ (by simp <;> omega) _ | refine Below.drewN' ?_ _))
  clear hb3 g2 x2_0_0 x2_0_1 x2_1_0 x2_1_1 x2_2_0 x2_2_1 y2_0 y2_1 y2_2
  go_wp2_with fail
  refine (H1.out _).mono ?_
  rintro e w4 ⟨rfl, hb4⟩
  have x4_0_0 : w4.cell? ⟨w.heap.size, 0, none⟩ = some (.int .i64 a) := keep_cell hb4 (by simp [go_sem, *])
  have x4_0_1 : w4.cell? ⟨w.heap.size, 1, none⟩ = some (.int .i64 b) := keep_cell hb4 (by simp [go_sem, *])
  have y4_0 : w.heap.size < w4.heap.size := cell?_lt x4_0_0
  have x4_1_0 : w4.cell? ⟨w.heap.size + 1, 0, none⟩ = some (.int .i64 c) := keep_cell hb4 (by simp [go_sem, *])
  have x4_1_1 : w4.cell? ⟨w.heap.size + 1, 1, none⟩ = some (.int .i64 d) := keep_cell hb4 (by simp [go_sem, *])
  have y4_1 : w.heap.size + 1 < w4.heap.size := cell?_lt x4_1_0
  have x4_2_0 : w4.cell? ⟨w.heap.size + 1 + 1, 0, none⟩ = some (.int .i64 e) := keep_cell hb4 (by simp [go_sem, *])
  have x4_2_1 : w4.cell? ⟨w.heap.size + 1 + 1, 1, none⟩ = some (.int .i64 f) := keep_cell hb4 (by simp [go_sem, *])
  have y4_2 : w.heap.size + 1 + 1 < w4.heap.size := cell?_lt x4_2_0
  have g4 : Below w.heap.size w w4 := by (repeat (first | exact Below.refl _ _ | refine Below.drew ?_ | refine Below.allocS ?_ _ | refine Below.step ?_ (by assumption) | refine Below.setCell ?_ (by simp <;> omega) _ | refine Below.drewN' ?_ _))
  clear hb4 g3 x3_0_0 x3_0_1 x3_1_0 x3_1_1 x3_2_0 x3_2_1 y3_0 y3_1 y3_2
  go_wp2_with fail
  refine (H2.out _).mono ?_
  rintro e w5 ⟨rfl, hb5⟩
  have x5_0_0 : w5.cell? ⟨w.heap.size, 0, none⟩ = some (.int .i64 a) := keep_cell hb5 (by simp [go_sem, *])
  have x5_0_1 : w5.cell? ⟨w.heap.size, 1, none⟩ = some (.int .i64 b) := keep_cell hb5 (by simp [go_sem, *])
  have y5_0 : w.heap.size < w5.heap.size := cell?_lt x5_0_0
  have x5_1_0 : w5.cell? ⟨w.heap.size + 1, 0, none⟩ = some (.int .i64 c) := keep_cell hb5 (by simp [go_sem, *])
  have x5_1_1 : w5.cell? ⟨w.heap.size + 1, 1, none⟩ = some (.int .i64 d) := keep_cell hb5 (by simp [go_sem, *])
  have y5_1 : w.heap.size + 1 < w5.heap.size := cell?_lt x5_1_0
  have x5_2_0 : w5.cell? ⟨w.heap.size + 1 + 1, 0, none⟩ = some (.int .i64 e) := keep_cell hb5 (by simp [go_sem, *])
  have x5_2_1 : w5.cell? ⟨w.heap.size + 1 + 1, 1, none⟩ = some (.int .i64 f) := keep_cell hb5 (by simp [go_sem, *])
  have y5_2 : w.heap.size + 1 + 1 < w5.heap.size := cell?_lt x5_2_0
  have x5_3_0 : w5.cell? ⟨w4.heap.size, 0, none⟩ = some (.int .i64 p) := keep_cell hb5 (by simp [go_sem, *])
  have x5_3_1 : w5.cell? ⟨w4.heap.size, 1, none⟩ = some (.int .i64 q) := keep_cell hb5 (by simp [go_sem, *])
  have y5_3 : w4.heap.size < w5.heap.size := cell?_lt x5_3_0
  have g5 : Below w.heap.size w w5 := by (repeat (first | exact Below.refl _ _ | refine Below.drew ?_ | refine Below.allocS ?_ _ | refine Below.step ?_ (by assumption) | refine Below.setCell ?_ (by simp <;> omega) _ | refine Below.drewN' ?_ _))
  clear hb5 g4 x4_0_0 x4_0_1 x4_1_0 x4_1_1 x4_2_0 x4_2_1 y4_0 y4_1 y4_2
  go_wp2_with fail
  refine (H3.out _).mono ?_
  rintro e w6 ⟨rfl, hb6⟩
  have x6_0_0 : w6.cell? ⟨w.heap.size, 0, none⟩ = some (.int .i64 a) := keep_cell hb6 (by simp [go_sem, *])
  have x6_0_1 : w6.cell? ⟨w.heap.size, 1, none⟩ = some (.int .i64 b) := keep_cell hb6 (by simp [go_sem, *])
  have y6_0 : w.heap.size < w6.heap.size := cell?_lt x6_0_0
  have x6_1_0 : w6.cell? ⟨w.heap.size + 1, 0, none⟩ = some (.int .i64 c) := keep_cell hb6 (by simp [go_sem, *])
  have x6_1_1 : w6.cell? ⟨w.heap.size + 1, 1, none⟩ = some (.int .i64 d) := keep_cell hb6 (by simp [go_sem, *])
  have y6_1 : w.heap.size + 1 < w6.heap.size := cell?_lt x6_1_0
  have x6_2_0 : w6.cell? ⟨w.heap.size + 1 + 1, 0, none⟩ = some (.int .i64 e) := keep_cell hb6 (by simp [go_sem, *])
  have x6_2_1 : w6.cell? ⟨w.heap.size + 1 + 1, 1, none⟩ = some (.int .i64 f) := keep_cell hb6 (by simp [go_sem, *])
  have y6_2 : w.heap.size + 1 + 1 < w6.heap.size := cell?_lt x6_2_0
  have x6_3_0 : w6.cell? ⟨w4.heap.size, 0, none⟩ = some (.int .i64 p) := keep_cell hb6 (by simp [go_sem, *])
  have x6_3_1 : w6.cell? ⟨w4.heap.size, 1, none⟩ = some (.int .i64 q) := keep_cell hb6 (by simp [go_sem, *])
  have y6_3 : w4.heap.size < w6.heap.size := cell?_lt x6_3_0
  have x6_4_0 : w6.cell? ⟨w5.heap.size, 0, none⟩ = some (.int .i64 p) := keep_cell hb6 (by simp [go_sem, *])
  have x6_4_1 : w6.cell? ⟨w5.heap.size, 1, none⟩ = some (.int .i64 q) := keep_cell hb6 (by simp [go_sem, *])
  have y6_4 : w5.heap.size < w6.heap.size := cell?_lt x6_4_0
  have g6 : Below w.heap.size w w6 := by (repeat (first | exact Below.refl _ _ | refine Below.drew ?_ | refine Below.allocS ?_ _ | refine Below.step ?_ (by assumption) | refine Below.setCell ?_ (by simp <;> omega) _ | refine Below.drewN' ?_ _))
  clear hb6 g5 x5_0_0 x5_0_1 x5_1_0 x5_1_1 x5_2_0 x5_2_1 x5_3_0 x5_3_1 y5_0 y5_1 y5_2 y5_3
  go_wp2_with fail
  refine (H4.out _).mono ?_
  rintro e w7 ⟨rfl, hb7⟩
  have x7_0_0 : w7.cell? ⟨w.heap.size, 0, none⟩ = some (.int .i64 a) := keep_cell hb7 (by simp [go_sem, *])
  have x7_0_1 : w7.cell? ⟨w.heap.size, 1, none⟩ = some (.int .i64 b) := keep_cell hb7 (by simp [go_sem, *])
  have y7_0 : w.heap.size < w7.heap.size := cell?_lt x7_0_0
  have x7_1_0 : w7.cell? ⟨w.heap.size + 1, 0, none⟩ = some (.int .i64 c) := keep_cell hb7 (by simp [go_sem, *])
  have x7_1_1 : w7.cell? ⟨w.heap.size + 1, 1, none⟩ = some (.int .i64 d) := keep_cell hb7 (by simp [go_sem, *])
  have y7_1 : w.heap.size + 1 < w7.heap.size := cell?_lt x7_1_0
  have x7_2_0 : w7.cell? ⟨w.heap.size + 1 + 1, 0, none⟩ = some (.int .i64 e) := keep_cell hb7 (by simp [go_sem, *])
  have x7_2_1 : w7.cell? ⟨w.heap.size + 1 + 1, 1, none⟩ = some (.int .i64 f) := keep_cell hb7 (by simp [go_sem, *])
  have y7_2 : w.heap.size + 1 + 1 < w7.heap.size := cell?_lt x7_2_0
  have x7_3_0 : w7.cell? ⟨w4.heap.size, 0, none⟩ = some (.int .i64 p) := keep_cell hb7 (by simp [go_sem, *])
  have x7_3_1 : w7.cell? ⟨w4.heap.size, 1, none⟩ = some (.int .i64 q) := keep_cell hb7 (by simp [go_sem, *])
  have y7_3 : w4.heap.size < w7.heap.size := cell?_lt x7_3_0
  have x7_4_0 : w7.cell? ⟨w5.heap.size, 0, none⟩ = some (.int .i64 p) := keep_cell hb7 (by simp [go_sem, *])
  have x7_4_1 : w7.cell? ⟨w5.heap.size, 1, none⟩ = some (.int .i64 q) := keep_cell hb7 (by simp [go_sem, *])
  have y7_4 : w5.heap.size < w7.heap.size := cell?_lt x7_4_0
  have x7_5_0 : w7.cell? ⟨w6.heap.size, 0, none⟩ = some (.int .i64 r) := keep_cell hb7 (by simp [go_sem, *])
  have x7_5_1 : w7.cell? ⟨w6.heap.size, 1, none⟩ = some (.int .i64 s) := keep_cell hb7 (by simp [go_sem, *])
  have y7_5 : w6.heap.size < w7.heap.size := cell?_lt x7_5_0
  have g7 : Below w.heap.size w w7 := by (repeat (first | exact Below.refl _ _ | refine Below.drew ?_ | refine Below.allocS ?_ _ | refine Below.step ?_ (by assumption) | refine Below.setCell ?_ (by simp <;> omega) _ | refine Below.drewN' ?_ _))
  clear hb7 g6 x6_0_0 x6_0_1 x6_1_0 x6_1_1 x6_2_0 x6_2_1 x6_3_0 x6_3_1 x6_4_0 x6_4_1 y6_0 y6_1 y6_2 y6_3 y6_4
  go_wp2_with fail
  refine (H5.out _).mono ?_
  rintro e w8 ⟨rfl, hb8⟩
  have x8_0_0 : w8.cell? ⟨w.heap.size, 0, none⟩ = some (.int .i64 a) := keep_cell hb8 (by simp [go_sem, *])
  have x8_0_1 : w8.cell? ⟨w.heap.size, 1, none⟩ = some (.int .i64 b) := keep_cell hb8 (by simp [go_sem, *])
  have y8_0 : w.heap.size < w8.heap.size := cell?_lt x8_0_0
  have x8_1_0 : w8.cell? ⟨w.heap.size + 1, 0, none⟩ = some (.int .i64 c) := keep_cell hb8 (by simp [go_sem, *])
  have x8_1_1 : w8.cell? ⟨w.heap.size + 1, 1, none⟩ = some (.int .i64 d) := keep_cell hb8 (by simp [go_sem, *])
  have y8_1 : w.heap.size + 1 < w8.heap.size := cell?_lt x8_1_0
  have x8_2_0 : w8.cell? ⟨w.heap.size + 1 + 1, 0, none⟩ = some (.int .i64 e) := keep_cell hb8 (by simp [go_sem, *])
  have x8_2_1 : w8.cell? ⟨w.heap.size + 1 + 1, 1, none⟩ = some (.int .i64 f) := keep_cell hb8 (by simp [go_sem, *])
  have y8_2 : w.heap.size + 1 + 1 < w8.heap.size := cell?_lt x8_2_0
  have x8_3_0 : w8.cell? ⟨w4.heap.size, 0, none⟩ = some (.int .i64 p) := keep_cell hb8 (by simp [go_sem, *])
  have x8_3_1 : w8.cell? ⟨w4.heap.size, 1, none⟩ = some (.int .i64 q) := keep_cell hb8 (by simp [go_sem, *])
  have y8_3 : w4.heap.size < w8.heap.size := cell?_lt x8_3_0
  have x8_4_0 : w8.cell? ⟨w5.heap.size, 0, none⟩ = some (.int .i64 p) := keep_cell hb8 (by simp [go_sem, *])
  have x8_4_1 : w8.cell? ⟨w5.heap.size, 1, none⟩ = some (.int .i64 q) := keep_cell hb8 (by simp [go_sem, *])
  have y8_4 : w5.heap.size < w8.heap.size := cell?_lt x8_4_0
  have x8_5_0 : w8.cell? ⟨w6.heap.size, 0, none⟩ = some (.int .i64 r) := keep_cell hb8 (by simp [go_sem, *])
  have x8_5_1 : w8.cell? ⟨w6.heap.size, 1, none⟩ = some (.int .i64 s) := keep_cell hb8 (by simp [go_sem, *])
  have y8_5 : w6.heap.size < w8.heap.size := cell?_lt x8_5_0
  have x8_6_0 : w8.cell? ⟨w7.heap.size, 0, none⟩ = some (.int .i64 x) := keep_cell hb8 (by simp [go_sem, *])
  have x8_6_1 : w8.cell? ⟨w7.heap.size, 1, none⟩ = some (.int .i64 y) := keep_cell hb8 (by simp [go_sem, *])
  have y8_6 : w7.heap.size < w8.heap.size := cell?_lt x8_6_0
  have g8 : Below w.heap.size w w8 := by (repeat (first | exact Below.refl _ _ | refine Below.drew ?_ | refine Below.allocS ?_ _ | refine Below.step ?_ (by assumption) | refine Below.setCell ?_ (by simp <;> omega) _ | refine Below.drewN' ?_ _))
  clear hb8 g7 x7_0_0 x7_0_1 x7_1_0 x7_1_1 x7_2_0 x7_2_1 x7_3_0 x7_3_1 x7_4_0 x7_4_1 x7_5_0 x7_5_1 y7_0 y7_1 y7_2 y7_3 y7_4 y7_5
  go_upto_region 10 with fail
  go_cut [100] (fun s100 w9 => (s100 = .bool false) ∧ w9.cell? ⟨w.heap.size, 0, none⟩ = some (.int .i64 a) ∧ w9.cell? ⟨w.heap.size, 1, none⟩ = some (.int .i64 b) ∧ w9.cell? ⟨w.heap.size + 1, 0, none⟩ = some (.int .i64 c) ∧ w9.cell? ⟨w.heap.size + 1, 1, none⟩ = some (.int .i64 d) ∧ w9.cell? ⟨w.heap.size + 1 + 1, 0, none⟩ = some (.int .i64 e) ∧ w9.cell? ⟨w.heap.size + 1 + 1, 1, none⟩ = some (.int .i64 f) ∧ w9.cell? ⟨w4.heap.size, 0, none⟩ = some (.int .i64 p) ∧ w9.cell? ⟨w4.heap.size, 1, none⟩ = some (.int .i64 q) ∧ w9.cell? ⟨w5.heap.size, 0, none⟩ = some (.int .i64 p) ∧ w9.cell? ⟨w5.heap.size, 1, none⟩ = some (.int .i64 q) ∧ w9.cell? ⟨w6.heap.size, 0, none⟩ = some (.int .i64 r) ∧ w9.cell? ⟨w6.heap.size, 1, none⟩ = some (.int .i64 s) ∧ w9.cell? ⟨w7.heap.size, 0, none⟩ = some (.int .i64 x) ∧ w9.cell? ⟨w7.heap.size, 1, none⟩ = some (.int .i64 y) ∧ w9.cell? ⟨w8.heap.size, 0, none⟩ = some (.int .i64 u) ∧ w9.cell? ⟨w8.heap.size, 1, none⟩ = some (.int .i64 v) ∧ Below w.heap.size w w9)
  case first => as_aux_lemma =>
    by_cases z1 : e1 = 0
    · by_cases z2 : g1 = 0
      · by_cases z3 : k1 = 0
        · by_cases z4 : i1 = 0
          · obtain ⟨xu, yv⟩ := KA.out z1 z2 z3 z4
            subst z1 z2 z3 z4 xu yv
            go_wp2_with fail
            go_meet; exact ⟨rfl, (by simp [go_sem, *]), (by simp [go_sem, *]), (by simp [go_sem, *]), (by simp [go_sem, *]), (by simp [go_sem, *]), (by simp [go_sem, *]), (by simp [go_sem, *]), (by simp [go_sem, *]), (by simp [go_sem, *]), (by simp [go_sem, *]), (by simp [go_sem, *]), (by simp [go_sem, *]), (by simp [go_sem, *]), (by simp [go_sem, *]), (by simp [go_sem, *]), (by simp [go_sem, *]), by (repeat (first | exact Below.refl _ _ | refine Below.drew ?_ | refine Below.allocS ?_ _ | refine Below.step ?_ (by assumption) | refine Below.setCell ?_ (by simp <;> omega) _ | refine Below.drewN' ?_ _))⟩
          · have n4 : (i1 == 0) = false := by simpa using z4
            clear z4
            subst z1 z2 z3
            go_wp2_with fail
            go_meet; exact ⟨rfl, (by simp [go_sem, *]), (by simp [go_sem, *]), (by simp [go_sem, *]), (by simp [go_sem, *]), (by simp [go_sem, *]), (by simp [go_sem, *]), (by simp [go_sem, *]), (by simp [go_sem, *]), (by simp [go_sem, *]), (by simp [go_sem, *]), (by simp [go_sem, *]), (by simp [go_sem, *]), (by simp [go_sem, *]), (by simp [go_sem, *]), (by simp [go_sem, *]), (by simp [go_sem, *]), by (repeat (first | exact Below.refl _ _ | refine Below.drew ?_ | refine Below.allocS ?_ _ | refine Below.step ?_ (by assumption) | refine Below.setCell ?_ (by simp <;> omega) _ | refine Below.drewN' ?_ _))⟩
        · have n3 : (k1 == 0) = false := by simpa using z3
          clear z3
          subst z1 z2
          go_wp2_with fail
          go_meet; exact ⟨rfl, (by simp [go_sem, *]), (by simp [go_sem, *]), (by simp [go_sem, *]), (by simp [go_sem, *]), (by simp [go_sem, *]), (by simp [go_sem, *]), (by simp [go_sem, *]), (by simp [go_sem, *]), (by simp [go_sem, *]), (by simp [go_sem, *]), (by simp [go_sem, *]), (by simp [go_sem, *]), (by simp [go_sem, *]), (by simp [go_sem, *]), (by simp [go_sem, *]), (by simp [go_sem, *]), by (repeat (first | exact Below.refl _ _ | refine Below.drew ?_ | refine Below.allocS ?_ _ | refine Below.step ?_ (by assumption) | refine Below.setCell ?_ (by simp <;> omega) _ | refine Below.drewN' ?_ _))⟩
      · have n2 : (g1 == 0) = false := by simpa using z2
        clear z2
        subst z1
        go_wp2_with fail
        go_meet; exact ⟨rfl, (by simp [go_sem, *]), (by simp [go_sem, *]), (by simp [go_sem, *]), (by simp [go_sem, *]), (by simp [go_sem, *]), (by simp [go_sem, *]), (by simp [go_sem, *]), (by simp [go_sem, *]), (by simp [go_sem, *]), (by simp [go_sem, *]), (by simp [go_sem, *]), (by simp [go_sem, *]), (by simp [go_sem, *]), (by simp [go_sem, *]), (by simp [go_sem, *]), (by simp [go_sem, *]), by (repeat (first | exact Below.refl _ _ | refine Below.drew ?_ | refine Below.allocS ?_ _ | refine Below.step ?_ (by assumption) | refine Below.setCell ?_ (by simp <;> omega) _ | refine Below.drewN' ?_ _))⟩
    · have n1 : (e1 == 0) = false := by simpa using z1
      clear z1
      go_wp2_with fail
      go_meet; exact ⟨rfl, (by simp [go_sem, *]), (by simp [go_sem, *]), (by simp [go_sem, *]), (by simp [go_sem, *]), (by simp [go_sem, *]), (by simp [go_sem, *]), (by simp [go_sem, *]), (by simp [go_sem, *]), (by simp [go_sem, *]), (by simp [go_sem, *]), (by simp [go_sem, *]), (by simp [go_sem, *]), (by simp [go_sem, *]), (by simp [go_sem, *]), (by simp [go_sem, *]), (by simp [go_sem, *]), by (repeat (first | exact Below.refl _ _ | refine Below.drew ?_ | refine Below.allocS ?_ _ | refine Below.step ?_ (by assumption) | refine Below.setCell ?_ (by simp <;> omega) _ | refine Below.drewN' ?_ _))⟩
  case rest => as_aux_lemma =>
    clear g8 x8_0_0 x8_0_1 x8_1_0 x8_1_1 x8_2_0 x8_2_1 x8_3_0 x8_3_1 x8_4_0 x8_4_1 x8_5_0 x8_5_1 x8_6_0 x8_6_1 y8_0 y8_1 y8_2 y8_3 y8_4 y8_5 y8_6
    obtain ⟨c9, x9_0_0, x9_0_1, x9_1_0, x9_1_1, x9_2_0, x9_2_1, x9_3_0, x9_3_1, x9_4_0, x9_4_1, x9_5_0, x9_5_1, x9_6_0, x9_6_1, x9_7_0, x9_7_1, g9⟩ := hcut
    have y9_0 : w.heap.size < wc.heap.size := cell?_lt x9_0_0
    have y9_1 : w.heap.size + 1 < wc.heap.size := cell?_lt x9_1_0
    have y9_2 : w.heap.size + 1 + 1 < wc.heap.size := cell?_lt x9_2_0
    have y9_3 : w4.heap.size < wc.heap.size := cell?_lt x9_3_0
    have y9_4 : w5.heap.size < wc.heap.size := cell?_lt x9_4_0
    have y9_5 : w6.heap.size < wc.heap.size := cell?_lt x9_5_0
    have y9_6 : w7.heap.size < wc.heap.size := cell?_lt x9_6_0
    have y9_7 : w8.heap.size < wc.heap.size := cell?_lt x9_7_0
    subst c9
    go_wp2_with fail
    refine (H7.out _).mono ?_
    rintro e w10 ⟨rfl, hb10⟩
    have x10_0_0 : w10.cell? ⟨w.heap.size, 0, none⟩ = some (.int .i64 a) := keep_cell hb10 (by simp [go_sem, *])
    have x10_0_1 : w10.cell? ⟨w.heap.size, 1, none⟩ = some (.int .i64 b) := keep_cell hb10 (by simp [go_sem, *])
    have y10_0 : w.heap.size < w10.heap.size := cell?_lt x10_0_0
    have x10_1_0 : w10.cell? ⟨w.heap.size + 1, 0, none⟩ = some (.int .i64 c) := keep_cell hb10 (by simp [go_sem, *])
    have x10_1_1 : w10.cell? ⟨w.heap.size + 1, 1, none⟩ = some (.int .i64 d) := keep_cell hb10 (by simp [go_sem, *])
    have y10_1 : w.heap.size + 1 < w10.heap.size := cell?_lt x10_1_0
    have x10_2_0 : w10.cell? ⟨w.heap.size + 1 + 1, 0, none⟩ = some (.int .i64 e) := keep_cell hb10 (by simp [go_sem, *])
    have x10_2_1 : w10.cell? ⟨w.heap.size + 1 + 1, 1, none⟩ = some (.int .i64 f) := keep_cell hb10 (by simp [go_sem, *])
    have y10_2 : w.heap.size + 1 + 1 < w10.heap.size := cell?_lt x10_2_0
    have x10_3_0 : w10.cell? ⟨w4.heap.size, 0, none⟩ = some (.int .i64 p) := keep_cell hb10 (by simp [go_sem, *])
    have x10_3_1 : w10.cell? ⟨w4.heap.size, 1, none⟩ = some (.int .i64 q) := keep_cell hb10 (by simp [go_sem, *])
    have y10_3 : w4.heap.size < w10.heap.size := cell?_lt x10_3_0
    have x10_4_0 : w10.cell? ⟨w5.heap.size, 0, none⟩ = some (.int .i64 p) := keep_cell hb10 (by simp [go_sem, *])
    have x10_4_1 : w10.cell? ⟨w5.heap.size, 1, none⟩ = some (.int .i64 q) := keep_cell hb10 (by simp [go_sem, *])
    have y10_4 : w5.heap.size < w10.heap.size := cell?_lt x10_4_0
    have x10_5_0 : w10.cell? ⟨w6.heap.size, 0, none⟩ = some (.int .i64 r) := keep_cell hb10 (by simp [go_sem, *])
    have x10_5_1 : w10.cell? ⟨w6.heap.size, 1, none⟩ = some (.int .i64 s) := keep_cell hb10 (by simp [go_sem, *])
    have y10_5 : w6.heap.size < w10.heap.size := cell?_lt x10_5_0
    have x10_6_0 : w10.cell? ⟨w7.heap.size, 0, none⟩ = some (.int .i64 x) := keep_cell hb10 (by simp [go_sem, *])
    have x10_6_1 : w10.cell? ⟨w7.heap.size, 1, none⟩ = some (.int .i64 y) := keep_cell hb10 (by simp [go_sem, *])
    have y10_6 : w7.heap.size < w10.heap.size := cell?_lt x10_6_0
    have x10_7_0 : w10.cell? ⟨w8.heap.size, 0, none⟩ = some (.int .i64 u) := keep_cell hb10 (by simp [go_sem, *])
    have x10_7_1 : w10.cell? ⟨w8.heap.size, 1, none⟩ = some (.int .i64 v) := keep_cell hb10 (by simp [go_sem, *])
    have y10_7 : w8.heap.size < w10.heap.size := cell?_lt x10_7_0
    have g10 : Below w.heap.size w w10 := by (repeat (first | exact Below.refl _ _ | refine Below.drew ?_ | refine Below.allocS ?_ _ | refine Below.step ?_ (by assumption) | refine Below.setCell ?_ (by simp <;> omega) _ | refine Below.drewN' ?_ _))
    clear hb10 g9 x9_0_0 x9_0_1 x9_1_0 x9_1_1 x9_2_0 x9_2_1 x9_3_0 x9_3_1 x9_4_0 x9_4_1 x9_5_0 x9_5_1 x9_6_0 x9_6_1 x9_7_0 x9_7_1 y9_0 y9_1 y9_2 y9_3 y9_4 y9_5 y9_6 y9_7
    go_wp2_with fail
    refine (H8.out _).mono ?_
    rintro e w11 ⟨rfl, hb11⟩
    have x11_0_0 : w11.cell? ⟨w.heap.size, 0, none⟩ = some (.int .i64 a) := keep_cell hb11 (by simp [go_sem, *])
    have x11_0_1 : w11.cell? ⟨w.heap.size, 1, none⟩ = some (.int .i64 b) := keep_cell hb11 (by simp [go_sem, *])
    have y11_0 : w.heap.size < w11.heap.size := cell?_lt x11_0_0
    have x11_1_0 : w11.cell? ⟨w.heap.size + 1, 0, none⟩ = some (.int .i64 c) := keep_cell hb11 (by simp [go_sem, *])
    have x11_1_1 : w11.cell? ⟨w.heap.size + 1, 1, none⟩ = some (.int .i64 d) := keep_cell hb11 (by simp [go_sem, *])
    have y11_1 : w.heap.size + 1 < w11.heap.size := cell?_lt x11_1_0
    have x11_2_0 : w11.cell? ⟨w.heap.size + 1 + 1, 0, none⟩ = some (.int .i64 e) := keep_cell hb11 (by simp [go_sem, *])
    have x11_2_1 : w11.cell? ⟨w.heap.size + 1 + 1, 1, none⟩ = some (.int .i64 f) := keep_cell hb11 (by simp [go_sem, *])
    have y11_2 : w.heap.size + 1 + 1 < w11.heap.size := cell?_lt x11_2_0
    have x11_3_0 : w11.cell? ⟨w4.heap.size, 0, none⟩ = some (.int .i64 p) := keep_cell hb11 (by simp [go_sem, *])
    have x11_3_1 : w11.cell? ⟨w4.heap.size, 1, none⟩ = some (.int .i64 q) := keep_cell hb11 (by simp [go_sem, *])
    have y11_3 : w4.heap.size < w11.heap.size := cell?_lt x11_3_0
    have x11_4_0 : w11.cell? ⟨w5.heap.size, 0, none⟩ = some (.int .i64 p) := keep_cell hb11 (by simp [go_sem, *])
    have x11_4_1 : w11.cell? ⟨w5.heap.size, 1, none⟩ = some (.int .i64 q) := keep_cell hb11 (by simp [go_sem, *])
    have y11_4 : w5.heap.size < w11.heap.size := cell?_lt x11_4_0
    have x11_5_0 : w11.cell? ⟨w6.heap.size, 0, none⟩ = some (.int .i64 r) := keep_cell hb11 (by simp [go_sem, *])
    have x11_5_1 : w11.cell? ⟨w6.heap.size, 1, none⟩ = some (.int .i64 s) := keep_cell hb11 (by simp [go_sem, *])
    have y11_5 : w6.heap.size < w11.heap.size := cell?_lt x11_5_0
    have x11_6_0 : w11.cell? ⟨w7.heap.size, 0, none⟩ = some (.int .i64 x) := keep_cell hb11 (by simp [go_sem, *])
    have x11_6_1 : w11.cell? ⟨w7.heap.size, 1, none⟩ = some (.int .i64 y) := keep_cell hb11 (by simp [go_sem, *])
    have y11_6 : w7.heap.size < w11.heap.size := cell?_lt x11_6_0
    have x11_7_0 : w11.cell? ⟨w8.heap.size, 0, none⟩ = some (.int .i64 u) := keep_cell hb11 (by simp [go_sem, *])
    have x11_7_1 : w11.cell? ⟨w8.heap.size, 1, none⟩ = some (.int .i64 v) := keep_cell hb11 (by simp [go_sem, *])
    have y11_7 : w8.heap.size < w11.heap.size := cell?_lt x11_7_0
    have x11_8_0 : w11.cell? ⟨w10.heap.size, 0, none⟩ = some (.int .i64 r2) := keep_cell hb11 (by simp [go_sem, *])
    have x11_8_1 : w11.cell? ⟨w10.heap.size, 1, none⟩ = some (.int .i64 s2) := keep_cell hb11 (by simp [go_sem, *])
    have y11_8 : w10.heap.size < w11.heap.size := cell?_lt x11_8_0
    have g11 : Below w.heap.size w w11 := by (repeat (first | exact Below.refl _ _ | refine Below.drew ?_ | refine Below.allocS ?_ _ | refine Below.step ?_ (by assumption) | refine Below.setCell ?_ (by simp <;> omega) _ | refine Below.drewN' ?_ _))
    clear hb11 g10 x10_0_0 x10_0_1 x10_1_0 x10_1_1 x10_2_0 x10_2_1 x10_3_0 x10_3_1 x10_4_0 x10_4_1 x10_5_0 x10_5_1 x10_6_0 x10_6_1 x10_7_0 x10_7_1 y10_0 y10_1 y10_2 y10_3 y10_4 y10_5 y10_6 y10_7
    go_wp2_with fail
    refine (H9.out _).mono ?_
    rintro e w12 ⟨rfl, hb12⟩
    have x12_0_0 : w12.cell? ⟨w.heap.size, 0, none⟩ = some (.int .i64 a) := keep_cell hb12 (by simp [go_sem, *])
    have x12_0_1 : w12.cell? ⟨w.heap.size, 1, none⟩ = some (.int .i64 b) := keep_cell hb12 (by simp [go_sem, *])
    have y12_0 : w.heap.size < w12.heap.size := cell?_lt x12_0_0
    have x12_1_0 : w12.cell? ⟨w.heap.size + 1, 0, none⟩ = some (.int .i64 c) := keep_cell hb12 (by simp [go_sem, *])
    have x12_1_1 : w12.cell? ⟨w.heap.size + 1, 1, none⟩ = some (.int .i64 d) := keep_cell hb12 (by simp [go_sem, *])
    have y12_1 : w.heap.size + 1 < w12.heap.size := cell?_lt x12_1_0
    have x12_2_0 : w12.cell? ⟨w.heap.size + 1 + 1, 0, none⟩ = some (.int .i64 e) := keep_cell hb12 (by simp [go_sem, *])
    have x12_2_1 : w12.cell? ⟨w.heap.size + 1 + 1, 1, none⟩ = some (.int .i64 f) := keep_cell hb12 (by simp [go_sem, *])
    have y12_2 : w.heap.size + 1 + 1 < w12.heap.size := cell?_lt x12_2_0
    have x12_3_0 : w12.cell? ⟨w4.heap.size, 0, none⟩ = some (.int .i64 p) := keep_cell hb12 (by simp [go_sem, *])
    have x12_3_1 : w12.cell? ⟨w4.heap.size, 1, none⟩ = some (.int .i64 q) := keep_cell hb12 (by simp [go_sem, *])
    have y12_3 : w4.heap.size < w12.heap.size := cell?_lt x12_3_0
    have x12_4_0 : w12.cell? ⟨w5.heap.size, 0, none⟩ = some (.int .i64 p) := keep_cell hb12 (by simp [go_sem, *])
    have x12_4_1 : w12.cell? ⟨w5.heap.size, 1, none⟩ = some (.int .i64 q) := keep_cell hb12 (by simp [go_sem, *])
    have y12_4 : w5.heap.size < w12.heap.size := cell?_lt x12_4_0
    have x12_5_0 : w12.cell? ⟨w6.heap.size, 0, none⟩ = some (.int .i64 r) := keep_cell hb12 (by simp [go_sem, *])
    have x12_5_1 : w12.cell? ⟨w6.heap.size, 1, none⟩ = some (.int .i64 s) := keep_cell hb12 (by simp [go_sem, *])
    have y12_5 : w6.heap.size < w12.heap.size := cell?_lt x12_5_0
    have x12_6_0 : w12.cell? ⟨w7.heap.size, 0, none⟩ = some (.int .i64 x) := keep_cell hb12 (by simp [go_sem, *])
    have x12_6_1 : w12.cell? ⟨w7.heap.size, 1, none⟩ = some (.int .i64 y) := keep_cell hb12 (by simp [go_sem, *])
    have y12_6 : w7.heap.size < w12.heap.size := cell?_lt x12_6_0
    have x12_7_0 : w12.cell? ⟨w8.heap.size, 0, none⟩ = some (.int .i64 u) := keep_cell hb12 (by simp [go_sem, *])
    have x12_7_1 : w12.cell? ⟨w8.heap.size, 1, none⟩ = some (.int .i64 v) := keep_cell hb12 (by simp [go_sem, *])
    have y12_7 : w8.heap.size < w12.heap.size := cell?_lt x12_7_0
    have x12_8_0 : w12.cell? ⟨w10.heap.size, 0, none⟩ = some (.int .i64 r2) := keep_cell hb12 (by simp [go_sem, *])
    have x12_8_1 : w12.cell? ⟨w10.heap.size, 1, none⟩ = some (.int .i64 s2) := keep_cell hb12 (by simp [go_sem, *])
    have y12_8 : w10.heap.size < w12.heap.size := cell?_lt x12_8_0
    have x12_9_0 : w12.cell? ⟨w11.heap.size, 0, none⟩ = some (.int .i64 t2) := keep_cell hb12 (by simp [go_sem, *])
    have x12_9_1 : w12.cell? ⟨w11.heap.size, 1, none⟩ = some (.int .i64 o2) := keep_cell hb12 (by simp [go_sem, *])
    have y12_9 : w11.heap.size < w12.heap.size := cell?_lt x12_9_0
    have g12 : Below w.heap.size w w12 := by (repeat (first | exact Below.refl _ _ | refine Below.drew ?_ | refine Below.allocS ?_ _ | refine Below.step ?_ (by assumption) | refine Below.setCell ?_ (by simp <;> omega) _ | refine Below.drewN' ?_ _))
    clear hb12 g11 x11_0_0 x11_0_1 x11_1_0 x11_1_1 x11_2_0 x11_2_1 x11_3_0 x11_3_1 x11_4_0 x11_4_1 x11_5_0 x11_5_1 x11_6_0 x11_6_1 x11_7_0 x11_7_1 x11_8_0 x11_8_1 y11_0 y11_1 y11_2 y11_3 y11_4 y11_5 y11_6 y11_7 y11_8
    go_wp2_with fail
    refine (H10.out _).mono ?_
    rintro e w13 ⟨rfl, hb13⟩
    have x13_0_0 : w13.cell? ⟨w.heap.size, 0, none⟩ = some (.int .i64 a) := keep_cell hb13 (by simp [go_sem, *])
    have x13_0_1 : w13.cell? ⟨w.heap.size, 1, none⟩ = some (.int .i64 b) := keep_cell hb13 (by simp [go_sem, *])
    have y13_0 : w.heap.size < w13.heap.size := cell?_lt x13_0_0
    have x13_1_0 : w13.cell? ⟨w.heap.size + 1, 0, none⟩ = some (.int .i64 c) := keep_cell hb13 (by simp [go_sem, *])
    have x13_1_1 : w13.cell? ⟨w.heap.size + 1, 1, none⟩ = some (.int .i64 d) := keep_cell hb13 (by simp [go_sem, *])
    have y13_1 : w.heap.size + 1 < w13.heap.size := cell?_lt x13_1_0
    have x13_2_0 : w13.cell? ⟨w.heap.size + 1 + 1, 0, none⟩ = some (.int .i64 e) := keep_cell hb13 (by simp [go_sem, *])
    have x13_2_1 : w13.cell? ⟨w.heap.size + 1 + 1, 1, none⟩ = some (.int .i64 f) := keep_cell hb13 (by simp [go_sem, *])
    have y13_2 : w.heap.size + 1 + 1 < w13.heap.size := cell?_lt x13_2_0
    have x13_3_0 : w13.cell? ⟨w4.heap.size, 0, none⟩ = some (.int .i64 p) := keep_cell hb13 (by simp [go_sem, *])
    have x13_3_1 : w13.cell? ⟨w4.heap.size, 1, none⟩ = some (.int .i64 q) := keep_cell hb13 (by simp [go_sem, *])
    have y13_3 : w4.heap.size < w13.heap.size := cell?_lt x13_3_0
    have x13_4_0 : w13.cell? ⟨w5.heap.size, 0, none⟩ = some (.int .i64 p) := keep_cell hb13 (by simp [go_sem, *])
    have x13_4_1 : w13.cell? ⟨w5.heap.size, 1, none⟩ = some (.int .i64 q) := keep_cell hb13 (by simp [go_sem, *])
    have y13_4 : w5.heap.size < w13.heap.size := cell?_lt x13_4_0
    have x13_5_0 : w13.cell? ⟨w6.heap.size, 0, none⟩ = some (.int .i64 r) := keep_cell hb13 (by simp [go_sem, *])
    have x13_5_1 : w13.cell? ⟨w6.heap.size, 1, none⟩ = some (.int .i64 s) := keep_cell hb13 (by simp [go_sem, *])
    have y13_5 : w6.heap.size < w13.heap.size := cell?_lt x13_5_0
    have x13_6_0 : w13.cell? ⟨w7.heap.size, 0, none⟩ = some (.int .i64 x) := keep_cell hb13 (by simp [go_sem, *])
    have x13_6_1 : w13.cell? ⟨w7.heap.size, 1, none⟩ = some (.int .i64 y) := keep_cell hb13 (by simp [go_sem, *])
    have y13_6 : w7.heap.size < w13.heap.size := cell?_lt x13_6_0
    have x13_7_0 : w13.cell? ⟨w8.heap.size, 0, none⟩ = some (.int .i64 u) := keep_cell hb13 (by simp [go_sem, *])
    have x13_7_1 : w13.cell? ⟨w8.heap.size, 1, none⟩ = some (.int .i64 v) := keep_cell hb13 (by simp [go_sem, *])
    have y13_7 : w8.heap.size < w13.heap.size := cell?_lt x13_7_0
    have x13_8_0 : w13.cell? ⟨w10.heap.size, 0, none⟩ = some (.int .i64 r2) := keep_cell hb13 (by simp [go_sem, *])
    have x13_8_1 : w13.cell? ⟨w10.heap.size, 1, none⟩ = some (.int .i64 s2) := keep_cell hb13 (by simp [go_sem, *])
    have y13_8 : w10.heap.size < w13.heap.size := cell?_lt x13_8_0
    have x13_9_0 : w13.cell? ⟨w11.heap.size, 0, none⟩ = some (.int .i64 t2) := keep_cell hb13 (by simp [go_sem, *])
    have x13_9_1 : w13.cell? ⟨w11.heap.size, 1, none⟩ = some (.int .i64 o2) := keep_cell hb13 (by simp [go_sem, *])
    have y13_9 : w11.heap.size < w13.heap.size := cell?_lt x13_9_0
    have x13_10_0 : w13.cell? ⟨w12.heap.size, 0, none⟩ = some (.int .i64 x2) := keep_cell hb13 (by simp [go_sem, *])
    have x13_10_1 : w13.cell? ⟨w12.heap.size, 1, none⟩ = some (.int .i64 y2) := keep_cell hb13 (by simp [go_sem, *])
    have y13_10 : w12.heap.size < w13.heap.size := cell?_lt x13_10_0
    have g13 : Below w.heap.size w w13 := by (repeat (first | exact Below.refl _ _ | refine Below.drew ?_ | refine Below.allocS ?_ _ | refine Below.step ?_ (by assumption) | refine Below.setCell ?_ (by simp <;> omega) _ | refine Below.drewN' ?_ _))
    clear hb13 g12 x12_0_0 x12_0_1 x12_1_0 x12_1_1 x12_2_0 x12_2_1 x12_3_0 x12_3_1 x12_4_0 x12_4_1 x12_5_0 x12_5_1 x12_6_0 x12_6_1 x12_7_0 x12_7_1 x12_8_0 x12_8_1 x12_9_0 x12_9_1 y12_0 y12_1 y12_2 y12_3 y12_4 y12_5 y12_6 y12_7 y12_8 y12_9
    go_upto_region 16 with fail
    go_cut [147] (fun s147 w14 => (s147 = .bool false) ∧ w14.cell? ⟨w.heap.size, 0, none⟩ = some (.int .i64 a) ∧ w14.cell? ⟨w.heap.size, 1, none⟩ = some (.int .i64 b) ∧ w14.cell? ⟨w.heap.size + 1, 0, none⟩ = some (.int .i64 c) ∧ w14.cell? ⟨w.heap.size + 1, 1, none⟩ = some (.int .i64 d) ∧ w14.cell? ⟨w.heap.size + 1 + 1, 0, none⟩ = some (.int .i64 e) ∧ w14.cell? ⟨w.heap.size + 1 + 1, 1, none⟩ = some (.int .i64 f) ∧ w14.cell? ⟨w4.heap.size, 0, none⟩ = some (.int .i64 p) ∧ w14.cell? ⟨w4.heap.size, 1, none⟩ = some (.int .i64 q) ∧ w14.cell? ⟨w5.heap.size, 0, none⟩ = some (.int .i64 p) ∧ w14.cell? ⟨w5.heap.size, 1, none⟩ = some (.int .i64 q) ∧ w14.cell? ⟨w6.heap.size, 0, none⟩ = some (.int .i64 r) ∧ w14.cell? ⟨w6.heap.size, 1, none⟩ = some (.int .i64 s) ∧ w14.cell? ⟨w7.heap.size, 0, none⟩ = some (.int .i64 x) ∧ w14.cell? ⟨w7.heap.size, 1, none⟩ = some (.int .i64 y) ∧ w14.cell? ⟨w8.heap.size, 0, none⟩ = some (.int .i64 u) ∧ w14.cell? ⟨w8.heap.size, 1, none⟩ = some (.int .i64 v) ∧ w14.cell? ⟨w10.heap.size, 0, none⟩ = some (.int .i64 r2) ∧ w14.cell? ⟨w10.heap.size, 1, none⟩ = some (.int .i64 s2) ∧ w14.cell? ⟨w11.heap.size, 0, none⟩ = some (.int .i64 t2) ∧ w14.cell? ⟨w11.heap.size, 1, none⟩ = some (.int .i64 o2) ∧ w14.cell? ⟨w12.heap.size, 0, none⟩ = some (.int .i64 x2) ∧ w14.cell? ⟨w12.heap.size, 1, none⟩ = some (.int .i64 y2) ∧ w14.cell? ⟨w13.heap.size, 0, none⟩ = some (.int .i64 u2) ∧ w14.cell? ⟨w13.heap.size, 1, none⟩ = some (.int .i64 v2) ∧ Below w.heap.size w w14)
    case first => as_aux_lemma =>
      by_cases z1 : e1 = 0
      · by_cases z2 : j1 = 0
        · by_cases z3 : k2 = 0
          · by_cases z4 : m1 = 0
            · by_cases z5 : n1 = 0
              · obtain ⟨xu, yv⟩ := KD.out z1 z2 z3 z4 z5
                subst z1 z2 z3 z4 z5 xu yv
                go_wp2_with fail
                go_meet; exact ⟨rfl, (by simp [go_sem, *]), (by simp [go_sem, *]), (by simp [go_sem, *]), (by simp [go_sem, *]), (by simp [go_sem, *]), (by simp [go_sem, *]), (by simp [go_sem, *]), (by simp [go_sem, *]), (by simp [go_sem, *]), (by simp [go_sem, *]), (by simp [go_sem, *]), (by simp [go_sem, *]), (by simp [go_sem, *]), (by simp [go_sem, *]), (by simp [go_sem, *]), (by simp [go_sem, *]), (by simp [go_sem, *]), (by simp [go_sem, *]), (by simp [go_sem, *]), (by simp [go_sem, *]), (by simp [go_sem, *]), (by simp [go_sem, *]), (by simp [go_sem, *]), (by simp [go_sem, *]), by (repeat (first | exact Below.refl _ _ | refine Below.drew ?_ | refine Below.allocS ?_ _ | refine Below.step ?_ (by assumption) | refine Below.setCell ?_ (by simp <;> omega) _ | refine Below.drewN' ?_ _))⟩
              · have n5 : (n1 == 0) = false := by simpa using z5
                clear z5
                subst z1 z2 z3 z4
                go_wp2_with fail
                go_meet; exact ⟨rfl, (by simp [go_sem, *]), (by simp [go_sem, *]), (by simp [go_sem, *]), (by simp [go_sem, *]), (by simp [go_sem, *]), (by simp [go_sem, *]), (by simp [go_sem, *]), (by simp [go_sem, *]), (by simp [go_sem, *]), (by simp [go_sem, *]), (by simp [go_sem, *]), (by simp [go_sem, *]), (by simp [go_sem, *]), (by simp [go_sem, *]), (by simp [go_sem, *]), (by simp [go_sem, *]), (by simp [go_sem, *]), (by simp [go_sem, *]), (by simp [go_sem, *]), (by simp [go_sem, *]), (by simp [go_sem, *]), (by simp [go_sem, *]), (by simp [go_sem, *]), (by simp [go_sem, *]), by (repeat (first | exact Below.refl _ _ | refine Below.drew ?_ | refine Below.allocS ?_ _ | refine Below.step ?_ (by assumption) | refine Below.setCell ?_ (by simp <;> omega) _ | refine Below.drewN' ?_ _))⟩
            · have n4 : (m1 == 0) = false := by simpa using z4
              clear z4
              subst z1 z2 z3
              go_wp2_with fail
              go_meet; exact ⟨rfl, (by simp [go_sem, *]), (by simp [go_sem, *]), (by simp [go_sem, *]), (by simp [go_sem, *]), (by simp [go_sem, *]), (by simp [go_sem, *]), (by simp [go_sem, *]), (by simp [go_sem, *]), (by simp [go_sem, *]), (by simp [go_sem, *]), (by simp [go_sem, *]), (by simp [go_sem, *]), (by simp [go_sem, *]), (by simp [go_sem, *]), (by simp [go_sem, *]), (by simp [go_sem, *]), (by simp [go_sem, *]), (by simp [go_sem, *]), (by simp [go_sem, *]), (by simp [go_sem, *]), (by simp [go_sem, *]), (by simp [go_sem, *]), (by simp [go_sem, *]), (by simp [go_sem, *]), by (repeat (first | exact Below.refl _ _ | refine Below.drew ?_ | refine Below.allocS ?_ _ | refine Below.step ?_ (by assumption) | refine Below.setCell ?_ (by simp <;> omega) _ | refine Below.drewN' ?_ _))⟩
          · have n3 : (k2 == 0) = false := by simpa using z3
            clear z3
            subst z1 z2
            go_wp2_with fail
            go_meet; exact ⟨rfl, (by simp [go_sem, *]), (by simp [go_sem, *]), (by simp [go_sem, *]), (by simp [go_sem, *]), (by simp [go_sem, *]), (by simp [go_sem, *]), (by simp [go_sem, *]), (by simp [go_sem, *]), (by simp [go_sem, *]), (by simp [go_sem, *]), (by simp [go_sem, *]), (by simp [go_sem, *]), (by simp [go_sem, *]), (by simp [go_sem, *]), (by simp [go_sem, *]), (by simp [go_sem, *]), (by simp [go_sem, *]), (by simp [go_sem, *]), (by simp [go_sem, *]), (by simp [go_sem, *]), (by simp [go_sem, *]), (by simp [go_sem, *]), (by simp [go_sem, *]), (by simp [go_sem, *]), by (repeat (first | exact Below.refl _ _ | refine Below.drew ?_ | refine Below.allocS ?_ _ | refine Below.step ?_ (by assumption) | refine Below.setCell ?_ (by simp <;> omega) _ | refine Below.drewN' ?_ _))⟩
        · have n2 : (j1 == 0) = false := by simpa using z2
          clear z2
          subst z1
          go_wp2_with fail
          go_meet; exact ⟨rfl, (by simp [go_sem, *]), (by simp [go_sem, *]), (by simp [go_sem, *]), (by simp [go_sem, *]), (by simp [go_sem, *]), (by simp [go_sem, *]), (by simp [go_sem, *]), (by simp [go_sem, *]), (by simp [go_sem, *]), (by simp [go_sem, *]), (by simp [go_sem, *]), (by simp [go_sem, *]), (by simp [go_sem, *]), (by simp [go_sem, *]), (by simp [go_sem, *]), (by simp [go_sem, *]), (by simp [go_sem, *]), (by simp [go_sem, *]), (by simp [go_sem, *]), (by simp [go_sem, *]), (by simp [go_sem, *]), (by simp [go_sem, *]), (by simp [go_sem, *]), (by simp [go_sem, *]), by (repeat (first | exact Below.refl _ _ | refine Below.drew ?_ | refine Below.allocS ?_ _ | refine Below.step ?_ (by assumption) | refine Below.setCell ?_ (by simp <;> omega) _ | refine Below.drewN' ?_ _))⟩
      · have n1 : (e1 == 0) = false := by simpa using z1
        clear z1
        go_wp2_with fail
        go_meet; exact ⟨rfl, (by simp [go_sem, *]), (by simp [go_sem, *]), (by simp [go_sem, *]), (by simp [go_sem, *]), (by simp [go_sem, *]), (by simp [go_sem, *]), (by simp [go_sem, *]), (by simp [go_sem, *]), (by simp [go_sem, *]), (by simp [go_sem, *]), (by simp [go_sem, *]), (by simp [go_sem, *]), (by simp [go_sem, *]), (by simp [go_sem, *]), (by simp [go_sem, *]), (by simp [go_sem, *]), (by simp [go_sem, *]), (by simp [go_sem, *]), (by simp [go_sem, *]), (by simp [go_sem, *]), (by simp [go_sem, *]), (by simp [go_sem, *]), (by simp [go_sem, *]), (by simp [go_sem, *]), by (repeat (first | exact Below.refl _ _ | refine Below.drew ?_ | refine Below.allocS ?_ _ | refine Below.step ?_ (by assumption) | refine Below.setCell ?_ (by simp <;> omega) _ | refine Below.drewN' ?_ _))⟩
    case rest => as_aux_lemma =>
      clear g13 x13_0_0 x13_0_1 x13_1_0 x13_1_1 x13_2_0 x13_2_1 x13_3_0 x13_3_1 x13_4_0 x13_4_1 x13_5_0 x13_5_1 x13_6_0 x13_6_1 x13_7_0 x13_7_1 x13_8_0 x13_8_1 x13_9_0 x13_9_1 x13_10_0 x13_10_1 y13_0 y13_1 y13_2 y13_3 y13_4 y13_5 y13_6 y13_7 y13_8 y13_9 y13_10
      obtain ⟨c14, x14_0_0, x14_0_1, x14_1_0, x14_1_1, x14_2_0, x14_2_1, x14_3_0, x14_3_1, x14_4_0, x14_4_1, x14_5_0, x14_5_1, x14_6_0, x14_6_1, x14_7_0, x14_7_1, x14_8_0, x14_8_1, x14_9_0, x14_9_1, x14_10_0, x14_10_1, x14_11_0, x14_11_1, g14⟩ := hcut
      have y14_0 : w.heap.size < wc.heap.size := cell?_lt x14_0_0
      have y14_1 : w.heap.size + 1 < wc.heap.size := cell?_lt x14_1_0
      have y14_2 : w.heap.size + 1 + 1 < wc.heap.size := cell?_lt x14_2_0
      have y14_3 : w4.heap.size < wc.heap.size := cell?_lt x14_3_0
      have y14_4 : w5.heap.size < wc.heap.size := cell?_lt x14_4_0
      have y14_5 : w6.heap.size < wc.heap.size := cell?_lt x14_5_0
      have y14_6 : w7.heap.size < wc.heap.size := cell?_lt x14_6_0
      have y14_7 : w8.heap.size < wc.heap.size := cell?_lt x14_7_0
      have y14_8 : w10.heap.size < wc.heap.size := cell?_lt x14_8_0
      have y14_9 : w11.heap.size < wc.heap.size := cell?_lt x14_9_0
      have y14_10 : w12.heap.size < wc.heap.size := cell?_lt x14_10_0
      have y14_11 : w13.heap.size < wc.heap.size := cell?_lt x14_11_0
      subst c14
      go_wp2_with fail
      refine region_below (by kernel_rfl) (by kernel_rfl) ?_
      (first | go_big_quiet_skip | (go_big_quiet_want; refine quiet_val (v := ?_) ?_ ?_; rotate_left 1; (· (intro Wq hWq; obtain ⟨hWc, hWf⟩ := bcell hWq; go_simp; (try with_reducible rfl))); go_big_quiet_on; (try simp only [Act.put, List.setIfInBounds_toArray, List.set_cons_zero, List.set_cons_succ])))
      (first | go_big_quiet_skip | (go_big_quiet_want; refine quiet_val (v := ?_) ?_ ?_; rotate_left 1; (· (intro Wq hWq; obtain ⟨hWc, hWf⟩ := bcell hWq; go_simp; (try with_reducible rfl))); go_big_quiet_on; (try simp only [Act.put, List.setIfInBounds_toArray, List.set_cons_zero, List.set_cons_succ])))
      go_big_quiet_want; refine quiet_callB (f := 54) (args := ?_) (v := ?_) ?_ ?_ ?_; rotate_left 2
      · (intro Wq hWq; obtain ⟨hWc, hWf⟩ := bcell hWq; go_simp; (first | with_reducible rfl | exact ⟨rfl, rfl⟩))
      · (intro Wq hWq; exact H11.out _)
      go_big_quiet_on; (try simp only [Act.put, List.setIfInBounds_toArray, List.set_cons_zero, List.set_cons_succ])
      (first | go_big_quiet_skip | (go_big_quiet_want; refine quiet_val (v := ?_) ?_ ?_; rotate_left 1; (· (intro Wq hWq; obtain ⟨hWc, hWf⟩ := bcell hWq; go_simp; (try with_reducible rfl))); go_big_quiet_on; (try simp only [Act.put, List.setIfInBounds_toArray, List.set_cons_zero, List.set_cons_succ])))
      (first | go_big_quiet_skip | (go_big_quiet_want; refine quiet_val (v := ?_) ?_ ?_; rotate_left 1; (· (intro Wq hWq; obtain ⟨hWc, hWf⟩ := bcell hWq; go_simp; (try with_reducible rfl))); go_big_quiet_on; (try simp only [Act.put, List.setIfInBounds_toArray, List.set_cons_zero, List.set_cons_succ])))
      go_big_quiet_want; refine quiet_callB (f := 54) (args := ?_) (v := ?_) ?_ ?_ ?_; rotate_left 2
      · (intro Wq hWq; obtain ⟨hWc, hWf⟩ := bcell hWq; go_simp; (first | with_reducible rfl | exact ⟨rfl, rfl⟩))
      · (intro Wq hWq; exact H12.out _)
      go_big_quiet_on; (try simp only [Act.put, List.setIfInBounds_toArray, List.set_cons_zero, List.set_cons_succ])
      (first | go_big_quiet_skip | (go_big_quiet_want; refine quiet_val (v := ?_) ?_ ?_; rotate_left 1; (· (intro Wq hWq; obtain ⟨hWc, hWf⟩ := bcell hWq; go_simp; (try with_reducible rfl))); go_big_quiet_on; (try simp only [Act.put, List.setIfInBounds_toArray, List.set_cons_zero, List.set_cons_succ])))
      (first | go_big_quiet_skip | (go_big_quiet_want; refine quiet_val (v := ?_) ?_ ?_; rotate_left 1; (· (intro Wq hWq; obtain ⟨hWc, hWf⟩ := bcell hWq; go_simp; (try with_reducible rfl))); go_big_quiet_on; (try simp only [Act.put, List.setIfInBounds_toArray, List.set_cons_zero, List.set_cons_succ])))
      go_big_quiet_want; refine quiet_callB (f := 54) (args := ?_) (v := ?_) ?_ ?_ ?_; rotate_left 2
      · (intro Wq hWq; obtain ⟨hWc, hWf⟩ := bcell hWq; go_simp; (first | with_reducible rfl | exact ⟨rfl, rfl⟩))
      · (intro Wq hWq; exact H13.out _)
      go_big_quiet_on; (try simp only [Act.put, List.setIfInBounds_toArray, List.set_cons_zero, List.set_cons_succ])
      (first | go_big_quiet_skip | (go_big_quiet_want; refine quiet_val (v := ?_) ?_ ?_; rotate_left 1; (· (intro Wq hWq; obtain ⟨hWc, hWf⟩ := bcell hWq; go_simp; (try with_reducible rfl))); go_big_quiet_on; (try simp only [Act.put, List.setIfInBounds_toArray, List.set_cons_zero, List.set_cons_succ])))
      (first | go_big_quiet_skip | (go_big_quiet_want; refine quiet_val (v := ?_) ?_ ?_; rotate_left 1; (· (intro Wq hWq; obtain ⟨hWc, hWf⟩ := bcell hWq; go_simp; (try with_reducible rfl))); go_big_quiet_on; (try simp only [Act.put, List.setIfInBounds_toArray, List.set_cons_zero, List.set_cons_succ])))
      (first | go_big_quiet_skip | (go_big_quiet_want; refine quiet_val (v := ?_) ?_ ?_; rotate_left 1; (· (intro Wq hWq; obtain ⟨hWc, hWf⟩ := bcell hWq; go_simp; (try with_reducible rfl))); go_big_quiet_on; (try simp only [Act.put, List.setIfInBounds_toArray, List.set_cons_zero, List.set_cons_succ])))
      refine wpQuiet_nil ?_; intro w15 hb15
      have x15_0_0 : w15.cell? ⟨w.heap.size, 0, none⟩ = some (.int .i64 a) := keep_cell hb15 (by simp [go_sem, *])
      have x15_0_1 : w15.cell? ⟨w.heap.size, 1, none⟩ = some (.int .i64 b) := keep_cell hb15 (by simp [go_sem, *])
      have y15_0 : w.heap.size < w15.heap.size := cell?_lt x15_0_0
      have x15_1_0 : w15.cell? ⟨w.heap.size + 1, 0, none⟩ = some (.int .i64 c) := keep_cell hb15 (by simp [go_sem, *])
      have x15_1_1 : w15.cell? ⟨w.heap.size + 1, 1, none⟩ = some (.int .i64 d) := keep_cell hb15 (by simp [go_sem, *])
      have y15_1 : w.heap.size + 1 < w15.heap.size := cell?_lt x15_1_0
      have x15_2_0 : w15.cell? ⟨w.heap.size + 1 + 1, 0, none⟩ = some (.int .i64 e) := keep_cell hb15 (by simp [go_sem, *])
      have x15_2_1 : w15.cell? ⟨w.heap.size + 1 + 1, 1, none⟩ = some (.int .i64 f) := keep_cell hb15 (by simp [go_sem, *])
      have y15_2 : w.heap.size + 1 + 1 < w15.heap.size := cell?_lt x15_2_0
      have g15 : Below w.heap.size w w15 := by (repeat (first | exact Below.refl _ _ | refine Below.drew ?_ | refine Below.allocS ?_ _ | refine Below.step ?_ (by assumption) | refine Below.setCell ?_ (by simp <;> omega) _ | refine Below.drewN' ?_ _))
      clear hb15
      go_upto_region 19 with fail
      go_cut [194] (fun s194 w16 => (s194 = .bool false) ∧ w16.cell? ⟨w.heap.size, 0, none⟩ = some (.int .i64 a) ∧ w16.cell? ⟨w.heap.size, 1, none⟩ = some (.int .i64 b) ∧ w16.cell? ⟨w.heap.size + 1, 0, none⟩ = some (.int .i64 c) ∧ w16.cell? ⟨w.heap.size + 1, 1, none⟩ = some (.int .i64 d) ∧ w16.cell? ⟨w.heap.size + 1 + 1, 0, none⟩ = some (.int .i64 e) ∧ w16.cell? ⟨w.heap.size + 1 + 1, 1, none⟩ = some (.int .i64 f) ∧ Below w.heap.size w w16)
      case first => as_aux_lemma =>
        have KT1 := KT.out
        obtain ⟨KT1, KT2⟩ := KT1
        have KC1 := KC.out
        rcases K1.out with hP | hP | hP
        · subst hP
          rw [show - (-1 : Int) = 1 from rfl] at H14
          have KT3 := KT1 (by omega)
          clear KT1 KT2
          by_cases hac : a = c
          · have hbd : (b == d) = false := by
              rw [beq_eq_false_iff_ne]; intro h; have := KC1.2 ⟨hac, h⟩; omega
            have hac' : (a == c) = true := by simpa using hac
            clear KC1 hac
            by_cases hq : Q ≤ 0
            · have d1 := decide_eq_true hq
              have d2 := decide_eq_false (show ¬ 0 < R by have := KT3 hq; omega)
              clear KT3
              go_wp2_with fail
              refine (H14.out _).mono ?_
              rintro e w161 ⟨rfl, hb161⟩
              have x161_0_0 : w161.cell? ⟨w.heap.size, 0, none⟩ = some (.int .i64 a) := keep_cell hb161 (by simp [go_sem, *])
              have x161_0_1 : w161.cell? ⟨w.heap.size, 1, none⟩ = some (.int .i64 b) := keep_cell hb161 (by simp [go_sem, *])
              have y161_0 : w.heap.size < w161.heap.size := cell?_lt x161_0_0
              have x161_1_0 : w161.cell? ⟨w.heap.size + 1, 0, none⟩ = some (.int .i64 c) := keep_cell hb161 (by simp [go_sem, *])
              have x161_1_1 : w161.cell? ⟨w.heap.size + 1, 1, none⟩ = some (.int .i64 d) := keep_cell hb161 (by simp [go_sem, *])
              have y161_1 : w.heap.size + 1 < w161.heap.size := cell?_lt x161_1_0
              have x161_2_0 : w161.cell? ⟨w.heap.size + 1 + 1, 0, none⟩ = some (.int .i64 e) := keep_cell hb161 (by simp [go_sem, *])
              have x161_2_1 : w161.cell? ⟨w.heap.size + 1 + 1, 1, none⟩ = some (.int .i64 f) := keep_cell hb161 (by simp [go_sem, *])
              have y161_2 : w.heap.size + 1 + 1 < w161.heap.size := cell?_lt x161_2_0
              have g161 : Below w.heap.size w w161 := by (repeat (first | exact Below.refl _ _ | refine Below.drew ?_ | refine Below.allocS ?_ _ | refine Below.step ?_ (by assumption) | refine Below.setCell ?_ (by simp <;> omega) _ | refine Below.drewN' ?_ _))
              clear hb161 g15 x15_0_0 x15_0_1 x15_1_0 x15_1_1 x15_2_0 x15_2_1 y15_0 y15_1 y15_2
              go_wp2_with fail
              go_meet; exact ⟨rfl, (by simp [go_sem, *]), (by simp [go_sem, *]), (by simp [go_sem, *]), (by simp [go_sem, *]), (by simp [go_sem, *]), (by simp [go_sem, *]), by (repeat (first | exact Below.refl _ _ | refine Below.drew ?_ | refine Below.allocS ?_ _ | refine Below.step ?_ (by assumption) | refine Below.setCell ?_ (by simp <;> omega) _ | refine Below.drewN' ?_ _))⟩
            · have d1 := decide_eq_false hq
              clear KT3
              go_wp2_with fail
              refine (H14.out _).mono ?_
              rintro e w161 ⟨rfl, hb161⟩
              have x161_0_0 : w161.cell? ⟨w.heap.size, 0, none⟩ = some (.int .i64 a) := keep_cell hb161 (by simp [go_sem, *])
              have x161_0_1 : w161.cell? ⟨w.heap.size, 1, none⟩ = some (.int .i64 b) := keep_cell hb161 (by simp [go_sem, *])
              have y161_0 : w.heap.size < w161.heap.size := cell?_lt x161_0_0
              have x161_1_0 : w161.cell? ⟨w.heap.size + 1, 0, none⟩ = some (.int .i64 c) := keep_cell hb161 (by simp [go_sem, *])
              have x161_1_1 : w161.cell? ⟨w.heap.size + 1, 1, none⟩ = some (.int .i64 d) := keep_cell hb161 (by simp [go_sem, *])
              have y161_1 : w.heap.size + 1 < w161.heap.size := cell?_lt x161_1_0
              have x161_2_0 : w161.cell? ⟨w.heap.size + 1 + 1, 0, none⟩ = some (.int .i64 e) := keep_cell hb161 (by simp [go_sem, *])
              have x161_2_1 : w161.cell? ⟨w.heap.size + 1 + 1, 1, none⟩ = some (.int .i64 f) := keep_cell hb161 (by simp [go_sem, *])
              have y161_2 : w.heap.size + 1 + 1 < w161.heap.size := cell?_lt x161_2_0
              have g161 : Below w.heap.size w w161 := by (repeat (first | exact Below.refl _ _ | refine Below.drew ?_ | refine Below.allocS ?_ _ | refine Below.step ?_ (by assumption) | refine Below.setCell ?_ (by simp <;> omega) _ | refine Below.drewN' ?_ _))
              clear hb161 g15 x15_0_0 x15_0_1 x15_1_0 x15_1_1 x15_2_0 x15_2_1 y15_0 y15_1 y15_2
              go_wp2_with fail
              go_meet; exact ⟨rfl, (by simp [go_sem, *]), (by simp [go_sem, *]), (by simp [go_sem, *]), (by simp [go_sem, *]), (by simp [go_sem, *]), (by simp [go_sem, *]), by (repeat (first | exact Below.refl _ _ | refine Below.drew ?_ | refine Below.allocS ?_ _ | refine Below.step ?_ (by assumption) | refine Below.setCell ?_ (by simp <;> omega) _ | refine Below.drewN' ?_ _))⟩
          · have hac' : (a == c) = false := by simpa using hac
            clear KC1 hac
            by_cases hq : Q ≤ 0
            · have d1 := decide_eq_true hq
              have d2 := decide_eq_false (show ¬ 0 < R by have := KT3 hq; omega)
              clear KT3
              go_wp2_with fail
              refine (H14.out _).mono ?_
              rintro e w161 ⟨rfl, hb161⟩
              have x161_0_0 : w161.cell? ⟨w.heap.size, 0, none⟩ = some (.int .i64 a) := keep_cell hb161 (by simp [go_sem, *])
              have x161_0_1 : w161.cell? ⟨w.heap.size, 1, none⟩ = some (.int .i64 b) := keep_cell hb161 (by simp [go_sem, *])
              have y161_0 : w.heap.size < w161.heap.size := cell?_lt x161_0_0
              have x161_1_0 : w161.cell? ⟨w.heap.size + 1, 0, none⟩ = some (.int .i64 c) := keep_cell hb161 (by simp [go_sem, *])
              have x161_1_1 : w161.cell? ⟨w.heap.size + 1, 1, none⟩ = some (.int .i64 d) := keep_cell hb161 (by simp [go_sem, *])
              have y161_1 : w.heap.size + 1 < w161.heap.size := cell?_lt x161_1_0
              have x161_2_0 : w161.cell? ⟨w.heap.size + 1 + 1, 0, none⟩ = some (.int .i64 e) := keep_cell hb161 (by simp [go_sem, *])
              have x161_2_1 : w161.cell? ⟨w.heap.size + 1 + 1, 1, none⟩ = some (.int .i64 f) := keep_cell hb161 (by simp [go_sem, *])
              have y161_2 : w.heap.size + 1 + 1 < w161.heap.size := cell?_lt x161_2_0
              have g161 : Below w.heap.size w w161 := by (repeat (first | exact Below.refl _ _ | refine Below.drew ?_ | refine Below.allocS ?_ _ | refine Below.step ?_ (by assumption) | refine Below.setCell ?_ (by simp <;> omega) _ | refine Below.drewN' ?_ _))
              clear hb161 g15 x15_0_0 x15_0_1 x15_1_0 x15_1_1 x15_2_0 x15_2_1 y15_0 y15_1 y15_2
              go_wp2_with fail
              go_meet; exact ⟨rfl, (by simp [go_sem, *]), (by simp [go_sem, *]), (by simp [go_sem, *]), (by simp [go_sem, *]), (by simp [go_sem, *]), (by simp [go_sem, *]), by (repeat (first | exact Below.refl _ _ | refine Below.drew ?_ | refine Below.allocS ?_ _ | refine Below.step ?_ (by assumption) | refine Below.setCell ?_ (by simp <;> omega) _ | refine Below.drewN' ?_ _))⟩
            · have d1 := decide_eq_false hq
              clear KT3
              go_wp2_with fail
              refine (H14.out _).mono ?_
              rintro e w161 ⟨rfl, hb161⟩
              have x161_0_0 : w161.cell? ⟨w.heap.size, 0, none⟩ = some (.int .i64 a) := keep_cell hb161 (by simp [go_sem, *])
              have x161_0_1 : w161.cell? ⟨w.heap.size, 1, none⟩ = some (.int .i64 b) := keep_cell hb161 (by simp [go_sem, *])
              have y161_0 : w.heap.size < w161.heap.size := cell?_lt x161_0_0
              have x161_1_0 : w161.cell? ⟨w.heap.size + 1, 0, none⟩ = some (.int .i64 c) := keep_cell hb161 (by simp [go_sem, *])
              have x161_1_1 : w161.cell? ⟨w.heap.size + 1, 1, none⟩ = some (.int .i64 d) := keep_cell hb161 (by simp [go_sem, *])
              have y161_1 : w.heap.size + 1 < w161.heap.size := cell?_lt x161_1_0
              have x161_2_0 : w161.cell? ⟨w.heap.size + 1 + 1, 0, none⟩ = some (.int .i64 e) := keep_cell hb161 (by simp [go_sem, *])
              have x161_2_1 : w161.cell? ⟨w.heap.size + 1 + 1, 1, none⟩ = some (.int .i64 f) := keep_cell hb161 (by simp [go_sem, *])
              have y161_2 : w.heap.size + 1 + 1 < w161.heap.size := cell?_lt x161_2_0
              have g161 : Below w.heap.size w w161 := by (repeat (first | exact Below.refl _ _ | refine Below.drew ?_ | refine Below.allocS ?_ _ | refine Below.step ?_ (by assumption) | refine Below.setCell ?_ (by simp <;> omega) _ | refine Below.drewN' ?_ _))
              clear hb161 g15 x15_0_0 x15_0_1 x15_1_0 x15_1_1 x15_2_0 x15_2_1 y15_0 y15_1 y15_2
              go_wp2_with fail
              go_meet; exact ⟨rfl, (by simp [go_sem, *]), (by simp [go_sem, *]), (by simp [go_sem, *]), (by simp [go_sem, *]), (by simp [go_sem, *]), (by simp [go_sem, *]), by (repeat (first | exact Below.refl _ _ | refine Below.drew ?_ | refine Below.allocS ?_ _ | refine Below.step ?_ (by assumption) | refine Below.setCell ?_ (by simp <;> omega) _ | refine Below.drewN' ?_ _))⟩
        · subst hP
          rw [show - (0 : Int) = 0 from rfl] at H14
          obtain ⟨hc, hd⟩ := KC1.1 rfl
          have hac' : (a == c) = true := by simpa using hc
          have hbd' : (b == d) = true := by simpa using hd
          clear KC1 hc hd
          have KT3 := KT1 (by omega)
          have KT4 := KT2 (by omega)
          clear KT1 KT2
          rcases Int.lt_trichotomy Q 0 with hq | hq | hq
          · have d1 := decide_eq_true (show Q ≤ 0 by omega)
            have d2 := decide_eq_false (show ¬ 0 < R by have := KT3 (by omega); omega)
            have d3 := decide_eq_false (show ¬ 0 ≤ Q by omega)
            clear KT3 KT4
            go_wp2_with fail
            refine (H14.out _).mono ?_
            rintro e w161 ⟨rfl, hb161⟩
            have x161_0_0 : w161.cell? ⟨w.heap.size, 0, none⟩ = some (.int .i64 a) := keep_cell hb161 (by simp [go_sem, *])
            have x161_0_1 : w161.cell? ⟨w.heap.size, 1, none⟩ = some (.int .i64 b) := keep_cell hb161 (by simp [go_sem, *])
            have y161_0 : w.heap.size < w161.heap.size := cell?_lt x161_0_0
            have x161_1_0 : w161.cell? ⟨w.heap.size + 1, 0, none⟩ = some (.int .i64 c) := keep_cell hb161 (by simp [go_sem, *])
            have x161_1_1 : w161.cell? ⟨w.heap.size + 1, 1, none⟩ = some (.int .i64 d) := keep_cell hb161 (by simp [go_sem, *])
            have y161_1 : w.heap.size + 1 < w161.heap.size := cell?_lt x161_1_0
            have x161_2_0 : w161.cell? ⟨w.heap.size + 1 + 1, 0, none⟩ = some (.int .i64 e) := keep_cell hb161 (by simp [go_sem, *])
            have x161_2_1 : w161.cell? ⟨w.heap.size + 1 + 1, 1, none⟩ = some (.int .i64 f) := keep_cell hb161 (by simp [go_sem, *])
            have y161_2 : w.heap.size + 1 + 1 < w161.heap.size := cell?_lt x161_2_0
            have g161 : Below w.heap.size w w161 := by (repeat (first | exact Below.refl _ _ | refine Below.drew ?_ | refine Below.allocS ?_ _ | refine Below.step ?_ (by assumption) | refine Below.setCell ?_ (by simp <;> omega) _ | refine Below.drewN' ?_ _))
            clear hb161 g15 x15_0_0 x15_0_1 x15_1_0 x15_1_1 x15_2_0 x15_2_1 y15_0 y15_1 y15_2
            go_wp2_with fail
            go_meet; exact ⟨rfl, (by simp [go_sem, *]), (by simp [go_sem, *]), (by simp [go_sem, *]), (by simp [go_sem, *]), (by simp [go_sem, *]), (by simp [go_sem, *]), by (repeat (first | exact Below.refl _ _ | refine Below.drew ?_ | refine Below.allocS ?_ _ | refine Below.step ?_ (by assumption) | refine Below.setCell ?_ (by simp <;> omega) _ | refine Below.drewN' ?_ _))⟩
          · have d1 := decide_eq_true (show Q ≤ 0 by omega)
            have d2 := decide_eq_false (show ¬ 0 < R by have := KT3 (by omega); omega)
            have d3 := decide_eq_true (show 0 ≤ Q by omega)
            have d4 := decide_eq_false (show ¬ R < 0 by have := KT4 (by omega); omega)
            clear KT3 KT4 hq
            go_wp2_with fail
            refine (H14.out _).mono ?_
            rintro e w161 ⟨rfl, hb161⟩
            have x161_0_0 : w161.cell? ⟨w.heap.size, 0, none⟩ = some (.int .i64 a) := keep_cell hb161 (by simp [go_sem, *])
            have x161_0_1 : w161.cell? ⟨w.heap.size, 1, none⟩ = some (.int .i64 b) := keep_cell hb161 (by simp [go_sem, *])
            have y161_0 : w.heap.size < w161.heap.size := cell?_lt x161_0_0
            have x161_1_0 : w161.cell? ⟨w.heap.size + 1, 0, none⟩ = some (.int .i64 c) := keep_cell hb161 (by simp [go_sem, *])
            have x161_1_1 : w161.cell? ⟨w.heap.size + 1, 1, none⟩ = some (.int .i64 d) := keep_cell hb161 (by simp [go_sem, *])
            have y161_1 : w.heap.size + 1 < w161.heap.size := cell?_lt x161_1_0
            have x161_2_0 : w161.cell? ⟨w.heap.size + 1 + 1, 0, none⟩ = some (.int .i64 e) := keep_cell hb161 (by simp [go_sem, *])
            have x161_2_1 : w161.cell? ⟨w.heap.size + 1 + 1, 1, none⟩ = some (.int .i64 f) := keep_cell hb161 (by simp [go_sem, *])
            have y161_2 : w.heap.size + 1 + 1 < w161.heap.size := cell?_lt x161_2_0
            have g161 : Below w.heap.size w w161 := by (repeat (first | exact Below.refl _ _ | refine Below.drew ?_ | refine Below.allocS ?_ _ | refine Below.step ?_ (by assumption) | refine Below.setCell ?_ (by simp <;> omega) _ | refine Below.drewN' ?_ _))
            clear hb161 g15 x15_0_0 x15_0_1 x15_1_0 x15_1_1 x15_2_0 x15_2_1 y15_0 y15_1 y15_2
            go_wp2_with fail
            go_meet; exact ⟨rfl, (by simp [go_sem, *]), (by simp [go_sem, *]), (by simp [go_sem, *]), (by simp [go_sem, *]), (by simp [go_sem, *]), (by simp [go_sem, *]), by (repeat (first | exact Below.refl _ _ | refine Below.drew ?_ | refine Below.allocS ?_ _ | refine Below.step ?_ (by assumption) | refine Below.setCell ?_ (by simp <;> omega) _ | refine Below.drewN' ?_ _))⟩
          · have d1 := decide_eq_false (show ¬ Q ≤ 0 by omega)
            have d3 := decide_eq_true (show 0 ≤ Q by omega)
            have d4 := decide_eq_false (show ¬ R < 0 by have := KT4 (by omega); omega)
            clear KT3 KT4
            go_wp2_with fail
            refine (H14.out _).mono ?_
            rintro e w161 ⟨rfl, hb161⟩
            have x161_0_0 : w161.cell? ⟨w.heap.size, 0, none⟩ = some (.int .i64 a) := keep_cell hb161 (by simp [go_sem, *])
            have x161_0_1 : w161.cell? ⟨w.heap.size, 1, none⟩ = some (.int .i64 b) := keep_cell hb161 (by simp [go_sem, *])
            have y161_0 : w.heap.size < w161.heap.size := cell?_lt x161_0_0
            have x161_1_0 : w161.cell? ⟨w.heap.size + 1, 0, none⟩ = some (.int .i64 c) := keep_cell hb161 (by simp [go_sem, *])
            have x161_1_1 : w161.cell? ⟨w.heap.size + 1, 1, none⟩ = some (.int .i64 d) := keep_cell hb161 (by simp [go_sem, *])
            have y161_1 : w.heap.size + 1 < w161.heap.size := cell?_lt x161_1_0
            have x161_2_0 : w161.cell? ⟨w.heap.size + 1 + 1, 0, none⟩ = some (.int .i64 e) := keep_cell hb161 (by simp [go_sem, *])
            have x161_2_1 : w161.cell? ⟨w.heap.size + 1 + 1, 1, none⟩ = some (.int .i64 f) := keep_cell hb161 (by simp [go_sem, *])
            have y161_2 : w.heap.size + 1 + 1 < w161.heap.size := cell?_lt x161_2_0
            have g161 : Below w.heap.size w w161 := by (repeat (first | exact Below.refl _ _ | refine Below.drew ?_ | refine Below.allocS ?_ _ | refine Below.step ?_ (by assumption) | refine Below.setCell ?_ (by simp <;> omega) _ | refine Below.drewN' ?_ _))
            clear hb161 g15 x15_0_0 x15_0_1 x15_1_0 x15_1_1 x15_2_0 x15_2_1 y15_0 y15_1 y15_2
            go_wp2_with fail
            go_meet; exact ⟨rfl, (by simp [go_sem, *]), (by simp [go_sem, *]), (by simp [go_sem, *]), (by simp [go_sem, *]), (by simp [go_sem, *]), (by simp [go_sem, *]), by (repeat (first | exact Below.refl _ _ | refine Below.drew ?_ | refine Below.allocS ?_ _ | refine Below.step ?_ (by assumption) | refine Below.setCell ?_ (by simp <;> omega) _ | refine Below.drewN' ?_ _))⟩
        · subst hP
          have KT4 := KT2 (by omega)
          clear KT1 KT2
          by_cases hac : a = c
          · have hbd : (b == d) = false := by
              rw [beq_eq_false_iff_ne]; intro h; have := KC1.2 ⟨hac, h⟩; omega
            have hac' : (a == c) = true := by simpa using hac
            clear KC1 hac
            by_cases hq : 0 ≤ Q
            · have d1 := decide_eq_true hq
              have d2 := decide_eq_false (show ¬ R < 0 by have := KT4 hq; omega)
              clear KT4
              go_wp2_with fail
              refine (H14.out _).mono ?_
              rintro e w161 ⟨rfl, hb161⟩
              have x161_0_0 : w161.cell? ⟨w.heap.size, 0, none⟩ = some (.int .i64 a) := keep_cell hb161 (by simp [go_sem, *])
              have x161_0_1 : w161.cell? ⟨w.heap.size, 1, none⟩ = some (.int .i64 b) := keep_cell hb161 (by simp [go_sem, *])
              have y161_0 : w.heap.size < w161.heap.size := cell?_lt x161_0_0
              have x161_1_0 : w161.cell? ⟨w.heap.size + 1, 0, none⟩ = some (.int .i64 c) := keep_cell hb161 (by simp [go_sem, *])
              have x161_1_1 : w161.cell? ⟨w.heap.size + 1, 1, none⟩ = some (.int .i64 d) := keep_cell hb161 (by simp [go_sem, *])
              have y161_1 : w.heap.size + 1 < w161.heap.size := cell?_lt x161_1_0
              have x161_2_0 : w161.cell? ⟨w.heap.size + 1 + 1, 0, none⟩ = some (.int .i64 e) := keep_cell hb161 (by simp [go_sem, *])
              have x161_2_1 : w161.cell? ⟨w.heap.size + 1 + 1, 1, none⟩ = some (.int .i64 f) := keep_cell hb161 (by simp [go_sem, *])
              have y161_2 : w.heap.size + 1 + 1 < w161.heap.size := cell?_lt x161_2_0
              have g161 : Below w.heap.size w w161 := by (repeat (first | exact Below.refl _ _ | refine Below.drew ?_ | refine Below.allocS ?_ _ | refine Below.step ?_ (by assumption) | refine Below.setCell ?_ (by simp <;> omega) _ | refine Below.drewN' ?_ _))
              clear hb161 g15 x15_0_0 x15_0_1 x15_1_0 x15_1_1 x15_2_0 x15_2_1 y15_0 y15_1 y15_2
              go_wp2_with fail
              go_meet; exact ⟨rfl, (by simp [go_sem, *]), (by simp [go_sem, *]), (by simp [go_sem, *]), (by simp [go_sem, *]), (by simp [go_sem, *]), (by simp [go_sem, *]), by (repeat (first | exact Below.refl _ _ | refine Below.drew ?_ | refine Below.allocS ?_ _ | refine Below.step ?_ (by assumption) | refine Below.setCell ?_ (by simp <;> omega) _ | refine Below.drewN' ?_ _))⟩
            · have d1 := decide_eq_false hq
              clear KT4
              go_wp2_with fail
              refine (H14.out _).mono ?_
              rintro e w161 ⟨rfl, hb161⟩
              have x161_0_0 : w161.cell? ⟨w.heap.size, 0, none⟩ = some (.int .i64 a) := keep_cell hb161 (by simp [go_sem, *])
              have x161_0_1 : w161.cell? ⟨w.heap.size, 1, none⟩ = some (.int .i64 b) := keep_cell hb161 (by simp [go_sem, *])
              have y161_0 : w.heap.size < w161.heap.size := cell?_lt x161_0_0
              have x161_1_0 : w161.cell? ⟨w.heap.size + 1, 0, none⟩ = some (.int .i64 c) := keep_cell hb161 (by simp [go_sem, *])
              have x161_1_1 : w161.cell? ⟨w.heap.size + 1, 1, none⟩ = some (.int .i64 d) := keep_cell hb161 (by simp [go_sem, *])
              have y161_1 : w.heap.size + 1 < w161.heap.size := cell?_lt x161_1_0
              have x161_2_0 : w161.cell? ⟨w.heap.size + 1 + 1, 0, none⟩ = some (.int .i64 e) := keep_cell hb161 (by simp [go_sem, *])
              have x161_2_1 : w161.cell? ⟨w.heap.size + 1 + 1, 1, none⟩ = some (.int .i64 f) := keep_cell hb161 (by simp [go_sem, *])
              have y161_2 : w.heap.size + 1 + 1 < w161.heap.size := cell?_lt x161_2_0
              have g161 : Below w.heap.size w w161 := by (repeat (first | exact Below.refl _ _ | refine Below.drew ?_ | refine Below.allocS ?_ _ | refine Below.step ?_ (by assumption) | refine Below.setCell ?_ (by simp <;> omega) _ | refine Below.drewN' ?_ _))
              clear hb161 g15 x15_0_0 x15_0_1 x15_1_0 x15_1_1 x15_2_0 x15_2_1 y15_0 y15_1 y15_2
              go_wp2_with fail
              go_meet; exact ⟨rfl, (by simp [go_sem, *]), (by simp [go_sem, *]), (by simp [go_sem, *]), (by simp [go_sem, *]), (by simp [go_sem, *]), (by simp [go_sem, *]), by (repeat (first | exact Below.refl _ _ | refine Below.drew ?_ | refine Below.allocS ?_ _ | refine Below.step ?_ (by assumption) | refine Below.setCell ?_ (by simp <;> omega) _ | refine Below.drewN' ?_ _))⟩
          · have hac' : (a == c) = false := by simpa using hac
            clear KC1 hac
            by_cases hq : 0 ≤ Q
            · have d1 := decide_eq_true hq
              have d2 := decide_eq_false (show ¬ R < 0 by have := KT4 hq; omega)
              clear KT4
              go_wp2_with fail
              refine (H14.out _).mono ?_
              rintro e w161 ⟨rfl, hb161⟩
              have x161_0_0 : w161.cell? ⟨w.heap.size, 0, none⟩ = some (.int .i64 a) := keep_cell hb161 (by simp [go_sem, *])
              have x161_0_1 : w161.cell? ⟨w.heap.size, 1, none⟩ = some (.int .i64 b) := keep_cell hb161 (by simp [go_sem, *])
              have y161_0 : w.heap.size < w161.heap.size := cell?_lt x161_0_0
              have x161_1_0 : w161.cell? ⟨w.heap.size + 1, 0, none⟩ = some (.int .i64 c) := keep_cell hb161 (by simp [go_sem, *])
              have x161_1_1 : w161.cell? ⟨w.heap.size + 1, 1, none⟩ = some (.int .i64 d) := keep_cell hb161 (by simp [go_sem, *])
              have y161_1 : w.heap.size + 1 < w161.heap.size := cell?_lt x161_1_0
              have x161_2_0 : w161.cell? ⟨w.heap.size + 1 + 1, 0, none⟩ = some (.int .i64 e) := keep_cell hb161 (by simp [go_sem, *])
              have x161_2_1 : w161.cell? ⟨w.heap.size + 1 + 1, 1, none⟩ = some (.int .i64 f) := keep_cell hb161 (by simp [go_sem, *])
              have y161_2 : w.heap.size + 1 + 1 < w161.heap.size := cell?_lt x161_2_0
              have g161 : Below w.heap.size w w161 := by (repeat (first | exact Below.refl _ _ | refine Below.drew ?_ | refine Below.allocS ?_ _ | refine Below.step ?_ (by assumption) | refine Below.setCell ?_ (by simp <;> omega) _ | refine Below.drewN' ?_ _))
              clear hb161 g15 x15_0_0 x15_0_1 x15_1_0 x15_1_1 x15_2_0 x15_2_1 y15_0 y15_1 y15_2
              go_wp2_with fail
              go_meet; exact ⟨rfl, (by simp [go_sem, *]), (by simp [go_sem, *]), (by simp [go_sem, *]), (by simp [go_sem, *]), (by simp [go_sem, *]), (by simp [go_sem, *]), by (repeat (first | exact Below.refl _ _ | refine Below.drew ?_ | refine Below.allocS ?_ _ | refine Below.step ?_ (by assumption) | refine Below.setCell ?_ (by simp <;> omega) _ | refine Below.drewN' ?_ _))⟩
            · have d1 := decide_eq_false hq
              clear KT4
              go_wp2_with fail
              refine (H14.out _).mono ?_
              rintro e w161 ⟨rfl, hb161⟩
              have x161_0_0 : w161.cell? ⟨w.heap.size, 0, none⟩ = some (.int .i64 a) := keep_cell hb161 (by simp [go_sem, *])
              have x161_0_1 : w161.cell? ⟨w.heap.size, 1, none⟩ = some (.int .i64 b) := keep_cell hb161 (by simp [go_sem, *])
              have y161_0 : w.heap.size < w161.heap.size := cell?_lt x161_0_0
              have x161_1_0 : w161.cell? ⟨w.heap.size + 1, 0, none⟩ = some (.int .i64 c) := keep_cell hb161 (by simp [go_sem, *])
              have x161_1_1 : w161.cell? ⟨w.heap.size + 1, 1, none⟩ = some (.int .i64 d) := keep_cell hb161 (by simp [go_sem, *])
              have y161_1 : w.heap.size + 1 < w161.heap.size := cell?_lt x161_1_0
              have x161_2_0 : w161.cell? ⟨w.heap.size + 1 + 1, 0, none⟩ = some (.int .i64 e) := keep_cell hb161 (by simp [go_sem, *])
              have x161_2_1 : w161.cell? ⟨w.heap.size + 1 + 1, 1, none⟩ = some (.int .i64 f) := keep_cell hb161 (by simp [go_sem, *])
              have y161_2 : w.heap.size + 1 + 1 < w161.heap.size := cell?_lt x161_2_0
              have g161 : Below w.heap.size w w161 := by (repeat (first | exact Below.refl _ _ | refine Below.drew ?_ | refine Below.allocS ?_ _ | refine Below.step ?_ (by assumption) | refine Below.setCell ?_ (by simp <;> omega) _ | refine Below.drewN' ?_ _))
              clear hb161 g15 x15_0_0 x15_0_1 x15_1_0 x15_1_1 x15_2_0 x15_2_1 y15_0 y15_1 y15_2
              go_wp2_with fail
              go_meet; exact ⟨rfl, (by simp [go_sem, *]), (by simp [go_sem, *]), (by simp [go_sem, *]), (by simp [go_sem, *]), (by simp [go_sem, *]), (by simp [go_sem, *]), by (repeat (first | exact Below.refl _ _ | refine Below.drew ?_ | refine Below.allocS ?_ _ | refine Below.step ?_ (by assumption) | refine Below.setCell ?_ (by simp <;> omega) _ | refine Below.drewN' ?_ _))⟩
      case rest => as_aux_lemma =>
        clear g15 x15_0_0 x15_0_1 x15_1_0 x15_1_1 x15_2_0 x15_2_1 y15_0 y15_1 y15_2
        obtain ⟨c16, x16_0_0, x16_0_1, x16_1_0, x16_1_1, x16_2_0, x16_2_1, g16⟩ := hcut
        have y16_0 : w.heap.size < wc.heap.size := cell?_lt x16_0_0
        have y16_1 : w.heap.size + 1 < wc.heap.size := cell?_lt x16_1_0
        have y16_2 : w.heap.size + 1 + 1 < wc.heap.size := cell?_lt x16_2_0
        subst c16
        go_wp2_with fail
        refine (H15.out _).mono ?_
        rintro e w17 ⟨rfl, hb17⟩
        have x17_0_0 : w17.cell? ⟨w.heap.size, 0, none⟩ = some (.int .i64 a) := keep_cell hb17 (by simp [go_sem, *])
        have x17_0_1 : w17.cell? ⟨w.heap.size, 1, none⟩ = some (.int .i64 b) := keep_cell hb17 (by simp [go_sem, *])
        have y17_0 : w.heap.size < w17.heap.size := cell?_lt x17_0_0
        have x17_1_0 : w17.cell? ⟨w.heap.size + 1, 0, none⟩ = some (.int .i64 c) := keep_cell hb17 (by simp [go_sem, *])
        have x17_1_1 : w17.cell? ⟨w.heap.size + 1, 1, none⟩ = some (.int .i64 d) := keep_cell hb17 (by simp [go_sem, *])
        have y17_1 : w.heap.size + 1 < w17.heap.size := cell?_lt x17_1_0
        have x17_2_0 : w17.cell? ⟨w.heap.size + 1 + 1, 0, none⟩ = some (.int .i64 e) := keep_cell hb17 (by simp [go_sem, *])
        have x17_2_1 : w17.cell? ⟨w.heap.size + 1 + 1, 1, none⟩ = some (.int .i64 f) := keep_cell hb17 (by simp [go_sem, *])
        have y17_2 : w.heap.size + 1 + 1 < w17.heap.size := cell?_lt x17_2_0
        have g17 : Below w.heap.size w w17 := by (repeat (first | exact Below.refl _ _ | refine Below.drew ?_ | refine Below.allocS ?_ _ | refine Below.step ?_ (by assumption) | refine Below.setCell ?_ (by simp <;> omega) _ | refine Below.drewN' ?_ _))
        clear hb17 g16 x16_0_0 x16_0_1 x16_1_0 x16_1_1 x16_2_0 x16_2_1 y16_0 y16_1 y16_2
        by_cases ho : o3 = 0
        · have hS := KS.out ho
          subst ho hS
          go_wp2_with fail
          refine (H16.out _).mono ?_
          rintro e w18 ⟨rfl, hb18⟩
          have x18_0_0 : w18.cell? ⟨w.heap.size, 0, none⟩ = some (.int .i64 a) := keep_cell hb18 (by simp [go_sem, *])
          have x18_0_1 : w18.cell? ⟨w.heap.size, 1, none⟩ = some (.int .i64 b) := keep_cell hb18 (by simp [go_sem, *])
          have y18_0 : w.heap.size < w18.heap.size := cell?_lt x18_0_0
          have x18_1_0 : w18.cell? ⟨w.heap.size + 1, 0, none⟩ = some (.int .i64 c) := keep_cell hb18 (by simp [go_sem, *])
          have x18_1_1 : w18.cell? ⟨w.heap.size + 1, 1, none⟩ = some (.int .i64 d) := keep_cell hb18 (by simp [go_sem, *])
          have y18_1 : w.heap.size + 1 < w18.heap.size := cell?_lt x18_1_0
          have x18_2_0 : w18.cell? ⟨w.heap.size + 1 + 1, 0, none⟩ = some (.int .i64 e) := keep_cell hb18 (by simp [go_sem, *])
          have x18_2_1 : w18.cell? ⟨w.heap.size + 1 + 1, 1, none⟩ = some (.int .i64 f) := keep_cell hb18 (by simp [go_sem, *])
          have y18_2 : w.heap.size + 1 + 1 < w18.heap.size := cell?_lt x18_2_0
          have x18_3_0 : w18.cell? ⟨w17.heap.size, 0, none⟩ = some (.int .i64 p3) := keep_cell hb18 (by simp [go_sem, *])
          have x18_3_1 : w18.cell? ⟨w17.heap.size, 1, none⟩ = some (.int .i64 q3) := keep_cell hb18 (by simp [go_sem, *])
          have y18_3 : w17.heap.size < w18.heap.size := cell?_lt x18_3_0
          have g18 : Below w.heap.size w w18 := by (repeat (first | exact Below.refl _ _ | refine Below.drew ?_ | refine Below.allocS ?_ _ | refine Below.step ?_ (by assumption) | refine Below.setCell ?_ (by simp <;> omega) _ | refine Below.drewN' ?_ _))
          clear hb18 g17 x17_0_0 x17_0_1 x17_1_0 x17_1_1 x17_2_0 x17_2_1 y17_0 y17_1 y17_2
          go_wp2_with fail
          refine (awake_c _).mono ?_
          rintro e w19 ⟨rfl, hb19⟩
          have x19_0_0 : w19.cell? ⟨w.heap.size, 0, none⟩ = some (.int .i64 a) := keep_cell hb19 (by simp [go_sem, *])
          have x19_0_1 : w19.cell? ⟨w.heap.size, 1, none⟩ = some (.int .i64 b) := keep_cell hb19 (by simp [go_sem, *])
          have y19_0 : w.heap.size < w19.heap.size := cell?_lt x19_0_0
          have x19_1_0 : w19.cell? ⟨w.heap.size + 1, 0, none⟩ = some (.int .i64 c) := keep_cell hb19 (by simp [go_sem, *])
          have x19_1_1 : w19.cell? ⟨w.heap.size + 1, 1, none⟩ = some (.int .i64 d) := keep_cell hb19 (by simp [go_sem, *])
          have y19_1 : w.heap.size + 1 < w19.heap.size := cell?_lt x19_1_0
          have x19_2_0 : w19.cell? ⟨w.heap.size + 1 + 1, 0, none⟩ = some (.int .i64 e) := keep_cell hb19 (by simp [go_sem, *])
          have x19_2_1 : w19.cell? ⟨w.heap.size + 1 + 1, 1, none⟩ = some (.int .i64 f) := keep_cell hb19 (by simp [go_sem, *])
          have y19_2 : w.heap.size + 1 + 1 < w19.heap.size := cell?_lt x19_2_0
          have x19_3_0 : w19.cell? ⟨w17.heap.size, 0, none⟩ = some (.int .i64 p3) := keep_cell hb19 (by simp [go_sem, *])
          have x19_3_1 : w19.cell? ⟨w17.heap.size, 1, none⟩ = some (.int .i64 q3) := keep_cell hb19 (by simp [go_sem, *])
          have y19_3 : w17.heap.size < w19.heap.size := cell?_lt x19_3_0
          have g19 : Below w.heap.size w w19 := by (repeat (first | exact Below.refl _ _ | refine Below.drew ?_ | refine Below.allocS ?_ _ | refine Below.step ?_ (by assumption) | refine Below.setCell ?_ (by simp <;> omega) _ | refine Below.drewN' ?_ _))
          clear hb19 g18 x18_0_0 x18_0_1 x18_1_0 x18_1_1 x18_2_0 x18_2_1 x18_3_0 x18_3_1 y18_0 y18_1 y18_2 y18_3
          go_wp2
          go_ret
          exact ⟨(by first | rfl | (simp; done) | (simp; omega) | (simp [*]; done)), by (repeat (first | (with_reducible exact Below.refl _ _) | (with_reducible assumption) | (with_reducible refine Below.drew ?_) | (with_reducible refine Below.allocS ?_ _) | (with_reducible refine Below.setCell ?_ ?_ _) | (with_reducible refine Below.step ?_ (by assumption)) | (with_reducible refine Below.drewN' ?_ _))); (try any_goals (first | (with_reducible assumption) | (simp; done) | (simp; omega) | omega))⟩
        · have ho' : (o3 != 0) = true := by simpa using ho
          clear ho
          go_wp2_with fail
          refine (awake_c _).mono ?_
          rintro e w18 ⟨rfl, hb18⟩
          have x18_0_0 : w18.cell? ⟨w.heap.size, 0, none⟩ = some (.int .i64 a) := keep_cell hb18 (by simp [go_sem, *])
          have x18_0_1 : w18.cell? ⟨w.heap.size, 1, none⟩ = some (.int .i64 b) := keep_cell hb18 (by simp [go_sem, *])
          have y18_0 : w.heap.size < w18.heap.size := cell?_lt x18_0_0
          have x18_1_0 : w18.cell? ⟨w.heap.size + 1, 0, none⟩ = some (.int .i64 c) := keep_cell hb18 (by simp [go_sem, *])
          have x18_1_1 : w18.cell? ⟨w.heap.size + 1, 1, none⟩ = some (.int .i64 d) := keep_cell hb18 (by simp [go_sem, *])
          have y18_1 : w.heap.size + 1 < w18.heap.size := cell?_lt x18_1_0
          have x18_2_0 : w18.cell? ⟨w.heap.size + 1 + 1, 0, none⟩ = some (.int .i64 e) := keep_cell hb18 (by simp [go_sem, *])
          have x18_2_1 : w18.cell? ⟨w.heap.size + 1 + 1, 1, none⟩ = some (.int .i64 f) := keep_cell hb18 (by simp [go_sem, *])
          have y18_2 : w.heap.size + 1 + 1 < w18.heap.size := cell?_lt x18_2_0
          have x18_3_0 : w18.cell? ⟨w17.heap.size, 0, none⟩ = some (.int .i64 p3) := keep_cell hb18 (by simp [go_sem, *])
          have x18_3_1 : w18.cell? ⟨w17.heap.size, 1, none⟩ = some (.int .i64 q3) := keep_cell hb18 (by simp [go_sem, *])
          have y18_3 : w17.heap.size < w18.heap.size := cell?_lt x18_3_0
          have g18 : Below w.heap.size w w18 := by (repeat (first | exact Below.refl _ _ | refine Below.drew ?_ | refine Below.allocS ?_ _ | refine Below.step ?_ (by assumption) | refine Below.setCell ?_ (by simp <;> omega) _ | refine Below.drewN' ?_ _))
          clear hb18 g17 x17_0_0 x17_0_1 x17_1_0 x17_1_1 x17_2_0 x17_2_1 y17_0 y17_1 y17_2
          go_wp2
          go_ret
          exact ⟨(by first | rfl | (simp; done) | (simp; omega) | (simp [*]; done)), by (repeat (first | (with_reducible exact Below.refl _ _) | (with_reducible assumption) | (with_reducible refine Below.drew ?_) | (with_reducible refine Below.allocS ?_ _) | (with_reducible refine Below.setCell ?_ ?_ _) | (with_reducible refine Below.step ?_ (by assumption)) | (with_reducible refine Below.drewN' ?_ _))); (try any_goals (first | (with_reducible assumption) | (simp; done) | (simp; omega) | omega))⟩
end Go.Proofs.YtjkcgbidceakjaaDoor
