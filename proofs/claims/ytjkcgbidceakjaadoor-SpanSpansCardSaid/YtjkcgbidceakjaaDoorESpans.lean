/-
  The walk of the law SpanSpans: Sum, Opposite, Hull and ValidSpan of span and of its reference answer the same. No conditions.
-/
import Derived.Test.YtjkcgbidceakjaaDoorD9
import Derived.Test.YtjkcgbidceakjaaDoorD23
import Derived.Test.YtjkcgbidceakjaaDoorD22
import Derived.Laws.StructEq
namespace Go.Proofs.YtjkcgbidceakjaaDoor
open Go.RowKit
set_option linter.unusedVariables false
set_option linter.unusedSimpArgs false
set_option maxHeartbeats 2000000 in
set_option maxRecDepth 100000 in
theorem SpanSpans_walk (a b c d : Int) (w0 : I64 a) (w1 : I64 b) (w2 : I64 c) (w3 : I64 d) (w : World) : Calls Tryd.prog 5 #[.agg #[.int .i64 a, .int .i64 b], .agg #[.int .i64 c, .int .i64 d]] w fun e w' => e = .returned (.bool true) ∧ Below w.heap.size w w' := by
  have HV := Lib.hid (fun W => ValidSpan_c a b W)
  have HW := Lib.hid (fun W => rValidSpan_c a b W)
  generalize okSpan a b = u at HV HW
  have H1 := Lib.hid (fun W => Sum_c a b c d W)
  have H2 := Lib.hid (fun W => rSum_c a b c d W)
  obtain ⟨p0, q0, z0, h0⟩ : ∃ p q z, sumR a b c d = (p, q, z) := ⟨_, _, _, rfl⟩
  rw [h0] at H1 H2
  have H3 := Lib.hid (fun W => Opposite_c a b W)
  have H4 := Lib.hid (fun W => rOpposite_c a b W)
  obtain ⟨p1, q1, z1, h1⟩ : ∃ p q z, oppR a b = (p, q, z) := ⟨_, _, _, rfl⟩
  rw [h1] at H3 H4
  have H5 := Lib.hid (fun W => Hull_c a b c d W)
  have H6 := Lib.hid (fun W => rHull_c a b c d W)
  obtain ⟨p2, q2, z2, h2⟩ : ∃ p q z, hullR a b c d = (p, q, z) := ⟨_, _, _, rfl⟩
  rw [h2] at H5 H6
  clear h0 h1 h2 w0 w1 w2 w3
  unfold retV at *
  go_enter Tryd.func5, Tryd.ntmps5
  go_wp2_with fail
  refine (H1.out _).mono ?_
  rintro e w1 ⟨rfl, hb1⟩
  have x1_0_0 : w1.cell? ⟨w.heap.size, 0, none⟩ = some (.int .i64 a) := keep_cell hb1 (by simp [go_sem, *])
  have x1_0_1 : w1.cell? ⟨w.heap.size, 1, none⟩ = some (.int .i64 b) := keep_cell hb1 (by simp [go_sem, *])
  have y1_0 : w.heap.size < w1.heap.size := cell?_lt x1_0_0
  have x1_1_0 : w1.cell? ⟨w.heap.size + 1, 0, none⟩ = some (.int .i64 c) := keep_cell hb1 (by simp [go_sem, *])
  have x1_1_1 : w1.cell? ⟨w.heap.size + 1, 1, none⟩ = some (.int .i64 d) := keep_cell hb1 (by simp [go_sem, *])
  have y1_1 : w.heap.size + 1 < w1.heap.size := cell?_lt x1_1_0
  have g1 : Below w.heap.size w w1 := by (repeat (first | exact Below.refl _ _ | refine Below.drew ?_ | refine Below.allocS ?_ _ | refine Below.step ?_ (by assumption) | refine Below.setCell ?_ (by simp <;> omega) _ | refine Below.drewN' ?_ _))
  clear hb1
  have n0 : w.heap.size < w1.heap.size := y1_0
  have n1 : w.heap.size + 1 < w1.heap.size := y1_1
  go_wp2_with fail
  refine (H2.out _).mono ?_
  rintro e w2 ⟨rfl, hb2⟩
  have x2_0_0 : w2.cell? ⟨w.heap.size, 0, none⟩ = some (.int .i64 a) := keep_cell hb2 (by simp [go_sem, *])
  have x2_0_1 : w2.cell? ⟨w.heap.size, 1, none⟩ = some (.int .i64 b) := keep_cell hb2 (by simp [go_sem, *])
  have y2_0 : w.heap.size < w2.heap.size := cell?_lt x2_0_0
  have x2_1_0 : w2.cell? ⟨w.heap.size + 1, 0, none⟩ = some (.int .i64 c) := keep_cell hb2 (by simp [go_sem, *])
  have x2_1_1 : w2.cell? ⟨w.heap.size + 1, 1, none⟩ = some (.int .i64 d) := keep_cell hb2 (by simp [go_sem, *])
  have y2_1 : w.heap.size + 1 < w2.heap.size := cell?_lt x2_1_0
  have x2_2_0 : w2.cell? ⟨w1.heap.size, 0, none⟩ = some (.int .i64 p0) := keep_cell hb2 (by simp [go_sem, *])
  have f2_2_0 : w2.frozen? ⟨w1.heap.size, 0, none⟩ = false := keep_frozen hb2 (by first | omega | (simp <;> omega)) (by simp [go_sem, *])
  have x2_2_1 : w2.cell? ⟨w1.heap.size, 1, none⟩ = some (.int .i64 q0) := keep_cell hb2 (by simp [go_sem, *])
  have f2_2_1 : w2.frozen? ⟨w1.heap.size, 1, none⟩ = false := keep_frozen hb2 (by first | omega | (simp <;> omega)) (by simp [go_sem, *])
  have y2_2 : w1.heap.size < w2.heap.size := cell?_lt x2_2_0
  have g2 : Below w.heap.size w w2 := by (repeat (first | exact Below.refl _ _ | refine Below.drew ?_ | refine Below.allocS ?_ _ | refine Below.step ?_ (by assumption) | refine Below.setCell ?_ (by simp <;> omega) _ | refine Below.drewN' ?_ _))
  clear hb2 g1 x1_0_0 x1_0_1 x1_1_0 x1_1_1 y1_0 y1_1
  have n2 : w.heap.size < w2.heap.size := y2_0
  have n3 : w.heap.size + 1 < w2.heap.size := y2_1
  have n4 : w1.heap.size < w2.heap.size := y2_2
  go_wp2_with fail
  refine (H3.out _).mono ?_
  rintro e w3 ⟨rfl, hb3⟩
  have x3_0_0 : w3.cell? ⟨w.heap.size, 0, none⟩ = some (.int .i64 a) := keep_cell hb3 (by simp [go_sem, *])
  have x3_0_1 : w3.cell? ⟨w.heap.size, 1, none⟩ = some (.int .i64 b) := keep_cell hb3 (by simp [go_sem, *])
  have y3_0 : w.heap.size < w3.heap.size := cell?_lt x3_0_0
  have x3_1_0 : w3.cell? ⟨w.heap.size + 1, 0, none⟩ = some (.int .i64 c) := keep_cell hb3 (by simp [go_sem, *])
  have x3_1_1 : w3.cell? ⟨w.heap.size + 1, 1, none⟩ = some (.int .i64 d) := keep_cell hb3 (by simp [go_sem, *])
  have y3_1 : w.heap.size + 1 < w3.heap.size := cell?_lt x3_1_0
  have x3_2_0 : w3.cell? ⟨w1.heap.size, 0, none⟩ = some (.int .i64 p0) := keep_cell hb3 (by simp [go_sem, *])
  have f3_2_0 : w3.frozen? ⟨w1.heap.size, 0, none⟩ = false := keep_frozen hb3 (by first | omega | (simp <;> omega)) (by simp [go_sem, *])
  have x3_2_1 : w3.cell? ⟨w1.heap.size, 1, none⟩ = some (.int .i64 q0) := keep_cell hb3 (by simp [go_sem, *])
  have f3_2_1 : w3.frozen? ⟨w1.heap.size, 1, none⟩ = false := keep_frozen hb3 (by first | omega | (simp <;> omega)) (by simp [go_sem, *])
  have y3_2 : w1.heap.size < w3.heap.size := cell?_lt x3_2_0
  have x3_3_0 : w3.cell? ⟨w2.heap.size, 0, none⟩ = some (.int .i64 p0) := keep_cell hb3 (by simp [go_sem, *])
  have f3_3_0 : w3.frozen? ⟨w2.heap.size, 0, none⟩ = false := keep_frozen hb3 (by first | omega | (simp <;> omega)) (by simp [go_sem, *])
  have x3_3_1 : w3.cell? ⟨w2.heap.size, 1, none⟩ = some (.int .i64 q0) := keep_cell hb3 (by simp [go_sem, *])
  have f3_3_1 : w3.frozen? ⟨w2.heap.size, 1, none⟩ = false := keep_frozen hb3 (by first | omega | (simp <;> omega)) (by simp [go_sem, *])
  have y3_3 : w2.heap.size < w3.heap.size := cell?_lt x3_3_0
  have g3 : Below w.heap.size w w3 := by (repeat (first | exact Below.refl _ _ | refine Below.drew ?_ | refine Below.allocS ?_ _ | refine Below.step ?_ (by assumption) | refine Below.setCell ?_ (by simp <;> omega) _ | refine Below.drewN' ?_ _))
  clear hb3 g2 x2_0_0 x2_0_1 x2_1_0 x2_1_1 x2_2_0 f2_2_0 x2_2_1 f2_2_1 y2_0 y2_1 y2_2
  go_wp2_with fail
  refine (H4.out _).mono ?_
  rintro e w4 ⟨rfl, hb4⟩
  have x4_0_0 : w4.cell? ⟨w.heap.size, 0, none⟩ = some (.int .i64 a) := keep_cell hb4 (by simp [go_sem, *])
  have x4_0_1 : w4.cell? ⟨w.heap.size, 1, none⟩ = some (.int .i64 b) := keep_cell hb4 (by simp [go_sem, *])
  have y4_0 : w.heap.size < w4.heap.size := cell?_lt x4_0_0
  have x4_1_0 : w4.cell? ⟨w.heap.size + 1, 0, none⟩ = some (.int .i64 c) := keep_cell hb4 (by simp [go_sem, *])
  have x4_1_1 : w4.cell? ⟨w.heap.size + 1, 1, none⟩ = some (.int .i64 d) := keep_cell hb4 (by simp [go_sem, *])
  have y4_1 : w.heap.size + 1 < w4.heap.size := cell?_lt x4_1_0
  have x4_2_0 : w4.cell? ⟨w2.heap.size, 0, none⟩ = some (.int .i64 p0) := keep_cell hb4 (by simp [go_sem, *])
  have f4_2_0 : w4.frozen? ⟨w2.heap.size, 0, none⟩ = false := keep_frozen hb4 (by first | omega | (simp <;> omega)) (by simp [go_sem, *])
  have x4_2_1 : w4.cell? ⟨w2.heap.size, 1, none⟩ = some (.int .i64 q0) := keep_cell hb4 (by simp [go_sem, *])
  have f4_2_1 : w4.frozen? ⟨w2.heap.size, 1, none⟩ = false := keep_frozen hb4 (by first | omega | (simp <;> omega)) (by simp [go_sem, *])
  have y4_2 : w2.heap.size < w4.heap.size := cell?_lt x4_2_0
  have x4_3_0 : w4.cell? ⟨w1.heap.size, 0, none⟩ = some (.int .i64 p1) := keep_cell hb4 (by simp [go_sem, *])
  have f4_3_0 : w4.frozen? ⟨w1.heap.size, 0, none⟩ = false := keep_frozen hb4 (by first | omega | (simp <;> omega)) (by simp [go_sem, *])
  have x4_3_1 : w4.cell? ⟨w1.heap.size, 1, none⟩ = some (.int .i64 q1) := keep_cell hb4 (by simp [go_sem, *])
  have f4_3_1 : w4.frozen? ⟨w1.heap.size, 1, none⟩ = false := keep_frozen hb4 (by first | omega | (simp <;> omega)) (by simp [go_sem, *])
  have y4_3 : w1.heap.size < w4.heap.size := cell?_lt x4_3_0
  have g4 : Below w.heap.size w w4 := by (repeat (first | exact Below.refl _ _ | refine Below.drew ?_ | refine Below.allocS ?_ _ | refine Below.step ?_ (by assumption) | refine Below.setCell ?_ (by simp <;> omega) _ | refine Below.drewN' ?_ _))
  clear hb4 g3 x3_0_0 x3_0_1 x3_1_0 x3_1_1 x3_2_0 f3_2_0 x3_2_1 f3_2_1 x3_3_0 f3_3_0 x3_3_1 f3_3_1 y3_0 y3_1 y3_2 y3_3
  go_wp2_with fail
  refine (H5.out _).mono ?_
  rintro e w5 ⟨rfl, hb5⟩
  have x5_0_0 : w5.cell? ⟨w.heap.size, 0, none⟩ = some (.int .i64 a) := keep_cell hb5 (by simp [go_sem, *])
  have x5_0_1 : w5.cell? ⟨w.heap.size, 1, none⟩ = some (.int .i64 b) := keep_cell hb5 (by simp [go_sem, *])
  have y5_0 : w.heap.size < w5.heap.size := cell?_lt x5_0_0
  have x5_1_0 : w5.cell? ⟨w.heap.size + 1, 0, none⟩ = some (.int .i64 c) := keep_cell hb5 (by simp [go_sem, *])
  have x5_1_1 : w5.cell? ⟨w.heap.size + 1, 1, none⟩ = some (.int .i64 d) := keep_cell hb5 (by simp [go_sem, *])
  have y5_1 : w.heap.size + 1 < w5.heap.size := cell?_lt x5_1_0
  have x5_2_0 : w5.cell? ⟨w1.heap.size, 0, none⟩ = some (.int .i64 p1) := keep_cell hb5 (by simp [go_sem, *])
  have f5_2_0 : w5.frozen? ⟨w1.heap.size, 0, none⟩ = false := keep_frozen hb5 (by first | omega | (simp <;> omega)) (by simp [go_sem, *])
  have x5_2_1 : w5.cell? ⟨w1.heap.size, 1, none⟩ = some (.int .i64 q1) := keep_cell hb5 (by simp [go_sem, *])
  have f5_2_1 : w5.frozen? ⟨w1.heap.size, 1, none⟩ = false := keep_frozen hb5 (by first | omega | (simp <;> omega)) (by simp [go_sem, *])
  have y5_2 : w1.heap.size < w5.heap.size := cell?_lt x5_2_0
  have x5_3_0 : w5.cell? ⟨w2.heap.size, 0, none⟩ = some (.int .i64 p1) := keep_cell hb5 (by simp [go_sem, *])
  have f5_3_0 : w5.frozen? ⟨w2.heap.size, 0, none⟩ = false := keep_frozen hb5 (by first | omega | (simp <;> omega)) (by simp [go_sem, *])
  have x5_3_1 : w5.cell? ⟨w2.heap.size, 1, none⟩ = some (.int .i64 q1) := keep_cell hb5 (by simp [go_sem, *])
  have f5_3_1 : w5.frozen? ⟨w2.heap.size, 1, none⟩ = false := keep_frozen hb5 (by first | omega | (simp <;> omega)) (by simp [go_sem, *])
  have y5_3 : w2.heap.size < w5.heap.size := cell?_lt x5_3_0
  have g5 : Below w.heap.size w w5 := by (repeat (first | exact Below.refl _ _ | refine Below.drew ?_ | refine Below.allocS ?_ _ | refine Below.step ?_ (by assumption) | refine Below.setCell ?_ (by simp <;> omega) _ | refine Below.drewN' ?_ _))
  clear hb5 g4 x4_0_0 x4_0_1 x4_1_0 x4_1_1 x4_2_0 f4_2_0 x4_2_1 f4_2_1 x4_3_0 f4_3_0 x4_3_1 f4_3_1 y4_0 y4_1 y4_2 y4_3
  go_wp2_with fail
  refine (H6.out _).mono ?_
  rintro e w6 ⟨rfl, hb6⟩
  have x6_0_0 : w6.cell? ⟨w.heap.size, 0, none⟩ = some (.int .i64 a) := keep_cell hb6 (by simp [go_sem, *])
  have x6_0_1 : w6.cell? ⟨w.heap.size, 1, none⟩ = some (.int .i64 b) := keep_cell hb6 (by simp [go_sem, *])
  have y6_0 : w.heap.size < w6.heap.size := cell?_lt x6_0_0
  have x6_1_0 : w6.cell? ⟨w.heap.size + 1, 0, none⟩ = some (.int .i64 c) := keep_cell hb6 (by simp [go_sem, *])
  have x6_1_1 : w6.cell? ⟨w.heap.size + 1, 1, none⟩ = some (.int .i64 d) := keep_cell hb6 (by simp [go_sem, *])
  have y6_1 : w.heap.size + 1 < w6.heap.size := cell?_lt x6_1_0
  have x6_2_0 : w6.cell? ⟨w2.heap.size, 0, none⟩ = some (.int .i64 p1) := keep_cell hb6 (by simp [go_sem, *])
  have f6_2_0 : w6.frozen? ⟨w2.heap.size, 0, none⟩ = false := keep_frozen hb6 (by first | omega | (simp <;> omega)) (by simp [go_sem, *])
  have x6_2_1 : w6.cell? ⟨w2.heap.size, 1, none⟩ = some (.int .i64 q1) := keep_cell hb6 (by simp [go_sem, *])
  have f6_2_1 : w6.frozen? ⟨w2.heap.size, 1, none⟩ = false := keep_frozen hb6 (by first | omega | (simp <;> omega)) (by simp [go_sem, *])
  have y6_2 : w2.heap.size < w6.heap.size := cell?_lt x6_2_0
  have x6_3_0 : w6.cell? ⟨w1.heap.size, 0, none⟩ = some (.int .i64 p2) := keep_cell hb6 (by simp [go_sem, *])
  have f6_3_0 : w6.frozen? ⟨w1.heap.size, 0, none⟩ = false := keep_frozen hb6 (by first | omega | (simp <;> omega)) (by simp [go_sem, *])
  have x6_3_1 : w6.cell? ⟨w1.heap.size, 1, none⟩ = some (.int .i64 q2) := keep_cell hb6 (by simp [go_sem, *])
  have f6_3_1 : w6.frozen? ⟨w1.heap.size, 1, none⟩ = false := keep_frozen hb6 (by first | omega | (simp <;> omega)) (by simp [go_sem, *])
  have y6_3 : w1.heap.size < w6.heap.size := cell?_lt x6_3_0
  have g6 : Below w.heap.size w w6 := by (repeat (first | exact Below.refl _ _ | refine Below.drew ?_ | refine Below.allocS ?_ _ | refine Below.step ?_ (by assumption) | refine Below.setCell ?_ (by simp <;> omega) _ | refine Below.drewN' ?_ _))
  clear hb6 g5 x5_0_0 x5_0_1 x5_1_0 x5_1_1 x5_2_0 f5_2_0 x5_2_1 f5_2_1 x5_3_0 f5_3_0 x5_3_1 f5_3_1 y5_0 y5_1 y5_2 y5_3
  go_wp2_with fail
  refine region_below (by kernel_rfl) (by kernel_rfl) ?_
  (first | go_big_quiet_skip | (go_big_quiet_want; refine quiet_val (v := ?_) ?_ ?_; rotate_left 1; (· (intro Wq hWq; obtain ⟨hWc, hWf⟩ := bcell hWq; go_simp; (try with_reducible rfl))); go_big_quiet_on; (try simp only [Act.put, List.setIfInBounds_toArray, List.set_cons_zero, List.set_cons_succ])))
  (first | go_big_quiet_skip | (go_big_quiet_want; refine quiet_val (v := ?_) ?_ ?_; rotate_left 1; (· (intro Wq hWq; obtain ⟨hWc, hWf⟩ := bcell hWq; go_simp; (try with_reducible rfl))); go_big_quiet_on; (try simp only [Act.put, List.setIfInBounds_toArray, List.set_cons_zero, List.set_cons_succ])))
  (first | go_big_quiet_skip | (go_big_quiet_want; refine quiet_val (v := ?_) ?_ ?_; rotate_left 1; (· (intro Wq hWq; obtain ⟨hWc, hWf⟩ := bcell hWq; go_simp; (try with_reducible rfl))); go_big_quiet_on; (try simp only [Act.put, List.setIfInBounds_toArray, List.set_cons_zero, List.set_cons_succ])))
  (first | go_big_quiet_skip | (go_big_quiet_want; refine quiet_val (v := ?_) ?_ ?_; rotate_left 1; (· (intro Wq hWq; obtain ⟨hWc, hWf⟩ := bcell hWq; go_simp; (try with_reducible rfl))); go_big_quiet_on; (try simp only [Act.put, List.setIfInBounds_toArray, List.set_cons_zero, List.set_cons_succ])))
  (first | go_big_quiet_skip | (go_big_quiet_want; refine quiet_val (v := ?_) ?_ ?_; rotate_left 1; (· (intro Wq hWq; obtain ⟨hWc, hWf⟩ := bcell hWq; go_simp; (try with_reducible rfl))); go_big_quiet_on; (try simp only [Act.put, List.setIfInBounds_toArray, List.set_cons_zero, List.set_cons_succ])))
  (first | go_big_quiet_skip | (go_big_quiet_want; refine quiet_val (v := ?_) ?_ ?_; rotate_left 1; (· (intro Wq hWq; obtain ⟨hWc, hWf⟩ := bcell hWq; go_simp; (try with_reducible rfl))); go_big_quiet_on; (try simp only [Act.put, List.setIfInBounds_toArray, List.set_cons_zero, List.set_cons_succ])))
  (first | go_big_quiet_skip | (go_big_quiet_want; refine quiet_val (v := ?_) ?_ ?_; rotate_left 1; (· (intro Wq hWq; obtain ⟨hWc, hWf⟩ := bcell hWq; go_simp; (try with_reducible rfl))); go_big_quiet_on; (try simp only [Act.put, List.setIfInBounds_toArray, List.set_cons_zero, List.set_cons_succ])))
  (first | go_big_quiet_skip | (go_big_quiet_want; refine quiet_val (v := ?_) ?_ ?_; rotate_left 1; (· (intro Wq hWq; obtain ⟨hWc, hWf⟩ := bcell hWq; go_simp; (try with_reducible rfl))); go_big_quiet_on; (try simp only [Act.put, List.setIfInBounds_toArray, List.set_cons_zero, List.set_cons_succ])))
  (first | go_big_quiet_skip | (go_big_quiet_want; refine quiet_val (v := ?_) ?_ ?_; rotate_left 1; (· (intro Wq hWq; obtain ⟨hWc, hWf⟩ := bcell hWq; go_simp; (try with_reducible rfl))); go_big_quiet_on; (try simp only [Act.put, List.setIfInBounds_toArray, List.set_cons_zero, List.set_cons_succ])))
  (first | go_big_quiet_skip | (go_big_quiet_want; refine quiet_val (v := ?_) ?_ ?_; rotate_left 1; (· (intro Wq hWq; obtain ⟨hWc, hWf⟩ := bcell hWq; go_simp; (try with_reducible rfl))); go_big_quiet_on; (try simp only [Act.put, List.setIfInBounds_toArray, List.set_cons_zero, List.set_cons_succ])))
  go_big_quiet_want; refine quiet_callB (f := 27) (args := ?_) (v := ?_) ?_ ?_ ?_; rotate_left 2
  · (intro Wq hWq; obtain ⟨hWc, hWf⟩ := bcell hWq; go_simp; (first | with_reducible rfl | exact ⟨rfl, rfl⟩))
  · (intro Wq hWq; exact HV.out _)
  go_big_quiet_on; (try simp only [Act.put, List.setIfInBounds_toArray, List.set_cons_zero, List.set_cons_succ])
  (first | go_big_quiet_skip | (go_big_quiet_want; refine quiet_val (v := ?_) ?_ ?_; rotate_left 1; (· (intro Wq hWq; obtain ⟨hWc, hWf⟩ := bcell hWq; go_simp; (try with_reducible rfl))); go_big_quiet_on; (try simp only [Act.put, List.setIfInBounds_toArray, List.set_cons_zero, List.set_cons_succ])))
  go_big_quiet_want; refine quiet_callB (f := 28) (args := ?_) (v := ?_) ?_ ?_ ?_; rotate_left 2
  · (intro Wq hWq; obtain ⟨hWc, hWf⟩ := bcell hWq; go_simp; (first | with_reducible rfl | exact ⟨rfl, rfl⟩))
  · (intro Wq hWq; exact HW.out _)
  go_big_quiet_on; (try simp only [Act.put, List.setIfInBounds_toArray, List.set_cons_zero, List.set_cons_succ])
  (first | go_big_quiet_skip | (go_big_quiet_want; refine quiet_val (v := ?_) ?_ ?_; rotate_left 1; (· (intro Wq hWq; obtain ⟨hWc, hWf⟩ := bcell hWq; go_simp; (try with_reducible rfl))); go_big_quiet_on; (try simp only [Act.put, List.setIfInBounds_toArray, List.set_cons_zero, List.set_cons_succ])))
  (first | go_big_quiet_skip | (go_big_quiet_want; refine quiet_val (v := ?_) ?_ ?_; rotate_left 1; (· (intro Wq hWq; obtain ⟨hWc, hWf⟩ := bcell hWq; go_simp; (try with_reducible rfl))); go_big_quiet_on; (try simp only [Act.put, List.setIfInBounds_toArray, List.set_cons_zero, List.set_cons_succ])))
  (first | go_big_quiet_skip | (go_big_quiet_want; refine quiet_val (v := ?_) ?_ ?_; rotate_left 1; (· (intro Wq hWq; obtain ⟨hWc, hWf⟩ := bcell hWq; go_simp; (try with_reducible rfl))); go_big_quiet_on; (try simp only [Act.put, List.setIfInBounds_toArray, List.set_cons_zero, List.set_cons_succ])))
  go_big_quiet_want; refine quiet_callB (f := 16) (args := ?_) (v := ?_) ?_ ?_ ?_; rotate_left 2
  · (intro Wq hWq; obtain ⟨hWc, hWf⟩ := bcell hWq; go_simp; (first | with_reducible rfl | exact ⟨rfl, rfl⟩))
  · (intro Wq hWq; exact awake_c _)
  go_big_quiet_on; (try simp only [Act.put, List.setIfInBounds_toArray, List.set_cons_zero, List.set_cons_succ])
  (first | go_big_quiet_skip | (go_big_quiet_want; refine quiet_val (v := ?_) ?_ ?_; rotate_left 1; (· (intro Wq hWq; obtain ⟨hWc, hWf⟩ := bcell hWq; go_simp; (try with_reducible rfl))); go_big_quiet_on; (try simp only [Act.put, List.setIfInBounds_toArray, List.set_cons_zero, List.set_cons_succ])))
  (first | go_big_quiet_skip | (go_big_quiet_want; refine quiet_val (v := ?_) ?_ ?_; rotate_left 1; (· (intro Wq hWq; obtain ⟨hWc, hWf⟩ := bcell hWq; go_simp; (try with_reducible rfl))); go_big_quiet_on; (try simp only [Act.put, List.setIfInBounds_toArray, List.set_cons_zero, List.set_cons_succ])))
  refine wpQuiet_nil ?_; intro w7 hb7
  have g7 : Below w.heap.size w w7 := by (repeat (first | (with_reducible exact Below.refl _ _) | (with_reducible assumption) | (with_reducible refine Below.drew ?_) | (with_reducible refine Below.allocS ?_ _) | (with_reducible refine Below.setCell ?_ ?_ _) | (with_reducible refine Below.step ?_ (by assumption)) | (with_reducible refine Below.drewN' ?_ _))); (try any_goals (first | (with_reducible assumption) | (simp; done) | (simp; omega) | omega))
  go_wp2
  go_ret
  exact ⟨(by first | rfl | (simp; done) | (simp; omega) | (simp [*]; done)), by (repeat (first | (with_reducible exact Below.refl _ _) | (with_reducible assumption) | (with_reducible refine Below.drew ?_) | (with_reducible refine Below.allocS ?_ _) | (with_reducible refine Below.setCell ?_ ?_ _) | (with_reducible refine Below.step ?_ (by assumption)) | (with_reducible refine Below.drewN' ?_ _))); (try any_goals (first | (with_reducible assumption) | (simp; done) | (simp; omega) | omega))⟩
end Go.Proofs.YtjkcgbidceakjaaDoor
