/-
  The walk of the law GunFarther.
-/
import Derived.Test.YtgiplkfdallmkaaL3
import Derived.Deep.DeepCutAuto
import Derived.Outline
import Derived.Deep.QuietTactic
import Derived.BigQuiet
namespace Go.Proofs.Ytgiplkfdallmkaa
open Go.RowKit
set_option linter.unusedVariables false

set_option maxHeartbeats 4000000 in
set_option maxRecDepth 100000 in
theorem far_B2 (s v s' v' a b c d x y : Int) (h : lagE s v a b c d = 0) (h' : lagE s v a b x y = 0) (hg : lagE s' v' a b c d = 0) (k1 : (v != v') = false) (k2 : s' < s) (w : World) :
    Calls Try.prog 3 #[.agg #[.int .i64 s, .int .i64 v], .agg #[.int .i64 s', .int .i64 v'], .agg #[.int .i64 a, .int .i64 b, .int .i64 c, .int .i64 d], .agg #[.int .i64 x, .int .i64 y]] w fun e w' => e = .returned (.bool true) ∧ Below w.heap.size w w' := by
  have p := place_true (lagE_ok h).2.1
  have q := place_true (lagE_ok h).2.2
  have r := place_true (lagE_ok h').2.2
  obtain ⟨⟨p1, p2⟩, p3, p4⟩ := p
  obtain ⟨⟨q1, q2⟩, q3, q4⟩ := q
  obtain ⟨⟨r1, r2⟩, r3, r4⟩ := r
  have m1 := sq_nonneg (c - a)
  have m2 := sq_nonneg (d - b)
  have m3 := sq_nonneg (x - a)
  have m4 := sq_nonneg (y - b)
  have n1 : (c - a) * (c - a) ≤ 10000000000 := sq_le_sq (b := 100000) (by omega) (by omega)
  have n2 : (d - b) * (d - b) ≤ 10000000000 := sq_le_sq (b := 100000) (by omega) (by omega)
  have n3 : (x - a) * (x - a) ≤ 10000000000 := sq_le_sq (b := 100000) (by omega) (by omega)
  have n4 : (y - b) * (y - b) ≤ 10000000000 := sq_le_sq (b := 100000) (by omega) (by omega)
  have hone := far_one h h'
  have K2 := Lib.hid (far_two h hg)
  have HO := Lib.hid hone
  clear hone
  go_enter Try.func3, Try.ntmps3
  go_wp2_with fail
  refine (Lag_c _ _ _ _ _ _ _).mono ?_
  rintro e w1 ⟨rfl, hb1⟩
  have x1_0_0 : w1.cell? ⟨w.heap.size, 0, none⟩ = some (.int .i64 s) := keep_cell hb1 (by simp [go_sem, *])
  have x1_0_1 : w1.cell? ⟨w.heap.size, 1, none⟩ = some (.int .i64 v) := keep_cell hb1 (by simp [go_sem, *])
  have y1_0 : w.heap.size < w1.heap.size := cell?_lt x1_0_0
  have x1_1_0 : w1.cell? ⟨w.heap.size + 1, 0, none⟩ = some (.int .i64 s') := keep_cell hb1 (by simp [go_sem, *])
  have x1_1_1 : w1.cell? ⟨w.heap.size + 1, 1, none⟩ = some (.int .i64 v') := keep_cell hb1 (by simp [go_sem, *])
  have y1_1 : w.heap.size + 1 < w1.heap.size := cell?_lt x1_1_0
  have x1_2_0 : w1.cell? ⟨w.heap.size + 1 + 1, 0, none⟩ = some (.int .i64 a) := keep_cell hb1 (by simp [go_sem, *])
  have x1_2_1 : w1.cell? ⟨w.heap.size + 1 + 1, 1, none⟩ = some (.int .i64 b) := keep_cell hb1 (by simp [go_sem, *])
  have x1_2_2 : w1.cell? ⟨w.heap.size + 1 + 1, 2, none⟩ = some (.int .i64 c) := keep_cell hb1 (by simp [go_sem, *])
  have x1_2_3 : w1.cell? ⟨w.heap.size + 1 + 1, 3, none⟩ = some (.int .i64 d) := keep_cell hb1 (by simp [go_sem, *])
  have y1_2 : w.heap.size + 1 + 1 < w1.heap.size := cell?_lt x1_2_0
  have x1_3_0 : w1.cell? ⟨w.heap.size + 1 + 1 + 1, 0, none⟩ = some (.int .i64 x) := keep_cell hb1 (by simp [go_sem, *])
  have x1_3_1 : w1.cell? ⟨w.heap.size + 1 + 1 + 1, 1, none⟩ = some (.int .i64 y) := keep_cell hb1 (by simp [go_sem, *])
  have y1_3 : w.heap.size + 1 + 1 + 1 < w1.heap.size := cell?_lt x1_3_0
  have g1 : Below w.heap.size w w1 := by (repeat (first | exact Below.refl _ _ | refine Below.drew ?_ | refine Below.allocS ?_ _ | refine Below.step ?_ (by assumption) | refine Below.setCell ?_ (by simp <;> omega) _ | refine Below.drewN' ?_ _))
  clear hb1
  go_wp2_with fail
  refine (Lag_c _ _ _ _ _ _ _).mono ?_
  rintro e w2 ⟨rfl, hb2⟩
  have x2_0_0 : w2.cell? ⟨w.heap.size, 0, none⟩ = some (.int .i64 s) := keep_cell hb2 (by simp [go_sem, *])
  have x2_0_1 : w2.cell? ⟨w.heap.size, 1, none⟩ = some (.int .i64 v) := keep_cell hb2 (by simp [go_sem, *])
  have y2_0 : w.heap.size < w2.heap.size := cell?_lt x2_0_0
  have x2_1_0 : w2.cell? ⟨w.heap.size + 1, 0, none⟩ = some (.int .i64 s') := keep_cell hb2 (by simp [go_sem, *])
  have x2_1_1 : w2.cell? ⟨w.heap.size + 1, 1, none⟩ = some (.int .i64 v') := keep_cell hb2 (by simp [go_sem, *])
  have y2_1 : w.heap.size + 1 < w2.heap.size := cell?_lt x2_1_0
  have x2_2_0 : w2.cell? ⟨w.heap.size + 1 + 1, 0, none⟩ = some (.int .i64 a) := keep_cell hb2 (by simp [go_sem, *])
  have x2_2_1 : w2.cell? ⟨w.heap.size + 1 + 1, 1, none⟩ = some (.int .i64 b) := keep_cell hb2 (by simp [go_sem, *])
  have x2_2_2 : w2.cell? ⟨w.heap.size + 1 + 1, 2, none⟩ = some (.int .i64 c) := keep_cell hb2 (by simp [go_sem, *])
  have x2_2_3 : w2.cell? ⟨w.heap.size + 1 + 1, 3, none⟩ = some (.int .i64 d) := keep_cell hb2 (by simp [go_sem, *])
  have y2_2 : w.heap.size + 1 + 1 < w2.heap.size := cell?_lt x2_2_0
  have x2_3_0 : w2.cell? ⟨w.heap.size + 1 + 1 + 1, 0, none⟩ = some (.int .i64 x) := keep_cell hb2 (by simp [go_sem, *])
  have x2_3_1 : w2.cell? ⟨w.heap.size + 1 + 1 + 1, 1, none⟩ = some (.int .i64 y) := keep_cell hb2 (by simp [go_sem, *])
  have y2_3 : w.heap.size + 1 + 1 + 1 < w2.heap.size := cell?_lt x2_3_0
  have x2_4_0 : w2.cell? ⟨w1.heap.size, 0, none⟩ = some (.int .i64 (LLo s v a b c d)) := keep_cell hb2 (by simp [go_sem, *])
  have x2_4_1 : w2.cell? ⟨w1.heap.size, 1, none⟩ = some (.int .i64 (LHi s v a b c d)) := keep_cell hb2 (by simp [go_sem, *])
  have y2_4 : w1.heap.size < w2.heap.size := cell?_lt x2_4_0
  have g2 : Below w.heap.size w w2 := by (repeat (first | exact Below.refl _ _ | refine Below.drew ?_ | refine Below.allocS ?_ _ | refine Below.step ?_ (by assumption) | refine Below.setCell ?_ (by simp <;> omega) _ | refine Below.drewN' ?_ _))
  clear hb2 g1 x1_0_0 x1_0_1 x1_1_0 x1_1_1 x1_2_0 x1_2_1 x1_2_2 x1_2_3 x1_3_0 x1_3_1 y1_0 y1_1 y1_2 y1_3
  go_wp2_with fail
  go_quiet (fail)
  go_wp2_with fail
  go_quiet (fail)
  go_upto_region 7 with fail
  go_cut [97] (fun s97 w4 => (s97 = .bool false) ∧ w4.cell? ⟨w.heap.size, 0, none⟩ = some (.int .i64 s) ∧ w4.cell? ⟨w.heap.size, 1, none⟩ = some (.int .i64 v) ∧ w4.cell? ⟨w.heap.size + 1, 0, none⟩ = some (.int .i64 s') ∧ w4.cell? ⟨w.heap.size + 1, 1, none⟩ = some (.int .i64 v') ∧ w4.cell? ⟨w.heap.size + 1 + 1, 0, none⟩ = some (.int .i64 a) ∧ w4.cell? ⟨w.heap.size + 1 + 1, 1, none⟩ = some (.int .i64 b) ∧ w4.cell? ⟨w.heap.size + 1 + 1, 2, none⟩ = some (.int .i64 c) ∧ w4.cell? ⟨w.heap.size + 1 + 1, 3, none⟩ = some (.int .i64 d) ∧ w4.cell? ⟨w.heap.size + 1 + 1 + 1, 0, none⟩ = some (.int .i64 x) ∧ w4.cell? ⟨w.heap.size + 1 + 1 + 1, 1, none⟩ = some (.int .i64 y) ∧ w4.cell? ⟨w1.heap.size, 0, none⟩ = some (.int .i64 (LLo s v a b c d)) ∧ w4.cell? ⟨w1.heap.size, 1, none⟩ = some (.int .i64 (LHi s v a b c d)) ∧ w4.cell? ⟨w2.heap.size, 0, none⟩ = some (.int .i64 (LLo s v a b x y)) ∧ w4.cell? ⟨w2.heap.size, 1, none⟩ = some (.int .i64 (LHi s v a b x y)) ∧ Below w.heap.size w w4)
  case first =>
    rcases HO.out with o1 | ⟨o1, o2, o3⟩
    all_goals
      go_wp2_with fail
      go_meet; exact ⟨(by first | rfl | (simp; omega)), (by simp [go_sem, *]), (by simp [go_sem, *]), (by simp [go_sem, *]), (by simp [go_sem, *]), (by simp [go_sem, *]), (by simp [go_sem, *]), (by simp [go_sem, *]), (by simp [go_sem, *]), (by simp [go_sem, *]), (by simp [go_sem, *]), (by simp [go_sem, *]), (by simp [go_sem, *]), (by simp [go_sem, *]), (by simp [go_sem, *]), by (repeat (first | exact Below.refl _ _ | refine Below.drew ?_ | refine Below.allocS ?_ _ | refine Below.step ?_ (by assumption) | refine Below.setCell ?_ (by simp <;> omega) _ | refine Below.drewN' ?_ _))⟩
  case rest =>
    clear g2 x2_0_0 x2_0_1 x2_1_0 x2_1_1 x2_2_0 x2_2_1 x2_2_2 x2_2_3 x2_3_0 x2_3_1 x2_4_0 x2_4_1 y2_0 y2_1 y2_2 y2_3 y2_4
    obtain ⟨c4, x4_0_0, x4_0_1, x4_1_0, x4_1_1, x4_2_0, x4_2_1, x4_2_2, x4_2_3, x4_3_0, x4_3_1, x4_4_0, x4_4_1, x4_5_0, x4_5_1, g4⟩ := hcut
    have y4_0 : w.heap.size < wc.heap.size := cell?_lt x4_0_0
    have y4_1 : w.heap.size + 1 < wc.heap.size := cell?_lt x4_1_0
    have y4_2 : w.heap.size + 1 + 1 < wc.heap.size := cell?_lt x4_2_0
    have y4_3 : w.heap.size + 1 + 1 + 1 < wc.heap.size := cell?_lt x4_3_0
    have y4_4 : w1.heap.size < wc.heap.size := cell?_lt x4_4_0
    have y4_5 : w2.heap.size < wc.heap.size := cell?_lt x4_5_0
    subst c4
    go_wp2_with fail
    refine (Lag_c _ _ _ _ _ _ _).mono ?_
    rintro e w5 ⟨rfl, hb5⟩
    have x5_0_0 : w5.cell? ⟨w.heap.size, 0, none⟩ = some (.int .i64 s) := keep_cell hb5 (by simp [go_sem, *])
    have x5_0_1 : w5.cell? ⟨w.heap.size, 1, none⟩ = some (.int .i64 v) := keep_cell hb5 (by simp [go_sem, *])
    have y5_0 : w.heap.size < w5.heap.size := cell?_lt x5_0_0
    have x5_1_0 : w5.cell? ⟨w.heap.size + 1, 0, none⟩ = some (.int .i64 s') := keep_cell hb5 (by simp [go_sem, *])
    have x5_1_1 : w5.cell? ⟨w.heap.size + 1, 1, none⟩ = some (.int .i64 v') := keep_cell hb5 (by simp [go_sem, *])
    have y5_1 : w.heap.size + 1 < w5.heap.size := cell?_lt x5_1_0
    have x5_2_0 : w5.cell? ⟨w.heap.size + 1 + 1, 0, none⟩ = some (.int .i64 a) := keep_cell hb5 (by simp [go_sem, *])
    have x5_2_1 : w5.cell? ⟨w.heap.size + 1 + 1, 1, none⟩ = some (.int .i64 b) := keep_cell hb5 (by simp [go_sem, *])
    have x5_2_2 : w5.cell? ⟨w.heap.size + 1 + 1, 2, none⟩ = some (.int .i64 c) := keep_cell hb5 (by simp [go_sem, *])
    have x5_2_3 : w5.cell? ⟨w.heap.size + 1 + 1, 3, none⟩ = some (.int .i64 d) := keep_cell hb5 (by simp [go_sem, *])
    have y5_2 : w.heap.size + 1 + 1 < w5.heap.size := cell?_lt x5_2_0
    have x5_3_0 : w5.cell? ⟨w.heap.size + 1 + 1 + 1, 0, none⟩ = some (.int .i64 x) := keep_cell hb5 (by simp [go_sem, *])
    have x5_3_1 : w5.cell? ⟨w.heap.size + 1 + 1 + 1, 1, none⟩ = some (.int .i64 y) := keep_cell hb5 (by simp [go_sem, *])
    have y5_3 : w.heap.size + 1 + 1 + 1 < w5.heap.size := cell?_lt x5_3_0
    have x5_4_0 : w5.cell? ⟨w1.heap.size, 0, none⟩ = some (.int .i64 (LLo s v a b c d)) := keep_cell hb5 (by simp [go_sem, *])
    have x5_4_1 : w5.cell? ⟨w1.heap.size, 1, none⟩ = some (.int .i64 (LHi s v a b c d)) := keep_cell hb5 (by simp [go_sem, *])
    have y5_4 : w1.heap.size < w5.heap.size := cell?_lt x5_4_0
    have x5_5_0 : w5.cell? ⟨w2.heap.size, 0, none⟩ = some (.int .i64 (LLo s v a b x y)) := keep_cell hb5 (by simp [go_sem, *])
    have x5_5_1 : w5.cell? ⟨w2.heap.size, 1, none⟩ = some (.int .i64 (LHi s v a b x y)) := keep_cell hb5 (by simp [go_sem, *])
    have y5_5 : w2.heap.size < w5.heap.size := cell?_lt x5_5_0
    have g5 : Below w.heap.size w w5 := by (repeat (first | exact Below.refl _ _ | refine Below.drew ?_ | refine Below.allocS ?_ _ | refine Below.step ?_ (by assumption) | refine Below.setCell ?_ (by simp <;> omega) _ | refine Below.drewN' ?_ _))
    clear hb5 g4 x4_0_0 x4_0_1 x4_1_0 x4_1_1 x4_2_0 x4_2_1 x4_2_2 x4_2_3 x4_3_0 x4_3_1 x4_4_0 x4_4_1 x4_5_0 x4_5_1 y4_0 y4_1 y4_2 y4_3 y4_4 y4_5
    go_upto_region 12 with fail
    go_cut [135] (fun s135 w6 => (s135 = .bool false) ∧ w6.cell? ⟨w.heap.size, 0, none⟩ = some (.int .i64 s) ∧ w6.cell? ⟨w.heap.size, 1, none⟩ = some (.int .i64 v) ∧ w6.cell? ⟨w.heap.size + 1, 0, none⟩ = some (.int .i64 s') ∧ w6.cell? ⟨w.heap.size + 1, 1, none⟩ = some (.int .i64 v') ∧ w6.cell? ⟨w.heap.size + 1 + 1, 0, none⟩ = some (.int .i64 a) ∧ w6.cell? ⟨w.heap.size + 1 + 1, 1, none⟩ = some (.int .i64 b) ∧ w6.cell? ⟨w.heap.size + 1 + 1, 2, none⟩ = some (.int .i64 c) ∧ w6.cell? ⟨w.heap.size + 1 + 1, 3, none⟩ = some (.int .i64 d) ∧ w6.cell? ⟨w.heap.size + 1 + 1 + 1, 0, none⟩ = some (.int .i64 x) ∧ w6.cell? ⟨w.heap.size + 1 + 1 + 1, 1, none⟩ = some (.int .i64 y) ∧ w6.cell? ⟨w1.heap.size, 0, none⟩ = some (.int .i64 (LLo s v a b c d)) ∧ w6.cell? ⟨w1.heap.size, 1, none⟩ = some (.int .i64 (LHi s v a b c d)) ∧ w6.cell? ⟨w2.heap.size, 0, none⟩ = some (.int .i64 (LLo s v a b x y)) ∧ w6.cell? ⟨w2.heap.size, 1, none⟩ = some (.int .i64 (LHi s v a b x y)) ∧ w6.cell? ⟨w5.heap.size, 0, none⟩ = some (.int .i64 (LLo s' v' a b c d)) ∧ w6.cell? ⟨w5.heap.size, 1, none⟩ = some (.int .i64 (LHi s' v' a b c d)) ∧ Below w.heap.size w w6)
    case first =>
      rcases K2.out with o1 | ⟨o1, o2⟩ | ⟨o1, o2, o3, o4⟩
      all_goals
        go_wp2_with fail
        go_meet; exact ⟨(by first | rfl | (simp; omega)), (by simp [go_sem, *]), (by simp [go_sem, *]), (by simp [go_sem, *]), (by simp [go_sem, *]), (by simp [go_sem, *]), (by simp [go_sem, *]), (by simp [go_sem, *]), (by simp [go_sem, *]), (by simp [go_sem, *]), (by simp [go_sem, *]), (by simp [go_sem, *]), (by simp [go_sem, *]), (by simp [go_sem, *]), (by simp [go_sem, *]), (by simp [go_sem, *]), (by simp [go_sem, *]), by (repeat (first | exact Below.refl _ _ | refine Below.drew ?_ | refine Below.allocS ?_ _ | refine Below.step ?_ (by assumption) | refine Below.setCell ?_ (by simp <;> omega) _ | refine Below.drewN' ?_ _))⟩
    case rest =>
      clear g5 x5_0_0 x5_0_1 x5_1_0 x5_1_1 x5_2_0 x5_2_1 x5_2_2 x5_2_3 x5_3_0 x5_3_1 x5_4_0 x5_4_1 x5_5_0 x5_5_1 y5_0 y5_1 y5_2 y5_3 y5_4 y5_5
      obtain ⟨c6, x6_0_0, x6_0_1, x6_1_0, x6_1_1, x6_2_0, x6_2_1, x6_2_2, x6_2_3, x6_3_0, x6_3_1, x6_4_0, x6_4_1, x6_5_0, x6_5_1, x6_6_0, x6_6_1, g6⟩ := hcut
      have y6_0 : w.heap.size < wc.heap.size := cell?_lt x6_0_0
      have y6_1 : w.heap.size + 1 < wc.heap.size := cell?_lt x6_1_0
      have y6_2 : w.heap.size + 1 + 1 < wc.heap.size := cell?_lt x6_2_0
      have y6_3 : w.heap.size + 1 + 1 + 1 < wc.heap.size := cell?_lt x6_3_0
      have y6_4 : w1.heap.size < wc.heap.size := cell?_lt x6_4_0
      have y6_5 : w2.heap.size < wc.heap.size := cell?_lt x6_5_0
      have y6_6 : w5.heap.size < wc.heap.size := cell?_lt x6_6_0
      subst c6
      go_wp2_with fail
      refine (awake_c _).mono ?_
      rintro e w7 ⟨rfl, hb7⟩
      have x7_0_0 : w7.cell? ⟨w.heap.size, 0, none⟩ = some (.int .i64 s) := keep_cell hb7 (by simp [go_sem, *])
      have x7_0_1 : w7.cell? ⟨w.heap.size, 1, none⟩ = some (.int .i64 v) := keep_cell hb7 (by simp [go_sem, *])
      have y7_0 : w.heap.size < w7.heap.size := cell?_lt x7_0_0
      have x7_1_0 : w7.cell? ⟨w.heap.size + 1, 0, none⟩ = some (.int .i64 s') := keep_cell hb7 (by simp [go_sem, *])
      have x7_1_1 : w7.cell? ⟨w.heap.size + 1, 1, none⟩ = some (.int .i64 v') := keep_cell hb7 (by simp [go_sem, *])
      have y7_1 : w.heap.size + 1 < w7.heap.size := cell?_lt x7_1_0
      have x7_2_0 : w7.cell? ⟨w.heap.size + 1 + 1, 0, none⟩ = some (.int .i64 a) := keep_cell hb7 (by simp [go_sem, *])
      have x7_2_1 : w7.cell? ⟨w.heap.size + 1 + 1, 1, none⟩ = some (.int .i64 b) := keep_cell hb7 (by simp [go_sem, *])
      have x7_2_2 : w7.cell? ⟨w.heap.size + 1 + 1, 2, none⟩ = some (.int .i64 c) := keep_cell hb7 (by simp [go_sem, *])
      have x7_2_3 : w7.cell? ⟨w.heap.size + 1 + 1, 3, none⟩ = some (.int .i64 d) := keep_cell hb7 (by simp [go_sem, *])
      have y7_2 : w.heap.size + 1 + 1 < w7.heap.size := cell?_lt x7_2_0
      have x7_3_0 : w7.cell? ⟨w.heap.size + 1 + 1 + 1, 0, none⟩ = some (.int .i64 x) := keep_cell hb7 (by simp [go_sem, *])
      have x7_3_1 : w7.cell? ⟨w.heap.size + 1 + 1 + 1, 1, none⟩ = some (.int .i64 y) := keep_cell hb7 (by simp [go_sem, *])
      have y7_3 : w.heap.size + 1 + 1 + 1 < w7.heap.size := cell?_lt x7_3_0
      have x7_4_0 : w7.cell? ⟨w1.heap.size, 0, none⟩ = some (.int .i64 (LLo s v a b c d)) := keep_cell hb7 (by simp [go_sem, *])
      have x7_4_1 : w7.cell? ⟨w1.heap.size, 1, none⟩ = some (.int .i64 (LHi s v a b c d)) := keep_cell hb7 (by simp [go_sem, *])
      have y7_4 : w1.heap.size < w7.heap.size := cell?_lt x7_4_0
      have x7_5_0 : w7.cell? ⟨w2.heap.size, 0, none⟩ = some (.int .i64 (LLo s v a b x y)) := keep_cell hb7 (by simp [go_sem, *])
      have x7_5_1 : w7.cell? ⟨w2.heap.size, 1, none⟩ = some (.int .i64 (LHi s v a b x y)) := keep_cell hb7 (by simp [go_sem, *])
      have y7_5 : w2.heap.size < w7.heap.size := cell?_lt x7_5_0
      have x7_6_0 : w7.cell? ⟨w5.heap.size, 0, none⟩ = some (.int .i64 (LLo s' v' a b c d)) := keep_cell hb7 (by simp [go_sem, *])
      have x7_6_1 : w7.cell? ⟨w5.heap.size, 1, none⟩ = some (.int .i64 (LHi s' v' a b c d)) := keep_cell hb7 (by simp [go_sem, *])
      have y7_6 : w5.heap.size < w7.heap.size := cell?_lt x7_6_0
      have g7 : Below w.heap.size w w7 := by (repeat (first | exact Below.refl _ _ | refine Below.drew ?_ | refine Below.allocS ?_ _ | refine Below.step ?_ (by assumption) | refine Below.setCell ?_ (by simp <;> omega) _ | refine Below.drewN' ?_ _))
      clear hb7 g6 x6_0_0 x6_0_1 x6_1_0 x6_1_1 x6_2_0 x6_2_1 x6_2_2 x6_2_3 x6_3_0 x6_3_1 x6_4_0 x6_4_1 x6_5_0 x6_5_1 x6_6_0 x6_6_1 y6_0 y6_1 y6_2 y6_3 y6_4 y6_5 y6_6
      go_wp2
      go_ret
      exact ⟨rfl, by (repeat (first | exact Below.refl _ _ | refine Below.drew ?_ | refine Below.allocS ?_ _ | refine Below.step ?_ (by assumption) | refine Below.setCell ?_ (by simp <;> omega) _ | refine Below.drewN' ?_ _))⟩
end Go.Proofs.Ytgiplkfdallmkaa
