/-
  The walk of the law GunRings.
-/
import Derived.Test.YtgiplkfdallmkaaL6
namespace Go.Proofs.Ytgiplkfdallmkaa
open Go.RowKit
set_option linter.unusedVariables false

theorem dd_axis (d : Int) : dd 0 0 d 0 = d * d := by unfold dd; rw [Int.zero_sub, Int.neg_mul_neg]; omega
theorem isq_axis {d : Int} (h : 0 ≤ d) : isq (d * d * 1000000) = d * 1000 := by
  have e : d * 1000 * (d * 1000) = d * d * 1000000 := by
    rw [Int.mul_assoc, Int.mul_left_comm 1000 d 1000, ← Int.mul_assoc]; omega
  refine isq_unique (by omega) (by omega) ?_
  have : (d * 1000 + 1) * (d * 1000 + 1) = d * 1000 * (d * 1000) + 2 * (d * 1000) + 1 := by
    rw [Int.add_mul, Int.mul_add]; omega
  omega
theorem lag_axis {s v d : Int} (ha : validAir s v = true) (h0 : 0 ≤ d) (h1 : d ≤ 50000) : lagE s v 0 0 d 0 = 0 ∧ LLo s v 0 0 d 0 = ovLo s v (d * 1000) ∧ LHi s v 0 0 d 0 = ovHi s v (d * 1000) := by
  have hp : place d 0 = true := by unfold place within; simp; omega
  have h : lagE s v 0 0 d 0 = 0 := by unfold lagE; rw [ha, hp]; rfl
  refine ⟨h, ?_, ?_⟩
  · rw [LLo_ok h]; unfold lagLo dLo; rw [dd_axis, isq_axis h0]
  · rw [LHi_ok h]; unfold lagHi dHi; rw [dd_axis, isq_axis h0, if_pos]
    rw [Int.mul_assoc, Int.mul_left_comm 1000 d 1000, ← Int.mul_assoc]; omega

theorem ring_awake (s v lag d : Int) (h : validAir s v = false ∨ validAir s v = true ∧ (lag < 0 ∨ 0 ≤ lag ∧ (1000000 < lag ∨ lag ≤ 1000000 ∧ (d < 0 ∨ 0 ≤ d ∧ 50000 < d)))) (w : World) :
    Calls Try.prog 8 #[.agg #[.int .i64 s, .int .i64 v], .int .i64 lag, .int .i64 d] w fun e w' => e = .returned (.bool true) ∧ Below w.heap.size w w' := by
  rcases h with h1 | ⟨h1, h2 | ⟨h2, h3 | ⟨h3, h4 | ⟨h4, h5⟩⟩⟩⟩
  all_goals
    go_enter Try.func8, Try.ntmps8
    go_wp2_with fail
    refine (Ring_c _ _ _ _ _ _).mono ?_
    rintro e w1 ⟨rfl, hb1⟩
    have x1_0_0 : w1.cell? ⟨w.heap.size, 0, none⟩ = some (.int .i64 s) := keep_cell hb1 (by simp [go_sem, *])
    have x1_0_1 : w1.cell? ⟨w.heap.size, 1, none⟩ = some (.int .i64 v) := keep_cell hb1 (by simp [go_sem, *])
    have y1_0 : w.heap.size < w1.heap.size := cell?_lt x1_0_0
    have g1 : Below w.heap.size w w1 := by (repeat (first | exact Below.refl _ _ | refine Below.drew ?_ | refine Below.allocS ?_ _ | refine Below.step ?_ (by assumption) | refine Below.setCell ?_ (by simp <;> omega) _ | refine Below.drewN' ?_ _))
    clear hb1
    go_wp2_with fail
    refine (rvalidAir_c _ _ _).mono ?_
    rintro e w2 ⟨rfl, hb2⟩
    have x2_0_0 : w2.cell? ⟨w.heap.size, 0, none⟩ = some (.int .i64 s) := keep_cell hb2 (by simp [go_sem, *])
    have x2_0_1 : w2.cell? ⟨w.heap.size, 1, none⟩ = some (.int .i64 v) := keep_cell hb2 (by simp [go_sem, *])
    have y2_0 : w.heap.size < w2.heap.size := cell?_lt x2_0_0
    have g2 : Below w.heap.size w w2 := by (repeat (first | exact Below.refl _ _ | refine Below.drew ?_ | refine Below.allocS ?_ _ | refine Below.step ?_ (by assumption) | refine Below.setCell ?_ (by simp <;> omega) _ | refine Below.drewN' ?_ _))
    clear hb2 g1 x1_0_0 x1_0_1 y1_0
    rw [h1]
    go_wp2_with fail
    refine (awake_c _).mono ?_
    rintro e w3 ⟨rfl, hb3⟩
    have x3_0_0 : w3.cell? ⟨w.heap.size, 0, none⟩ = some (.int .i64 s) := keep_cell hb3 (by simp [go_sem, *])
    have x3_0_1 : w3.cell? ⟨w.heap.size, 1, none⟩ = some (.int .i64 v) := keep_cell hb3 (by simp [go_sem, *])
    have y3_0 : w.heap.size < w3.heap.size := cell?_lt x3_0_0
    have g3 : Below w.heap.size w w3 := by (repeat (first | exact Below.refl _ _ | refine Below.drew ?_ | refine Below.allocS ?_ _ | refine Below.step ?_ (by assumption) | refine Below.setCell ?_ (by simp <;> omega) _ | refine Below.drewN' ?_ _))
    clear hb3 g2 x2_0_0 x2_0_1 y2_0
    go_wp2
    go_ret
    exact ⟨by first | rfl | (simp; omega), by (repeat (first | exact Below.refl _ _ | refine Below.drew ?_ | refine Below.allocS ?_ _ | refine Below.step ?_ (by assumption) | refine Below.setCell ?_ (by simp <;> omega) _ | refine Below.drewN' ?_ _))⟩

set_option maxHeartbeats 1000000 in
theorem ring_none (s v lag d : Int) (ha : validAir s v = true) (h2 : 0 ≤ lag) (h3 : lag ≤ 1000000) (h4 : 0 ≤ d) (h5 : d ≤ 50000) (hn : ¬ fHi s v lag < fLo s v lag) (w : World) :
    Calls Try.prog 8 #[.agg #[.int .i64 s, .int .i64 v], .int .i64 lag, .int .i64 d] w fun e w' => e = .returned (.bool true) ∧ Below w.heap.size w w' := by
  obtain ⟨e1, e2, e3⟩ := lag_axis ha h4 h5
  have hw : within lag 0 1000000 = true := by unfold within; simp; omega
  have hl0 : lagE s v 0 0 0 0 = 0 := by unfold lagE; rw [ha]; rfl
  have r1 : ringE s v 0 0 lag = 8 := by unfold ringE; rw [if_pos hl0, hw, if_neg hn]; rfl
  have hR := Lib.hid (fun W => Ring_c s v 0 0 lag W)
  have hL := Lib.hid (fun W => Lag_c s v 0 0 d 0 W)
  rw [r1] at hR
  rw [e1, e2, e3] at hL
  have hc : lag < ovLo s v (d * 1000) ∨ ovLo s v (d * 1000) ≤ lag ∧ ovHi s v (d * 1000) < lag := by
    by_cases hd : d < fLo s v lag
    · have q1 := fLo_false (s := s) (v := v) (ms := lag) h4 hd
      have q2 := fHi_false (s := s) (v := v) (ms := lag) h4 (by omega)
      simp only [lateLo, lateHi, decide_eq_false_iff_not] at q1 q2
      omega
    · have q1 := fLo_true (ms := lag) ha (Int.not_lt.1 hd) (by omega)
      simp only [lateLo, decide_eq_true_eq] at q1
      omega
  clear hn r1 e1 e2 e3 hl0 hw
  rcases hc with c1 | ⟨c1, c2⟩
  all_goals
    go_enter Try.func8, Try.ntmps8
    go_wp2_with fail
    refine (hR.out _).mono ?_
    rintro e w1 ⟨rfl, hb1⟩
    have x1_0_0 : w1.cell? ⟨w.heap.size, 0, none⟩ = some (.int .i64 s) := keep_cell hb1 (by simp [go_sem, *])
    have x1_0_1 : w1.cell? ⟨w.heap.size, 1, none⟩ = some (.int .i64 v) := keep_cell hb1 (by simp [go_sem, *])
    have y1_0 : w.heap.size < w1.heap.size := cell?_lt x1_0_0
    have g1 : Below w.heap.size w w1 := by (repeat (first | exact Below.refl _ _ | refine Below.drew ?_ | refine Below.allocS ?_ _ | refine Below.step ?_ (by assumption) | refine Below.setCell ?_ (by simp <;> omega) _ | refine Below.drewN' ?_ _))
    clear hb1
    go_wp2_with fail
    refine (rvalidAir_c _ _ _).mono ?_
    rintro e w2 ⟨rfl, hb2⟩
    have x2_0_0 : w2.cell? ⟨w.heap.size, 0, none⟩ = some (.int .i64 s) := keep_cell hb2 (by simp [go_sem, *])
    have x2_0_1 : w2.cell? ⟨w.heap.size, 1, none⟩ = some (.int .i64 v) := keep_cell hb2 (by simp [go_sem, *])
    have y2_0 : w.heap.size < w2.heap.size := cell?_lt x2_0_0
    have g2 : Below w.heap.size w w2 := by (repeat (first | exact Below.refl _ _ | refine Below.drew ?_ | refine Below.allocS ?_ _ | refine Below.step ?_ (by assumption) | refine Below.setCell ?_ (by simp <;> omega) _ | refine Below.drewN' ?_ _))
    clear hb2 g1 x1_0_0 x1_0_1 y1_0
    rw [ha]
    go_wp2_with fail
    refine (hL.out _).mono ?_
    rintro e w3 ⟨rfl, hb3⟩
    have x3_0_0 : w3.cell? ⟨w.heap.size, 0, none⟩ = some (.int .i64 s) := keep_cell hb3 (by simp [go_sem, *])
    have x3_0_1 : w3.cell? ⟨w.heap.size, 1, none⟩ = some (.int .i64 v) := keep_cell hb3 (by simp [go_sem, *])
    have y3_0 : w.heap.size < w3.heap.size := cell?_lt x3_0_0
    have g3 : Below w.heap.size w w3 := by (repeat (first | exact Below.refl _ _ | refine Below.drew ?_ | refine Below.allocS ?_ _ | refine Below.step ?_ (by assumption) | refine Below.setCell ?_ (by simp <;> omega) _ | refine Below.drewN' ?_ _))
    clear hb3 g2 x2_0_0 x2_0_1 y2_0
    go_wp2_with fail
    refine (awake_c _).mono ?_
    rintro e w4 ⟨rfl, hb4⟩
    have x4_0_0 : w4.cell? ⟨w.heap.size, 0, none⟩ = some (.int .i64 s) := keep_cell hb4 (by simp [go_sem, *])
    have x4_0_1 : w4.cell? ⟨w.heap.size, 1, none⟩ = some (.int .i64 v) := keep_cell hb4 (by simp [go_sem, *])
    have y4_0 : w.heap.size < w4.heap.size := cell?_lt x4_0_0
    have x4_1_0 : w4.cell? ⟨w3.heap.size, 0, none⟩ = some (.int .i64 (ovLo s v (d * 1000))) := keep_cell hb4 (by simp [go_sem, *])
    have x4_1_1 : w4.cell? ⟨w3.heap.size, 1, none⟩ = some (.int .i64 (ovHi s v (d * 1000))) := keep_cell hb4 (by simp [go_sem, *])
    have y4_1 : w3.heap.size < w4.heap.size := cell?_lt x4_1_0
    have g4 : Below w.heap.size w w4 := by (repeat (first | exact Below.refl _ _ | refine Below.drew ?_ | refine Below.allocS ?_ _ | refine Below.step ?_ (by assumption) | refine Below.setCell ?_ (by simp <;> omega) _ | refine Below.drewN' ?_ _))
    clear hb4 g3 x3_0_0 x3_0_1 y3_0
    go_wp2
    go_ret
    exact ⟨by first | rfl | (simp; omega), by (repeat (first | exact Below.refl _ _ | refine Below.drew ?_ | refine Below.allocS ?_ _ | refine Below.step ?_ (by assumption) | refine Below.setCell ?_ (by simp <;> omega) _ | refine Below.drewN' ?_ _))⟩

set_option maxHeartbeats 1000000 in
theorem ring_some (s v lag d : Int) (ha : validAir s v = true) (h2 : 0 ≤ lag) (h3 : lag ≤ 1000000) (h4 : 0 ≤ d) (h5 : d ≤ 50000) (hn : fHi s v lag < fLo s v lag) (w : World) :
    Calls Try.prog 8 #[.agg #[.int .i64 s, .int .i64 v], .int .i64 lag, .int .i64 d] w fun e w' => e = .returned (.bool true) ∧ Below w.heap.size w w' := by
  have b1 := fHi_bd s v lag
  have b2 := fLo_bd s v lag
  obtain ⟨e1, e2, e3⟩ := lag_axis ha h4 h5
  have hw : within lag 0 1000000 = true := by unfold within; simp; omega
  have hl0 : lagE s v 0 0 0 0 = 0 := by unfold lagE; rw [ha]; rfl
  have r1 : ringE s v 0 0 lag = 0 := by unfold ringE; rw [if_pos hl0, hw, if_pos hn]; rfl
  have r2 : ringLo s v 0 0 lag = fHi s v lag := by unfold ringLo; rw [if_pos r1]
  have r3 : ringHi s v 0 0 lag = fLo s v lag - 1 := by unfold ringHi; rw [if_pos r1]
  have hR := Lib.hid (fun W => Ring_c s v 0 0 lag W)
  have hL := Lib.hid (fun W => Lag_c s v 0 0 d 0 W)
  rw [r1, r2, r3] at hR
  rw [e1, e2, e3] at hL
  have hc : (fLo s v lag - 1 < d ∧ fHi s v lag ≤ d) ∧ lag < ovLo s v (d * 1000) ∨ (d ≤ fLo s v lag - 1 ∧ fHi s v lag ≤ d) ∧ ovLo s v (d * 1000) ≤ lag ∧ lag ≤ ovHi s v (d * 1000) ∨ d < fHi s v lag ∧ ovLo s v (d * 1000) ≤ lag ∧ ovHi s v (d * 1000) < lag := by
    by_cases hd : d < fLo s v lag
    · have q1 := fLo_false (s := s) (v := v) (ms := lag) h4 hd
      simp only [lateLo, decide_eq_false_iff_not] at q1
      by_cases he : d < fHi s v lag
      · have q2 := fHi_false (s := s) (v := v) (ms := lag) h4 he
        simp only [lateHi, decide_eq_false_iff_not] at q2
        omega
      · have q2 := fHi_true (ms := lag) ha (Int.not_lt.1 he) (by omega)
        simp only [lateHi, decide_eq_true_eq] at q2
        omega
    · have q1 := fLo_true (ms := lag) ha (Int.not_lt.1 hd) (by omega)
      simp only [lateLo, decide_eq_true_eq] at q1
      omega
  clear r1 r2 r3 e1 e2 e3 hl0 hw
  rcases hc with ⟨⟨c1, c2⟩, c3⟩ | ⟨⟨c1, c2⟩, c3, c4⟩ | ⟨c1, c2, c3⟩
  all_goals
    go_enter Try.func8, Try.ntmps8
    go_wp2_with fail
    refine (hR.out _).mono ?_
    rintro e w1 ⟨rfl, hb1⟩
    have x1_0_0 : w1.cell? ⟨w.heap.size, 0, none⟩ = some (.int .i64 s) := keep_cell hb1 (by simp [go_sem, *])
    have x1_0_1 : w1.cell? ⟨w.heap.size, 1, none⟩ = some (.int .i64 v) := keep_cell hb1 (by simp [go_sem, *])
    have y1_0 : w.heap.size < w1.heap.size := cell?_lt x1_0_0
    have g1 : Below w.heap.size w w1 := by (repeat (first | exact Below.refl _ _ | refine Below.drew ?_ | refine Below.allocS ?_ _ | refine Below.step ?_ (by assumption) | refine Below.setCell ?_ (by simp <;> omega) _ | refine Below.drewN' ?_ _))
    clear hb1
    go_wp2_with fail
    refine (rvalidAir_c _ _ _).mono ?_
    rintro e w2 ⟨rfl, hb2⟩
    have x2_0_0 : w2.cell? ⟨w.heap.size, 0, none⟩ = some (.int .i64 s) := keep_cell hb2 (by simp [go_sem, *])
    have x2_0_1 : w2.cell? ⟨w.heap.size, 1, none⟩ = some (.int .i64 v) := keep_cell hb2 (by simp [go_sem, *])
    have y2_0 : w.heap.size < w2.heap.size := cell?_lt x2_0_0
    have g2 : Below w.heap.size w w2 := by (repeat (first | exact Below.refl _ _ | refine Below.drew ?_ | refine Below.allocS ?_ _ | refine Below.step ?_ (by assumption) | refine Below.setCell ?_ (by simp <;> omega) _ | refine Below.drewN' ?_ _))
    clear hb2 g1 x1_0_0 x1_0_1 y1_0
    rw [ha]
    go_wp2_with fail
    refine (hL.out _).mono ?_
    rintro e w3 ⟨rfl, hb3⟩
    have x3_0_0 : w3.cell? ⟨w.heap.size, 0, none⟩ = some (.int .i64 s) := keep_cell hb3 (by simp [go_sem, *])
    have x3_0_1 : w3.cell? ⟨w.heap.size, 1, none⟩ = some (.int .i64 v) := keep_cell hb3 (by simp [go_sem, *])
    have y3_0 : w.heap.size < w3.heap.size := cell?_lt x3_0_0
    have g3 : Below w.heap.size w w3 := by (repeat (first | exact Below.refl _ _ | refine Below.drew ?_ | refine Below.allocS ?_ _ | refine Below.step ?_ (by assumption) | refine Below.setCell ?_ (by simp <;> omega) _ | refine Below.drewN' ?_ _))
    clear hb3 g2 x2_0_0 x2_0_1 y2_0
    go_wp2_with fail
    refine (awake_c _).mono ?_
    rintro e w4 ⟨rfl, hb4⟩
    have x4_0_0 : w4.cell? ⟨w.heap.size, 0, none⟩ = some (.int .i64 s) := keep_cell hb4 (by simp [go_sem, *])
    have x4_0_1 : w4.cell? ⟨w.heap.size, 1, none⟩ = some (.int .i64 v) := keep_cell hb4 (by simp [go_sem, *])
    have y4_0 : w.heap.size < w4.heap.size := cell?_lt x4_0_0
    have x4_1_0 : w4.cell? ⟨w3.heap.size, 0, none⟩ = some (.int .i64 (ovLo s v (d * 1000))) := keep_cell hb4 (by simp [go_sem, *])
    have x4_1_1 : w4.cell? ⟨w3.heap.size, 1, none⟩ = some (.int .i64 (ovHi s v (d * 1000))) := keep_cell hb4 (by simp [go_sem, *])
    have y4_1 : w3.heap.size < w4.heap.size := cell?_lt x4_1_0
    have g4 : Below w.heap.size w w4 := by (repeat (first | exact Below.refl _ _ | refine Below.drew ?_ | refine Below.allocS ?_ _ | refine Below.step ?_ (by assumption) | refine Below.setCell ?_ (by simp <;> omega) _ | refine Below.drewN' ?_ _))
    clear hb4 g3 x3_0_0 x3_0_1 y3_0
    go_wp2
    go_ret
    exact ⟨by first | rfl | (simp; omega), by (repeat (first | exact Below.refl _ _ | refine Below.drew ?_ | refine Below.allocS ?_ _ | refine Below.step ?_ (by assumption) | refine Below.setCell ?_ (by simp <;> omega) _ | refine Below.drewN' ?_ _))⟩

theorem GunRings_walk (a0_0 a0_1 : Int) (a1 : Int) (a2 : Int) (w0_0 : I64 a0_0) (w0_1 : I64 a0_1) (w1 : I64 a1) (w2 : I64 a2) (w : World) :
    Calls Try.prog 8 #[.agg #[.int .i64 a0_0, .int .i64 a0_1], .int .i64 a1, .int .i64 a2] w fun e w' => e = .returned (.bool true) ∧ Below w.heap.size w w' := by
  cases ha : validAir a0_0 a0_1
  · exact ring_awake _ _ _ _ (Or.inl ha) w
  · by_cases h : 0 ≤ a1 ∧ a1 ≤ 1000000 ∧ 0 ≤ a2 ∧ a2 ≤ 50000
    · obtain ⟨h2, h3, h4, h5⟩ := h
      by_cases hn : fHi a0_0 a0_1 a1 < fLo a0_0 a0_1 a1
      · exact ring_some _ _ _ _ ha h2 h3 h4 h5 hn w
      · exact ring_none _ _ _ _ ha h2 h3 h4 h5 hn w
    · exact ring_awake _ _ _ _ (Or.inr ⟨ha, by omega⟩) w
end Go.Proofs.Ytgiplkfdallmkaa
