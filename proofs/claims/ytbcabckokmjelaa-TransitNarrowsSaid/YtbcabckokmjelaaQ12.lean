/-
  What transit tells of a reach; Azimuth of both.
-/
import Derived.Test.YtbcabckokmjelaaQ11
namespace Go.Proofs.Ytbcabckokmjelaa
open Go.RowKit
set_option linter.unusedVariables false
set_option linter.unusedSimpArgs false
set_option maxHeartbeats 2000000 in
theorem told_c (r : Rc) (w : World) (hr : RcOk r) :
    Calls Try.prog 68 #[rcV r] w fun e w' => e = .returned (tlV (tlR r)) ∧ Below w.heap.size w w' := by
  have HL := Lib.hid (fun W => less_c r.hi r.lo hr.hi.b hr.lo.b W)
  have HA := Lib.hid (fun (h : r.lo.d ≠ 0) W => (make_low hr.lo.b.1 hr.lo.b.2 h) ▸ Make_c r.lo.n r.lo.d W)
  have HB := Lib.hid (fun (h : r.hi.d ≠ 0) W => (make_low hr.hi.b.1 hr.hi.b.2 h) ▸ Make_c r.hi.n r.hi.d W)
  have hlo := hr.lo.b.2.1
  have hhi := hr.hi.b.2.1
  clear hr
  unfold tlR tl0 agB rcV at *
  obtain ⟨⟨l1, l2⟩, ⟨l3, l4⟩, ok⟩ := r
  unfold frV at HL
  simp only at *
  generalize frLess ⟨l3, l4⟩ ⟨l1, l2⟩ = X at *
  obtain ⟨a1, a2, a3, hA⟩ : ∃ a1 a2 a3, lowR l1 l2 = (a1, a2, a3) := ⟨_, _, _, rfl⟩
  obtain ⟨b1, b2, b3, hB⟩ : ∃ a1 a2 a3, lowR l3 l4 = (a1, a2, a3) := ⟨_, _, _, rfl⟩
  have ha3 := low_err l1 l2
  have hb3 := low_err l3 l4
  rw [hA] at HA ha3
  rw [hB] at HB hb3
  rw [hA, hB]
  unfold retV at HA HB
  unfold tlV
  simp only at HA HB ha3 hb3 ⊢
  clear hA hB
  cases ok
  · rw [Bool.false_and, if_neg (by simp)]
    go_enter Try.func68, Try.ntmps68
    go_wp2
    (try simp only [Exit.inBlock, Exit.then])
    refine bodyPost_ret (res_reach rfl _ _ (w.heap.size + 1) (.int .i64 0) (.int .i64 0) (.int .i64 0) (.int .i64 0) rfl (by simp [go_sem]) (by simp [go_sem]) (by simp [go_sem]) (by simp [go_sem])) rfl ?_
    exact ⟨rfl, by (repeat (first | (with_reducible exact Below.refl _ _) | (with_reducible assumption) | (with_reducible refine Below.drew ?_) | (with_reducible refine Below.allocS ?_ _) | (with_reducible refine Below.setCell ?_ ?_ _) | (with_reducible refine Below.step ?_ (by assumption)) | (with_reducible refine Below.drewN' ?_ _))); (try any_goals (first | (with_reducible assumption) | (simp; done) | (simp; omega) | omega))⟩
  rw [Bool.true_and]
  by_cases h1 : l2 = 0
  · subst h1
    rw [decide_eq_true rfl, Bool.true_or, if_pos rfl, if_pos (Or.inl rfl)]
    clear HL HA HB
    go_enter Try.func68, Try.ntmps68
    go_wp2
    (try simp only [Exit.inBlock, Exit.then])
    refine bodyPost_ret (res_reach rfl _ _ (w.heap.size + 1) (.int .i64 0) (.int .i64 0) (.int .i64 0) (.int .i64 0) rfl (by simp [go_sem]) (by simp [go_sem]) (by simp [go_sem]) (by simp [go_sem])) rfl ?_
    exact ⟨rfl, by (repeat (first | (with_reducible exact Below.refl _ _) | (with_reducible assumption) | (with_reducible refine Below.drew ?_) | (with_reducible refine Below.allocS ?_ _) | (with_reducible refine Below.setCell ?_ ?_ _) | (with_reducible refine Below.step ?_ (by assumption)) | (with_reducible refine Below.drewN' ?_ _))); (try any_goals (first | (with_reducible assumption) | (simp; done) | (simp; omega) | omega))⟩
  have p2 : 0 < l2 := by omega
  rw [decide_eq_false h1, Bool.false_or]
  by_cases h2 : l4 = 0
  · subst h2
    rw [decide_eq_true rfl, Bool.true_or, if_pos rfl, if_pos (Or.inr rfl)]
    clear HL HA HB
    go_enter Try.func68, Try.ntmps68
    go_wp2
    (try simp only [Exit.inBlock, Exit.then])
    refine bodyPost_ret (res_reach rfl _ _ (w.heap.size + 1) (.int .i64 0) (.int .i64 0) (.int .i64 0) (.int .i64 0) rfl (by simp [go_sem]) (by simp [go_sem]) (by simp [go_sem]) (by simp [go_sem])) rfl ?_
    exact ⟨rfl, by (repeat (first | (with_reducible exact Below.refl _ _) | (with_reducible assumption) | (with_reducible refine Below.drew ?_) | (with_reducible refine Below.allocS ?_ _) | (with_reducible refine Below.setCell ?_ ?_ _) | (with_reducible refine Below.step ?_ (by assumption)) | (with_reducible refine Below.drewN' ?_ _))); (try any_goals (first | (with_reducible assumption) | (simp; done) | (simp; omega) | omega))⟩
  have p4 : 0 < l4 := by omega
  rw [decide_eq_false h2, Bool.false_or, if_neg (show ¬ (l2 = 0 ∨ l4 = 0) by omega)]
  have q2 : (l2 == 0) = false := by simp [h1]
  have q4 : (l4 == 0) = false := by simp [h2]
  have HA' := Lib.hid (HA.out h1)
  have HB' := Lib.hid (HB.out h2)
  clear HA HB
  cases X
  case true =>
    rw [Bool.not_true, if_neg (by simp)]
    go_enter Try.func68, Try.ntmps68
    go_wp2_with fail
    refine (HL.out _).mono ?_
    rintro e w1 ⟨rfl, hb1⟩
    have x1_0_0 : w1.cell? ⟨w.heap.size, 0, none⟩ = some (.int .i64 l1) := keep_cell hb1 (by simp [go_sem, *])
    have x1_0_1 : w1.cell? ⟨w.heap.size, 1, none⟩ = some (.int .i64 l2) := keep_cell hb1 (by simp [go_sem, *])
    have x1_0_2 : w1.cell? ⟨w.heap.size, 2, none⟩ = some (.int .i64 l3) := keep_cell hb1 (by simp [go_sem, *])
    have x1_0_3 : w1.cell? ⟨w.heap.size, 3, none⟩ = some (.int .i64 l4) := keep_cell hb1 (by simp [go_sem, *])
    have x1_0_4 : w1.cell? ⟨w.heap.size, 4, none⟩ = some (.bool true) := keep_cell hb1 (by simp [go_sem, *])
    have y1_0 : w.heap.size < w1.heap.size := cell?_lt x1_0_0
    have x1_1_0 : w1.cell? ⟨w.heap.size + 1, 0, none⟩ = some (.int .i64 0) := keep_cell hb1 (by simp [go_sem, *])
    have f1_1_0 : w1.frozen? ⟨w.heap.size + 1, 0, none⟩ = false := keep_frozen hb1 (by first | omega | (simp <;> omega)) (by simp [go_sem, *])
    have x1_1_1 : w1.cell? ⟨w.heap.size + 1, 1, none⟩ = some (.int .i64 0) := keep_cell hb1 (by simp [go_sem, *])
    have f1_1_1 : w1.frozen? ⟨w.heap.size + 1, 1, none⟩ = false := keep_frozen hb1 (by first | omega | (simp <;> omega)) (by simp [go_sem, *])
    have x1_1_2 : w1.cell? ⟨w.heap.size + 1, 2, none⟩ = some (.int .i64 0) := keep_cell hb1 (by simp [go_sem, *])
    have f1_1_2 : w1.frozen? ⟨w.heap.size + 1, 2, none⟩ = false := keep_frozen hb1 (by first | omega | (simp <;> omega)) (by simp [go_sem, *])
    have x1_1_3 : w1.cell? ⟨w.heap.size + 1, 3, none⟩ = some (.int .i64 0) := keep_cell hb1 (by simp [go_sem, *])
    have f1_1_3 : w1.frozen? ⟨w.heap.size + 1, 3, none⟩ = false := keep_frozen hb1 (by first | omega | (simp <;> omega)) (by simp [go_sem, *])
    have y1_1 : w.heap.size + 1 < w1.heap.size := cell?_lt x1_1_0
    have g1 : Below w.heap.size w w1 := by (repeat (first | exact Below.refl _ _ | refine Below.drew ?_ | refine Below.allocS ?_ _ | refine Below.step ?_ (by assumption) | refine Below.setCell ?_ (by simp <;> omega) _ | refine Below.drewN' ?_ _))
    clear hb1
    go_wp2
    (try simp only [Exit.inBlock, Exit.then])
    refine bodyPost_ret (res_reach rfl _ _ (w.heap.size + 1) (.int .i64 0) (.int .i64 0) (.int .i64 0) (.int .i64 0) rfl (by simp [go_sem, *]) (by simp [go_sem, *]) (by simp [go_sem, *]) (by simp [go_sem, *])) rfl ?_
    exact ⟨rfl, by (repeat (first | (with_reducible exact Below.refl _ _) | (with_reducible assumption) | (with_reducible refine Below.drew ?_) | (with_reducible refine Below.allocS ?_ _) | (with_reducible refine Below.setCell ?_ ?_ _) | (with_reducible refine Below.step ?_ (by assumption)) | (with_reducible refine Below.drewN' ?_ _))); (try any_goals (first | (with_reducible assumption) | (simp; done) | (simp; omega) | omega))⟩
  rw [Bool.not_false, if_pos rfl]
  obtain ⟨T, hT⟩ : ∃ T : Tl, T = (if a3 ≠ 0 ∨ b3 ≠ 0 then (⟨0, 0, 0, 0, 4⟩ : Tl) else ⟨a1, a2, b1, b2, 0⟩) := ⟨_, rfl⟩
  rw [← hT]
  have HT := Lib.hid hT
  clear hT
  go_enter Try.func68, Try.ntmps68
  go_wp2_with fail
  refine (HL.out _).mono ?_
  rintro e w1 ⟨rfl, hb1⟩
  have x1_0_0 : w1.cell? ⟨w.heap.size, 0, none⟩ = some (.int .i64 l1) := keep_cell hb1 (by simp [go_sem, *])
  have x1_0_1 : w1.cell? ⟨w.heap.size, 1, none⟩ = some (.int .i64 l2) := keep_cell hb1 (by simp [go_sem, *])
  have x1_0_2 : w1.cell? ⟨w.heap.size, 2, none⟩ = some (.int .i64 l3) := keep_cell hb1 (by simp [go_sem, *])
  have x1_0_3 : w1.cell? ⟨w.heap.size, 3, none⟩ = some (.int .i64 l4) := keep_cell hb1 (by simp [go_sem, *])
  have x1_0_4 : w1.cell? ⟨w.heap.size, 4, none⟩ = some (.bool true) := keep_cell hb1 (by simp [go_sem, *])
  have y1_0 : w.heap.size < w1.heap.size := cell?_lt x1_0_0
  have x1_1_0 : w1.cell? ⟨w.heap.size + 1, 0, none⟩ = some (.int .i64 0) := keep_cell hb1 (by simp [go_sem, *])
  have f1_1_0 : w1.frozen? ⟨w.heap.size + 1, 0, none⟩ = false := keep_frozen hb1 (by first | omega | (simp <;> omega)) (by simp [go_sem, *])
  have x1_1_1 : w1.cell? ⟨w.heap.size + 1, 1, none⟩ = some (.int .i64 0) := keep_cell hb1 (by simp [go_sem, *])
  have f1_1_1 : w1.frozen? ⟨w.heap.size + 1, 1, none⟩ = false := keep_frozen hb1 (by first | omega | (simp <;> omega)) (by simp [go_sem, *])
  have x1_1_2 : w1.cell? ⟨w.heap.size + 1, 2, none⟩ = some (.int .i64 0) := keep_cell hb1 (by simp [go_sem, *])
  have f1_1_2 : w1.frozen? ⟨w.heap.size + 1, 2, none⟩ = false := keep_frozen hb1 (by first | omega | (simp <;> omega)) (by simp [go_sem, *])
  have x1_1_3 : w1.cell? ⟨w.heap.size + 1, 3, none⟩ = some (.int .i64 0) := keep_cell hb1 (by simp [go_sem, *])
  have f1_1_3 : w1.frozen? ⟨w.heap.size + 1, 3, none⟩ = false := keep_frozen hb1 (by first | omega | (simp <;> omega)) (by simp [go_sem, *])
  have y1_1 : w.heap.size + 1 < w1.heap.size := cell?_lt x1_1_0
  have g1 : Below w.heap.size w w1 := by (repeat (first | exact Below.refl _ _ | refine Below.drew ?_ | refine Below.allocS ?_ _ | refine Below.step ?_ (by assumption) | refine Below.setCell ?_ (by simp <;> omega) _ | refine Below.drewN' ?_ _))
  clear hb1
  go_wp2_with fail
  refine (HA'.out _).mono ?_
  rintro e w2 ⟨rfl, hb2⟩
  have x2_0_0 : w2.cell? ⟨w.heap.size, 0, none⟩ = some (.int .i64 l1) := keep_cell hb2 (by simp [go_sem, *])
  have x2_0_1 : w2.cell? ⟨w.heap.size, 1, none⟩ = some (.int .i64 l2) := keep_cell hb2 (by simp [go_sem, *])
  have x2_0_2 : w2.cell? ⟨w.heap.size, 2, none⟩ = some (.int .i64 l3) := keep_cell hb2 (by simp [go_sem, *])
  have x2_0_3 : w2.cell? ⟨w.heap.size, 3, none⟩ = some (.int .i64 l4) := keep_cell hb2 (by simp [go_sem, *])
  have x2_0_4 : w2.cell? ⟨w.heap.size, 4, none⟩ = some (.bool true) := keep_cell hb2 (by simp [go_sem, *])
  have y2_0 : w.heap.size < w2.heap.size := cell?_lt x2_0_0
  have x2_1_0 : w2.cell? ⟨w.heap.size + 1, 0, none⟩ = some (.int .i64 0) := keep_cell hb2 (by simp [go_sem, *])
  have f2_1_0 : w2.frozen? ⟨w.heap.size + 1, 0, none⟩ = false := keep_frozen hb2 (by first | omega | (simp <;> omega)) (by simp [go_sem, *])
  have x2_1_1 : w2.cell? ⟨w.heap.size + 1, 1, none⟩ = some (.int .i64 0) := keep_cell hb2 (by simp [go_sem, *])
  have f2_1_1 : w2.frozen? ⟨w.heap.size + 1, 1, none⟩ = false := keep_frozen hb2 (by first | omega | (simp <;> omega)) (by simp [go_sem, *])
  have x2_1_2 : w2.cell? ⟨w.heap.size + 1, 2, none⟩ = some (.int .i64 0) := keep_cell hb2 (by simp [go_sem, *])
  have f2_1_2 : w2.frozen? ⟨w.heap.size + 1, 2, none⟩ = false := keep_frozen hb2 (by first | omega | (simp <;> omega)) (by simp [go_sem, *])
  have x2_1_3 : w2.cell? ⟨w.heap.size + 1, 3, none⟩ = some (.int .i64 0) := keep_cell hb2 (by simp [go_sem, *])
  have f2_1_3 : w2.frozen? ⟨w.heap.size + 1, 3, none⟩ = false := keep_frozen hb2 (by first | omega | (simp <;> omega)) (by simp [go_sem, *])
  have y2_1 : w.heap.size + 1 < w2.heap.size := cell?_lt x2_1_0
  have g2 : Below w.heap.size w w2 := by (repeat (first | exact Below.refl _ _ | refine Below.drew ?_ | refine Below.allocS ?_ _ | refine Below.step ?_ (by assumption) | refine Below.setCell ?_ (by simp <;> omega) _ | refine Below.drewN' ?_ _))
  clear hb2 g1 x1_0_0 x1_0_1 x1_0_2 x1_0_3 x1_0_4 x1_1_0 f1_1_0 x1_1_1 f1_1_1 x1_1_2 f1_1_2 x1_1_3 f1_1_3 y1_0 y1_1
  go_wp2_with fail
  refine (HB'.out _).mono ?_
  rintro e w3 ⟨rfl, hb3⟩
  have x3_0_0 : w3.cell? ⟨w.heap.size, 0, none⟩ = some (.int .i64 l1) := keep_cell hb3 (by simp [go_sem, *])
  have x3_0_1 : w3.cell? ⟨w.heap.size, 1, none⟩ = some (.int .i64 l2) := keep_cell hb3 (by simp [go_sem, *])
  have x3_0_2 : w3.cell? ⟨w.heap.size, 2, none⟩ = some (.int .i64 l3) := keep_cell hb3 (by simp [go_sem, *])
  have x3_0_3 : w3.cell? ⟨w.heap.size, 3, none⟩ = some (.int .i64 l4) := keep_cell hb3 (by simp [go_sem, *])
  have x3_0_4 : w3.cell? ⟨w.heap.size, 4, none⟩ = some (.bool true) := keep_cell hb3 (by simp [go_sem, *])
  have y3_0 : w.heap.size < w3.heap.size := cell?_lt x3_0_0
  have x3_1_0 : w3.cell? ⟨w.heap.size + 1, 0, none⟩ = some (.int .i64 0) := keep_cell hb3 (by simp [go_sem, *])
  have f3_1_0 : w3.frozen? ⟨w.heap.size + 1, 0, none⟩ = false := keep_frozen hb3 (by first | omega | (simp <;> omega)) (by simp [go_sem, *])
  have x3_1_1 : w3.cell? ⟨w.heap.size + 1, 1, none⟩ = some (.int .i64 0) := keep_cell hb3 (by simp [go_sem, *])
  have f3_1_1 : w3.frozen? ⟨w.heap.size + 1, 1, none⟩ = false := keep_frozen hb3 (by first | omega | (simp <;> omega)) (by simp [go_sem, *])
  have x3_1_2 : w3.cell? ⟨w.heap.size + 1, 2, none⟩ = some (.int .i64 0) := keep_cell hb3 (by simp [go_sem, *])
  have f3_1_2 : w3.frozen? ⟨w.heap.size + 1, 2, none⟩ = false := keep_frozen hb3 (by first | omega | (simp <;> omega)) (by simp [go_sem, *])
  have x3_1_3 : w3.cell? ⟨w.heap.size + 1, 3, none⟩ = some (.int .i64 0) := keep_cell hb3 (by simp [go_sem, *])
  have f3_1_3 : w3.frozen? ⟨w.heap.size + 1, 3, none⟩ = false := keep_frozen hb3 (by first | omega | (simp <;> omega)) (by simp [go_sem, *])
  have y3_1 : w.heap.size + 1 < w3.heap.size := cell?_lt x3_1_0
  have x3_2_0 : w3.cell? ⟨w2.heap.size, 0, none⟩ = some (.int .i64 a1) := keep_cell hb3 (by simp [go_sem, *])
  have x3_2_1 : w3.cell? ⟨w2.heap.size, 1, none⟩ = some (.int .i64 a2) := keep_cell hb3 (by simp [go_sem, *])
  have y3_2 : w2.heap.size < w3.heap.size := cell?_lt x3_2_0
  have g3 : Below w.heap.size w w3 := by (repeat (first | exact Below.refl _ _ | refine Below.drew ?_ | refine Below.allocS ?_ _ | refine Below.step ?_ (by assumption) | refine Below.setCell ?_ (by simp <;> omega) _ | refine Below.drewN' ?_ _))
  clear hb3 g2 x2_0_0 x2_0_1 x2_0_2 x2_0_3 x2_0_4 x2_1_0 f2_1_0 x2_1_1 f2_1_1 x2_1_2 f2_1_2 x2_1_3 f2_1_3 y2_0 y2_1
  have hT := HT.out
  rcases ha3 with rfl | rfl
  · rcases hb3 with rfl | rfl
    · rw [if_neg (by simp)] at hT
      subst hT
      go_wp2
      (try simp only [Exit.inBlock, Exit.then])
      refine bodyPost_ret (res_reach rfl _ _ (w.heap.size + 1) (.int .i64 a1) (.int .i64 a2) (.int .i64 b1) (.int .i64 b2) rfl (by simp [go_sem, *]) (by simp [go_sem, *]) (by simp [go_sem, *]) (by simp [go_sem, *])) rfl ?_
      exact ⟨rfl, by (repeat (first | (with_reducible exact Below.refl _ _) | (with_reducible assumption) | (with_reducible refine Below.drew ?_) | (with_reducible refine Below.allocS ?_ _) | (with_reducible refine Below.setCell ?_ ?_ _) | (with_reducible refine Below.step ?_ (by assumption)) | (with_reducible refine Below.drewN' ?_ _))); (try any_goals (first | (with_reducible assumption) | (simp; done) | (simp; omega) | omega))⟩
    · rw [if_pos (by simp)] at hT
      subst hT
      go_wp2
      (try simp only [Exit.inBlock, Exit.then])
      refine bodyPost_ret (res_reach rfl _ _ (w.heap.size + 1) (.int .i64 0) (.int .i64 0) (.int .i64 0) (.int .i64 0) rfl (by simp [go_sem, *]) (by simp [go_sem, *]) (by simp [go_sem, *]) (by simp [go_sem, *])) rfl ?_
      exact ⟨rfl, by (repeat (first | (with_reducible exact Below.refl _ _) | (with_reducible assumption) | (with_reducible refine Below.drew ?_) | (with_reducible refine Below.allocS ?_ _) | (with_reducible refine Below.setCell ?_ ?_ _) | (with_reducible refine Below.step ?_ (by assumption)) | (with_reducible refine Below.drewN' ?_ _))); (try any_goals (first | (with_reducible assumption) | (simp; done) | (simp; omega) | omega))⟩
  · rw [if_pos (by simp)] at hT
    subst hT
    go_wp2
    (try simp only [Exit.inBlock, Exit.then])
    refine bodyPost_ret (res_reach rfl _ _ (w.heap.size + 1) (.int .i64 0) (.int .i64 0) (.int .i64 0) (.int .i64 0) rfl (by simp [go_sem, *]) (by simp [go_sem, *]) (by simp [go_sem, *]) (by simp [go_sem, *])) rfl ?_
    exact ⟨rfl, by (repeat (first | (with_reducible exact Below.refl _ _) | (with_reducible assumption) | (with_reducible refine Below.drew ?_) | (with_reducible refine Below.allocS ?_ _) | (with_reducible refine Below.setCell ?_ ?_ _) | (with_reducible refine Below.step ?_ (by assumption)) | (with_reducible refine Below.drewN' ?_ _))); (try any_goals (first | (with_reducible assumption) | (simp; done) | (simp; omega) | omega))⟩
end Go.Proofs.Ytbcabckokmjelaa
