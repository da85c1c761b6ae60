/-
  Run of the reference of ball, and Run of ball for all masts and logs.
-/
import Derived.Test.YtimbdnngeoccdaaGreatDoorB3
import Derived.Test.YtimbdnngeoccdaaGreatDoorB5
import Derived.Test.YtimbdnngeoccdaaGreatDoorB6
namespace Go.Proofs.YtimbdnngeoccdaaGreatDoor
open Go.RowKit
set_option linter.unusedVariables false

set_option maxHeartbeats 1000000 in
theorem Run_c (x : Ms) (l : List Ev) (A : Option Addr) (cap : Nat) (hl : l.length ≤ 9223372036854775807) (w : World) (hr : RdL w w.heap.size evE 3 A l) :
    Calls Tryz.prog 44 #[msV x, .slice A l.length cap] w fun e w' => e = .returned (.tuple #[blV (runG x l).1, .int .i64 ((runG x l).2.1 : Nat), .int .i64 (runG x l).2.2]) ∧ Below w.heap.size w w' := by
  cases hm : okMast x
  · have e1 : runG x l = (bl0, 0, 1) := by unfold runG; rw [hm]; rfl
    rw [e1]
    have HV := Lib.hid (fun W => validMast_c x W)
    rw [hm] at HV
    clear e1 hm hr
    unfold msV at *
    go_enter Tryz.func44, Tryz.ntmps44
    go_wp2_with fail
    refine (HV.out _).mono ?_
    rintro e w1 ⟨rfl, hb1⟩
    have x1_0_0 : w1.cell? ⟨w.heap.size, 0, none⟩ = some (.int .i64 x.noon) := keep_cell hb1 (by simp [go_sem, *])
    have x1_0_1 : w1.cell? ⟨w.heap.size, 1, none⟩ = some (.int .i64 x.half) := keep_cell hb1 (by simp [go_sem, *])
    have x1_0_2 : w1.cell? ⟨w.heap.size, 2, none⟩ = some (.int .i64 x.full) := keep_cell hb1 (by simp [go_sem, *])
    have x1_0_3 : w1.cell? ⟨w.heap.size, 3, none⟩ = some (.int .i64 x.late) := keep_cell hb1 (by simp [go_sem, *])
    have x1_0_4 : w1.cell? ⟨w.heap.size, 4, none⟩ = some (.int .i64 x.again) := keep_cell hb1 (by simp [go_sem, *])
    have x1_0_5 : w1.cell? ⟨w.heap.size, 5, none⟩ = some (.int .i64 x.wind) := keep_cell hb1 (by simp [go_sem, *])
    have y1_0 : w.heap.size < w1.heap.size := cell?_lt x1_0_0
    have x1_1_0 : w1.cell? ⟨w.heap.size + 1, 0, none⟩ = some (.int .i64 0) := keep_cell hb1 (by simp [go_sem, *])
    have f1_1_0 : w1.frozen? ⟨w.heap.size + 1, 0, none⟩ = false := keep_frozen hb1 (by first | omega | (simp <;> omega)) (by simp [go_sem, *])
    have x1_1_1 : w1.cell? ⟨w.heap.size + 1, 1, none⟩ = some (.int .i64 0) := keep_cell hb1 (by simp [go_sem, *])
    have f1_1_1 : w1.frozen? ⟨w.heap.size + 1, 1, none⟩ = false := keep_frozen hb1 (by first | omega | (simp <;> omega)) (by simp [go_sem, *])
    have x1_1_2 : w1.cell? ⟨w.heap.size + 1, 2, none⟩ = some (.bool false) := keep_cell hb1 (by simp [go_sem, *])
    have f1_1_2 : w1.frozen? ⟨w.heap.size + 1, 2, none⟩ = false := keep_frozen hb1 (by first | omega | (simp <;> omega)) (by simp [go_sem, *])
    have x1_1_3 : w1.cell? ⟨w.heap.size + 1, 3, none⟩ = some (.int .i64 0) := keep_cell hb1 (by simp [go_sem, *])
    have f1_1_3 : w1.frozen? ⟨w.heap.size + 1, 3, none⟩ = false := keep_frozen hb1 (by first | omega | (simp <;> omega)) (by simp [go_sem, *])
    have y1_1 : w.heap.size + 1 < w1.heap.size := cell?_lt x1_1_0
    have x1_2_0 : w1.cell? ⟨w.heap.size + 1 + 1, 0, none⟩ = some (.int .i64 0) := keep_cell hb1 (by simp [go_sem, *])
    have f1_2_0 : w1.frozen? ⟨w.heap.size + 1 + 1, 0, none⟩ = false := keep_frozen hb1 (by first | omega | (simp <;> omega)) (by simp [go_sem, *])
    have y1_2 : w.heap.size + 1 + 1 < w1.heap.size := cell?_lt x1_2_0
    have x1_3_0 : w1.cell? ⟨w.heap.size + 1 + 1 + 1, 0, none⟩ = some (.int .i64 0) := keep_cell hb1 (by simp [go_sem, *])
    have f1_3_0 : w1.frozen? ⟨w.heap.size + 1 + 1 + 1, 0, none⟩ = false := keep_frozen hb1 (by first | omega | (simp <;> omega)) (by simp [go_sem, *])
    have y1_3 : w.heap.size + 1 + 1 + 1 < w1.heap.size := cell?_lt x1_3_0
    have g1 : Below w.heap.size w w1 := by (repeat (first | exact Below.refl _ _ | refine Below.drew ?_ | refine Below.allocS ?_ _ | refine Below.step ?_ (by assumption) | refine Below.setCell ?_ (by simp <;> omega) _ | refine Below.drewN' ?_ _))
    clear hb1
    go_wp2
    refine bodyPost_ret (v := .tuple #[.agg #[.int .i64 0, .int .i64 0, .bool false, .int .i64 0], .int .i64 0, .int .i64 1]) (by simp [results, Tryz.results44, go_sem, *] <;> (repeat' apply And.intro) <;> rfl) rfl ⟨rfl, ?_⟩
    (repeat (first | (with_reducible exact Below.refl _ _) | (with_reducible assumption) | (with_reducible refine Below.drew ?_) | (with_reducible refine Below.allocS ?_ _) | (with_reducible refine Below.setCell ?_ ?_ _) | (with_reducible refine Below.step ?_ (by assumption)) | (with_reducible refine Below.drewN' ?_ _))); (try any_goals (first | (with_reducible assumption) | (simp; done) | (simp; omega) | omega))
  by_cases hlen : l.length ≤ 100
  · have e1 : runG x l = runFrom x bl0 0 l := by unfold runG; rw [hm, if_pos rfl, if_pos hlen]
    rw [e1]
    exact run_main x (okMast_true hm) hm (fun s e W => next_c x (okMast_true hm) s e W) l A cap hlen w hr
  · have e1 : runG x l = (bl0, 0, 7) := by unfold runG; rw [hm, if_pos rfl, if_neg hlen]
    rw [e1]
    have hgt : 100 < l.length := by omega
    have HV := Lib.hid (fun W => validMast_c x W)
    rw [hm] at HV
    clear e1 hm hr
    unfold msV at *
    go_enter Tryz.func44, Tryz.ntmps44
    go_wp2_with fail
    refine (HV.out _).mono ?_
    rintro e w1 ⟨rfl, hb1⟩
    have x1_0_0 : w1.cell? ⟨w.heap.size, 0, none⟩ = some (.int .i64 x.noon) := keep_cell hb1 (by simp [go_sem, *])
    have x1_0_1 : w1.cell? ⟨w.heap.size, 1, none⟩ = some (.int .i64 x.half) := keep_cell hb1 (by simp [go_sem, *])
    have x1_0_2 : w1.cell? ⟨w.heap.size, 2, none⟩ = some (.int .i64 x.full) := keep_cell hb1 (by simp [go_sem, *])
    have x1_0_3 : w1.cell? ⟨w.heap.size, 3, none⟩ = some (.int .i64 x.late) := keep_cell hb1 (by simp [go_sem, *])
    have x1_0_4 : w1.cell? ⟨w.heap.size, 4, none⟩ = some (.int .i64 x.again) := keep_cell hb1 (by simp [go_sem, *])
    have x1_0_5 : w1.cell? ⟨w.heap.size, 5, none⟩ = some (.int .i64 x.wind) := keep_cell hb1 (by simp [go_sem, *])
    have y1_0 : w.heap.size < w1.heap.size := cell?_lt x1_0_0
    have x1_1_0 : w1.cell? ⟨w.heap.size + 1, 0, none⟩ = some (.int .i64 0) := keep_cell hb1 (by simp [go_sem, *])
    have f1_1_0 : w1.frozen? ⟨w.heap.size + 1, 0, none⟩ = false := keep_frozen hb1 (by first | omega | (simp <;> omega)) (by simp [go_sem, *])
    have x1_1_1 : w1.cell? ⟨w.heap.size + 1, 1, none⟩ = some (.int .i64 0) := keep_cell hb1 (by simp [go_sem, *])
    have f1_1_1 : w1.frozen? ⟨w.heap.size + 1, 1, none⟩ = false := keep_frozen hb1 (by first | omega | (simp <;> omega)) (by simp [go_sem, *])
    have x1_1_2 : w1.cell? ⟨w.heap.size + 1, 2, none⟩ = some (.bool false) := keep_cell hb1 (by simp [go_sem, *])
    have f1_1_2 : w1.frozen? ⟨w.heap.size + 1, 2, none⟩ = false := keep_frozen hb1 (by first | omega | (simp <;> omega)) (by simp [go_sem, *])
    have x1_1_3 : w1.cell? ⟨w.heap.size + 1, 3, none⟩ = some (.int .i64 0) := keep_cell hb1 (by simp [go_sem, *])
    have f1_1_3 : w1.frozen? ⟨w.heap.size + 1, 3, none⟩ = false := keep_frozen hb1 (by first | omega | (simp <;> omega)) (by simp [go_sem, *])
    have y1_1 : w.heap.size + 1 < w1.heap.size := cell?_lt x1_1_0
    have x1_2_0 : w1.cell? ⟨w.heap.size + 1 + 1, 0, none⟩ = some (.int .i64 0) := keep_cell hb1 (by simp [go_sem, *])
    have f1_2_0 : w1.frozen? ⟨w.heap.size + 1 + 1, 0, none⟩ = false := keep_frozen hb1 (by first | omega | (simp <;> omega)) (by simp [go_sem, *])
    have y1_2 : w.heap.size + 1 + 1 < w1.heap.size := cell?_lt x1_2_0
    have x1_3_0 : w1.cell? ⟨w.heap.size + 1 + 1 + 1, 0, none⟩ = some (.int .i64 0) := keep_cell hb1 (by simp [go_sem, *])
    have f1_3_0 : w1.frozen? ⟨w.heap.size + 1 + 1 + 1, 0, none⟩ = false := keep_frozen hb1 (by first | omega | (simp <;> omega)) (by simp [go_sem, *])
    have y1_3 : w.heap.size + 1 + 1 + 1 < w1.heap.size := cell?_lt x1_3_0
    have g1 : Below w.heap.size w w1 := by (repeat (first | exact Below.refl _ _ | refine Below.drew ?_ | refine Below.allocS ?_ _ | refine Below.step ?_ (by assumption) | refine Below.setCell ?_ (by simp <;> omega) _ | refine Below.drewN' ?_ _))
    clear hb1
    go_wp2
    refine bodyPost_ret (v := .tuple #[.agg #[.int .i64 0, .int .i64 0, .bool false, .int .i64 0], .int .i64 0, .int .i64 7]) (by simp [results, Tryz.results44, go_sem, *] <;> (repeat' apply And.intro) <;> rfl) rfl ⟨rfl, ?_⟩
    (repeat (first | (with_reducible exact Below.refl _ _) | (with_reducible assumption) | (with_reducible refine Below.drew ?_) | (with_reducible refine Below.allocS ?_ _) | (with_reducible refine Below.setCell ?_ ?_ _) | (with_reducible refine Below.step ?_ (by assumption)) | (with_reducible refine Below.drewN' ?_ _))); (try any_goals (first | (with_reducible assumption) | (simp; done) | (simp; omega) | omega))

theorem nextE_fine {x : Ms} {s : Bl} {e : Ev} (h : nextE x s e = 0) : fineB e = true := by
  unfold nextE at h
  by_cases hf : fineB e = true ∧ s.at' ≤ e.at'
  · exact hf.1
  · rw [if_neg hf] at h; cases h
theorem run_fine (x : Ms) : ∀ (l : List Ev) (s : Bl) (k : Nat), (runFrom x s k l).2.2 = 0 → ∀ e ∈ l, fineB e = true
  | [], _, _, _, _, h => by cases h
  | a :: l, s, k, h, e, he => by
    unfold runFrom at h
    by_cases h0 : nextE x s a = 0
    · rw [if_pos h0] at h
      rcases List.mem_cons.1 he with rfl | he
      · exact nextE_fine h0
      · exact run_fine x l _ _ h e he
    · rw [if_neg h0] at h; exact absurd h h0
theorem runG_parts {x : Ms} {l : List Ev} (h : (runG x l).2.2 = 0) : okMast x = true ∧ l.length ≤ 100 ∧ ∀ e ∈ l, fineB e = true := by
  unfold runG at h
  by_cases hm : okMast x = true
  · rw [if_pos hm] at h
    by_cases hlen : l.length ≤ 100
    · rw [if_pos hlen] at h
      exact ⟨hm, hlen, run_fine x l _ _ h⟩
    · rw [if_neg hlen] at h; cases h
  · rw [if_neg hm] at h; cases h
theorem okBall_next {x : Ms} {s : Bl} {e : Ev} (hs : okBall s = true) (h : nextE x s e = 0) : okBall (nextS x s e) = true := by
  have hf := nextE_fine h
  obtain ⟨⟨p0, p1⟩, ⟨v0, v1⟩, _⟩ := okBall_true hs
  obtain ⟨⟨t0, t1⟩, _, ⟨m0, m1⟩, _⟩ := fineB_true hf
  unfold nextS
  rw [if_pos h]
  unfold doB okBall
  (repeat' split) <;> simp [within] <;> omega

end Go.Proofs.YtimbdnngeoccdaaGreatDoor
