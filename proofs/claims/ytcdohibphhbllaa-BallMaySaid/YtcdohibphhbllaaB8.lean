/-
  Run of the reference of ball, and Run of ball for all masts and logs.
-/
import Derived.Test.YtcdohibphhbllaaB3
import Derived.Test.YtcdohibphhbllaaB5
import Derived.Test.YtcdohibphhbllaaB6
namespace Go.Proofs.Ytcdohibphhbllaa
open Go.RowKit
set_option linter.unusedVariables false

set_option maxHeartbeats 1000000 in
theorem Run_c (x : Ms) (l : List Ev) (A : Option Addr) (cap : Nat) (hl : l.length ≤ 9223372036854775807) (w : World) (hr : RdL w w.heap.size evE 3 A l) :
    Calls Try.prog 15 #[msV x, .slice A l.length cap] w fun e w' => e = .returned (.tuple #[blV (runG x l).1, .int .i64 ((runG x l).2.1 : Nat), .int .i64 (runG x l).2.2]) ∧ Below w.heap.size w w' := by
  cases hm : okMast x
  · have e1 : runG x l = (bl0, 0, 1) := by unfold runG; rw [hm]; rfl
    rw [e1]
    have HV := Lib.hid (fun W => validMast_c x W)
    rw [hm] at HV
    clear e1 hm hr
    unfold msV at *
    go_enter Try.func15, Try.ntmps15
    go_wp2_with fail
    refine (HV.out _).mono ?_
    rintro e w1 ⟨rfl, hb1⟩
    have x1_0_0 : w1.cell? ⟨w.heap.size, 0, none⟩ = some (.int .i64 x.noon) := keep_cell hb1 (by simp [go_sem, *])
    have x1_0_1 : w1.cell? ⟨w.heap.size, 1, none⟩ = some (.int .i64 x.half) := keep_cell hb1 (by simp [go_sem, *])
    have x1_0_2 : w1.cell? ⟨w.heap.size, 2, none⟩ = some (.int .i64 x.full) := keep_cell hb1 (by simp [go_sem, *])
    have x1_0_3 : w1.cell? ⟨w.heap.size, 3, none⟩ = some (.int .i64 x.late) := keep_cell hb1 (by simp [go_sem, *])
    have x1_0_4 : w1.cell? ⟨w.heap.size, 4, none⟩ = some (.int .i64 x.again) := keep_cell hb1 (by simp [go_sem, *])
    have x1_0_5 : w1.cell? ⟨w.heap.size, 5, none⟩ = some (.int .i64 x.wind) := keep_cell hb1 (by simp [go_sem, *])
    have y1_0 : w.heap.size < w1.heap.size := cell?_lt x1_0_0
    have x1_1_0 : w1.cell? ⟨w.heap.size + 1, 0, none⟩ = some (.int .i64 0) := keep_cell hb1 (by simp [go_sem, *])
    have f1_1_0 : w1.frozen? ⟨w.heap.size + 1, 0, none⟩ = false := keep_frozen hb1 (by first | omega | (simp <;> omega)) (by simp [go_sem, *])
    have x1_1_1 : w1.cell? ⟨w.heap.size + 1, 1, none⟩ = some (.int .i64 0) := keep_cell hb1 (by simp [go_sem, *])
    have f1_1_1 : w1.frozen? ⟨w.heap.size + 1, 1, none⟩ = false := keep_frozen hb1 (by first | omega | (simp <;> omega)) (by simp [go_sem, *])
    have x1_1_2 : w1.cell? ⟨w.heap.size + 1, 2, none⟩ = some (.bool false) := keep_cell hb1 (by simp [go_sem, *])
    have f1_1_2 : w1.frozen? ⟨w.heap.size + 1, 2, none⟩ = false := keep_frozen hb1 (by first | omega | (simp <;> omega)) (by simp [go_sem, *])
    have x1_1_3 : w1.cell? ⟨w.heap.size + 1, 3, none⟩ = some (.int .i64 0) := keep_cell hb1 (by simp [go_sem, *])
    have f1_1_3 : w1.frozen? ⟨w.heap.size + 1, 3, none⟩ = false := keep_frozen hb1 (by first | omega | (simp <;> omega)) (by simp [go_sem, *])
    have y1_1 : w.heap.size + 1 < w1.heap.size := cell?_lt x1_1_0
    have x1_2_0 : w1.cell? ⟨w.heap.size + 1 + 1, 0, none⟩ = some (.int .i64 0) := keep_cell hb1 (by simp [go_sem, *])
    have f1_2_0 : w1.frozen? ⟨w.heap.size + 1 + 1, 0, none⟩ = false := keep_frozen hb1 (by first | omega | (simp <;> omega)) (by simp [go_sem, *])
    have y1_2 : w.heap.size + 1 + 1 < w1.heap.size := cell?_lt x1_2_0
    have x1_3_0 : w1.cell? ⟨w.heap.size + 1 + 1 + 1, 0, none⟩ = some (.int .i64 0) := keep_cell hb1 (by simp [go_sem, *])
    have f1_3_0 : w1.frozen? ⟨w.heap.size + 1 + 1 + 1, 0, none⟩ = false := keep_frozen hb1 (by first | omega | (simp <;> omega)) (by simp [go_sem, *])
    have y1_3 : w.heap.size + 1 + 1 + 1 < w1.heap.size := cell?_lt x1_3_0
    have g1 : Below w.heap.size w w1 := by (repeat (first | exact Below.refl _ _ | refine Below.drew ?_ | refine Below.allocS ?_ _ | refine Below.step ?_ (by assumption) | refine Below.setCell ?_ (by simp <;> omega) _ | refine Below.drewN' ?_ _))
    clear hb1
    go_wp2
    refine bodyPost_ret (v := .tuple #[.agg #[.int .i64 0, .int .i64 0, .bool false, .int .i64 0], .int .i64 0, .int .i64 1]) (by simp [results, Try.results15, go_sem, *] <;> (repeat' apply And.intro) <;> rfl) rfl ⟨rfl, ?_⟩
    (repeat (first | (with_reducible exact Below.refl _ _) | (with_reducible assumption) | (with_reducible refine Below.drew ?_) | (with_reducible refine Below.allocS ?_ _) | (with_reducible refine Below.setCell ?_ ?_ _) | (with_reducible refine Below.step ?_ (by assumption)) | (with_reducible refine Below.drewN' ?_ _))); (try any_goals (first | (with_reducible assumption) | (simp; done) | (simp; omega) | omega))
  by_cases hlen : l.length ≤ 100
  · have e1 : runG x l = runFrom x bl0 0 l := by unfold runG; rw [hm, if_pos rfl, if_pos hlen]
    rw [e1]
    exact run_main x (okMast_true hm) hm (fun s e W => next_c x (okMast_true hm) s e W) l A cap hlen w hr
  · have e1 : runG x l = (bl0, 0, 7) := by unfold runG; rw [hm, if_pos rfl, if_neg hlen]
    rw [e1]
    have hgt : 100 < l.length := by omega
    have HV := Lib.hid (fun W => validMast_c x W)
    rw [hm] at HV
    clear e1 hm hr
    unfold msV at *
    go_enter Try.func15, Try.ntmps15
    go_wp2_with fail
    refine (HV.out _).mono ?_
    rintro e w1 ⟨rfl, hb1⟩
    have x1_0_0 : w1.cell? ⟨w.heap.size, 0, none⟩ = some (.int .i64 x.noon) := keep_cell hb1 (by simp [go_sem, *])
    have x1_0_1 : w1.cell? ⟨w.heap.size, 1, none⟩ = some (.int .i64 x.half) := keep_cell hb1 (by simp [go_sem, *])
    have x1_0_2 : w1.cell? ⟨w.heap.size, 2, none⟩ = some (.int .i64 x.full) := keep_cell hb1 (by simp [go_sem, *])
    have x1_0_3 : w1.cell? ⟨w.heap.size, 3, none⟩ = some (.int .i64 x.late) := keep_cell hb1 (by simp [go_sem, *])
    have x1_0_4 : w1.cell? ⟨w.heap.size, 4, none⟩ = some (.int .i64 x.again) := keep_cell hb1 (by simp [go_sem, *])
    have x1_0_5 : w1.cell? ⟨w.heap.size, 5, none⟩ = some (.int .i64 x.wind) := keep_cell hb1 (by simp [go_sem, *])
    have y1_0 : w.heap.size < w1.heap.size := cell?_lt x1_0_0
    have x1_1_0 : w1.cell? ⟨w.heap.size + 1, 0, none⟩ = some (.int .i64 0) := keep_cell hb1 (by simp [go_sem, *])
    have f1_1_0 : w1.frozen? ⟨w.heap.size + 1, 0, none⟩ = false := keep_frozen hb1 (by first | omega | (simp <;> omega)) (by simp [go_sem, *])
    have x1_1_1 : w1.cell? ⟨w.heap.size + 1, 1, none⟩ = some (.int .i64 0) := keep_cell hb1 (by simp [go_sem, *])
    have f1_1_1 : w1.frozen? ⟨w.heap.size + 1, 1, none⟩ = false := keep_frozen hb1 (by first | omega | (simp <;> omega)) (by simp [go_sem, *])
    have x1_1_2 : w1.cell? ⟨w.heap.size + 1, 2, none⟩ = some (.bool false) := keep_cell hb1 (by simp [go_sem, *])
    have f1_1_2 : w1.frozen? ⟨w.heap.size + 1, 2, none⟩ = false := keep_frozen hb1 (by first | omega | (simp <;> omega)) (by simp [go_sem, *])
    have x1_1_3 : w1.cell? ⟨w.heap.size + 1, 3, none⟩ = some (.int .i64 0) := keep_cell hb1 (by simp [go_sem, *])
    have f1_1_3 : w1.frozen? ⟨w.heap.size + 1, 3, none⟩ = false := keep_frozen hb1 (by first | omega | (simp <;> omega)) (by simp [go_sem, *])
    have y1_1 : w.heap.size + 1 < w1.heap.size := cell?_lt x1_1_0
    have x1_2_0 : w1.cell? ⟨w.heap.size + 1 + 1, 0, none⟩ = some (.int .i64 0) := keep_cell hb1 (by simp [go_sem, *])
    have f1_2_0 : w1.frozen? ⟨w.heap.size + 1 + 1, 0, none⟩ = false := keep_frozen hb1 (by first | omega | (simp <;> omega)) (by simp [go_sem, *])
    have y1_2 : w.heap.size + 1 + 1 < w1.heap.size := cell?_lt x1_2_0
    have x1_3_0 : w1.cell? ⟨w.heap.size + 1 + 1 + 1, 0, none⟩ = some (.int .i64 0) := keep_cell hb1 (by simp [go_sem, *])
    have f1_3_0 : w1.frozen? ⟨w.heap.size + 1 + 1 + 1, 0, none⟩ = false := keep_frozen hb1 (by first | omega | (simp <;> omega)) (by simp [go_sem, *])
    have y1_3 : w.heap.size + 1 + 1 + 1 < w1.heap.size := cell?_lt x1_3_0
    have g1 : Below w.heap.size w w1 := by (repeat (first | exact Below.refl _ _ | refine Below.drew ?_ | refine Below.allocS ?_ _ | refine Below.step ?_ (by assumption) | refine Below.setCell ?_ (by simp <;> omega) _ | refine Below.drewN' ?_ _))
    clear hb1
    go_wp2
    refine bodyPost_ret (v := .tuple #[.agg #[.int .i64 0, .int .i64 0, .bool false, .int .i64 0], .int .i64 0, .int .i64 7]) (by simp [results, Try.results15, go_sem, *] <;> (repeat' apply And.intro) <;> rfl) rfl ⟨rfl, ?_⟩
    (repeat (first | (with_reducible exact Below.refl _ _) | (with_reducible assumption) | (with_reducible refine Below.drew ?_) | (with_reducible refine Below.allocS ?_ _) | (with_reducible refine Below.setCell ?_ ?_ _) | (with_reducible refine Below.step ?_ (by assumption)) | (with_reducible refine Below.drewN' ?_ _))); (try any_goals (first | (with_reducible assumption) | (simp; done) | (simp; omega) | omega))

theorem nextE_fine {x : Ms} {s : Bl} {e : Ev} (h : nextE x s e = 0) : fineB e = true := by
  unfold nextE at h
  by_cases hf : fineB e = true ∧ s.at' ≤ e.at'
  · exact hf.1
  · rw [if_neg hf] at h; cases h
theorem run_fine (x : Ms) : ∀ (l : List Ev) (s : Bl) (k : Nat), (runFrom x s k l).2.2 = 0 → ∀ e ∈ l, fineB e = true
  | [], _, _, _, _, h => by cases h
  | a :: l, s, k, h, e, he => by
    unfold runFrom at h
    by_cases h0 : nextE x s a = 0
    · rw [if_pos h0] at h
      rcases List.mem_cons.1 he with rfl | he
      · exact nextE_fine h0
      · exact run_fine x l _ _ h e he
    · rw [if_neg h0] at h; exact absurd h h0
theorem runG_parts {x : Ms} {l : List Ev} (h : (runG x l).2.2 = 0) : okMast x = true ∧ l.length ≤ 100 ∧ ∀ e ∈ l, fineB e = true := by
  unfold runG at h
  by_cases hm : okMast x = true
  · rw [if_pos hm] at h
    by_cases hlen : l.length ≤ 100
    · rw [if_pos hlen] at h
      exact ⟨hm, hlen, run_fine x l _ _ h⟩
    · rw [if_neg hlen] at h; cases h
  · rw [if_neg hm] at h; cases h
theorem okBall_next {x : Ms} {s : Bl} {e : Ev} (hs : okBall s = true) (h : nextE x s e = 0) : okBall (nextS x s e) = true := by
  have hf := nextE_fine h
  obtain ⟨⟨p0, p1⟩, ⟨v0, v1⟩, _⟩ := okBall_true hs
  obtain ⟨⟨t0, t1⟩, _, ⟨m0, m1⟩, _⟩ := fineB_true hf
  unfold nextS
  rw [if_pos h]
  unfold doB okBall
  (repeat' split) <;> simp [within] <;> omega

set_option maxHeartbeats 2000000 in
set_option maxRecDepth 100000 in
theorem rRun_c (x : Ms) (l : List Ev) (A : Option Addr) (cap : Nat) (hl : l.length ≤ 9223372036854775807) (w : World) (hr : RdL w w.heap.size evE 3 A l) :
    Calls Try.prog 16 #[msV x, .slice A l.length cap] w fun e w' => e = .returned (.tuple #[blV (runG x l).1, .int .i64 ((runG x l).2.1 : Nat), .int .i64 (runG x l).2.2]) ∧ Below w.heap.size w w' := by
  have HV := Lib.hid (fun W => rvalidMast_c x W)
  cases hm : okMast x
  · have e1 : runG x l = (bl0, 0, 1) := by unfold runG; rw [hm]; rfl
    rw [e1]
    rw [hm] at HV
    clear e1 hm hr
    unfold msV at *
    go_enter Try.func16, Try.ntmps16
    go_wp2_with fail
    refine (HV.out _).mono ?_
    rintro e w1 ⟨rfl, hb1⟩
    have x1_0_0 : w1.cell? ⟨w.heap.size, 0, none⟩ = some (.int .i64 x.noon) := keep_cell hb1 (by simp [go_sem, *])
    have x1_0_1 : w1.cell? ⟨w.heap.size, 1, none⟩ = some (.int .i64 x.half) := keep_cell hb1 (by simp [go_sem, *])
    have x1_0_2 : w1.cell? ⟨w.heap.size, 2, none⟩ = some (.int .i64 x.full) := keep_cell hb1 (by simp [go_sem, *])
    have x1_0_3 : w1.cell? ⟨w.heap.size, 3, none⟩ = some (.int .i64 x.late) := keep_cell hb1 (by simp [go_sem, *])
    have x1_0_4 : w1.cell? ⟨w.heap.size, 4, none⟩ = some (.int .i64 x.again) := keep_cell hb1 (by simp [go_sem, *])
    have x1_0_5 : w1.cell? ⟨w.heap.size, 5, none⟩ = some (.int .i64 x.wind) := keep_cell hb1 (by simp [go_sem, *])
    have y1_0 : w.heap.size < w1.heap.size := cell?_lt x1_0_0
    have x1_1_0 : w1.cell? ⟨w.heap.size + 1, 0, none⟩ = some (.int .i64 0) := keep_cell hb1 (by simp [go_sem, *])
    have f1_1_0 : w1.frozen? ⟨w.heap.size + 1, 0, none⟩ = false := keep_frozen hb1 (by first | omega | (simp <;> omega)) (by simp [go_sem, *])
    have x1_1_1 : w1.cell? ⟨w.heap.size + 1, 1, none⟩ = some (.int .i64 0) := keep_cell hb1 (by simp [go_sem, *])
    have f1_1_1 : w1.frozen? ⟨w.heap.size + 1, 1, none⟩ = false := keep_frozen hb1 (by first | omega | (simp <;> omega)) (by simp [go_sem, *])
    have x1_1_2 : w1.cell? ⟨w.heap.size + 1, 2, none⟩ = some (.bool false) := keep_cell hb1 (by simp [go_sem, *])
    have f1_1_2 : w1.frozen? ⟨w.heap.size + 1, 2, none⟩ = false := keep_frozen hb1 (by first | omega | (simp <;> omega)) (by simp [go_sem, *])
    have x1_1_3 : w1.cell? ⟨w.heap.size + 1, 3, none⟩ = some (.int .i64 0) := keep_cell hb1 (by simp [go_sem, *])
    have f1_1_3 : w1.frozen? ⟨w.heap.size + 1, 3, none⟩ = false := keep_frozen hb1 (by first | omega | (simp <;> omega)) (by simp [go_sem, *])
    have y1_1 : w.heap.size + 1 < w1.heap.size := cell?_lt x1_1_0
    have g1 : Below w.heap.size w w1 := by (repeat (first | exact Below.refl _ _ | refine Below.drew ?_ | refine Below.allocS ?_ _ | refine Below.step ?_ (by assumption) | refine Below.setCell ?_ (by simp <;> omega) _ | refine Below.drewN' ?_ _))
    clear hb1
    go_wp2
    refine bodyPost_ret (v := .tuple #[.agg #[.int .i64 0, .int .i64 0, .bool false, .int .i64 0], .int .i64 0, .int .i64 1]) (by simp [results, Try.results16, go_sem, *] <;> (repeat' apply And.intro) <;> rfl) rfl ⟨rfl, ?_⟩
    (repeat (first | exact Below.refl _ _ | refine Below.drew ?_ | refine Below.allocS ?_ _ | refine Below.step ?_ (by assumption) | refine Below.setCell ?_ (by simp <;> omega) _ | refine Below.drewN' ?_ _))
  rw [hm] at HV
  by_cases hlen : l.length ≤ 100
  · have e1 : runG x l = runFrom x bl0 0 l := by unfold runG; rw [hm, if_pos rfl, if_pos hlen]
    rw [e1]
    have HX := Lib.hid (fun s e W (hs : okBall s = true) => show Calls Try.prog 20 #[msV x, blV s, evV e] W fun r w' => r = .returned (.tuple #[blV (nextS x s e), .int .i64 (nextE x s e)]) ∧ Below W.heap.size W w' by
      have := rNext_c x s e W
      rwa [(go_good hm hs).1, (go_good hm hs).2] at this)
    have HR := Lib.hid hr
    clear e1 hm hr
    unfold msV blV evV at *
    go_enter Try.func16, Try.ntmps16
    go_wp2_with fail
    refine (HV.out _).mono ?_
    rintro e w1 ⟨rfl, hb1⟩
    have x1_0_0 : w1.cell? ⟨w.heap.size, 0, none⟩ = some (.int .i64 x.noon) := keep_cell hb1 (by simp [go_sem, *])
    have x1_0_1 : w1.cell? ⟨w.heap.size, 1, none⟩ = some (.int .i64 x.half) := keep_cell hb1 (by simp [go_sem, *])
    have x1_0_2 : w1.cell? ⟨w.heap.size, 2, none⟩ = some (.int .i64 x.full) := keep_cell hb1 (by simp [go_sem, *])
    have x1_0_3 : w1.cell? ⟨w.heap.size, 3, none⟩ = some (.int .i64 x.late) := keep_cell hb1 (by simp [go_sem, *])
    have x1_0_4 : w1.cell? ⟨w.heap.size, 4, none⟩ = some (.int .i64 x.again) := keep_cell hb1 (by simp [go_sem, *])
    have x1_0_5 : w1.cell? ⟨w.heap.size, 5, none⟩ = some (.int .i64 x.wind) := keep_cell hb1 (by simp [go_sem, *])
    have y1_0 : w.heap.size < w1.heap.size := cell?_lt x1_0_0
    have x1_1_0 : w1.cell? ⟨w.heap.size + 1, 0, none⟩ = some (.int .i64 0) := keep_cell hb1 (by simp [go_sem, *])
    have f1_1_0 : w1.frozen? ⟨w.heap.size + 1, 0, none⟩ = false := keep_frozen hb1 (by first | omega | (simp <;> omega)) (by simp [go_sem, *])
    have x1_1_1 : w1.cell? ⟨w.heap.size + 1, 1, none⟩ = some (.int .i64 0) := keep_cell hb1 (by simp [go_sem, *])
    have f1_1_1 : w1.frozen? ⟨w.heap.size + 1, 1, none⟩ = false := keep_frozen hb1 (by first | omega | (simp <;> omega)) (by simp [go_sem, *])
    have x1_1_2 : w1.cell? ⟨w.heap.size + 1, 2, none⟩ = some (.bool false) := keep_cell hb1 (by simp [go_sem, *])
    have f1_1_2 : w1.frozen? ⟨w.heap.size + 1, 2, none⟩ = false := keep_frozen hb1 (by first | omega | (simp <;> omega)) (by simp [go_sem, *])
    have x1_1_3 : w1.cell? ⟨w.heap.size + 1, 3, none⟩ = some (.int .i64 0) := keep_cell hb1 (by simp [go_sem, *])
    have f1_1_3 : w1.frozen? ⟨w.heap.size + 1, 3, none⟩ = false := keep_frozen hb1 (by first | omega | (simp <;> omega)) (by simp [go_sem, *])
    have y1_1 : w.heap.size + 1 < w1.heap.size := cell?_lt x1_1_0
    have g1 : Below w.heap.size w w1 := by (repeat (first | exact Below.refl _ _ | refine Below.drew ?_ | refine Below.allocS ?_ _ | refine Below.step ?_ (by assumption) | refine Below.setCell ?_ (by simp <;> omega) _ | refine Below.drewN' ?_ _))
    clear hb1
    go_wp2
    go_loopw [23] (fun i wr => ∃ (k : Nat) (s : Bl), k ≤ l.length ∧ i = .int .i64 k ∧ okBall s = true ∧ (wr.cell? ⟨w.heap.size, 0, none⟩ = some (.int .i64 x.noon) ∧ wr.cell? ⟨w.heap.size, 1, none⟩ = some (.int .i64 x.half) ∧ wr.cell? ⟨w.heap.size, 2, none⟩ = some (.int .i64 x.full) ∧ wr.cell? ⟨w.heap.size, 3, none⟩ = some (.int .i64 x.late) ∧ wr.cell? ⟨w.heap.size, 4, none⟩ = some (.int .i64 x.again) ∧ wr.cell? ⟨w.heap.size, 5, none⟩ = some (.int .i64 x.wind)) ∧ Own4 wr (w.heap.size + 1) bl0 ∧ Own4 wr w1.heap.size s ∧ Below w.heap.size w wr ∧ runFrom x bl0 0 l = runFrom x s k (l.drop k)) (fun i _ => l.length - (intOf i).toNat)
    case atStart => exact ⟨0, bl0, Nat.zero_le _, rfl, rfl, ⟨by simp [go_sem, *], by simp [go_sem, *], by simp [go_sem, *], by simp [go_sem, *], by simp [go_sem, *], by simp [go_sem, *]⟩, ⟨⟨by simp [go_sem, bl0, *], by simp [go_sem, bl0, *], by simp [go_sem, bl0, *], by simp [go_sem, bl0, *]⟩, by simp [go_sem, *], by simp [go_sem, *], by simp [go_sem, *], by simp [go_sem, *]⟩, ⟨⟨by simp [go_sem, bl0, *], by simp [go_sem, bl0, *], by simp [go_sem, bl0, *], by simp [go_sem, bl0, *]⟩, by simp [go_sem, *], by simp [go_sem, *], by simp [go_sem, *], by simp [go_sem, *]⟩, by (repeat (first | exact Below.refl _ _ | refine Below.drew ?_ | refine Below.allocS ?_ _ | refine Below.step ?_ (by assumption) | refine Below.setCell ?_ (by simp <;> omega) _ | refine Below.drewN' ?_ _)), rfl⟩
    case round =>
      obtain ⟨k, s, hk, rfl, hs, ⟨m0, m1, m2, m3, m4, m5⟩, hO1, hO2, hbw, hx⟩ := hrel
      have hneq : w1.heap.size ≠ w.heap.size + 1 := by omega
      have hneq0 : w1.heap.size ≠ w.heap.size := by omega
      have hle : w.heap.size ≤ w1.heap.size := by omega
      have HS := Lib.hid hx
      clear hx x1_0_0 x1_0_1 x1_0_2 x1_0_3 x1_0_4 x1_0_5 x1_1_0 x1_1_1 x1_1_2 x1_1_3 f1_1_0 f1_1_1 f1_1_2 f1_1_3 y1_0 y1_1 g1
      have hO1' : Own4 wr (w.heap.size + 1) ⟨0, 0, false, 0⟩ := hO1
      obtain ⟨⟨r0, r1, r2, r3⟩, q0, q1, q2, q3⟩ := hO1'
      obtain ⟨⟨c0, c1, c2, c3⟩, f0, f1, f2, f3⟩ := hO2
      have ym := cell?_lt m0
      have yr := cell?_lt r0
      have ys := cell?_lt c0
      by_cases hlt : k < l.length
      · obtain ⟨b, off, rfl, hb0, hc⟩ := HR.out (by omega)
        have e0 := (hbw.cell (p := ⟨b, _, none⟩) hb0).trans (hc k hlt 0 _ rfl)
        have e1 := (hbw.cell (p := ⟨b, _, none⟩) hb0).trans (hc k hlt 1 _ rfl)
        have e2 := (hbw.cell (p := ⟨b, _, none⟩) hb0).trans (hc k hlt 2 _ rfl)
        clear hc
        simp at e0
        have hd : l.drop k = l[k] :: l.drop (k + 1) := List.drop_eq_getElem_cons hlt
        have hss : runFrom x s k (l.drop k) = if nextE x s l[k] = 0 then runFrom x (nextS x s l[k]) (k + 1) (l.drop (k + 1)) else (bl0, k, nextE x s l[k]) := by rw [hd]; rfl
        have hbn := fun (hz : nextE x s l[k] = 0) => okBall_next (x := x) (s := s) (e := l[k]) hs hz
        have HM := Lib.hid (fun W => HX.out s l[k] W hs)
        generalize nextS x s l[k] = ns at *
        generalize nextE x s l[k] = ne at *
        have HZ := Lib.hid hss
        have HB := Lib.hid hbn
        clear hd hss hbn
        generalize l[k].at' = t1 at *
        generalize l[k].kind = t2 at *
        generalize l[k].n = t3 at *
        go_wp2_with fail
        refine (HM.out _).mono ?_
        rintro e w2 ⟨rfl, hb2⟩
        have x2_0_0 : w2.cell? ⟨w.heap.size, 0, none⟩ = some (.int .i64 x.noon) := keep_cell hb2 (by simp [go_sem, *])
        have x2_0_1 : w2.cell? ⟨w.heap.size, 1, none⟩ = some (.int .i64 x.half) := keep_cell hb2 (by simp [go_sem, *])
        have x2_0_2 : w2.cell? ⟨w.heap.size, 2, none⟩ = some (.int .i64 x.full) := keep_cell hb2 (by simp [go_sem, *])
        have x2_0_3 : w2.cell? ⟨w.heap.size, 3, none⟩ = some (.int .i64 x.late) := keep_cell hb2 (by simp [go_sem, *])
        have x2_0_4 : w2.cell? ⟨w.heap.size, 4, none⟩ = some (.int .i64 x.again) := keep_cell hb2 (by simp [go_sem, *])
        have x2_0_5 : w2.cell? ⟨w.heap.size, 5, none⟩ = some (.int .i64 x.wind) := keep_cell hb2 (by simp [go_sem, *])
        have y2_0 : w.heap.size < w2.heap.size := cell?_lt x2_0_0
        have x2_1_0 : w2.cell? ⟨w.heap.size + 1, 0, none⟩ = some (.int .i64 0) := keep_cell hb2 (by simp [go_sem, *])
        have f2_1_0 : w2.frozen? ⟨w.heap.size + 1, 0, none⟩ = false := keep_frozen hb2 (by first | omega | (simp <;> omega)) (by simp [go_sem, *])
        have x2_1_1 : w2.cell? ⟨w.heap.size + 1, 1, none⟩ = some (.int .i64 0) := keep_cell hb2 (by simp [go_sem, *])
        have f2_1_1 : w2.frozen? ⟨w.heap.size + 1, 1, none⟩ = false := keep_frozen hb2 (by first | omega | (simp <;> omega)) (by simp [go_sem, *])
        have x2_1_2 : w2.cell? ⟨w.heap.size + 1, 2, none⟩ = some (.bool false) := keep_cell hb2 (by simp [go_sem, *])
        have f2_1_2 : w2.frozen? ⟨w.heap.size + 1, 2, none⟩ = false := keep_frozen hb2 (by first | omega | (simp <;> omega)) (by simp [go_sem, *])
        have x2_1_3 : w2.cell? ⟨w.heap.size + 1, 3, none⟩ = some (.int .i64 0) := keep_cell hb2 (by simp [go_sem, *])
        have f2_1_3 : w2.frozen? ⟨w.heap.size + 1, 3, none⟩ = false := keep_frozen hb2 (by first | omega | (simp <;> omega)) (by simp [go_sem, *])
        have y2_1 : w.heap.size + 1 < w2.heap.size := cell?_lt x2_1_0
        have x2_2_0 : w2.cell? ⟨w1.heap.size, 0, none⟩ = some (.int .i64 s.place) := keep_cell hb2 (by simp [go_sem, *])
        have f2_2_0 : w2.frozen? ⟨w1.heap.size, 0, none⟩ = false := keep_frozen hb2 (by first | omega | (simp <;> omega)) (by simp [go_sem, *])
        have x2_2_1 : w2.cell? ⟨w1.heap.size, 1, none⟩ = some (.int .i64 s.wind) := keep_cell hb2 (by simp [go_sem, *])
        have f2_2_1 : w2.frozen? ⟨w1.heap.size, 1, none⟩ = false := keep_frozen hb2 (by first | omega | (simp <;> omega)) (by simp [go_sem, *])
        have x2_2_2 : w2.cell? ⟨w1.heap.size, 2, none⟩ = some (.bool s.flag) := keep_cell hb2 (by simp [go_sem, *])
        have f2_2_2 : w2.frozen? ⟨w1.heap.size, 2, none⟩ = false := keep_frozen hb2 (by first | omega | (simp <;> omega)) (by simp [go_sem, *])
        have x2_2_3 : w2.cell? ⟨w1.heap.size, 3, none⟩ = some (.int .i64 s.at') := keep_cell hb2 (by simp [go_sem, *])
        have f2_2_3 : w2.frozen? ⟨w1.heap.size, 3, none⟩ = false := keep_frozen hb2 (by first | omega | (simp <;> omega)) (by simp [go_sem, *])
        have y2_2 : w1.heap.size < w2.heap.size := cell?_lt x2_2_0
        have g2 : Below w.heap.size w w2 := by (repeat (first | exact Below.refl _ _ | refine Below.drew ?_ | refine Below.allocS ?_ _ | refine Below.step ?_ (by assumption) | refine Below.setCell ?_ (by simp <;> omega) _ | refine Below.drewN' ?_ _))
        clear hb2
        clear m0 m1 m2 m3 m4 m5 r0 r1 r2 r3 q0 q1 q2 q3 c0 c1 c2 c3 f0 f1 f2 f3 e0 e1 e2
        by_cases hne : ne = 0
        · subst hne
          have hok := HB.out rfl
          go_wp2
          go_roundw
          case rel => exact ⟨k + 1, ns, by omega, by go_num, hok, ⟨by simp [go_sem, *], by simp [go_sem, *], by simp [go_sem, *], by simp [go_sem, *], by simp [go_sem, *], by simp [go_sem, *]⟩, ⟨⟨by simp [go_sem, bl0, *], by simp [go_sem, bl0, *], by simp [go_sem, bl0, *], by simp [go_sem, bl0, *]⟩, by simp [go_sem, *], by simp [go_sem, *], by simp [go_sem, *], by simp [go_sem, *]⟩, ⟨⟨by simp [go_sem, *], by simp [go_sem, *], by simp [go_sem, *], by simp [go_sem, *]⟩, by simp [go_sem, *], by simp [go_sem, *], by simp [go_sem, *], by simp [go_sem, *]⟩, by (repeat (first | exact Below.refl _ _ | refine Below.drew ?_ | refine Below.allocS ?_ _ | refine Below.step ?_ (by assumption) | refine Below.setCell ?_ (by simp <;> omega) _ | refine Below.drewN' ?_ _)), by rw [HS.out, HZ.out]; simp⟩
          case measure => simp [intOf]; omega
        · have hnb : (ne != 0) = true := by simpa using hne
          go_wp2
          refine bodyPost_ret (v := .tuple #[.agg #[.int .i64 0, .int .i64 0, .bool false, .int .i64 0], .int .i64 k, .int .i64 ne]) (by simp [results, Try.results16, go_sem, *] <;> (repeat' apply And.intro) <;> rfl) rfl ⟨?_, ?_⟩
          · rw [HS.out, HZ.out, if_neg hne]; rfl
          · (repeat (first | exact Below.refl _ _ | refine Below.drew ?_ | refine Below.allocS ?_ _ | refine Below.step ?_ (by assumption) | refine Below.setCell ?_ (by simp <;> omega) _ | refine Below.drewN' ?_ _))
      · obtain rfl : k = l.length := by omega
        go_wp2
        refine bodyPost_ret (v := .tuple #[.agg #[.int .i64 s.place, .int .i64 s.wind, .bool s.flag, .int .i64 s.at'], .int .i64 l.length, .int .i64 0]) (by simp [results, Try.results16, go_sem, *] <;> (repeat' apply And.intro) <;> rfl) rfl ⟨?_, ?_⟩
        · rw [HS.out]; simp [runFrom]
        · (repeat (first | exact Below.refl _ _ | refine Below.drew ?_ | refine Below.allocS ?_ _ | refine Below.step ?_ (by assumption) | refine Below.setCell ?_ (by simp <;> omega) _ | refine Below.drewN' ?_ _))
  · have e1 : runG x l = (bl0, 0, 7) := by unfold runG; rw [hm, if_pos rfl, if_neg hlen]
    rw [e1]
    have hgt : 100 < l.length := by omega
    clear e1 hm hr
    unfold msV at *
    go_enter Try.func16, Try.ntmps16
    go_wp2_with fail
    refine (HV.out _).mono ?_
    rintro e w1 ⟨rfl, hb1⟩
    have x1_0_0 : w1.cell? ⟨w.heap.size, 0, none⟩ = some (.int .i64 x.noon) := keep_cell hb1 (by simp [go_sem, *])
    have x1_0_1 : w1.cell? ⟨w.heap.size, 1, none⟩ = some (.int .i64 x.half) := keep_cell hb1 (by simp [go_sem, *])
    have x1_0_2 : w1.cell? ⟨w.heap.size, 2, none⟩ = some (.int .i64 x.full) := keep_cell hb1 (by simp [go_sem, *])
    have x1_0_3 : w1.cell? ⟨w.heap.size, 3, none⟩ = some (.int .i64 x.late) := keep_cell hb1 (by simp [go_sem, *])
    have x1_0_4 : w1.cell? ⟨w.heap.size, 4, none⟩ = some (.int .i64 x.again) := keep_cell hb1 (by simp [go_sem, *])
    have x1_0_5 : w1.cell? ⟨w.heap.size, 5, none⟩ = some (.int .i64 x.wind) := keep_cell hb1 (by simp [go_sem, *])
    have y1_0 : w.heap.size < w1.heap.size := cell?_lt x1_0_0
    have x1_1_0 : w1.cell? ⟨w.heap.size + 1, 0, none⟩ = some (.int .i64 0) := keep_cell hb1 (by simp [go_sem, *])
    have f1_1_0 : w1.frozen? ⟨w.heap.size + 1, 0, none⟩ = false := keep_frozen hb1 (by first | omega | (simp <;> omega)) (by simp [go_sem, *])
    have x1_1_1 : w1.cell? ⟨w.heap.size + 1, 1, none⟩ = some (.int .i64 0) := keep_cell hb1 (by simp [go_sem, *])
    have f1_1_1 : w1.frozen? ⟨w.heap.size + 1, 1, none⟩ = false := keep_frozen hb1 (by first | omega | (simp <;> omega)) (by simp [go_sem, *])
    have x1_1_2 : w1.cell? ⟨w.heap.size + 1, 2, none⟩ = some (.bool false) := keep_cell hb1 (by simp [go_sem, *])
    have f1_1_2 : w1.frozen? ⟨w.heap.size + 1, 2, none⟩ = false := keep_frozen hb1 (by first | omega | (simp <;> omega)) (by simp [go_sem, *])
    have x1_1_3 : w1.cell? ⟨w.heap.size + 1, 3, none⟩ = some (.int .i64 0) := keep_cell hb1 (by simp [go_sem, *])
    have f1_1_3 : w1.frozen? ⟨w.heap.size + 1, 3, none⟩ = false := keep_frozen hb1 (by first | omega | (simp <;> omega)) (by simp [go_sem, *])
    have y1_1 : w.heap.size + 1 < w1.heap.size := cell?_lt x1_1_0
    have g1 : Below w.heap.size w w1 := by (repeat (first | exact Below.refl _ _ | refine Below.drew ?_ | refine Below.allocS ?_ _ | refine Below.step ?_ (by assumption) | refine Below.setCell ?_ (by simp <;> omega) _ | refine Below.drewN' ?_ _))
    clear hb1
    go_wp2
    refine bodyPost_ret (v := .tuple #[.agg #[.int .i64 0, .int .i64 0, .bool false, .int .i64 0], .int .i64 0, .int .i64 7]) (by simp [results, Try.results16, go_sem, *] <;> (repeat' apply And.intro) <;> rfl) rfl ⟨rfl, ?_⟩
    (repeat (first | exact Below.refl _ _ | refine Below.drew ?_ | refine Below.allocS ?_ _ | refine Below.step ?_ (by assumption) | refine Below.setCell ?_ (by simp <;> omega) _ | refine Below.drewN' ?_ _))
end Go.Proofs.Ytcdohibphhbllaa
