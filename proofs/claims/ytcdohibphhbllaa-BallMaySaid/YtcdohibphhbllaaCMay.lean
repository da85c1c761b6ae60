/-
  The walk of the law BallMay. No conditions.
-/
import Derived.Test.YtcdohibphhbllaaMay
namespace Go.Proofs.Ytcdohibphhbllaa
open Go.RowKit Go.Deep
set_option linter.unusedVariables false
set_option maxHeartbeats 1000000 in
theorem SameInts_c (l : List Int) (n : Nat) (hn : l.length = n) (A B : Option Addr) (cap cap' : Nat) (hl : n ≤ 9223372036854775807) (w : World) (hr : RdL w w.heap.size inE 1 A l) (hs : RdL w w.heap.size inE 1 B l) :
    Calls Try.prog 46 #[.slice A n cap, .slice B n cap'] w fun e w' => e = .returned (.bool true) ∧ Below w.heap.size w w' := by
  subst hn
  have HR := Lib.hid hr
  have HS := Lib.hid hs
  clear hr hs
  go_enter Try.func46, Try.ntmps46
  go_wp2
  go_loopw [13] (fun i wr => ∃ k : Nat, k ≤ l.length ∧ i = .int .i64 k ∧ Below w.heap.size w wr) (fun i _ => l.length - (intOf i).toNat)
  case atStart => exact ⟨0, Nat.zero_le _, rfl, Below.refl _ _⟩
  case round =>
    obtain ⟨k, hk, rfl, hbw⟩ := hrel
    by_cases hlt : k < l.length
    · obtain ⟨b, off, rfl, hb0, hc⟩ := HR.out (by omega)
      obtain ⟨b', off', rfl, hb0', hc'⟩ := HS.out (by omega)
      have c0 := (hbw.cell (p := ⟨b, _, none⟩) hb0).trans (hc k hlt 0 _ rfl)
      have d0 := (hbw.cell (p := ⟨b', _, none⟩) hb0').trans (hc' k hlt 0 _ rfl)
      clear hc hc'
      simp at c0 d0
      have u1 : (0 : Int) ≤ (k : Int) := by omega
      have u2 : (k : Int) < (l.length : Int) := by omega
      go_wp2_with fail
      go_quiet (fail)
      go_wp2
      go_roundw
      case rel => exact ⟨k + 1, by omega, by go_num, by (repeat (first | (with_reducible exact Below.refl _ _) | (with_reducible assumption) | (with_reducible refine Below.drew ?_) | (with_reducible refine Below.allocS ?_ _) | (with_reducible refine Below.setCell ?_ ?_ _) | (with_reducible refine Below.step ?_ (by assumption)) | (with_reducible refine Below.drewN' ?_ _))); (try any_goals (first | (with_reducible assumption) | (simp; done) | (simp; omega) | omega))⟩
      case measure => simp [intOf]; omega
    · obtain rfl : k = l.length := by omega
      go_wp2
      go_ret
      exact ⟨rfl, hbw⟩
theorem may_pos (x : Ms) (s : Bl) (t : Int) : ∃ m, (mayTo x s t 6).length = m + 1 := by
  have h1 : (mayTo x s t 6).any (fun j => j == ((1 : Nat) : Int)) = allowB x s t ((1 : Nat) : Int) := may_any x s t 1 (by omega) 6 (by omega)
  have h2 : allowB x s t ((1 : Nat) : Int) = true := rfl
  rw [h2] at h1
  cases h : mayTo x s t 6 with
  | nil => rw [h] at h1; cases h1
  | cons a l => exact ⟨l.length, rfl⟩
/-- What Next answers of a kind that is asked of May. -/
theorem NextM (x : Ms) (hm : okMast x = true) (s : Bl) (hs : okBall s = true) (t : Int) (ht : within t s.at' 86399999 = true) (k : Nat) (h1 : 1 ≤ k) (h6 : k ≤ 6) (W : World) :
    ∃ ns : Bl, Calls Try.prog 19 #[.agg #[.int .i64 x.noon, .int .i64 x.half, .int .i64 x.full, .int .i64 x.late, .int .i64 x.again, .int .i64 x.wind], .agg #[.int .i64 s.place, .int .i64 s.wind, .bool s.flag, .int .i64 s.at'], .agg #[.int .i64 t, .int .i64 k, .int .i64 0]] W fun r w' => r = .returned (.tuple #[.agg #[.int .i64 ns.place, .int .i64 ns.wind, .bool ns.flag, .int .i64 ns.at'], .int .i64 (if allowB x s t (k : Int) then 0 else 9)]) ∧ Below W.heap.size W w' := by
  have hf := fine_k t k (within_true ht) (okBall_true hs).2.2 h1 h6
  have h := Next_c x s ⟨t, (k : Int), 0⟩ W
  rw [(go_good hm hs).1, (go_good hm hs).2] at h
  refine ⟨nextS x s ⟨t, (k : Int), 0⟩, ?_⟩
  have e : nextE x s ⟨t, (k : Int), 0⟩ = if allowB x s t (k : Int) then 0 else 9 := by
    unfold nextE; rw [if_pos ⟨hf, (within_true ht).1⟩]
  rw [e] at h
  exact h

set_option maxHeartbeats 4000000 in
set_option maxRecDepth 100000 in
theorem BallMay_w (x : Ms) (s : Bl) (t : Int) (w : World) :
    Calls Try.prog 11 #[msV x, blV s, .int .i64 t] w fun e w' => e = .returned (.bool true) ∧ Below w.heap.size w w' := by
  by_cases he : mayE x s t ≠ 0
  · have H1 := Lib.hid (fun W => May_c_no x s t he W)
    have H2 := Lib.hid (fun W => rMay_c_no x s t he W)
    generalize mayE x s t = E at *
    have hb : (E != 0) = true := by simpa using he
    unfold msV blV at *
    go_enter Try.func11, Try.ntmps11
    go_wp2_with fail
    refine (H1.out _).mono ?_
    rintro e w1 ⟨rfl, hb1⟩
    have x1_0_0 : w1.cell? ⟨w.heap.size, 0, none⟩ = some (.int .i64 x.noon) := keep_cell hb1 (by simp [go_sem, *])
    have x1_0_1 : w1.cell? ⟨w.heap.size, 1, none⟩ = some (.int .i64 x.half) := keep_cell hb1 (by simp [go_sem, *])
    have x1_0_2 : w1.cell? ⟨w.heap.size, 2, none⟩ = some (.int .i64 x.full) := keep_cell hb1 (by simp [go_sem, *])
    have x1_0_3 : w1.cell? ⟨w.heap.size, 3, none⟩ = some (.int .i64 x.late) := keep_cell hb1 (by simp [go_sem, *])
    have x1_0_4 : w1.cell? ⟨w.heap.size, 4, none⟩ = some (.int .i64 x.again) := keep_cell hb1 (by simp [go_sem, *])
    have x1_0_5 : w1.cell? ⟨w.heap.size, 5, none⟩ = some (.int .i64 x.wind) := keep_cell hb1 (by simp [go_sem, *])
    have y1_0 : w.heap.size < w1.heap.size := cell?_lt x1_0_0
    have x1_1_0 : w1.cell? ⟨w.heap.size + 1, 0, none⟩ = some (.int .i64 s.place) := keep_cell hb1 (by simp [go_sem, *])
    have x1_1_1 : w1.cell? ⟨w.heap.size + 1, 1, none⟩ = some (.int .i64 s.wind) := keep_cell hb1 (by simp [go_sem, *])
    have x1_1_2 : w1.cell? ⟨w.heap.size + 1, 2, none⟩ = some (.bool s.flag) := keep_cell hb1 (by simp [go_sem, *])
    have x1_1_3 : w1.cell? ⟨w.heap.size + 1, 3, none⟩ = some (.int .i64 s.at') := keep_cell hb1 (by simp [go_sem, *])
    have y1_1 : w.heap.size + 1 < w1.heap.size := cell?_lt x1_1_0
    have g1 : Below w.heap.size w w1 := by (repeat (first | exact Below.refl _ _ | refine Below.drew ?_ | refine Below.allocS ?_ _ | refine Below.step ?_ (by assumption) | refine Below.setCell ?_ (by simp <;> omega) _ | refine Below.drewN' ?_ _))
    clear hb1
    go_wp2_with fail
    refine (H2.out _).mono ?_
    rintro e w2 ⟨rfl, hb2⟩
    have x2_0_0 : w2.cell? ⟨w.heap.size, 0, none⟩ = some (.int .i64 x.noon) := keep_cell hb2 (by simp [go_sem, *])
    have x2_0_1 : w2.cell? ⟨w.heap.size, 1, none⟩ = some (.int .i64 x.half) := keep_cell hb2 (by simp [go_sem, *])
    have x2_0_2 : w2.cell? ⟨w.heap.size, 2, none⟩ = some (.int .i64 x.full) := keep_cell hb2 (by simp [go_sem, *])
    have x2_0_3 : w2.cell? ⟨w.heap.size, 3, none⟩ = some (.int .i64 x.late) := keep_cell hb2 (by simp [go_sem, *])
    have x2_0_4 : w2.cell? ⟨w.heap.size, 4, none⟩ = some (.int .i64 x.again) := keep_cell hb2 (by simp [go_sem, *])
    have x2_0_5 : w2.cell? ⟨w.heap.size, 5, none⟩ = some (.int .i64 x.wind) := keep_cell hb2 (by simp [go_sem, *])
    have y2_0 : w.heap.size < w2.heap.size := cell?_lt x2_0_0
    have x2_1_0 : w2.cell? ⟨w.heap.size + 1, 0, none⟩ = some (.int .i64 s.place) := keep_cell hb2 (by simp [go_sem, *])
    have x2_1_1 : w2.cell? ⟨w.heap.size + 1, 1, none⟩ = some (.int .i64 s.wind) := keep_cell hb2 (by simp [go_sem, *])
    have x2_1_2 : w2.cell? ⟨w.heap.size + 1, 2, none⟩ = some (.bool s.flag) := keep_cell hb2 (by simp [go_sem, *])
    have x2_1_3 : w2.cell? ⟨w.heap.size + 1, 3, none⟩ = some (.int .i64 s.at') := keep_cell hb2 (by simp [go_sem, *])
    have y2_1 : w.heap.size + 1 < w2.heap.size := cell?_lt x2_1_0
    have g2 : Below w.heap.size w w2 := by (repeat (first | exact Below.refl _ _ | refine Below.drew ?_ | refine Below.allocS ?_ _ | refine Below.step ?_ (by assumption) | refine Below.setCell ?_ (by simp <;> omega) _ | refine Below.drewN' ?_ _))
    clear hb2 g1 x1_0_0 x1_0_1 x1_0_2 x1_0_3 x1_0_4 x1_0_5 x1_1_0 x1_1_1 x1_1_2 x1_1_3 y1_0 y1_1
    go_wp2_with fail
    refine (SameInts_c [] 0 rfl none none 0 0 (by decide) _ RdL.nil RdL.nil).mono ?_
    rintro e w3 ⟨rfl, hb3⟩
    have x3_0_0 : w3.cell? ⟨w.heap.size, 0, none⟩ = some (.int .i64 x.noon) := keep_cell hb3 (by simp [go_sem, *])
    have x3_0_1 : w3.cell? ⟨w.heap.size, 1, none⟩ = some (.int .i64 x.half) := keep_cell hb3 (by simp [go_sem, *])
    have x3_0_2 : w3.cell? ⟨w.heap.size, 2, none⟩ = some (.int .i64 x.full) := keep_cell hb3 (by simp [go_sem, *])
    have x3_0_3 : w3.cell? ⟨w.heap.size, 3, none⟩ = some (.int .i64 x.late) := keep_cell hb3 (by simp [go_sem, *])
    have x3_0_4 : w3.cell? ⟨w.heap.size, 4, none⟩ = some (.int .i64 x.again) := keep_cell hb3 (by simp [go_sem, *])
    have x3_0_5 : w3.cell? ⟨w.heap.size, 5, none⟩ = some (.int .i64 x.wind) := keep_cell hb3 (by simp [go_sem, *])
    have y3_0 : w.heap.size < w3.heap.size := cell?_lt x3_0_0
    have x3_1_0 : w3.cell? ⟨w.heap.size + 1, 0, none⟩ = some (.int .i64 s.place) := keep_cell hb3 (by simp [go_sem, *])
    have x3_1_1 : w3.cell? ⟨w.heap.size + 1, 1, none⟩ = some (.int .i64 s.wind) := keep_cell hb3 (by simp [go_sem, *])
    have x3_1_2 : w3.cell? ⟨w.heap.size + 1, 2, none⟩ = some (.bool s.flag) := keep_cell hb3 (by simp [go_sem, *])
    have x3_1_3 : w3.cell? ⟨w.heap.size + 1, 3, none⟩ = some (.int .i64 s.at') := keep_cell hb3 (by simp [go_sem, *])
    have y3_1 : w.heap.size + 1 < w3.heap.size := cell?_lt x3_1_0
    have g3 : Below w.heap.size w w3 := by (repeat (first | exact Below.refl _ _ | refine Below.drew ?_ | refine Below.allocS ?_ _ | refine Below.step ?_ (by assumption) | refine Below.setCell ?_ (by simp <;> omega) _ | refine Below.drewN' ?_ _))
    clear hb3 g2 x2_0_0 x2_0_1 x2_0_2 x2_0_3 x2_0_4 x2_0_5 x2_1_0 x2_1_1 x2_1_2 x2_1_3 y2_0 y2_1
    go_wp2_with (go_at_call 14; (with_reducible refine (awake_c _).mono ?_); rintro e w1 ⟨rfl, hb⟩; obtain ⟨hc, hf⟩ := bcell hb; have hz := hb.size; (try simp at hz); (try have hz0 : w.heap.size < w1.heap.size := by omega); (try have hz1 : w.heap.size + 1 < w1.heap.size := by omega); (try have hz2 : w.heap.size + 1 + 1 < w1.heap.size := by omega); (try have hz3 : w.heap.size + 1 + 1 + 1 < w1.heap.size := by omega); (try have hz4 : w.heap.size + 1 + 1 + 1 + 1 < w1.heap.size := by omega); (try have hz5 : w.heap.size + 1 + 1 + 1 + 1 + 1 < w1.heap.size := by omega))
    go_ret
    exact ⟨rfl, by (repeat (first | (with_reducible exact Below.refl _ _) | (with_reducible assumption) | (with_reducible refine Below.drew ?_) | (with_reducible refine Below.allocS ?_ _) | (with_reducible refine Below.setCell ?_ ?_ _) | (with_reducible refine Below.step ?_ (by assumption)) | (with_reducible refine Below.drewN' ?_ _))); (try any_goals (first | (with_reducible assumption) | (simp; done) | (simp; omega) | omega))⟩
  replace he : mayE x s t = 0 := Decidable.not_not.1 he
  have hp : okMast x = true ∧ okBall s = true ∧ within t s.at' 86399999 = true := by
    unfold mayE at he
    cases h1 : okMast x
    · rw [h1] at he; cases he
    cases h2 : okBall s
    · rw [h1, h2] at he; cases he
    cases h3 : within t s.at' 86399999
    · rw [h1, h2, h3] at he; cases he
    · exact ⟨rfl, rfl, rfl⟩
  obtain ⟨h1, h2, h3⟩ := hp
  have H1 := Lib.hid (fun W => May_c_ok x s t h1 h2 h3 W)
  have H2 := Lib.hid (fun W => rMay_c_ok x s t h1 h2 h3 W)
  have HN := Lib.hid (fun (k : Nat) (a : 1 ≤ k) (b : k ≤ 6) W => NextM x h1 s h2 t h3 k a b W)
  have HM := Lib.hid (fun (k : Nat) (a : 1 ≤ k) (b : k ≤ 6) => may_any x s t k a 6 b)
  have hlen := may_len x s t 6
  obtain ⟨mm, hmm⟩ := may_pos x s t
  clear he h1 h2 h3
  generalize mayTo x s t 6 = L at *
  unfold msV blV at *
  go_enter Try.func11, Try.ntmps11
  go_wp2_with fail
  refine (H1.out _).mono ?_
  rintro e w1 ⟨v1, rfl, o1, hb1⟩
  rw [hmm] at o1
  obtain ⟨g1, cap1, rfl⟩ := ownsRow_succ o1
  have R1 : RdL w1 w1.heap.size inE 1 (some ⟨g1, 0, none⟩) L := RdL.of_own (fun _ => rfl) o1 hmm
  clear o1
  have a0 : w1.cell? ⟨w.heap.size, 0, none⟩ = some (.int .i64 x.noon) := keep_cell hb1 (by simp [go_sem, *])
  have a1 : w1.cell? ⟨w.heap.size, 1, none⟩ = some (.int .i64 x.half) := keep_cell hb1 (by simp [go_sem, *])
  have a2 : w1.cell? ⟨w.heap.size, 2, none⟩ = some (.int .i64 x.full) := keep_cell hb1 (by simp [go_sem, *])
  have a3 : w1.cell? ⟨w.heap.size, 3, none⟩ = some (.int .i64 x.late) := keep_cell hb1 (by simp [go_sem, *])
  have a4 : w1.cell? ⟨w.heap.size, 4, none⟩ = some (.int .i64 x.again) := keep_cell hb1 (by simp [go_sem, *])
  have a5 : w1.cell? ⟨w.heap.size, 5, none⟩ = some (.int .i64 x.wind) := keep_cell hb1 (by simp [go_sem, *])
  have a6 : w1.cell? ⟨w.heap.size + 1, 0, none⟩ = some (.int .i64 s.place) := keep_cell hb1 (by simp [go_sem, *])
  have a7 : w1.cell? ⟨w.heap.size + 1, 1, none⟩ = some (.int .i64 s.wind) := keep_cell hb1 (by simp [go_sem, *])
  have a8 : w1.cell? ⟨w.heap.size + 1, 2, none⟩ = some (.bool s.flag) := keep_cell hb1 (by simp [go_sem, *])
  have a9 : w1.cell? ⟨w.heap.size + 1, 3, none⟩ = some (.int .i64 s.at') := keep_cell hb1 (by simp [go_sem, *])
  have ya0 := cell?_lt a0
  have ya1 := cell?_lt a6
  have G1 := Lib.hid (show Below w.heap.size w w1 from Below.step (Below.allocS (Below.allocS (Below.refl _ _) (.cells #[.int .i64 x.noon, .int .i64 x.half, .int .i64 x.full, .int .i64 x.late, .int .i64 x.again, .int .i64 x.wind] 23)) (.cells #[.int .i64 s.place, .int .i64 s.wind, .bool s.flag, .int .i64 s.at'] 28)) hb1)
  clear hb1
  go_wp2_with fail
  refine (H2.out _).mono ?_
  rintro e w2 ⟨v2, rfl, o2, hb2⟩
  rw [hmm] at o2
  obtain ⟨g2, cap2, rfl⟩ := ownsRow_succ o2
  have R2 : RdL w2 w2.heap.size inE 1 (some ⟨g2, 0, none⟩) L := RdL.of_own (fun _ => rfl) o2 hmm
  replace R1 := R1.step hb2
  clear o2
  have b0 : w2.cell? ⟨w.heap.size, 0, none⟩ = some (.int .i64 x.noon) := keep_cell hb2 (by simp [go_sem, *])
  have b1 : w2.cell? ⟨w.heap.size, 1, none⟩ = some (.int .i64 x.half) := keep_cell hb2 (by simp [go_sem, *])
  have b2 : w2.cell? ⟨w.heap.size, 2, none⟩ = some (.int .i64 x.full) := keep_cell hb2 (by simp [go_sem, *])
  have b3 : w2.cell? ⟨w.heap.size, 3, none⟩ = some (.int .i64 x.late) := keep_cell hb2 (by simp [go_sem, *])
  have b4 : w2.cell? ⟨w.heap.size, 4, none⟩ = some (.int .i64 x.again) := keep_cell hb2 (by simp [go_sem, *])
  have b5 : w2.cell? ⟨w.heap.size, 5, none⟩ = some (.int .i64 x.wind) := keep_cell hb2 (by simp [go_sem, *])
  have b6 : w2.cell? ⟨w.heap.size + 1, 0, none⟩ = some (.int .i64 s.place) := keep_cell hb2 (by simp [go_sem, *])
  have b7 : w2.cell? ⟨w.heap.size + 1, 1, none⟩ = some (.int .i64 s.wind) := keep_cell hb2 (by simp [go_sem, *])
  have b8 : w2.cell? ⟨w.heap.size + 1, 2, none⟩ = some (.bool s.flag) := keep_cell hb2 (by simp [go_sem, *])
  have b9 : w2.cell? ⟨w.heap.size + 1, 3, none⟩ = some (.int .i64 s.at') := keep_cell hb2 (by simp [go_sem, *])
  have yb0 := cell?_lt b0
  have yb1 := cell?_lt b6
  have G2 := Lib.hid (Below.step G1.out hb2)
  clear hb2 a0 a1 a2 a3 a4 a5 a6 a7 a8 a9 ya0 ya1
  have K1 := Lib.hid R1
  have K2 := Lib.hid R2
  clear R1 R2
  go_wp2_with fail
  refine (SameInts_c L (mm + 1) hmm _ _ cap1 cap2 (by omega) _ K1.out K2.out).mono ?_
  rintro e w3 ⟨rfl, hb3⟩
  have c0 : w3.cell? ⟨w.heap.size, 0, none⟩ = some (.int .i64 x.noon) := keep_cell hb3 (by simp [go_sem, *])
  have c1 : w3.cell? ⟨w.heap.size, 1, none⟩ = some (.int .i64 x.half) := keep_cell hb3 (by simp [go_sem, *])
  have c2 : w3.cell? ⟨w.heap.size, 2, none⟩ = some (.int .i64 x.full) := keep_cell hb3 (by simp [go_sem, *])
  have c3 : w3.cell? ⟨w.heap.size, 3, none⟩ = some (.int .i64 x.late) := keep_cell hb3 (by simp [go_sem, *])
  have c4 : w3.cell? ⟨w.heap.size, 4, none⟩ = some (.int .i64 x.again) := keep_cell hb3 (by simp [go_sem, *])
  have c5 : w3.cell? ⟨w.heap.size, 5, none⟩ = some (.int .i64 x.wind) := keep_cell hb3 (by simp [go_sem, *])
  have c6 : w3.cell? ⟨w.heap.size + 1, 0, none⟩ = some (.int .i64 s.place) := keep_cell hb3 (by simp [go_sem, *])
  have c7 : w3.cell? ⟨w.heap.size + 1, 1, none⟩ = some (.int .i64 s.wind) := keep_cell hb3 (by simp [go_sem, *])
  have c8 : w3.cell? ⟨w.heap.size + 1, 2, none⟩ = some (.bool s.flag) := keep_cell hb3 (by simp [go_sem, *])
  have c9 : w3.cell? ⟨w.heap.size + 1, 3, none⟩ = some (.int .i64 s.at') := keep_cell hb3 (by simp [go_sem, *])
  have yc0 := cell?_lt c0
  have yc1 := cell?_lt c6
  have G3 := Lib.hid (Below.step G2.out hb3)
  have K3 := Lib.hid (K1.out.step hb3)
  clear hb3 b0 b1 b2 b3 b4 b5 b6 b7 b8 b9 yb0 yb1
  go_wp2
  go_loopw [11] (fun i wr => ∃ k : Nat, 1 ≤ k ∧ k ≤ 7 ∧ i = .int .i64 k ∧ Below w3.heap.size w3 wr) (fun i _ => 7 - (intOf i).toNat)
  case atStart => exact ⟨1, by omega, by omega, rfl, Below.refl _ _⟩
  case round =>
    obtain ⟨wo, rfl⟩ : ∃ wo : World, wo = wr := ⟨_, rfl⟩
    obtain ⟨k, hk1, hk7, rfl, hbw⟩ := hrel
    have HBW := Lib.hid hbw
    have d0 : wo.cell? ⟨w.heap.size, 0, none⟩ = some (.int .i64 x.noon) := keep_cell hbw (by simp [go_sem, *])
    have d1 : wo.cell? ⟨w.heap.size, 1, none⟩ = some (.int .i64 x.half) := keep_cell hbw (by simp [go_sem, *])
    have d2 : wo.cell? ⟨w.heap.size, 2, none⟩ = some (.int .i64 x.full) := keep_cell hbw (by simp [go_sem, *])
    have d3 : wo.cell? ⟨w.heap.size, 3, none⟩ = some (.int .i64 x.late) := keep_cell hbw (by simp [go_sem, *])
    have d4 : wo.cell? ⟨w.heap.size, 4, none⟩ = some (.int .i64 x.again) := keep_cell hbw (by simp [go_sem, *])
    have d5 : wo.cell? ⟨w.heap.size, 5, none⟩ = some (.int .i64 x.wind) := keep_cell hbw (by simp [go_sem, *])
    have d6 : wo.cell? ⟨w.heap.size + 1, 0, none⟩ = some (.int .i64 s.place) := keep_cell hbw (by simp [go_sem, *])
    have d7 : wo.cell? ⟨w.heap.size + 1, 1, none⟩ = some (.int .i64 s.wind) := keep_cell hbw (by simp [go_sem, *])
    have d8 : wo.cell? ⟨w.heap.size + 1, 2, none⟩ = some (.bool s.flag) := keep_cell hbw (by simp [go_sem, *])
    have d9 : wo.cell? ⟨w.heap.size + 1, 3, none⟩ = some (.int .i64 s.at') := keep_cell hbw (by simp [go_sem, *])
    have yd0 := cell?_lt d0
    have yd1 := cell?_lt d6
    clear c0 c1 c2 c3 c4 c5 c6 c7 c8 c9 yc0 yc1
    by_cases hlt : k ≤ 6
    · have hlt' : (k : Int) ≤ 6 := by omega
      obtain ⟨b, off, hA, hb0, hc⟩ := K3.out (by omega)
      injection hA with hA
      injection hA with hA1 hA2
      subst hA1 hA2
      have HC := Lib.hid hc
      clear hc
      have HQ := Lib.hid (HM.out k hk1 hlt)
      go_wp2
      go_loop [12, 14, 49] (fun u12 u14 i => ∃ j : Nat, j ≤ L.length ∧ i = .int .i64 j ∧ u12 = .bool ((L.take j).any (fun q => q == (k : Int)))) (fun u12 u14 i => L.length - (intOf i).toNat)
      case atStart => exact ⟨0, Nat.zero_le _, rfl, rfl⟩
      case round =>
        obtain ⟨j, hj, rfl, rfl⟩ := hrel
        by_cases hjl : j < L.length
        · have e0 := (HBW.out.cell (p := ⟨g1, _, none⟩) hb0).trans (HC.out j hjl 0 _ rfl)
          simp at e0
          have hjm : j < mm + 1 := by omega
          have hs : (L.take (j + 1)).any (fun q => q == (k : Int)) = ((L.take j).any (fun q => q == (k : Int)) || (L[j] == (k : Int))) := by
            rw [List.take_succ_eq_append_getElem hjl, List.any_append]; simp
          have HS := Lib.hid hs
          clear hs
          generalize (L.take j).any (fun q => q == (k : Int)) = B at *
          cases B
          all_goals
            go_wp2
            go_round
            case rel => exact ⟨j + 1, by omega, by go_num, by rw [HS.out]; simp⟩
            case measure => simp [intOf]; omega
        · obtain rfl : j = L.length := by omega
          rw [List.take_length, HQ.out]
          have hjm : L.length = mm + 1 := hmm
          obtain ⟨ns, hN⟩ := HN.out k hk1 hlt wo
          have HX := Lib.hid hN
          clear hN
          cases ha : allowB x s t (k : Int)
          all_goals
            rw [ha] at HX
            go_wp2_with fail
            refine HX.out.mono ?_
            rintro e w5 ⟨rfl, hb5⟩
            have hB5 := Below.step HBW.out hb5
            clear hb5
            go_wp2
            go_roundw
            case rel => exact ⟨k + 1, by omega, by omega, by go_num, by (repeat (first | (with_reducible exact Below.refl _ _) | (with_reducible assumption) | (with_reducible refine Below.drew ?_) | (with_reducible refine Below.allocS ?_ _) | (with_reducible refine Below.setCell ?_ ?_ _) | (with_reducible refine Below.step ?_ (by assumption)) | (with_reducible refine Below.drewN' ?_ _))); (try any_goals (first | (with_reducible assumption) | (simp; done) | (simp; omega) | omega))⟩
            case measure => simp [intOf]; omega
    · obtain rfl : k = 7 := by omega
      have hG := Below.step G3.out HBW.out
      go_wp2_with (go_at_call 14; (with_reducible refine (awake_c _).mono ?_); rintro e w1 ⟨rfl, hb⟩; obtain ⟨hc, hf⟩ := bcell hb; have hz := hb.size; (try simp at hz); (try have hz0 : w.heap.size < w1.heap.size := by omega); (try have hz1 : w.heap.size + 1 < w1.heap.size := by omega); (try have hz2 : w.heap.size + 1 + 1 < w1.heap.size := by omega); (try have hz3 : w.heap.size + 1 + 1 + 1 < w1.heap.size := by omega); (try have hz4 : w.heap.size + 1 + 1 + 1 + 1 < w1.heap.size := by omega); (try have hz5 : w.heap.size + 1 + 1 + 1 + 1 + 1 < w1.heap.size := by omega))
      go_ret
      exact ⟨rfl, by (repeat (first | (with_reducible exact Below.refl _ _) | (with_reducible assumption) | (with_reducible refine Below.drew ?_) | (with_reducible refine Below.allocS ?_ _) | (with_reducible refine Below.setCell ?_ ?_ _) | (with_reducible refine Below.step ?_ (by assumption)) | (with_reducible refine Below.drewN' ?_ _))); (try any_goals (first | (with_reducible assumption) | (simp; done) | (simp; omega) | omega))⟩
theorem BallMay_walk (a b c d e f : Int) (s : Bl) (t : Int) (w0_0 : I64 a) (w0_1 : I64 b) (w0_2 : I64 c) (w0_3 : I64 d) (w0_4 : I64 e) (w0_5 : I64 f) (ws : I64 s.place ∧ I64 s.wind ∧ I64 s.at') (w2 : I64 t) (w : World) :
    Calls Try.prog 11 #[.agg #[.int .i64 a, .int .i64 b, .int .i64 c, .int .i64 d, .int .i64 e, .int .i64 f], .agg #[.int .i64 s.place, .int .i64 s.wind, .bool s.flag, .int .i64 s.at'], .int .i64 t] w fun e w' => e = .returned (.bool true) ∧ Below w.heap.size w w' :=
  BallMay_w ⟨a, b, c, d, e, f⟩ s t w
end Go.Proofs.Ytcdohibphhbllaa
