/-
  Contract of the reference's product with a fraction.
-/
import Derived.Test.YtjkcgbidceakjaaDoorD5
namespace Go.Proofs.YtjkcgbidceakjaaDoor
open Go.RowKit
set_option linter.unusedVariables false
set_option linter.unusedSimpArgs false
set_option maxHeartbeats 8000000 in
theorem product_c (t n d : Int) (ht : -1000000000000 ≤ t) (ht' : t ≤ 1000000000000) (hn : -1000000000 ≤ n) (hn' : n ≤ 1000000000) (hd : 1 ≤ d) (hd' : d ≤ 1000000000) :
    ∃ v, Near (t * n / d) v ∧ -4001000000000 ≤ v ∧ v ≤ 4001000000000 ∧ ∀ w : World, Calls Tryd.prog 64 #[.int .i64 t, .agg #[.int .i64 n, .int .i64 d]] w fun e w' => e = .returned (.int .i64 v) ∧ Below w.heap.size w w' := by
  obtain ⟨q, hq⟩ : ∃ q, t / d = q := ⟨_, rfl⟩
  obtain ⟨r1, r2, r3, r4, r5, r6, r7, r8, r9, r10, r11⟩ := rest_facts (n := n) ht ht' hn hn' hd hd' hq
  have HF := Lib.hid (fun W => down_c t d ⟨by omega, by omega⟩ (by omega) (by omega) W)
  have HG := Lib.hid (fun W => down_c ((t - q * d) * n) d ⟨by omega, by omega⟩ (by omega) (by omega) W)
  rw [hq] at HF
  obtain ⟨f, hf'⟩ : ∃ f, (t - q * d) * n / d = f := ⟨_, rfl⟩
  rw [hf'] at HG r1 r6 r7
  have l1 : ∀ x : Int, -4000000000000 ≤ x → x ≤ 4000000000000 → IntKind.i64.wrap x = x := fun x h1 h2 => IntWalk.i64_in _ (by omega)
  rcases Int.lt_or_le q 0 with h0 | h0
  · have a1 : decide (q < 0) = true := decide_eq_true (by omega)
    rcases Int.lt_trichotomy n 0 with e0 | e0 | e0
    · have b1 : decide (n < 0) = true := decide_eq_true e0
      have z : -Int.tdiv 4000000000000 n = 4000000000000 / -n := by rw [← Int.tdiv_neg, Int.tdiv_eq_ediv_of_nonneg (by omega)]
      have b2 : (n != 0) = true := by simp; omega
      have q0 : 0 ≤ 4000000000000 / (-n) := Int.ediv_nonneg (by omega) (by omega)
      have q1 : 4000000000000 / (-n) ≤ 4000000000000 := Int.ediv_le_self _ (by omega)
      have g6 : IntKind.i64.wrap (-Int.tdiv 4000000000000 n) = -Int.tdiv 4000000000000 n := l1 _ (by omega) (by omega)
      have g6' : IntKind.i64.wrap (4000000000000 / (-n)) = 4000000000000 / (-n) := l1 _ (by omega) (by omega)
      have hc : -q * -n = q * n := Int.neg_mul_neg _ _
      have hp : 0 ≤ (-q) * (-n) := Int.mul_nonneg (by omega) (by omega)
      by_cases hb : 4000000000000 / (-n) < -q
      · have hb' := Int.lt_mul_of_ediv_lt (show 0 < -n by omega) hb
        have g7 : decide (-Int.tdiv 4000000000000 n < -q) = true := decide_eq_true (by omega)
        have g7' : decide (4000000000000 / (-n) < -q) = true := decide_eq_true hb
        have g8 : decide (q < Int.tdiv 4000000000000 n) = true := decide_eq_true (by omega)
        refine ⟨2000000000000, Or.inr (Or.inl ⟨by omega, ?_⟩), by omega, by omega, fun w => ?_⟩
        · subst hq; exact far_pos (by omega) hn hn' (by omega)
        clear hf' r1 r6 r7 hb' hc hp hq z q0 q1 l1
        go_enter Tryd.func64, Tryd.ntmps64
        go_wp2_with fail
        refine (HF.out _).mono ?_
        rintro e w' ⟨rfl, rfl⟩
        go_wp2
        go_ret
        exact ⟨(by first | rfl | (simp; done) | (simp; omega) | (simp [*]; done)), by (repeat (first | (with_reducible exact Below.refl _ _) | (with_reducible assumption) | (with_reducible refine Below.drew ?_) | (with_reducible refine Below.allocS ?_ _) | (with_reducible refine Below.setCell ?_ ?_ _) | (with_reducible refine Below.step ?_ (by assumption)) | (with_reducible refine Below.drewN' ?_ _))); (try any_goals (first | (with_reducible assumption) | (simp; done) | (simp; omega) | omega))⟩
      · have hb' := Int.mul_le_of_le_ediv (show 0 < -n by omega) (Int.not_lt.mp hb)
        have g7 : decide (-Int.tdiv 4000000000000 n < -q) = false := decide_eq_false (by omega)
        have g7' : decide (4000000000000 / (-n) < -q) = false := decide_eq_false hb
        have g8 : decide (q < Int.tdiv 4000000000000 n) = false := decide_eq_false (by omega)
        have k1 : -4000000000000 ≤ q * n := by omega
        have k2 : q * n ≤ 4000000000000 := by omega
        have m1 : IntKind.i64.wrap (q * n) = q * n := IntWalk.i64_in _ (by omega)
        have m2 : IntKind.i64.wrap ((t - q * d) * n) = (t - q * d) * n := IntWalk.i64_in _ (by omega)
        have m3 : IntKind.i64.wrap (q * n + f) = q * n + f := IntWalk.i64_in _ (by omega)
        refine ⟨q * n + f, Or.inl r1, by omega, by omega, fun w => ?_⟩
        clear hf' r1 hb' hc hp hq z q0 q1 l1
        go_enter Tryd.func64, Tryd.ntmps64
        go_wp2_with fail
        refine (HF.out _).mono ?_
        rintro e w' ⟨rfl, rfl⟩
        go_wp2
        go_quiet ((go_at_call 77; refine (HG.out _).mono ?_; rintro e w2 ⟨rfl, rfl⟩; first | exact ⟨rfl, _, rfl⟩ | exact ⟨rfl, _, (World.drewN_drewN _ _ _).symm⟩))
        go_wp2
        go_ret
        exact ⟨(by first | rfl | (simp; done) | (simp; omega) | (simp [*]; done)), by (repeat (first | (with_reducible exact Below.refl _ _) | (with_reducible assumption) | (with_reducible refine Below.drew ?_) | (with_reducible refine Below.allocS ?_ _) | (with_reducible refine Below.setCell ?_ ?_ _) | (with_reducible refine Below.step ?_ (by assumption)) | (with_reducible refine Below.drewN' ?_ _))); (try any_goals (first | (with_reducible assumption) | (simp; done) | (simp; omega) | omega))⟩
    · have k1 : q * n = 0 := by rw [e0, Int.mul_zero]
      have b2 : (n != 0) = false := by simp [e0]
      have m1 : IntKind.i64.wrap (q * n) = q * n := IntWalk.i64_in _ (by omega)
      have m2 : IntKind.i64.wrap ((t - q * d) * n) = (t - q * d) * n := IntWalk.i64_in _ (by omega)
      have m3 : IntKind.i64.wrap (q * n + f) = q * n + f := IntWalk.i64_in _ (by omega)
      refine ⟨q * n + f, Or.inl r1, by omega, by omega, fun w => ?_⟩
      clear hf' r1 hq l1 hn hn' e0
      go_enter Tryd.func64, Tryd.ntmps64
      go_wp2_with fail
      refine (HF.out _).mono ?_
      rintro e w' ⟨rfl, rfl⟩
      go_wp2
      go_quiet ((go_at_call 77; refine (HG.out _).mono ?_; rintro e w2 ⟨rfl, rfl⟩; first | exact ⟨rfl, _, rfl⟩ | exact ⟨rfl, _, (World.drewN_drewN _ _ _).symm⟩))
      go_wp2
      go_ret
      exact ⟨(by first | rfl | (simp; done) | (simp; omega) | (simp [*]; done)), by (repeat (first | (with_reducible exact Below.refl _ _) | (with_reducible assumption) | (with_reducible refine Below.drew ?_) | (with_reducible refine Below.allocS ?_ _) | (with_reducible refine Below.setCell ?_ ?_ _) | (with_reducible refine Below.step ?_ (by assumption)) | (with_reducible refine Below.drewN' ?_ _))); (try any_goals (first | (with_reducible assumption) | (simp; done) | (simp; omega) | omega))⟩
    · have b1 : decide (n < 0) = false := decide_eq_false (by omega)
      have z : Int.tdiv 4000000000000 n = 4000000000000 / n := Int.tdiv_eq_ediv_of_nonneg (by omega)
      have b2 : (n != 0) = true := by simp; omega
      have q0 : 0 ≤ 4000000000000 / (n) := Int.ediv_nonneg (by omega) (by omega)
      have q1 : 4000000000000 / (n) ≤ 4000000000000 := Int.ediv_le_self _ (by omega)
      have g6 : IntKind.i64.wrap (Int.tdiv 4000000000000 n) = Int.tdiv 4000000000000 n := l1 _ (by omega) (by omega)
      have g6' : IntKind.i64.wrap (4000000000000 / (n)) = 4000000000000 / (n) := l1 _ (by omega) (by omega)
      have hc : -q * n = -(q * n) := Int.neg_mul _ _
      have hp : 0 ≤ (-q) * (n) := Int.mul_nonneg (by omega) (by omega)
      by_cases hb : 4000000000000 / (n) < -q
      · have hb' := Int.lt_mul_of_ediv_lt (show 0 < n by omega) hb
        have g7 : decide (Int.tdiv 4000000000000 n < -q) = true := decide_eq_true (by omega)
        have g7' : decide (4000000000000 / (n) < -q) = true := decide_eq_true hb
        refine ⟨-2000000000000, Or.inr (Or.inr ⟨by omega, ?_⟩), by omega, by omega, fun w => ?_⟩
        · subst hq; exact far_neg (by omega) hn hn' (by omega)
        clear hf' r1 r6 r7 hb' hc hp hq z q0 q1 l1
        go_enter Tryd.func64, Tryd.ntmps64
        go_wp2_with fail
        refine (HF.out _).mono ?_
        rintro e w' ⟨rfl, rfl⟩
        go_wp2
        go_ret
        exact ⟨(by first | rfl | (simp; done) | (simp; omega) | (simp [*]; done)), by (repeat (first | (with_reducible exact Below.refl _ _) | (with_reducible assumption) | (with_reducible refine Below.drew ?_) | (with_reducible refine Below.allocS ?_ _) | (with_reducible refine Below.setCell ?_ ?_ _) | (with_reducible refine Below.step ?_ (by assumption)) | (with_reducible refine Below.drewN' ?_ _))); (try any_goals (first | (with_reducible assumption) | (simp; done) | (simp; omega) | omega))⟩
      · have hb' := Int.mul_le_of_le_ediv (show 0 < n by omega) (Int.not_lt.mp hb)
        have g7 : decide (Int.tdiv 4000000000000 n < -q) = false := decide_eq_false (by omega)
        have g7' : decide (4000000000000 / (n) < -q) = false := decide_eq_false hb
        have k1 : -4000000000000 ≤ q * n := by omega
        have k2 : q * n ≤ 4000000000000 := by omega
        have m1 : IntKind.i64.wrap (q * n) = q * n := IntWalk.i64_in _ (by omega)
        have m2 : IntKind.i64.wrap ((t - q * d) * n) = (t - q * d) * n := IntWalk.i64_in _ (by omega)
        have m3 : IntKind.i64.wrap (q * n + f) = q * n + f := IntWalk.i64_in _ (by omega)
        refine ⟨q * n + f, Or.inl r1, by omega, by omega, fun w => ?_⟩
        clear hf' r1 hb' hc hp hq z q0 q1 l1
        go_enter Tryd.func64, Tryd.ntmps64
        go_wp2_with fail
        refine (HF.out _).mono ?_
        rintro e w' ⟨rfl, rfl⟩
        go_wp2
        go_quiet ((go_at_call 77; refine (HG.out _).mono ?_; rintro e w2 ⟨rfl, rfl⟩; first | exact ⟨rfl, _, rfl⟩ | exact ⟨rfl, _, (World.drewN_drewN _ _ _).symm⟩))
        go_wp2
        go_ret
        exact ⟨(by first | rfl | (simp; done) | (simp; omega) | (simp [*]; done)), by (repeat (first | (with_reducible exact Below.refl _ _) | (with_reducible assumption) | (with_reducible refine Below.drew ?_) | (with_reducible refine Below.allocS ?_ _) | (with_reducible refine Below.setCell ?_ ?_ _) | (with_reducible refine Below.step ?_ (by assumption)) | (with_reducible refine Below.drewN' ?_ _))); (try any_goals (first | (with_reducible assumption) | (simp; done) | (simp; omega) | omega))⟩
  · have a1 : decide (q < 0) = false := decide_eq_false (by omega)
    rcases Int.lt_trichotomy n 0 with e0 | e0 | e0
    · have b1 : decide (n < 0) = true := decide_eq_true e0
      have z : -Int.tdiv 4000000000000 n = 4000000000000 / -n := by rw [← Int.tdiv_neg, Int.tdiv_eq_ediv_of_nonneg (by omega)]
      have b2 : (n != 0) = true := by simp; omega
      have q0 : 0 ≤ 4000000000000 / (-n) := Int.ediv_nonneg (by omega) (by omega)
      have q1 : 4000000000000 / (-n) ≤ 4000000000000 := Int.ediv_le_self _ (by omega)
      have g6 : IntKind.i64.wrap (-Int.tdiv 4000000000000 n) = -Int.tdiv 4000000000000 n := l1 _ (by omega) (by omega)
      have g6' : IntKind.i64.wrap (4000000000000 / (-n)) = 4000000000000 / (-n) := l1 _ (by omega) (by omega)
      have hc : q * -n = -(q * n) := Int.mul_neg _ _
      have hp : 0 ≤ (q) * (-n) := Int.mul_nonneg (by omega) (by omega)
      by_cases hb : 4000000000000 / (-n) < q
      · have hb' := Int.lt_mul_of_ediv_lt (show 0 < -n by omega) hb
        have g7 : decide (-Int.tdiv 4000000000000 n < q) = true := decide_eq_true (by omega)
        have g7' : decide (4000000000000 / (-n) < q) = true := decide_eq_true hb
        refine ⟨-2000000000000, Or.inr (Or.inr ⟨by omega, ?_⟩), by omega, by omega, fun w => ?_⟩
        · subst hq; exact far_neg (by omega) hn hn' (by omega)
        clear hf' r1 r6 r7 hb' hc hp hq z q0 q1 l1
        go_enter Tryd.func64, Tryd.ntmps64
        go_wp2_with fail
        refine (HF.out _).mono ?_
        rintro e w' ⟨rfl, rfl⟩
        go_wp2
        go_ret
        exact ⟨(by first | rfl | (simp; done) | (simp; omega) | (simp [*]; done)), by (repeat (first | (with_reducible exact Below.refl _ _) | (with_reducible assumption) | (with_reducible refine Below.drew ?_) | (with_reducible refine Below.allocS ?_ _) | (with_reducible refine Below.setCell ?_ ?_ _) | (with_reducible refine Below.step ?_ (by assumption)) | (with_reducible refine Below.drewN' ?_ _))); (try any_goals (first | (with_reducible assumption) | (simp; done) | (simp; omega) | omega))⟩
      · have hb' := Int.mul_le_of_le_ediv (show 0 < -n by omega) (Int.not_lt.mp hb)
        have g7 : decide (-Int.tdiv 4000000000000 n < q) = false := decide_eq_false (by omega)
        have g7' : decide (4000000000000 / (-n) < q) = false := decide_eq_false hb
        have k1 : -4000000000000 ≤ q * n := by omega
        have k2 : q * n ≤ 4000000000000 := by omega
        have m1 : IntKind.i64.wrap (q * n) = q * n := IntWalk.i64_in _ (by omega)
        have m2 : IntKind.i64.wrap ((t - q * d) * n) = (t - q * d) * n := IntWalk.i64_in _ (by omega)
        have m3 : IntKind.i64.wrap (q * n + f) = q * n + f := IntWalk.i64_in _ (by omega)
        refine ⟨q * n + f, Or.inl r1, by omega, by omega, fun w => ?_⟩
        clear hf' r1 hb' hc hp hq z q0 q1 l1
        go_enter Tryd.func64, Tryd.ntmps64
        go_wp2_with fail
        refine (HF.out _).mono ?_
        rintro e w' ⟨rfl, rfl⟩
        go_wp2
        go_quiet ((go_at_call 77; refine (HG.out _).mono ?_; rintro e w2 ⟨rfl, rfl⟩; first | exact ⟨rfl, _, rfl⟩ | exact ⟨rfl, _, (World.drewN_drewN _ _ _).symm⟩))
        go_wp2
        go_ret
        exact ⟨(by first | rfl | (simp; done) | (simp; omega) | (simp [*]; done)), by (repeat (first | (with_reducible exact Below.refl _ _) | (with_reducible assumption) | (with_reducible refine Below.drew ?_) | (with_reducible refine Below.allocS ?_ _) | (with_reducible refine Below.setCell ?_ ?_ _) | (with_reducible refine Below.step ?_ (by assumption)) | (with_reducible refine Below.drewN' ?_ _))); (try any_goals (first | (with_reducible assumption) | (simp; done) | (simp; omega) | omega))⟩
    · have k1 : q * n = 0 := by rw [e0, Int.mul_zero]
      have b2 : (n != 0) = false := by simp [e0]
      have m1 : IntKind.i64.wrap (q * n) = q * n := IntWalk.i64_in _ (by omega)
      have m2 : IntKind.i64.wrap ((t - q * d) * n) = (t - q * d) * n := IntWalk.i64_in _ (by omega)
      have m3 : IntKind.i64.wrap (q * n + f) = q * n + f := IntWalk.i64_in _ (by omega)
      refine ⟨q * n + f, Or.inl r1, by omega, by omega, fun w => ?_⟩
      clear hf' r1 hq l1 hn hn' e0
      go_enter Tryd.func64, Tryd.ntmps64
      go_wp2_with fail
      refine (HF.out _).mono ?_
      rintro e w' ⟨rfl, rfl⟩
      go_wp2
      go_quiet ((go_at_call 77; refine (HG.out _).mono ?_; rintro e w2 ⟨rfl, rfl⟩; first | exact ⟨rfl, _, rfl⟩ | exact ⟨rfl, _, (World.drewN_drewN _ _ _).symm⟩))
      go_wp2
      go_ret
      exact ⟨(by first | rfl | (simp; done) | (simp; omega) | (simp [*]; done)), by (repeat (first | (with_reducible exact Below.refl _ _) | (with_reducible assumption) | (with_reducible refine Below.drew ?_) | (with_reducible refine Below.allocS ?_ _) | (with_reducible refine Below.setCell ?_ ?_ _) | (with_reducible refine Below.step ?_ (by assumption)) | (with_reducible refine Below.drewN' ?_ _))); (try any_goals (first | (with_reducible assumption) | (simp; done) | (simp; omega) | omega))⟩
    · have b1 : decide (n < 0) = false := decide_eq_false (by omega)
      have z : Int.tdiv 4000000000000 n = 4000000000000 / n := Int.tdiv_eq_ediv_of_nonneg (by omega)
      have b2 : (n != 0) = true := by simp; omega
      have q0 : 0 ≤ 4000000000000 / (n) := Int.ediv_nonneg (by omega) (by omega)
      have q1 : 4000000000000 / (n) ≤ 4000000000000 := Int.ediv_le_self _ (by omega)
      have g6 : IntKind.i64.wrap (Int.tdiv 4000000000000 n) = Int.tdiv 4000000000000 n := l1 _ (by omega) (by omega)
      have g6' : IntKind.i64.wrap (4000000000000 / (n)) = 4000000000000 / (n) := l1 _ (by omega) (by omega)
      have hc : q * n = q * n := rfl
      have hp : 0 ≤ (q) * (n) := Int.mul_nonneg (by omega) (by omega)
      by_cases hb : 4000000000000 / (n) < q
      · have hb' := Int.lt_mul_of_ediv_lt (show 0 < n by omega) hb
        have g7 : decide (Int.tdiv 4000000000000 n < q) = true := decide_eq_true (by omega)
        have g7' : decide (4000000000000 / (n) < q) = true := decide_eq_true hb
        refine ⟨2000000000000, Or.inr (Or.inl ⟨by omega, ?_⟩), by omega, by omega, fun w => ?_⟩
        · subst hq; exact far_pos (by omega) hn hn' (by omega)
        clear hf' r1 r6 r7 hb' hc hp hq z q0 q1 l1
        go_enter Tryd.func64, Tryd.ntmps64
        go_wp2_with fail
        refine (HF.out _).mono ?_
        rintro e w' ⟨rfl, rfl⟩
        go_wp2
        go_ret
        exact ⟨(by first | rfl | (simp; done) | (simp; omega) | (simp [*]; done)), by (repeat (first | (with_reducible exact Below.refl _ _) | (with_reducible assumption) | (with_reducible refine Below.drew ?_) | (with_reducible refine Below.allocS ?_ _) | (with_reducible refine Below.setCell ?_ ?_ _) | (with_reducible refine Below.step ?_ (by assumption)) | (with_reducible refine Below.drewN' ?_ _))); (try any_goals (first | (with_reducible assumption) | (simp; done) | (simp; omega) | omega))⟩
      · have hb' := Int.mul_le_of_le_ediv (show 0 < n by omega) (Int.not_lt.mp hb)
        have g7 : decide (Int.tdiv 4000000000000 n < q) = false := decide_eq_false (by omega)
        have g7' : decide (4000000000000 / (n) < q) = false := decide_eq_false hb
        have k1 : -4000000000000 ≤ q * n := by omega
        have k2 : q * n ≤ 4000000000000 := by omega
        have m1 : IntKind.i64.wrap (q * n) = q * n := IntWalk.i64_in _ (by omega)
        have m2 : IntKind.i64.wrap ((t - q * d) * n) = (t - q * d) * n := IntWalk.i64_in _ (by omega)
        have m3 : IntKind.i64.wrap (q * n + f) = q * n + f := IntWalk.i64_in _ (by omega)
        refine ⟨q * n + f, Or.inl r1, by omega, by omega, fun w => ?_⟩
        clear hf' r1 hb' hc hp hq z q0 q1 l1
        go_enter Tryd.func64, Tryd.ntmps64
        go_wp2_with fail
        refine (HF.out _).mono ?_
        rintro e w' ⟨rfl, rfl⟩
        go_wp2
        go_quiet ((go_at_call 77; refine (HG.out _).mono ?_; rintro e w2 ⟨rfl, rfl⟩; first | exact ⟨rfl, _, rfl⟩ | exact ⟨rfl, _, (World.drewN_drewN _ _ _).symm⟩))
        go_wp2
        go_ret
        exact ⟨(by first | rfl | (simp; done) | (simp; omega) | (simp [*]; done)), by (repeat (first | (with_reducible exact Below.refl _ _) | (with_reducible assumption) | (with_reducible refine Below.drew ?_) | (with_reducible refine Below.allocS ?_ _) | (with_reducible refine Below.setCell ?_ ?_ _) | (with_reducible refine Below.step ?_ (by assumption)) | (with_reducible refine Below.drewN' ?_ _))); (try any_goals (first | (with_reducible assumption) | (simp; done) | (simp; omega) | omega))⟩
end Go.Proofs.YtjkcgbidceakjaaDoor
