/-
  Contracts of the product with a fraction, of span and of its reference.
-/
import Derived.Test.YtjkcgbidceakjaaDoorD4
namespace Go.Proofs.YtjkcgbidceakjaaDoor
open Go.RowKit
set_option linter.unusedVariables false
set_option linter.unusedSimpArgs false
theorem floor_q (n d : Int) (hn : Fit n) (hd : 0 < d) (hd' : d ≤ 4000000000000000000) (w : World) (m : Nat) :
    Calls Tryd.prog 76 #[.int .i64 n, .int .i64 d] (w.drewN m) fun e w'' => e = .returned (.int .i64 (n / d)) ∧ ∃ k, w'' = w.drewN k :=
  Calls.quiet_of_same ((floor_c n d hn hd hd' (w.drewN m)).mono fun _ _ h => h)
theorem down_q (n d : Int) (hn : Fit n) (hd : 0 < d) (hd' : d ≤ 4000000000000000000) (w : World) (m : Nat) :
    Calls Tryd.prog 77 #[.int .i64 n, .int .i64 d] (w.drewN m) fun e w'' => e = .returned (.int .i64 (n / d)) ∧ ∃ k, w'' = w.drewN k :=
  Calls.quiet_of_same ((down_c n d hn hd hd' (w.drewN m)).mono fun _ _ h => h)
/-- What a whole and a rest are: q = t / d, their bounds, the product's value. -/
theorem rest_facts {t n d q : Int} (ht : -1000000000000 ≤ t) (ht' : t ≤ 1000000000000) (hn : -1000000000 ≤ n) (hn' : n ≤ 1000000000) (hd : 1 ≤ d) (hd' : d ≤ 1000000000) (hq : t / d = q) :
    q * n + (t - q * d) * n / d = t * n / d ∧ 0 ≤ t - q * d ∧ t - q * d < d ∧ -1000000000000000000 ≤ (t - q * d) * n ∧ (t - q * d) * n ≤ 1000000000000000000 ∧ -1000000000 ≤ (t - q * d) * n / d ∧ (t - q * d) * n / d ≤ 1000000000 ∧ -1000000000000 ≤ q ∧ q ≤ 1000000000000 ∧ -1001000000000 ≤ q * d ∧ q * d ≤ 1000000000000 := by
  subst hq
  have h0 := Int.emod_def t d
  have h1 := Int.emod_nonneg t (show d ≠ 0 by omega)
  have h2 := Int.emod_lt_of_pos t (show 0 < d by omega)
  have hc : d * (t / d) = t / d * d := Int.mul_comm _ _
  have e : t - t / d * d = t % d := by omega
  rw [e]
  have a1 : t % d * n ≤ t % d * 1000000000 := Int.mul_le_mul_of_nonneg_left hn' h1
  have a2 : t % d * 1000000000 ≤ d * 1000000000 := Int.mul_le_mul_of_nonneg_right (by omega) (by omega)
  have a3 : t % d * (-1000000000) ≤ t % d * n := Int.mul_le_mul_of_nonneg_left hn h1
  refine ⟨parts_eq t n d (by omega), h1, h2, by omega, by omega, ?_, ?_, ?_, ?_, by omega, by omega⟩
  · exact Int.le_ediv_of_mul_le (by omega) (by omega)
  · exact Int.ediv_le_of_le_mul (by omega) (by omega)
  · apply Int.le_ediv_of_mul_le (by omega)
    omega
  · apply Int.ediv_le_of_le_mul (by omega)
    omega
set_option maxHeartbeats 4000000 in
theorem times_c (t n d : Int) (ht : -1000000000000 ≤ t) (ht' : t ≤ 1000000000000) (hn : 0 ≤ n) (hn' : n ≤ 1000000000) (hd : 1 ≤ d) (hd' : d ≤ 1000000000) :
    ∃ v, Near (t * n / d) v ∧ -4001000000000 ≤ v ∧ v ≤ 4001000000000 ∧ ∀ w : World, Calls Tryd.prog 62 #[.int .i64 t, .agg #[.int .i64 n, .int .i64 d]] w fun e w' => e = .returned (.int .i64 v) ∧ Below w.heap.size w w' := by
  obtain ⟨q, hq⟩ : ∃ q, t / d = q := ⟨_, rfl⟩
  obtain ⟨r1, r2, r3, r4, r5, r6, r7, r8, r9, r10, r11⟩ := rest_facts (n := n) ht ht' (by omega) hn' hd hd' hq
  have HF := Lib.hid (fun W => floor_c t d ⟨by omega, by omega⟩ (by omega) (by omega) W)
  have HG := Lib.hid (fun W => floor_c ((t - q * d) * n) d ⟨by omega, by omega⟩ (by omega) (by omega) W)
  rw [hq] at HF
  obtain ⟨f, hf'⟩ : ∃ f, (t - q * d) * n / d = f := ⟨_, rfl⟩
  rw [hf'] at HG r1 r6 r7
  have l1 : ∀ x : Int, -4000000000000 ≤ x → x ≤ 4000000000000 → IntKind.i64.wrap x = x := fun x h1 h2 => IntWalk.i64_in _ (by omega)
  rcases Int.lt_trichotomy q 0 with h0 | h0 | h0
  · have g1 : decide (0 < q) = false := by simp; omega
    have g2 : decide (q < 0) = true := by simpa using h0
    have hq0 : 0 ≤ 4000000000000 / (-q) := Int.ediv_nonneg (by omega) (by omega)
    have hq1 : 4000000000000 / (-q) ≤ 4000000000000 := Int.ediv_le_self _ (by omega)
    have z : -Int.tdiv 4000000000000 q = 4000000000000 / -q := by rw [← Int.tdiv_neg, Int.tdiv_eq_ediv_of_nonneg (by omega)]
    have g4 : IntKind.i64.wrap (-q) = -q := l1 _ (by omega) (by omega)
    have g5 : -q ≠ 0 := by omega
    have g6 : IntKind.i64.wrap (-Int.tdiv 4000000000000 q) = -Int.tdiv 4000000000000 q := l1 _ (by omega) (by omega)
    have hb2 : n * -q = -(q * n) := by rw [Int.mul_neg, Int.mul_comm]
    by_cases hb : 4000000000000 / (-q) < n
    · have hb' := Int.lt_mul_of_ediv_lt (show 0 < -q by omega) hb
      have g7 : decide (-Int.tdiv 4000000000000 q < n) = true := by rw [z]; simpa using hb
      have g8 : decide (0 < n) = true := by simp; omega
      refine ⟨-4000000000000, Or.inr (Or.inr ⟨by omega, ?_⟩), by omega, by omega, fun w => ?_⟩
      · subst hq; exact far_neg (by omega) (by omega) hn' (by omega)
      clear hf' r1 r6 r7 hb' hb2 hq z hb hq0 hq1 l1
      go_enter Tryd.func62, Tryd.ntmps62
      go_wp2_with fail
      refine (HF.out _).mono ?_
      rintro e w' ⟨rfl, rfl⟩
      go_wp2
      go_quiet (fail)
      go_wp2
      go_ret
      exact ⟨(by first | rfl | (simp; done) | (simp; omega) | (simp [*]; done)), by (repeat (first | (with_reducible exact Below.refl _ _) | (with_reducible assumption) | (with_reducible refine Below.drew ?_) | (with_reducible refine Below.allocS ?_ _) | (with_reducible refine Below.setCell ?_ ?_ _) | (with_reducible refine Below.step ?_ (by assumption)) | (with_reducible refine Below.drewN' ?_ _))); (try any_goals (first | (with_reducible assumption) | (simp; done) | (simp; omega) | omega))⟩
    · have hb' := Int.mul_le_of_le_ediv (show 0 < -q by omega) (Int.not_lt.mp hb)
      have hp : 0 ≤ n * -q := Int.mul_nonneg hn (by omega)
      have g7 : decide (-Int.tdiv 4000000000000 q < n) = false := by rw [z]; simpa using hb
      have g8 : IntKind.i64.wrap (Int.tdiv 4000000000000 q) = Int.tdiv 4000000000000 q := l1 _ (by omega) (by omega)
      have g9 : decide (n < Int.tdiv 4000000000000 q) = false := decide_eq_false (by omega)
      have k1 : -4000000000000 ≤ q * n := by omega
      have k2 : q * n ≤ 0 := by omega
      have m1 : IntKind.i64.wrap (q * n) = q * n := IntWalk.i64_in _ (by omega)
      have m2 : IntKind.i64.wrap ((t - q * d) * n) = (t - q * d) * n := IntWalk.i64_in _ (by omega)
      have m3 : IntKind.i64.wrap (q * n + f) = q * n + f := IntWalk.i64_in _ (by omega)
      refine ⟨q * n + f, Or.inl r1, by omega, by omega, fun w => ?_⟩
      clear hf' r1 hb' hb2 hq z hb hq0 hq1 l1 hp
      go_enter Tryd.func62, Tryd.ntmps62
      go_wp2_with fail
      refine (HF.out _).mono ?_
      rintro e w' ⟨rfl, rfl⟩
      go_wp2
      go_quiet (fail)
      go_wp2
      go_quiet ((go_at_call 76; refine (HG.out _).mono ?_; rintro e w2 ⟨rfl, rfl⟩; first | exact ⟨rfl, _, rfl⟩ | exact ⟨rfl, _, (World.drewN_drewN _ _ _).symm⟩ | exact ⟨rfl, _, World.drewN_drewN _ _ _⟩))
      go_wp2
      go_ret
      exact ⟨(by first | rfl | (simp; done) | (simp; omega) | (simp [*]; done)), by (repeat (first | (with_reducible exact Below.refl _ _) | (with_reducible assumption) | (with_reducible refine Below.drew ?_) | (with_reducible refine Below.allocS ?_ _) | (with_reducible refine Below.setCell ?_ ?_ _) | (with_reducible refine Below.step ?_ (by assumption)) | (with_reducible refine Below.drewN' ?_ _))); (try any_goals (first | (with_reducible assumption) | (simp; done) | (simp; omega) | omega))⟩
  · have g1 : decide (0 < q) = false := by simp; omega
    have g2 : decide (q < 0) = false := by simp; omega
    have k1 : q * n = 0 := by rw [h0, Int.zero_mul]
    have k2 : 0 ≤ f := by rw [← hf']; exact Int.ediv_nonneg (Int.mul_nonneg r2 hn) (by omega)
    have m1 : IntKind.i64.wrap (q * n) = q * n := IntWalk.i64_in _ (by omega)
    have m2 : IntKind.i64.wrap ((t - q * d) * n) = (t - q * d) * n := IntWalk.i64_in _ (by omega)
    have m3 : IntKind.i64.wrap (q * n + f) = q * n + f := IntWalk.i64_in _ (by omega)
    refine ⟨q * n + f, Or.inl r1, by omega, by omega, fun w => ?_⟩
    clear hf' r1 hq l1 h0
    go_enter Tryd.func62, Tryd.ntmps62
    go_wp2_with fail
    refine (HF.out _).mono ?_
    rintro e w' ⟨rfl, rfl⟩
    go_wp2
    go_quiet (fail)
    go_wp2
    go_quiet ((go_at_call 76; refine (HG.out _).mono ?_; rintro e w2 ⟨rfl, rfl⟩; first | exact ⟨rfl, _, rfl⟩ | exact ⟨rfl, _, (World.drewN_drewN _ _ _).symm⟩ | exact ⟨rfl, _, World.drewN_drewN _ _ _⟩))
    go_wp2
    go_ret
    exact ⟨(by first | rfl | (simp; done) | (simp; omega) | (simp [*]; done)), by (repeat (first | (with_reducible exact Below.refl _ _) | (with_reducible assumption) | (with_reducible refine Below.drew ?_) | (with_reducible refine Below.allocS ?_ _) | (with_reducible refine Below.setCell ?_ ?_ _) | (with_reducible refine Below.step ?_ (by assumption)) | (with_reducible refine Below.drewN' ?_ _))); (try any_goals (first | (with_reducible assumption) | (simp; done) | (simp; omega) | omega))⟩
  · have g1 : decide (0 < q) = true := by simpa using h0
    have hq0 : 0 ≤ 4000000000000 / q := Int.ediv_nonneg (by omega) (by omega)
    have hq1 : 4000000000000 / q ≤ 4000000000000 := Int.ediv_le_self _ (by omega)
    have z : Int.tdiv 4000000000000 q = 4000000000000 / q := Int.tdiv_eq_ediv_of_nonneg (by omega)
    have g5 : q ≠ 0 := by omega
    have g6 : IntKind.i64.wrap (Int.tdiv 4000000000000 q) = Int.tdiv 4000000000000 q := l1 _ (by omega) (by omega)
    have g6' : IntKind.i64.wrap (4000000000000 / q) = 4000000000000 / q := l1 _ (by omega) (by omega)
    by_cases hb : 4000000000000 / q < n
    · have hb' := Int.lt_mul_of_ediv_lt h0 hb
      have g7 : decide (Int.tdiv 4000000000000 q < n) = true := by rw [z]; simpa using hb
      have g7' : decide (4000000000000 / q < n) = true := by simpa using hb
      have g8 : decide (0 < n) = true := by simp; omega
      have hc : n * q = q * n := Int.mul_comm _ _
      refine ⟨4000000000000, Or.inr (Or.inl ⟨by omega, ?_⟩), by omega, by omega, fun w => ?_⟩
      · subst hq; exact far_pos (by omega) (by omega) hn' (by omega)
      clear hf' r1 r6 r7 hb' hc hq z hb hq0 hq1 l1
      go_enter Tryd.func62, Tryd.ntmps62
      go_wp2_with fail
      refine (HF.out _).mono ?_
      rintro e w' ⟨rfl, rfl⟩
      go_wp2
      go_quiet (fail)
      go_wp2
      go_ret
      exact ⟨(by first | rfl | (simp; done) | (simp; omega) | (simp [*]; done)), by (repeat (first | (with_reducible exact Below.refl _ _) | (with_reducible assumption) | (with_reducible refine Below.drew ?_) | (with_reducible refine Below.allocS ?_ _) | (with_reducible refine Below.setCell ?_ ?_ _) | (with_reducible refine Below.step ?_ (by assumption)) | (with_reducible refine Below.drewN' ?_ _))); (try any_goals (first | (with_reducible assumption) | (simp; done) | (simp; omega) | omega))⟩
    · have hb' := Int.mul_le_of_le_ediv h0 (Int.not_lt.mp hb)
      have hp : 0 ≤ q * n := Int.mul_nonneg (by omega) hn
      have hc : n * q = q * n := Int.mul_comm _ _
      have g7 : decide (Int.tdiv 4000000000000 q < n) = false := by rw [z]; simpa using hb
      have g7' : decide (4000000000000 / q < n) = false := by simpa using hb
      have g2 : decide (q < 0) = false := by simp; omega
      have g8 : IntKind.i64.wrap (-Int.tdiv 4000000000000 q) = -Int.tdiv 4000000000000 q := l1 _ (by omega) (by omega)
      have g8' : IntKind.i64.wrap (-(4000000000000 / q)) = -(4000000000000 / q) := l1 _ (by omega) (by omega)
      have g9 : decide (n < -Int.tdiv 4000000000000 q) = false := decide_eq_false (by omega)
      have g9' : decide (n < -(4000000000000 / q)) = false := decide_eq_false (by omega)
      have k1 : q * n ≤ 4000000000000 := by omega
      have m1 : IntKind.i64.wrap (q * n) = q * n := IntWalk.i64_in _ (by omega)
      have m2 : IntKind.i64.wrap ((t - q * d) * n) = (t - q * d) * n := IntWalk.i64_in _ (by omega)
      have m3 : IntKind.i64.wrap (q * n + f) = q * n + f := IntWalk.i64_in _ (by omega)
      refine ⟨q * n + f, Or.inl r1, by omega, by omega, fun w => ?_⟩
      clear hf' r1 hb' hc hq z hb hq0 hq1 l1
      go_enter Tryd.func62, Tryd.ntmps62
      go_wp2_with fail
      refine (HF.out _).mono ?_
      rintro e w' ⟨rfl, rfl⟩
      go_wp2
      go_quiet (fail)
      go_wp2
      go_quiet ((go_at_call 76; refine (HG.out _).mono ?_; rintro e w2 ⟨rfl, rfl⟩; first | exact ⟨rfl, _, rfl⟩ | exact ⟨rfl, _, (World.drewN_drewN _ _ _).symm⟩ | exact ⟨rfl, _, World.drewN_drewN _ _ _⟩))
      go_wp2
      go_ret
      exact ⟨(by first | rfl | (simp; done) | (simp; omega) | (simp [*]; done)), by (repeat (first | (with_reducible exact Below.refl _ _) | (with_reducible assumption) | (with_reducible refine Below.drew ?_) | (with_reducible refine Below.allocS ?_ _) | (with_reducible refine Below.setCell ?_ ?_ _) | (with_reducible refine Below.step ?_ (by assumption)) | (with_reducible refine Below.drewN' ?_ _))); (try any_goals (first | (with_reducible assumption) | (simp; done) | (simp; omega) | omega))⟩
end Go.Proofs.YtjkcgbidceakjaaDoor
