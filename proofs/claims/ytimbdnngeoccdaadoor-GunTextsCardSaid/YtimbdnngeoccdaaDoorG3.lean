/-
  Contracts of Root, distance, Distance, over, lag, of gun and of its reference.
-/
import Derived.Test.YtimbdnngeoccdaaDoorG2
import Derived.BigRegion
namespace Go.Proofs.YtimbdnngeoccdaaDoor
open Go.RowKit

/-- What Root answers. -/
def rootV (n : Int) : Int := if within n 0 1000000000000000000 then isq n else 0
def rootE (n : Int) : Int := if within n 0 1000000000000000000 then 0 else 7
/-- The squared distance of two places. -/
def dd (a b c d : Int) : Int := (a - c) * (a - c) + (b - d) * (b - d)
theorem dd_bd {a b c d : Int} (hp : place a b = true) (hq : place c d = true) : 0 ≤ dd a b c d ∧ dd a b c d ≤ 20000000000 := by
  obtain ⟨⟨p1, p2⟩, p3, p4⟩ := place_true hp
  obtain ⟨⟨q1, q2⟩, q3, q4⟩ := place_true hq
  have a1 := sq_nonneg (a - c)
  have a2 := sq_nonneg (b - d)
  have a3 : (a - c) * (a - c) ≤ 10000000000 := sq_le_sq (b := 100000) (by omega) (by omega)
  have a4 : (b - d) * (b - d) ≤ 10000000000 := sq_le_sq (b := 100000) (by omega) (by omega)
  unfold dd; omega
theorem dd_comm (a b c d : Int) : dd a b c d = dd c d a b := by
  have e (x y : Int) : (x - y) * (x - y) = (y - x) * (y - x) := by
    rw [← Int.neg_mul_neg, Int.neg_sub]
  unfold dd; rw [e a c, e b d]
theorem square_d (a b c d : Int) (hp : place a b = true) (hq : place c d = true) (w : World) :
    Calls Tryd.prog 104 #[.agg #[.int .i64 a, .int .i64 b], .agg #[.int .i64 c, .int .i64 d]] w fun e w' => e = .returned (.int .i64 (dd a b c d)) ∧ Below w.heap.size w w' := square_c a b c d hp hq w
/-- The distance in millimetres of two places whose squared distance is q, rounded down and up. -/
def dLo (q : Int) : Int := isq (q * 1000000)
def dHi (q : Int) : Int := if isq (q * 1000000) * isq (q * 1000000) = q * 1000000 then isq (q * 1000000) else isq (q * 1000000) + 1
theorem isq_bd {q : Int} (h0 : 0 ≤ q) (h1 : q ≤ 20000000000) : 0 ≤ isq (q * 1000000) ∧ isq (q * 1000000) ≤ 141421357 := by
  obtain ⟨a, b, c⟩ := isq_spec (q * 1000000) (by omega)
  refine ⟨a, ?_⟩
  have := sq_lt (a := isq (q * 1000000)) (b := 141421358) a (by omega) (by omega)
  omega
theorem dLo_bd {q : Int} (h0 : 0 ≤ q) (h1 : q ≤ 20000000000) : 0 ≤ dLo q ∧ dLo q ≤ 141421357 := isq_bd h0 h1
theorem dHi_bd {q : Int} (h0 : 0 ≤ q) (h1 : q ≤ 20000000000) : 0 ≤ dHi q ∧ dHi q ≤ 141421358 := by
  have := isq_bd h0 h1
  unfold dHi; split <;> omega

theorem distance_c (a b c d : Int) (hp : place a b = true) (hq : place c d = true) (w : World) :
    Calls Tryd.prog 88 #[.agg #[.int .i64 a, .int .i64 b], .agg #[.int .i64 c, .int .i64 d]] w fun e w' => e = .returned (.tuple #[.int .i64 (dLo (dd a b c d)), .int .i64 (dHi (dd a b c d))]) ∧ Below w.heap.size w w' := by
  obtain ⟨q0, q1⟩ := dd_bd hp hq
  obtain ⟨r0, r1⟩ := isq_bd q0 q1
  have e1 : dd a b c d * 1000 * 1000 = dd a b c d * 1000000 := by omega
  have s0 := sq_nonneg (isq (dd a b c d * 1000000))
  have s1 : isq (dd a b c d * 1000000) * isq (dd a b c d * 1000000) ≤ 141421357 * 141421357 := sq_le_sq (a := isq (dd a b c d * 1000000)) (b := 141421357) (by omega) (by omega)
  by_cases hc : isq (dd a b c d * 1000000) * isq (dd a b c d * 1000000) = dd a b c d * 1000000
  · have f1 : dHi (dd a b c d) = isq (dd a b c d * 1000000) := by simp [dHi, hc]
    have F1 := Lib.hid f1
    clear f1
    go_enter Tryd.func88, Tryd.ntmps88
    go_wp2_with (first | (go_at_call 104; refine (square_d a b c d hp hq _).mono ?_; rintro e w1 ⟨rfl, hb⟩) | (go_at_call 105; refine (root_c _ (by omega) (by omega) _).mono ?_; rintro e w' ⟨rfl, rfl⟩))
    go_ret2
    exact ⟨by rw [F1.out]; rfl, (((Below.refl _ _).alloc (Nat.le_refl _) _).alloc (by simp) _).trans (hb.mono (by simp; omega))⟩
  · have f1 : dHi (dd a b c d) = isq (dd a b c d * 1000000) + 1 := by simp [dHi, hc]
    have F1 := Lib.hid f1
    clear f1
    go_enter Tryd.func88, Tryd.ntmps88
    go_wp2_with (first | (go_at_call 104; refine (square_d a b c d hp hq _).mono ?_; rintro e w1 ⟨rfl, hb⟩) | (go_at_call 105; refine (root_c _ (by omega) (by omega) _).mono ?_; rintro e w' ⟨rfl, rfl⟩))
    go_ret2
    exact ⟨by rw [F1.out]; rfl, (((Below.refl _ _).alloc (Nat.le_refl _) _).alloc (by simp) _).trans (hb.mono (by simp; omega))⟩
/-- The lag over a distance, rounded down and up. -/
def ovLo (s v lo : Int) : Int := lo * 1000 / (s + v)
def ovHi (s v hi : Int) : Int := (hi * 1000 + (s - v) - 1) / (s - v)
theorem over_c (s v lo hi : Int) (ha : validAir s v = true) (h0 : 0 ≤ lo) (h1 : lo ≤ 1000000000) (h2 : 0 ≤ hi) (h3 : hi ≤ 1000000000) (w : World) :
    Calls Tryd.prog 89 #[.agg #[.int .i64 s, .int .i64 v], .int .i64 lo, .int .i64 hi] w fun e w' => e = .returned (.agg #[.int .i64 (ovLo s v lo), .int .i64 (ovHi s v hi)]) ∧ Below w.heap.size w w' := by
  obtain ⟨⟨p1, p2⟩, p3, p4⟩ := validAir_true ha
  clear ha
  go_enter Tryd.func89, Tryd.ntmps89
  go_wp2
  go_region
  go_wp2
  refine bodyPost_ret (v := .agg #[.int .i64 (ovLo s v lo), .int .i64 (ovHi s v hi)]) (by simp [results, Tryd.results89, go_sem, *] <;> (repeat' apply And.intro) <;> rfl) rfl ⟨rfl, ?_⟩
  (repeat (first | exact Below.refl _ _ | refine Below.drew ?_ | refine Below.allocS ?_ _ | refine Below.step ?_ (by assumption) | refine Below.setCell ?_ (by simp <;> omega) _ | refine Below.drewN' ?_ _))
/-- The lag of two places whose squared distance is q. -/
def lagLo (s v q : Int) : Int := ovLo s v (dLo q)
def lagHi (s v q : Int) : Int := ovHi s v (dHi q)
theorem lag_c (s v a b c d : Int) (ha : validAir s v = true) (hp : place a b = true) (hq : place c d = true) (w : World) :
    Calls Tryd.prog 60 #[.agg #[.int .i64 s, .int .i64 v], .agg #[.int .i64 a, .int .i64 b], .agg #[.int .i64 c, .int .i64 d]] w fun e w' => e = .returned (.agg #[.int .i64 (lagLo s v (dd a b c d)), .int .i64 (lagHi s v (dd a b c d))]) ∧ Below w.heap.size w w' := by
  obtain ⟨q0, q1⟩ := dd_bd hp hq
  obtain ⟨g0, g1⟩ := dLo_bd q0 q1
  obtain ⟨g2, g3⟩ := dHi_bd q0 q1
  go_enter Tryd.func60, Tryd.ntmps60
  go_wp2_with (first | (go_at_call 88; (with_reducible refine (distance_c a b c d hp hq _).mono ?_); rintro e w1 ⟨rfl, hb⟩; obtain ⟨hc, hf⟩ := bcell hb; have hz := hb.size; (try simp at hz); (try have hz0 : w.heap.size < w1.heap.size := by omega); (try have hz1 : w.heap.size + 1 < w1.heap.size := by omega); (try have hz2 : w.heap.size + 1 + 1 < w1.heap.size := by omega); (try have hz3 : w.heap.size + 1 + 1 + 1 < w1.heap.size := by omega); (try have hz4 : w.heap.size + 1 + 1 + 1 + 1 < w1.heap.size := by omega); (try have hz5 : w.heap.size + 1 + 1 + 1 + 1 + 1 < w1.heap.size := by omega)) | (go_at_call 89; (with_reducible refine (over_c s v _ _ ha g0 (by omega) g2 (by omega) _).mono ?_); rintro e w1 ⟨rfl, hb⟩; obtain ⟨hc, hf⟩ := bcell hb; have hz := hb.size; (try simp at hz); (try have hz0 : w.heap.size < w1.heap.size := by omega); (try have hz1 : w.heap.size + 1 < w1.heap.size := by omega); (try have hz2 : w.heap.size + 1 + 1 < w1.heap.size := by omega); (try have hz3 : w.heap.size + 1 + 1 + 1 < w1.heap.size := by omega); (try have hz4 : w.heap.size + 1 + 1 + 1 + 1 < w1.heap.size := by omega); (try have hz5 : w.heap.size + 1 + 1 + 1 + 1 + 1 < w1.heap.size := by omega)))
  refine bodyPost_ret (v := .agg #[.int .i64 (lagLo s v (dd a b c d)), .int .i64 (lagHi s v (dd a b c d))]) (by simp [results, Tryd.results60, go_sem, *] <;> (repeat' apply And.intro) <;> rfl) rfl ⟨rfl, ?_⟩
  (repeat (first | exact Below.refl _ _ | refine Below.drew ?_ | refine Below.allocS ?_ _ | refine Below.step ?_ (by assumption) | refine Below.setCell ?_ (by simp <;> omega) _ | refine Below.drewN' ?_ _))
end Go.Proofs.YtimbdnngeoccdaaDoor
