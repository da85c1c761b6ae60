/-
  Small lemmas that all walks of this seat use: facts on a world that only grew, and on whole square roots. No conditions.
-/
import Derived.Test.YtagbokhmcidokaaProg
import Derived.WalkKit
import Derived.WalkSpells
import Derived.WalkLawsBesides
import Derived.Lib.Hide
namespace Go.Proofs.Ytagbokhmcidokaa
open Go.RowKit

theorem bcell {W w1 : World} (hb : Below W.heap.size W w1) : (∀ b o, b < W.heap.size → w1.cell? ⟨b, o, none⟩ = W.cell? ⟨b, o, none⟩) ∧ (∀ b o, b < W.heap.size → w1.frozen? ⟨b, o, none⟩ = W.frozen? ⟨b, o, none⟩) :=
  ⟨fun b o h => hb.cell (p := ⟨b, o, none⟩) h, fun b o h => hb.frozen (p := ⟨b, o, none⟩) h⟩

theorem Below.step {w a b : World} (h : Below w.heap.size w a) (k : Below a.heap.size a b) : Below w.heap.size w b := h.trans (k.mono h.size)
theorem Below.allocS {w a : World} (h : Below w.heap.size w a) (o : Obj) : Below w.heap.size w (a.alloc o) := h.alloc h.size o
theorem Below.drewN' {B : Nat} {w a : World} (h : Below B w a) (n : Nat) : Below B w (a.drewN n) := h.trans ⟨rfl, rfl, rfl, Nat.le_refl _, fun _ _ => rfl⟩

theorem cell?_lt {w : World} {a : Addr} {v : Value} (h : w.cell? a = some v) : a.block < w.heap.size := by
  unfold World.cell? at h
  rcases Nat.lt_or_ge a.block w.heap.size with h1 | h1
  · exact h1
  · rw [Array.getElem?_eq_none h1] at h; cases h
theorem keep_cell {W W' : World} {a : Addr} {v : Value} (hb : Below W.heap.size W W') (h : W.cell? a = some v) : W'.cell? a = some v := (hb.cell (cell?_lt h)).trans h

/-- Blocks that were there are there, in the forms that simp asks for. -/
theorem lt_chain {W w1 : World} (hb : Below W.heap.size W w1) : (∀ n, n < W.heap.size → n < w1.heap.size) ∧ (∀ n, n < W.heap.size → n ≤ w1.heap.size) ∧ (∀ n, n < W.heap.size → n ≤ w1.heap.size + 1) ∧ (∀ n, n < W.heap.size → n ≤ w1.heap.size + 1 + 1) ∧ (∀ n, n < W.heap.size → n ≤ w1.heap.size + 1 + 1 + 1) := by
  have := hb.size
  refine ⟨?_, ?_, ?_, ?_, ?_⟩ <;> (intro n hn; omega)

/-- A whole square root. -/
def isqN : Nat → Nat → Nat
  | 0, _ => 0
  | k + 1, n => let r := isqN k n; if (r + 1) * (r + 1) ≤ n then r + 1 else r
theorem isqN_spec (k n : Nat) (h : n < (k + 1) * (k + 1)) : isqN k n * isqN k n ≤ n ∧ n < (isqN k n + 1) * (isqN k n + 1) := by
  suffices hh : ∀ k, isqN k n ≤ k ∧ isqN k n * isqN k n ≤ n ∧ (n < (isqN k n + 1) * (isqN k n + 1) ∨ isqN k n = k) by
    obtain ⟨h1, h2, h3⟩ := hh k
    refine ⟨h2, ?_⟩
    rcases h3 with h3 | h3
    · exact h3
    · rw [h3]; exact h
  intro k
  induction k with
  | zero => exact ⟨Nat.le_refl _, Nat.zero_le _, Or.inr rfl⟩
  | succ k ih =>
    obtain ⟨h1, h2, h3⟩ := ih
    unfold isqN
    by_cases hc : (isqN k n + 1) * (isqN k n + 1) ≤ n
    · simp only [hc, if_true]
      refine ⟨by omega, trivial, ?_⟩
      rcases h3 with h3 | h3
      · omega
      · right; omega
    · simp only [hc, if_false]
      exact ⟨by omega, h2, Or.inl (by omega)⟩
def isq (n : Int) : Int := isqN n.toNat n.toNat
theorem isq_spec (n : Int) (h : 0 ≤ n) : 0 ≤ isq n ∧ isq n * isq n ≤ n ∧ n < (isq n + 1) * (isq n + 1) := by
  obtain ⟨m, rfl⟩ := Int.eq_ofNat_of_zero_le h
  have := isqN_spec m m (by rw [Nat.add_mul, Nat.mul_add]; omega)
  unfold isq
  refine ⟨by omega, ?_, ?_⟩
  · rw [Int.toNat_natCast, ← Int.natCast_mul]; exact Int.ofNat_le.2 this.1
  · rw [Int.toNat_natCast]
    have h2 := Int.ofNat_lt.2 this.2
    rw [Int.natCast_mul, Int.natCast_add] at h2
    exact h2
theorem sq_lt {a b : Int} (ha : 0 ≤ a) (hb : 0 ≤ b) (h : a * a < b * b) : a < b := by
  rcases Int.lt_or_le a b with h1 | h1
  · exact h1
  · have := Int.mul_le_mul h1 h1 hb ha
    omega
theorem isq_unique {n r : Int} (hr : 0 ≤ r) (h1 : r * r ≤ n) (h2 : n < (r + 1) * (r + 1)) : isq n = r := by
  have hn : 0 ≤ n := Int.le_trans (Int.mul_nonneg hr hr) h1
  obtain ⟨s0, s1, s2⟩ := isq_spec n hn
  have a1 := sq_lt (a := r) (b := isq n + 1) hr (by omega) (by omega)
  have a2 := sq_lt (a := isq n) (b := r + 1) s0 (by omega) (by omega)
  omega
theorem sq_le_sq {a b : Int} (ha : -b ≤ a) (hb : a ≤ b) : a * a ≤ b * b := by
  rcases Int.le_total 0 a with h | h
  · exact Int.mul_le_mul hb hb h (by omega)
  · have := Int.mul_le_mul (a := -a) (b := -a) (c := b) (d := b) (by omega) (by omega) (by omega) (by omega)
    rwa [Int.neg_mul_neg] at this
theorem sq_nonneg (a : Int) : 0 ≤ a * a := by
  rcases Int.le_total 0 a with h | h
  · exact Int.mul_nonneg h h
  · have := Int.mul_nonneg (a := -a) (b := -a) (by omega) (by omega)
    rwa [Int.neg_mul_neg] at this
end Go.Proofs.Ytagbokhmcidokaa
