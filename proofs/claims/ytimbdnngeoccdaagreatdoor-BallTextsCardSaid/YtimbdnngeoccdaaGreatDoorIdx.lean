/-
  Plain words on the first index at which a list's element has a property; and parts of a slice that reads as a list. No program in sight.
-/
import Derived.Test.YtimbdnngeoccdaaGreatDoorTypes
namespace Go.Proofs.YtimbdnngeoccdaaGreatDoor
open Go.RowKit
set_option linter.unusedVariables false
def idxOf {α : Type} (p : α → Bool) : List α → Nat → Int
  | [], _ => -1
  | x :: l, k => if p x then (k : Int) else idxOf p l (k + 1)
theorem idxOf_false {α : Type} (p : α → Bool) (x : α) (l : List α) (k : Nat) (h : p x = false) : idxOf p (x :: l) k = idxOf p l (k + 1) := by simp [idxOf, h]
theorem idxOf_true {α : Type} (p : α → Bool) (x : α) (l : List α) (k : Nat) (h : p x = true) : idxOf p (x :: l) k = k := by simp [idxOf, h]
theorem idxOf_any {α : Type} (p : α → Bool) (l : List α) : ∀ k, decide (0 ≤ idxOf p l k) = l.any p := by
  induction l with
  | nil => intro k; simp [idxOf]
  | cons x l ih =>
    intro k
    unfold idxOf
    cases h : p x
    · simp only [Bool.false_eq_true, if_false, ih, List.any_cons, h, Bool.false_or]
    · simp [h]
theorem idxOf_no {α : Type} (p : α → Bool) : ∀ (l : List α) (k : Nat), l.any p = false → idxOf p l k = -1
  | [], _, _ => rfl
  | x :: l, k, h => by
    rw [List.any_cons, Bool.or_eq_false_iff] at h
    rw [idxOf_false _ _ _ _ h.1, idxOf_no p l _ h.2]
theorem idxOf_yes {α : Type} (p : α → Bool) : ∀ (l : List α) (k : Nat), l.any p = true → idxOf p l k = ((l.findIdx p + k : Nat) : Int)
  | [], _, h => by simp at h
  | x :: l, k, h => by
    rw [List.findIdx_cons]
    cases hx : p x
    · rw [List.any_cons, hx, Bool.false_or] at h
      rw [idxOf_false _ _ _ _ hx, idxOf_yes p l _ h]; simp; omega
    · rw [idxOf_true _ _ _ _ hx]; simp
theorem find_lt {α : Type} {p : α → Bool} {l : List α} (h : l.any p = true) : l.findIdx p < l.length := by
  rw [List.findIdx_lt_length]; simpa using h
theorem find_no {α : Type} {p : α → Bool} {l : List α} (h : l.any p = false) : l.findIdx p = l.length := by
  rw [List.findIdx_eq_length]; simpa using h
theorem any_take {α : Type} (p : α → Bool) : ∀ (l : List α) (d : Nat), d ≤ l.length → (l.take d).any p = decide (l.findIdx p < d)
  | [], d, h => by simp at h; subst h; simp
  | x :: l, 0, h => by simp
  | x :: l, d + 1, h => by
    rw [List.take_succ_cons, List.any_cons, List.findIdx_cons, any_take p l d (by simpa using h)]
    cases p x <;> simp
theorem any_drop {α : Type} (p : α → Bool) (l : List α) (d : Nat) (h : d ≤ l.length) : (l.drop d).any p = decide (d + (l.drop d).findIdx p < l.length) := by
  rw [Bool.eq_iff_iff, decide_eq_true_eq]
  have e : d + (l.drop d).findIdx p < l.length ↔ (l.drop d).findIdx p < (l.drop d).length := by rw [List.length_drop]; omega
  rw [e, List.findIdx_lt_length]; simp
theorem RdL.take {α : Type} {w : World} {B sz : Nat} {enc : α → List Value} {A : Option Addr} {l : List α} (h : RdL w B enc sz A l) (d : Nat) : RdL w B enc sz A (l.take d) := by
  intro hl
  rw [List.length_take] at hl
  obtain ⟨b, off, e, hlt, hc⟩ := h (by omega)
  refine ⟨b, off, e, hlt, fun i hi j v hv => hc i (by rw [List.length_take] at hi; omega) j v ?_⟩
  rw [← hv]; simp
theorem RdL.drop {α : Type} {w : World} {B sz b off : Nat} {enc : α → List Value} {l : List α} (h : RdL w B enc sz (some ⟨b, off, none⟩) l) (d : Nat) : RdL w B enc sz (some ⟨b, off + d * sz, none⟩) (l.drop d) := by
  intro hl
  rw [List.length_drop] at hl
  obtain ⟨b', off', e, hlt, hc⟩ := h (by omega)
  injection e with e
  injection e with e1 e2
  subst e1 e2
  refine ⟨_, _, rfl, hlt, fun i hi j v hv => ?_⟩
  have hi' : d + i < l.length := by rw [List.length_drop] at hi; omega
  have := hc (d + i) hi' j v (by rw [← hv]; simp)
  rw [← this]; congr 2; rw [Nat.add_mul]; omega
end Go.Proofs.YtimbdnngeoccdaaGreatDoor
