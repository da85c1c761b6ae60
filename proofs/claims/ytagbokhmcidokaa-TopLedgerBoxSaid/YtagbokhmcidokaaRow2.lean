/-
  More small laws on rows of the call's own: a row is kept by what only makes memory; a row of a list's first elements. No conditions.
-/
import Derived.Test.YtagbokhmcidokaaRow
namespace Go.Proofs.Ytagbokhmcidokaa
open Go.RowKit Go.Deep

theorem ownsRow_keep {W W' : World} {base sz n : Nat} {e : TypeId} {v : Value} {xs : List Value} (h : W.ownsRow base e sz v n xs) (hb : Below W.heap.size W W') : W'.ownsRow base e sz v n xs := by
  refine ⟨h.1, ?_⟩
  rcases h.2 with h0 | ⟨g, cap, cur, hv, hg0, hg, h1, h2, h3, h4⟩
  · exact Or.inl h0
  · refine Or.inr ⟨g, cap, cur, hv, hg0, ?_, h1, h2, h3, h4⟩
    rw [hb.block g, hg]
    rcases Nat.lt_or_ge g W.heap.size with hl | hl
    · exact hl
    · rw [Array.getElem?_eq_none hl] at hg; cases hg
theorem take_snoc {α : Type} (l : List α) (k : Nat) (h : k < l.length) : l.take (k + 1) = l.take k ++ [l[k]] := by simp
theorem row_snoc {α : Type} {W : World} {base sz n m : Nat} {e : TypeId} {v : Value} {enc : α → List Value} {l : List α} {y : α} (h : W.ownsRow base e sz v n (l.flatMap enc ++ enc y)) (hm : m = n) : W.ownsRow base e sz v m ((l ++ [y]).flatMap enc) := by
  subst hm; simpa using h
theorem Below.grow {B : Nat} {w a b : World} {v : Value} {n sz : Nat} {e : TypeId} {xs : List Value} {row : Option Nat} (h : Below B w a) (hown : a.ownsRow B e sz v n xs) (hg : a.grownBy b row) (hr : row = v.ownBlock) (hB : B ≤ a.heap.size) : Below B w b :=
  h.grown hg hB (fun k hk => (hown.lt k (by rw [← hr]; exact hk)).1)
/-- A slice of the call's own, spelt. -/
theorem row_form {W : World} {base sz n : Nat} {e : TypeId} {v : Value} {xs : List Value} (h : W.ownsRow base e sz v n xs) : ∃ A cap, v = .slice A n cap ∧ n ≤ cap ∧ cap ≤ maxLen := by
  rcases h.2 with ⟨rfl, rfl⟩ | ⟨g, cap, cur, hv, hg0, hg, h1, h2, h3, h4⟩
  · exact ⟨none, 0, rfl, Nat.le_refl _, Nat.zero_le _⟩
  · exact ⟨_, cap, hv, h1, h2⟩
/-- A slice that reads as a list. -/
def IsSl {α : Type} (w : World) (enc : α → List Value) (sz : Nat) (u : Value) (l : List α) : Prop := ∃ A c, u = .slice A l.length c ∧ RdL w w.heap.size enc sz A l
theorem IsSl.nil {α : Type} (w : World) (enc : α → List Value) (sz : Nat) : IsSl w enc sz (.slice none 0 0) ([] : List α) := ⟨none, 0, rfl, RdL.nil⟩
theorem IsSl.of_row {α : Type} {w : World} {base : Nat} {e : TypeId} {sz n : Nat} {v : Value} {enc : α → List Value} {l : List α} (hsz : ∀ x, (enc x).length = sz) (h : w.ownsRow base e sz v n (l.flatMap enc)) (hn : l.length = n) : IsSl w enc sz v l := by
  obtain ⟨A, cap, rfl, _, _⟩ := row_form h
  exact ⟨A, cap, by rw [hn], RdL.of_own hsz h hn⟩
theorem IsSl.step {α : Type} {w W : World} {enc : α → List Value} {sz : Nat} {u : Value} {l : List α} (h : IsSl w enc sz u l) (hb : Below w.heap.size w W) : IsSl W enc sz u l := by
  obtain ⟨A, c, rfl, hr⟩ := h
  exact ⟨A, c, rfl, hr.step hb⟩
end Go.Proofs.Ytagbokhmcidokaa
