/-
  Small laws on rows of the call's own: what a slice that the call appended to reads as, and new cells. No conditions.
-/
import Derived.Test.YtagbokhmcidokaaTypes
import Derived.Deep.RegionLawGrows
import Derived.RangeFuncBox
import Derived.Lib.SmallJoins
namespace Go.Proofs.Ytagbokhmcidokaa
open Go.RowKit Go.Deep

theorem add_block (a : Addr) (n : Nat) : (a.add n).block = a.block := by unfold Addr.add; split <;> rfl
theorem add_none (g k : Nat) : (⟨g, 0, none⟩ : Addr).add k = ⟨g, k, none⟩ := by unfold Addr.add; split <;> simp_all
theorem add_off (g o k : Nat) : (⟨g, o, none⟩ : Addr).add k = ⟨g, o + k, none⟩ := by unfold Addr.add; split <;> simp_all

/-- The cells of element i of a row of elements of sz cells each. -/
theorem flat_at {α : Type} (enc : α → List Value) (sz : Nat) (hsz : ∀ x, (enc x).length = sz) : ∀ (l : List α) (i j : Nat) (hi : i < l.length), j < sz → (l.flatMap enc)[i * sz + j]? = (enc l[i])[j]?
  | [], i, j, hi, _ => by simp at hi
  | x :: l, 0, j, hi, hj => by rw [List.flatMap_cons, List.getElem?_append_left (by rw [hsz]; omega)]; simp
  | x :: l, i + 1, j, hi, hj => by
    have hi' : i < l.length := by simpa using hi
    rw [List.flatMap_cons, List.getElem?_append_right (by rw [hsz, Nat.succ_mul]; omega), hsz, show (i + 1) * sz + j - sz = i * sz + j by rw [Nat.succ_mul]; omega, flat_at enc sz hsz l i j hi' hj]
    simp
theorem flat_len {α : Type} (enc : α → List Value) (sz : Nat) (hsz : ∀ x, (enc x).length = sz) : ∀ l : List α, (l.flatMap enc).length = l.length * sz
  | [] => by simp
  | x :: l => by rw [List.flatMap_cons, List.length_append, hsz, flat_len enc sz hsz l, List.length_cons, Nat.succ_mul]; omega
theorem flat_snoc {α : Type} (enc : α → List Value) (l : List α) (x : α) : l.flatMap enc ++ enc x = (l ++ [x]).flatMap enc := by simp

/-- A row of the call's own reads as a list. -/
theorem RdL.of_own {α : Type} {w : World} {base : Nat} {e : TypeId} {sz n : Nat} {A : Option Addr} {cap : Nat} {enc : α → List Value} {l : List α} (hsz : ∀ x, (enc x).length = sz) (h : w.ownsRow base e sz (.slice A n cap) n (l.flatMap enc)) (hn : l.length = n) : RdL w w.heap.size enc sz A l := by
  intro hl
  obtain ⟨g, cap', hv⟩ := Go.Joins.ownsRow_form h (by omega)
  injection hv with hA _ _
  subst hA
  have hlt := (h.lt g rfl).2
  refine ⟨g, 0, rfl, hlt, fun i hi j v hj => ?_⟩
  have hjs : j < sz := by rw [← hsz l[i]]; exact (List.getElem?_eq_some_iff.1 hj).1
  have := h.cells (g := g) rfl (i * sz + j) v (by rw [flat_at enc sz hsz l i j hi hjs, hj])
  rw [add_none] at this
  rw [show 0 + i * sz + j = i * sz + j by omega]
  exact this
/-- A slice that came in, as append asks for its elements. -/
theorem RdL.olds {α : Type} {w W : World} {sz : Nat} {enc : α → List Value} {A : Option Addr} {l : List α} (hsz : ∀ x, (enc x).length = sz) (hp : 0 < sz) (h : RdL w w.heap.size enc sz A l) (hb : Below w.heap.size w W) : ∀ b, A = some b → ∀ j u, (l.flatMap enc)[j]? = some u → W.cell? (b.add j) = some u := by
  intro b hA j u hu
  have hj : j < l.length * sz := by rw [← flat_len enc sz hsz l]; exact (List.getElem?_eq_some_iff.1 hu).1
  have hl : 0 < l.length := by
    rcases Nat.eq_zero_or_pos l.length with h0 | h0
    · rw [h0] at hj; omega
    · exact h0
  obtain ⟨b', off, e, hlt, hc⟩ := h hl
  rw [hA] at e
  injection e with e
  subst e
  have hd := Nat.div_add_mod j sz
  have hm := Nat.mod_lt j hp
  have hq : j / sz < l.length := by rw [Nat.div_lt_iff_lt_mul hp]; exact hj
  have e1 : j / sz * sz + j % sz = j := by rw [Nat.mul_comm]; exact hd
  have hu' : (enc l[j / sz])[j % sz]? = some u := by rw [← flat_at enc sz hsz l _ _ hq hm, e1]; exact hu
  have := hc (j / sz) hq (j % sz) u hu'
  rw [add_off, ← e1, ← Nat.add_assoc]
  exact (hb.cell (p := ⟨b', _, none⟩) hlt).trans this
theorem RdL.none_len {α : Type} {w : World} {B sz : Nat} {enc : α → List Value} {A : Option Addr} {l : List α} (h : RdL w B enc sz A l) (hA : A = none) : l.length = 0 := by
  rcases Nat.eq_zero_or_pos l.length with h0 | h0
  · exact h0
  · obtain ⟨b, off, e, _⟩ := h h0
    rw [hA] at e; cases e

/-- The cells of a block that was just laid. -/
theorem new_cells (W : World) (g : Nat) (cs : List Value) (t : TypeId) (hg : g = W.heap.size) : ∀ j u, cs[j]? = some u → (W.alloc (.cells cs.toArray t)).cell? ((⟨g, 0, none⟩ : Addr).add j) = some u := by
  intro j u hu
  subst hg
  rw [add_none]
  simp only [World.cell?, World.alloc]
  simpa using hu

/-- Behind an append that made a new block. -/
theorem Below.grow0 {w a b : World} (h : Below w.heap.size w a) (hg : a.grownBy b none) : Below w.heap.size w b := h.grown hg h.size (fun k e => by cases e)
theorem Below.of_grow0 {a b : World} (hg : a.grownBy b none) : Below a.heap.size a b := (Below.refl _ _).grown hg (Nat.le_refl _) (fun k e => by cases e)
end Go.Proofs.Ytagbokhmcidokaa
