/-
  What a slice of structs among the arguments reads as, whatever its elements.
-/
import Derived.Test.YtagbokhmcidokaaTypes
namespace Go.Proofs.Ytagbokhmcidokaa
set_option maxRecDepth 100000
open Go.RowKit Go.ChangeShapes Go.WideShapes Go.Deep
set_option linter.unusedVariables false
set_option linter.unusedSimpArgs false
theorem open_slice_gen {H : Type} {α : Type} {enc' : TypeId × Value → H} {P : Program} {w : World} {t e : TypeId} {fuel : Nat} {cs : List Value} {x : DataW H × List MemPlace} (sz : Nat) (ht : P.underlying t = some (.slice e)) (hn : P.cellsOf e = sz) (hpos : 0 < sz)
    (enc : α → List Value) (Q : α → Prop) (d0 : α) (hel : ∀ fuel cs x, cs.length = sz → DataW.trod enc' P w 0 (fun _ => true) true fuel e cs = some x → ∃ a, cs = enc a ∧ Q a)
    (h : DataW.trod enc' P w 0 (fun _ => true) true fuel t cs = some x) :
    ∃ (A : Option Addr) (cap : Nat) (l : List α), cs = [.slice A l.length cap] ∧ l.length ≤ cap ∧ cap ≤ maxLen ∧ RdL w w.heap.size enc sz A l ∧ ∀ x ∈ l, Q x := by
  rcases open_slice ht h with ⟨rfl, _⟩ | ⟨a, len, cap, m, nn, D, Pl, rfl, _, hl, hm, hmm, _, hi⟩
  · exact ⟨none, 0, [], rfl, Nat.le_refl _, by unfold maxLen; omega, RdL.nil, fun x h => by simp at h⟩
  · simp only [if_true] at hmm
    subst hmm
    have hall : ∀ i, i < m → ∃ g : α, (∀ j u, (enc g)[j]? = some u → w.cell? ((a.add (i * sz)).add j) = some u) ∧ (enc g).length = sz ∧ Q g := by
      intro i him
      obtain ⟨cs', hc, ht'⟩ := hi i him
      rw [hn] at hc
      obtain ⟨_, hcl, hat⟩ := World.cells?_some hc
      obtain ⟨g, rfl, hq⟩ := hel _ _ _ hcl ht'
      exact ⟨g, fun j u hj => (hat j (by rw [← hcl]; exact (List.getElem?_eq_some_iff.1 hj).1)).trans hj, hcl, hq⟩
    let f : Nat → α := fun i => if hi : i < m then (hall i hi).choose else d0
    have hf : ∀ i (hi : i < m), f i = (hall i hi).choose := fun i hi => by simp only [f, hi, dite_true]
    have hlen : ((List.range len).map f).length = len := by simp
    refine ⟨some a, m, (List.range len).map f, by rw [hlen], by rw [hlen]; exact hl, hm, ?_, ?_⟩
    · intro hl0
      rw [hlen] at hl0
      have hs0 := (hall 0 (by omega)).choose_spec
      have h00 := hs0.1 0 _ (List.getElem?_eq_getElem (by rw [hs0.2.1]; exact hpos))
      obtain ⟨b, off, spot⟩ := a
      have hs : spot = none := by simpa [Addr.add] using World.cell?_spot h00
      subst hs
      refine ⟨b, off, rfl, by simpa [Addr.add] using cell?_lt h00, fun i hi' j u hu => ?_⟩
      have hil : i < len := by rw [hlen] at hi'; exact hi'
      have him : i < m := by omega
      simp only [List.getElem_map, List.getElem_range, hf i him] at hu
      have hx := (hall i him).choose_spec.1 j u hu
      have he : ((⟨b, off, none⟩ : Addr).add (i * sz)).add j = ⟨b, off + i * sz + j, none⟩ := by
        unfold Addr.add; split <;> split <;> simp_all
      rw [he] at hx
      exact hx
    · intro x hx
      obtain ⟨i, hi', rfl⟩ := List.mem_map.1 hx
      have him : i < m := by have := List.mem_range.1 hi'; omega
      rw [hf i him]
      exact (hall i him).choose_spec.2.2
theorem carry {f : FuncId} {args : Array Value} {W : World} {R : Ending → World → Prop} (P : World → Prop) (h : Calls Try.prog f args W fun e w' => R e w' ∧ Below W.heap.size W w') (hP : ∀ W', Below W.heap.size W W' → P W') :
    Calls Try.prog f args W fun e w' => (R e w' ∧ P w') ∧ Below W.heap.size W w' := h.mono fun e w' h => ⟨⟨h.1, hP w' h.2⟩, h.2⟩
end Go.Proofs.Ytagbokhmcidokaa
