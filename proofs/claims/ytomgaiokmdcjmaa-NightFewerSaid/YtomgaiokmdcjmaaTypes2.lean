/-
  What a slice that came in reads as, and that one without an address has no capacity. No conditions.
-/
import Derived.Test.YtomgaiokmdcjmaaTypes
namespace Go.Proofs.Ytomgaiokmdcjmaa
open Go.RowKit Go.ChangeShapes Go.WideShapes Go.Deep
/-- An argument that is a slice of structs, arrays or numbers. -/
theorem open_slice_flat2 {H : Type} {enc : TypeId × Value → H} {P : Program} {w : World} {r : Reach} {b0 : Nat} {t e : TypeId} {v : Value} {d : DataW H} {p : List MemPlace} (k sz : Nat) (ht : P.underlying t = some (.slice e)) (hf : flatB P k e = true) (hn : P.cellsOf e = sz) (hpos : 0 < sz)
    (hv : Value.okWide P w r b0 t v) (h : DataW.Trod enc P w 0 (fun _ => true) true t v d p) :
    ∃ (A : Option Addr) (n cap : Nat) (f : Nat → Nat → Int), v = .slice A n cap ∧ n ≤ cap ∧ cap ≤ maxLen ∧ Rd w w.heap.size sz A n (fun i j => .int .i64 (f i j)) ∧ (∀ i j, i < n → j < sz → I64 (f i j)) ∧ (A = none → cap = 0) := by
  obtain ⟨A, len, cap, rfl⟩ := okWide_slice ht hv
  obtain ⟨fuel, hh⟩ := h
  rcases open_slice ht hh with ⟨hcs, _⟩ | ⟨a, len', cap', m, nn, D, Pl, hcs, _, hl, hm, hmm, _, hi⟩
  · simp [Value.cells] at hcs
    obtain ⟨rfl, rfl, rfl⟩ := hcs
    exact ⟨none, 0, 0, fun _ _ => 0, rfl, Nat.le_refl _, by unfold maxLen; omega, fun h => absurd h (by omega), fun i j hi => absurd hi (by omega), fun _ => rfl⟩
  · simp [Value.cells] at hcs
    obtain ⟨rfl, rfl, rfl⟩ := hcs
    simp only [if_true] at hmm
    subst hmm
    have hall : ∀ i, i < m → ∃ g : Nat → Int, ∀ j, j < sz → w.cell? ((a.add (i * sz)).add j) = some (.int .i64 (g j)) ∧ I64 (g j) := by
      intro i him
      obtain ⟨cs', hc, ht'⟩ := hi i him
      rw [hn] at hc
      obtain ⟨_, hcl, hat⟩ := World.cells?_some hc
      obtain ⟨g, h1, h2⟩ := (flat_trod k hf ht').fn
      exact ⟨g, fun j hj => ⟨(hat j hj).trans (h1 j (by omega)), h2 j (by omega)⟩⟩
    refine ⟨some a, len, m, fun i => if hi : i < m then (hall i hi).choose else fun _ => 0, rfl, hl, hm, ?_, ?_, fun h => by cases h⟩
    · intro hlen
      have h00 := ((hall 0 (by omega)).choose_spec 0 hpos).1
      obtain ⟨b, off, spot⟩ := a
      have hs : spot = none := by simpa [Addr.add] using World.cell?_spot h00
      subst hs
      refine ⟨b, off, rfl, by simpa [Addr.add] using cell?_lt h00, fun i j hi' hj => ?_⟩
      have him : i < m := by omega
      have hx := ((hall i him).choose_spec j hj).1
      have he : ((⟨b, off, none⟩ : Addr).add (i * sz)).add j = ⟨b, off + i * sz + j, none⟩ := by
        unfold Addr.add; split <;> split <;> simp_all
      rw [he] at hx
      simp only [him, dite_true]
      exact hx
    · intro i j hi' hj
      have him : i < m := by omega
      simp only [him, dite_true]
      exact ((hall i him).choose_spec j hj).2

/-- An argument that is a slice of structs, arrays or numbers, as a list. -/
theorem open_slice_list2 {H : Type} {α : Type} {enc' : TypeId × Value → H} {P : Program} {w : World} {r : Reach} {b0 : Nat} {t e : TypeId} {v : Value} {d : DataW H} {p : List MemPlace} (k sz : Nat) (ht : P.underlying t = some (.slice e)) (hf : flatB P k e = true) (hn : P.cellsOf e = sz) (hpos : 0 < sz)
    (enc : α → List Value) (dec : (Nat → Int) → α) (henc : ∀ g, enc (dec g) = (List.range sz).map fun j => .int .i64 (g j))
    (hv : Value.okWide P w r b0 t v) (h : DataW.Trod enc' P w 0 (fun _ => true) true t v d p) :
    ∃ (A : Option Addr) (cap : Nat) (l : List α), v = .slice A l.length cap ∧ l.length ≤ cap ∧ cap ≤ maxLen ∧ RdL w w.heap.size enc sz A l ∧ (∀ x ∈ l, ∃ g : Nat → Int, x = dec g ∧ ∀ j, j < sz → I64 (g j)) ∧ (A = none → cap = 0) := by
  obtain ⟨A, n, cap, f, rfl, h1, h2, h3, h4, h5⟩ := open_slice_flat2 k sz ht hf hn hpos hv h
  have hl : ((List.range n).map fun i => dec (f i)).length = n := by simp
  refine ⟨A, cap, (List.range n).map fun i => dec (f i), by rw [hl], by rw [hl]; exact h1, h2, ?_, ?_, h5⟩
  · intro hn0
    rw [hl] at hn0
    obtain ⟨b, off, e, hlt, hc⟩ := h3 hn0
    refine ⟨b, off, e, hlt, fun i hi j v hv => ?_⟩
    rw [hl] at hi
    simp only [List.getElem_map, List.getElem_range, henc] at hv
    have hj : j < sz := by
      have := (List.getElem?_eq_some_iff.1 hv).1; simpa using this
    simp [hj] at hv
    rw [← hv]
    exact hc i j hi hj
  · intro x hx
    obtain ⟨i, hi, rfl⟩ := List.mem_map.1 hx
    exact ⟨f i, rfl, fun j hj => h4 i j (List.mem_range.1 hi) hj⟩

end Go.Proofs.Ytomgaiokmdcjmaa
