/-
  What the arguments of night's laws read as: chances, lists of chances.
-/
import Derived.Test.YtimbdnngeoccdaaGreatDoorTypes
import Derived.Test.YtimbdnngeoccdaaGreatDoorNt18
namespace Go.Proofs.YtimbdnngeoccdaaGreatDoor
set_option maxRecDepth 100000
open Go.RowKit Go.ChangeShapes Go.WideShapes Go.Deep
set_option linter.unusedVariables false
set_option linter.unusedSimpArgs false
structure ChOk (s : Ch) : Prop where
  n : s.nm.size ≤ maxLen
  a : I64 s.a
  b : I64 s.b
  t : I64 s.t
  v : I64 s.v
theorem open_slice_gen {H : Type} {α : Type} {enc' : TypeId × Value → H} {P : Program} {w : World} {t e : TypeId} {fuel : Nat} {cs : List Value} {x : DataW H × List MemPlace} (sz : Nat) (ht : P.underlying t = some (.slice e)) (hn : P.cellsOf e = sz) (hpos : 0 < sz)
    (enc : α → List Value) (Q : α → Prop) (d0 : α) (hel : ∀ fuel cs x, cs.length = sz → DataW.trod enc' P w 0 (fun _ => true) true fuel e cs = some x → ∃ a, cs = enc a ∧ Q a)
    (h : DataW.trod enc' P w 0 (fun _ => true) true fuel t cs = some x) :
    ∃ (A : Option Addr) (cap : Nat) (l : List α), cs = [.slice A l.length cap] ∧ l.length ≤ cap ∧ cap ≤ maxLen ∧ RdL w w.heap.size enc sz A l ∧ ∀ x ∈ l, Q x := by
  rcases open_slice ht h with ⟨rfl, _⟩ | ⟨a, len, cap, m, nn, D, Pl, rfl, _, hl, hm, hmm, _, hi⟩
  · exact ⟨none, 0, [], rfl, Nat.le_refl _, by unfold maxLen; omega, RdL.nil, fun x h => by simp at h⟩
  · simp only [if_true] at hmm
    subst hmm
    have hall : ∀ i, i < m → ∃ g : α, (∀ j u, (enc g)[j]? = some u → w.cell? ((a.add (i * sz)).add j) = some u) ∧ (enc g).length = sz ∧ Q g := by
      intro i him
      obtain ⟨cs', hc, ht'⟩ := hi i him
      rw [hn] at hc
      obtain ⟨_, hcl, hat⟩ := World.cells?_some hc
      obtain ⟨g, rfl, hq⟩ := hel _ _ _ hcl ht'
      exact ⟨g, fun j u hj => (hat j (by rw [← hcl]; exact (List.getElem?_eq_some_iff.1 hj).1)).trans hj, hcl, hq⟩
    let f : Nat → α := fun i => if hi : i < m then (hall i hi).choose else d0
    have hf : ∀ i (hi : i < m), f i = (hall i hi).choose := fun i hi => by simp only [f, hi, dite_true]
    have hlen : ((List.range len).map f).length = len := by simp
    refine ⟨some a, m, (List.range len).map f, by rw [hlen], by rw [hlen]; exact hl, hm, ?_, ?_⟩
    · intro hl0
      rw [hlen] at hl0
      have hs0 := (hall 0 (by omega)).choose_spec
      have h00 := hs0.1 0 _ (List.getElem?_eq_getElem (by rw [hs0.2.1]; exact hpos))
      obtain ⟨b, off, spot⟩ := a
      have hs : spot = none := by simpa [Addr.add] using World.cell?_spot h00
      subst hs
      refine ⟨b, off, rfl, by simpa [Addr.add] using cell?_lt h00, fun i hi' j u hu => ?_⟩
      have hil : i < len := by rw [hlen] at hi'; exact hi'
      have him : i < m := by omega
      simp only [List.getElem_map, List.getElem_range, hf i him] at hu
      have hx := (hall i him).choose_spec.1 j u hu
      have he : ((⟨b, off, none⟩ : Addr).add (i * sz)).add j = ⟨b, off + i * sz + j, none⟩ := by
        unfold Addr.add; split <;> split <;> simp_all
      rw [he] at hx
      exact hx
    · intro x hx
      obtain ⟨i, hi', rfl⟩ := List.mem_map.1 hx
      have him : i < m := by have := List.mem_range.1 hi'; omega
      rw [hf i him]
      exact (hall i him).choose_spec.2.2
theorem chance_cells {H : Type} {enc : TypeId × Value → H} {w : World} {fuel : Nat} {cs : List Value} {x : DataW H × List MemPlace} (hl : cs.length = 5)
    (hh : DataW.trod enc Tryz.prog w 0 (fun _ => true) true fuel 74 cs = some x) :
    ∃ s : Ch, cs = chE s ∧ ChOk s := by
  obtain ⟨xs, n, _, _, hlen, hxl, hg⟩ := DataW.trod_struct Tryz.underlying74 hh
  have hci : Tryz.prog.cellsOf 3 = 1 := by kernel_rfl
  have hcs : Tryz.prog.cellsOf 9 = 1 := by kernel_rfl
  match cs, hl with
  | [a, b, c, d, e], _ =>
    have g0 := hg 0 _ rfl
    have g1 := hg 1 _ rfl
    have g2 := hg 2 _ rfl
    have g3 := hg 3 _ rfl
    have g4 := hg 4 _ rfl
    simp [hci, hcs] at g0 g1 g2 g3 g4 hxl
    match xs, hxl with
    | [x0, x1, x2, x3, x4], _ =>
      simp at g0 g1 g2 g3 g4
      obtain ⟨s, h0, -, k0⟩ := DataW.trod_string Tryz.underlying9 g0
      obtain ⟨n1, h1, -, k1⟩ := DataW.trod_int Tryz.underlying3 g1
      obtain ⟨n2, h2, -, k2⟩ := DataW.trod_int Tryz.underlying3 g2
      obtain ⟨n3, h3, -, k3⟩ := DataW.trod_int Tryz.underlying3 g3
      obtain ⟨n4, h4, -, k4⟩ := DataW.trod_int Tryz.underlying3 g4
      simp at h0 h1 h2 h3 h4
      subst h0 h1 h2 h3 h4
      exact ⟨⟨s, n1, n2, n3, n4⟩, rfl, k0, I64.of_wf k1, I64.of_wf k2, I64.of_wf k3, I64.of_wf k4⟩
theorem open_chance {H : Type} {enc : TypeId × Value → H} {w : World} {v : Value} {d : DataW H} {p : List MemPlace}
    (hagg : ∃ cs, v = .agg cs ∧ cs.size = Tryz.prog.cellsOf 74) (h : DataW.Trod enc Tryz.prog w 0 (fun _ => true) true 74 v d p) :
    ∃ s : Ch, v = .agg #[.string s.nm, .int .i64 s.a, .int .i64 s.b, .int .i64 s.t, .int .i64 s.v] ∧ ChOk s := by
  obtain ⟨cs, rfl, hsz⟩ := hagg
  obtain ⟨fuel, hh⟩ := h
  have hc : Tryz.prog.cellsOf 74 = 5 := by kernel_rfl
  rw [hc] at hsz
  obtain ⟨s, h1, h2⟩ := chance_cells (by simpa [Value.cells] using hsz) hh
  refine ⟨s, ?_, h2⟩
  congr 1
  exact Array.ext' h1
theorem open_chances {H : Type} {enc : TypeId × Value → H} {w : World} {r : Reach} {b0 : Nat} {v : Value} {d : DataW H} {p : List MemPlace}
    (hv : Value.okWide Tryz.prog w r b0 31 v) (h : DataW.Trod enc Tryz.prog w 0 (fun _ => true) true 31 v d p) :
    ∃ (A : Option Addr) (cap : Nat) (l : List Ch), v = .slice A l.length cap ∧ l.length ≤ cap ∧ cap ≤ maxLen ∧ RdL w w.heap.size chE 5 A l ∧ ∀ x ∈ l, ChOk x := by
  obtain ⟨A, len, cap, rfl⟩ := okWide_slice Tryz.underlying31 hv
  obtain ⟨fuel, hh⟩ := h
  obtain ⟨A', cap', l, h1, h2, h3, h4, h5⟩ := open_slice_gen 5 Tryz.underlying31 (by kernel_rfl) (by omega) chE ChOk ch0 (fun fuel cs x hl h => chance_cells hl h) hh
  simp [Value.cells] at h1
  obtain ⟨rfl, rfl, rfl⟩ := h1
  exact ⟨A, cap, l, rfl, h2, h3, h4, h5⟩
theorem InAt.of_args {w : World} {l : List Ch} {A : Option Addr} {cap : Nat} {L : List Cl} {B : Option Addr} {cb : Nat} (hc : l.length ≤ cap) (hr : RdL w w.heap.size chE 5 A l) (hw : ∀ x ∈ l, ChOk x) (kr : RdL w w.heap.size clE 2 B L) (h1 : l.length ≤ 30) (h2 : L.length ≤ 60) :
    InAt w l A cap L B cb := ⟨by omega, hc, fun x hx => (hw x hx).n, hr, by omega, kr⟩
theorem carry {f : FuncId} {args : Array Value} {W : World} {R : Ending → World → Prop} (P : World → Prop) (h : Calls Tryz.prog f args W fun e w' => R e w' ∧ Below W.heap.size W w') (hP : ∀ W', Below W.heap.size W W' → P W') :
    Calls Tryz.prog f args W fun e w' => (R e w' ∧ P w') ∧ Below W.heap.size W w' := h.mono fun e w' h => ⟨⟨h.1, hP w' h.2⟩, h.2⟩
end Go.Proofs.YtimbdnngeoccdaaGreatDoor
