/-
  What a list of entries among the arguments reads as.
-/
import Derived.Test.YtagbokhmcidokaaTGn
import Derived.Test.YtagbokhmcidokaaLe1
namespace Go.Proofs.Ytagbokhmcidokaa
set_option maxRecDepth 100000
open Go.RowKit Go.ChangeShapes Go.WideShapes Go.Deep
set_option linter.unusedVariables false
set_option linter.unusedSimpArgs false
theorem entry_cells {H : Type} {enc : TypeId × Value → H} {w : World} {fuel : Nat} {cs : List Value} {x : DataW H × List MemPlace} (hl : cs.length = 3)
    (hh : DataW.trod enc Try.prog w 0 (fun _ => true) true fuel 152 cs = some x) :
    ∃ s : Ent, cs = enE s ∧ I64 s.d := by
  obtain ⟨xs, n, _, _, hlen, hxl, hg⟩ := DataW.trod_struct Try.underlying152 hh
  have hci : Try.prog.cellsOf 3 = 1 := by kernel_rfl
  have hcb : Try.prog.cellsOf 4 = 1 := by kernel_rfl
  match cs, hl with
  | [a, b, c], _ =>
    have g0 := hg 0 _ rfl
    have g1 := hg 1 _ rfl
    have g2 := hg 2 _ rfl
    simp [hci, hcb] at g0 g1 g2 hxl
    match xs, hxl with
    | [x0, x1, x2], _ =>
      simp at g0 g1 g2
      obtain ⟨n0, h0, -, k0⟩ := DataW.trod_int Try.underlying3 g0
      obtain ⟨f, h1, -⟩ := DataW.trod_bool Try.underlying4 g1
      obtain ⟨n2, h2, -, k2⟩ := DataW.trod_int Try.underlying3 g2
      simp at h0 h1 h2
      subst h0 h1 h2
      exact ⟨⟨n0, f, n2⟩, rfl, I64.of_wf k0⟩
theorem open_entries {H : Type} {enc : TypeId × Value → H} {w : World} {r : Reach} {b0 : Nat} {v : Value} {d : DataW H} {p : List MemPlace}
    (hv : Value.okWide Try.prog w r b0 22 v) (h : DataW.Trod enc Try.prog w 0 (fun _ => true) true 22 v d p) :
    ∃ (A : Option Addr) (cap : Nat) (l : List Ent), v = .slice A l.length cap ∧ l.length ≤ cap ∧ cap ≤ maxLen ∧ RdL w w.heap.size enE 3 A l ∧ ∀ x ∈ l, I64 x.d := by
  obtain ⟨A, len, cap, rfl⟩ := okWide_slice Try.underlying22 hv
  obtain ⟨fuel, hh⟩ := h
  obtain ⟨A', cap', l, h1, h2, h3, h4, h5⟩ := open_slice_gen 3 Try.underlying22 (by kernel_rfl) (by omega) enE (fun x => I64 x.d) ⟨0, false, 0⟩ (fun fuel cs x hl h => entry_cells hl h) hh
  simp [Value.cells] at h1
  obtain ⟨rfl, rfl, rfl⟩ := h1
  exact ⟨A, cap, l, rfl, h2, h3, h4, h5⟩
end Go.Proofs.Ytagbokhmcidokaa
