/-
  No cell of these rows narrows 'for every input' (looked for: loops, veiled, ifaces, maps, wideKeys, modest, calm, conditions, laid).
  DERIVED. THE GIVEN ROWS OF THIS SEAT. 9 by the template 'for every input the law returns true; each argument reads behind the call as it read before'; 0 by the template 'total and deterministic' (their statements: YtbcabckokmjelaaTotals.lean).
  GIVEN WITH THE SEED: the statements are not yours to turn. If you find one false, say at which input.
  Laid BY PROGRAM, IN A SANDBOX (cutbox-rows.mjs): the forced cells as the released guide's own fill.sh prints them over the translation 5fe70bfd14e4e2f7… (all of the seat's roots in one cut). By AI agents, Wed Nov 11 2026. No macro, syntax, notation, axiom, sorry.
-/
import Derived.Test.YtbcabckokmjelaaChecked
import GoSem.Claim
import GoSem.ClaimJoined
import GoSem.ClaimMapViews
import Derived.JoinedTies
import Derived.KernelRfl
namespace Go.Proofs.Ytbcabckokmjelaa
/- THE CELL 'sum', in the pinned program and in every row, IS THE sha256 OF THE DUMP (.gsa) THAT YtbcabckokmjelaaProg.lean LOADS. Nothing in Lean hashes anything: it is a label: what it is worth is what the hold of that sum in a sandbox is worth. -/
noncomputable def Try.pinned : Pinned := { name := "ytbcabckokmjelaa", sum := "5fe70bfd14e4e2f7262128a695d1d9334956a63ce27fa9866636e4490ec05e0f", checked := Try.checked }
namespace Rows
def none {H : Type} : Left H := { results := [], args := [] }

/-- 'noongunlaw03.TransitFits': WHATEVER THE INPUT: true; the input reads as it did. -/
def transitFitsSpec : ChangeSpec := { name := "transitFits", fn := fun _ => fun
  | [d1, d2, d3] => { results := [.lit (.bool true)], args := [d1, d2, d3] }
  | _ => none }
def transitFitsRow : OpenClaim := { program := "ytbcabckokmjelaa", sum := "5fe70bfd14e4e2f7262128a695d1d9334956a63ce27fa9866636e4490ec05e0f", func := "noongun/noongunlaw03.TransitFits", spec := "transitFits", unfollowed := true, recurses := true, apart := false }
def TransitFitsSaid : Prop := transitFitsRow.holds Try.pinned (OpenSpec.ofChange transitFitsSpec)

/-- ITS FALSE NEIGHBOUR: 'it returns false'. Refute it at one input. -/
def transitFitsWrong : ChangeSpec := { name := "transitFits", fn := fun _ => fun
  | [d1, d2, d3] => { results := [.lit (.bool false)], args := [d1, d2, d3] }
  | _ => none }
def TransitFitsWrongFalsely : Prop := transitFitsRow.holds Try.pinned (OpenSpec.ofChange transitFitsWrong)

/-- 'noongunlaw03.TransitWires': WHATEVER THE INPUT: true; the input reads as it did. -/
def transitWiresSpec : ChangeSpec := { name := "transitWires", fn := fun _ => fun
  | [d1, d2, d3] => { results := [.lit (.bool true)], args := [d1, d2, d3] }
  | _ => none }
def transitWiresRow : OpenClaim := { program := "ytbcabckokmjelaa", sum := "5fe70bfd14e4e2f7262128a695d1d9334956a63ce27fa9866636e4490ec05e0f", func := "noongun/noongunlaw03.TransitWires", spec := "transitWires", unfollowed := true, recurses := true, apart := false }
def TransitWiresSaid : Prop := transitWiresRow.holds Try.pinned (OpenSpec.ofChange transitWiresSpec)

/-- ITS FALSE NEIGHBOUR: 'it returns false'. Refute it at one input. -/
def transitWiresWrong : ChangeSpec := { name := "transitWires", fn := fun _ => fun
  | [d1, d2, d3] => { results := [.lit (.bool false)], args := [d1, d2, d3] }
  | _ => none }
def TransitWiresWrongFalsely : Prop := transitWiresRow.holds Try.pinned (OpenSpec.ofChange transitWiresWrong)

/-- 'noongunlaw03.TransitThree': WHATEVER THE INPUT: true; the input reads as it did. -/
def transitThreeSpec : ChangeSpec := { name := "transitThree", fn := fun _ => fun
  | [d1, d2] => { results := [.lit (.bool true)], args := [d1, d2] }
  | _ => none }
def transitThreeRow : OpenClaim := { program := "ytbcabckokmjelaa", sum := "5fe70bfd14e4e2f7262128a695d1d9334956a63ce27fa9866636e4490ec05e0f", func := "noongun/noongunlaw03.TransitThree", spec := "transitThree", unfollowed := true, recurses := true, apart := false }
def TransitThreeSaid : Prop := transitThreeRow.holds Try.pinned (OpenSpec.ofChange transitThreeSpec)

/-- ITS FALSE NEIGHBOUR: 'it returns false'. Refute it at one input. -/
def transitThreeWrong : ChangeSpec := { name := "transitThree", fn := fun _ => fun
  | [d1, d2] => { results := [.lit (.bool false)], args := [d1, d2] }
  | _ => none }
def TransitThreeWrongFalsely : Prop := transitThreeRow.holds Try.pinned (OpenSpec.ofChange transitThreeWrong)

/-- 'noongunlaw03.TransitMost': WHATEVER THE INPUT: true; the input reads as it did. -/
def transitMostSpec : ChangeSpec := { name := "transitMost", fn := fun _ => fun
  | [d1, d2] => { results := [.lit (.bool true)], args := [d1, d2] }
  | _ => none }
def transitMostRow : OpenClaim := { program := "ytbcabckokmjelaa", sum := "5fe70bfd14e4e2f7262128a695d1d9334956a63ce27fa9866636e4490ec05e0f", func := "noongun/noongunlaw03.TransitMost", spec := "transitMost", unfollowed := true, recurses := true, apart := false }
def TransitMostSaid : Prop := transitMostRow.holds Try.pinned (OpenSpec.ofChange transitMostSpec)

/-- ITS FALSE NEIGHBOUR: 'it returns false'. Refute it at one input. -/
def transitMostWrong : ChangeSpec := { name := "transitMost", fn := fun _ => fun
  | [d1, d2] => { results := [.lit (.bool false)], args := [d1, d2] }
  | _ => none }
def TransitMostWrongFalsely : Prop := transitMostRow.holds Try.pinned (OpenSpec.ofChange transitMostWrong)

/-- 'noongunlaw03.TransitAgrees': WHATEVER THE INPUT: true; the input reads as it did. -/
def transitAgreesSpec : ChangeSpec := { name := "transitAgrees", fn := fun _ => fun
  | [d1, d2] => { results := [.lit (.bool true)], args := [d1, d2] }
  | _ => none }
def transitAgreesRow : OpenClaim := { program := "ytbcabckokmjelaa", sum := "5fe70bfd14e4e2f7262128a695d1d9334956a63ce27fa9866636e4490ec05e0f", func := "noongun/noongunlaw03.TransitAgrees", spec := "transitAgrees", unfollowed := true, recurses := true, apart := false }
def TransitAgreesSaid : Prop := transitAgreesRow.holds Try.pinned (OpenSpec.ofChange transitAgreesSpec)

/-- ITS FALSE NEIGHBOUR: 'it returns false'. Refute it at one input. -/
def transitAgreesWrong : ChangeSpec := { name := "transitAgrees", fn := fun _ => fun
  | [d1, d2] => { results := [.lit (.bool false)], args := [d1, d2] }
  | _ => none }
def TransitAgreesWrongFalsely : Prop := transitAgreesRow.holds Try.pinned (OpenSpec.ofChange transitAgreesWrong)

/-- 'noongunlaw03.TransitParts': WHATEVER THE INPUT: true; the input reads as it did. -/
def transitPartsSpec : ChangeSpec := { name := "transitParts", fn := fun _ => fun
  | [d1, d2] => { results := [.lit (.bool true)], args := [d1, d2] }
  | _ => none }
def transitPartsRow : OpenClaim := { program := "ytbcabckokmjelaa", sum := "5fe70bfd14e4e2f7262128a695d1d9334956a63ce27fa9866636e4490ec05e0f", func := "noongun/noongunlaw03.TransitParts", spec := "transitParts", unfollowed := true, recurses := true, apart := false }
def TransitPartsSaid : Prop := transitPartsRow.holds Try.pinned (OpenSpec.ofChange transitPartsSpec)

/-- ITS FALSE NEIGHBOUR: 'it returns false'. Refute it at one input. -/
def transitPartsWrong : ChangeSpec := { name := "transitParts", fn := fun _ => fun
  | [d1, d2] => { results := [.lit (.bool false)], args := [d1, d2] }
  | _ => none }
def TransitPartsWrongFalsely : Prop := transitPartsRow.holds Try.pinned (OpenSpec.ofChange transitPartsWrong)

/-- 'noongunlaw03.TransitNarrows': WHATEVER THE INPUT: true; the input reads as it did. -/
def transitNarrowsSpec : ChangeSpec := { name := "transitNarrows", fn := fun _ => fun
  | [d1, d2, d3] => { results := [.lit (.bool true)], args := [d1, d2, d3] }
  | _ => none }
def transitNarrowsRow : OpenClaim := { program := "ytbcabckokmjelaa", sum := "5fe70bfd14e4e2f7262128a695d1d9334956a63ce27fa9866636e4490ec05e0f", func := "noongun/noongunlaw03.TransitNarrows", spec := "transitNarrows", unfollowed := true, recurses := true, apart := false }
def TransitNarrowsSaid : Prop := transitNarrowsRow.holds Try.pinned (OpenSpec.ofChange transitNarrowsSpec)

/-- ITS FALSE NEIGHBOUR: 'it returns false'. Refute it at one input. -/
def transitNarrowsWrong : ChangeSpec := { name := "transitNarrows", fn := fun _ => fun
  | [d1, d2, d3] => { results := [.lit (.bool false)], args := [d1, d2, d3] }
  | _ => none }
def TransitNarrowsWrongFalsely : Prop := transitNarrowsRow.holds Try.pinned (OpenSpec.ofChange transitNarrowsWrong)

/-- 'noongunlaw03.TransitSuits': WHATEVER THE INPUT: true; the input reads as it did. -/
def transitSuitsSpec : ChangeSpec := { name := "transitSuits", fn := fun _ => fun
  | [d1, d2, d3] => { results := [.lit (.bool true)], args := [d1, d2, d3] }
  | _ => none }
def transitSuitsRow : OpenClaim := { program := "ytbcabckokmjelaa", sum := "5fe70bfd14e4e2f7262128a695d1d9334956a63ce27fa9866636e4490ec05e0f", func := "noongun/noongunlaw03.TransitSuits", spec := "transitSuits", inPlace := ["math/bits.Sub64"], unfollowed := true, recurses := true, apart := false }
def TransitSuitsSaid : Prop := transitSuitsRow.holds Try.pinned (OpenSpec.ofChange transitSuitsSpec)

/-- ITS FALSE NEIGHBOUR: 'it returns false'. Refute it at one input. -/
def transitSuitsWrong : ChangeSpec := { name := "transitSuits", fn := fun _ => fun
  | [d1, d2, d3] => { results := [.lit (.bool false)], args := [d1, d2, d3] }
  | _ => none }
def TransitSuitsWrongFalsely : Prop := transitSuitsRow.holds Try.pinned (OpenSpec.ofChange transitSuitsWrong)

/-- 'noongunlaw03.TransitEnds': WHATEVER THE INPUT: true; the input reads as it did. -/
def transitEndsSpec : ChangeSpec := { name := "transitEnds", fn := fun _ => fun
  | [d1, d2, d3] => { results := [.lit (.bool true)], args := [d1, d2, d3] }
  | _ => none }
def transitEndsRow : OpenClaim := { program := "ytbcabckokmjelaa", sum := "5fe70bfd14e4e2f7262128a695d1d9334956a63ce27fa9866636e4490ec05e0f", func := "noongun/noongunlaw03.TransitEnds", spec := "transitEnds", inPlace := ["math/bits.Sub64"], unfollowed := true, recurses := true, apart := false }
def TransitEndsSaid : Prop := transitEndsRow.holds Try.pinned (OpenSpec.ofChange transitEndsSpec)

/-- ITS FALSE NEIGHBOUR: 'it returns false'. Refute it at one input. -/
def transitEndsWrong : ChangeSpec := { name := "transitEnds", fn := fun _ => fun
  | [d1, d2, d3] => { results := [.lit (.bool false)], args := [d1, d2, d3] }
  | _ => none }
def TransitEndsWrongFalsely : Prop := transitEndsRow.holds Try.pinned (OpenSpec.ofChange transitEndsWrong)

/- THE SECOND FORM. 'bulk': how many values and letters a reading holds, each counted each time it is reached (what is shared counts as often as it is met; a slice's spare places count too). A statement '..UptoSaid' is the law's where the arguments, and the package variables that the reading takes, are together of bulk at most 1048576: NARROWER than '..Said'. Prove '..Said' where nothing that the law and all that it calls make is longer than what came in: it says more and counts as full. Else prove '..UptoSaid'. A law counts once. -/
mutual
def uptoBulk {H : Type} : DataW H → Nat
  | .lit (.string bytes) => bytes.length + 1
  | .lit _ => 1
  | .nil => 1
  | .ptr d => uptoBulk d + 1
  | .slice elems spare => uptoBulkAll elems + uptoBulkAll spare + 1
  | .agg parts => uptoBulkAll parts + 1
  | .iface _ d => uptoBulk d + 1
  | .map entries => uptoBulkEntries entries + 1
  | .held _ => 1
def uptoBulkAll {H : Type} : List (DataW H) → Nat
  | [] => 0
  | d :: r => uptoBulk d + uptoBulkAll r
def uptoBulkEntries {H : Type} : List (Lit × DataW H) → Nat
  | [] => 0
  | x :: r => uptoBulkEntry x + uptoBulkEntries r
def uptoBulkEntry {H : Type} : Lit × DataW H → Nat
  | (.string bytes, d) => bytes.length + uptoBulk d + 1
  | (_, d) => uptoBulk d + 1
 end
def uptoSmall : (H : Type) → List (DataW H) → Bool := fun _ ds => decide (uptoBulkAll ds ≤ 1048576)
def OpenSpec.upto (s : _root_.Go.ChangeSpec) : _root_.Go.OpenSpec := { _root_.Go.OpenSpec.ofChange s with cond := some uptoSmall }

/-- 'noongunlaw03.TransitFits', WHERE WHAT IT READS IS OF BULK AT MOST 1048576: true; the input reads as it did. -/
def transitFitsUptoRow : OpenClaim := { program := "ytbcabckokmjelaa", sum := "5fe70bfd14e4e2f7262128a695d1d9334956a63ce27fa9866636e4490ec05e0f", func := "noongun/noongunlaw03.TransitFits", spec := "transitFits", unfollowed := true, recurses := true, apart := false, narrowed := true }
def TransitFitsUptoSaid : Prop := transitFitsUptoRow.holds Try.pinned (OpenSpec.upto transitFitsSpec)

/-- 'noongunlaw03.TransitWires', WHERE WHAT IT READS IS OF BULK AT MOST 1048576: true; the input reads as it did. -/
def transitWiresUptoRow : OpenClaim := { program := "ytbcabckokmjelaa", sum := "5fe70bfd14e4e2f7262128a695d1d9334956a63ce27fa9866636e4490ec05e0f", func := "noongun/noongunlaw03.TransitWires", spec := "transitWires", unfollowed := true, recurses := true, apart := false, narrowed := true }
def TransitWiresUptoSaid : Prop := transitWiresUptoRow.holds Try.pinned (OpenSpec.upto transitWiresSpec)

/-- 'noongunlaw03.TransitThree', WHERE WHAT IT READS IS OF BULK AT MOST 1048576: true; the input reads as it did. -/
def transitThreeUptoRow : OpenClaim := { program := "ytbcabckokmjelaa", sum := "5fe70bfd14e4e2f7262128a695d1d9334956a63ce27fa9866636e4490ec05e0f", func := "noongun/noongunlaw03.TransitThree", spec := "transitThree", unfollowed := true, recurses := true, apart := false, narrowed := true }
def TransitThreeUptoSaid : Prop := transitThreeUptoRow.holds Try.pinned (OpenSpec.upto transitThreeSpec)

/-- 'noongunlaw03.TransitMost', WHERE WHAT IT READS IS OF BULK AT MOST 1048576: true; the input reads as it did. -/
def transitMostUptoRow : OpenClaim := { program := "ytbcabckokmjelaa", sum := "5fe70bfd14e4e2f7262128a695d1d9334956a63ce27fa9866636e4490ec05e0f", func := "noongun/noongunlaw03.TransitMost", spec := "transitMost", unfollowed := true, recurses := true, apart := false, narrowed := true }
def TransitMostUptoSaid : Prop := transitMostUptoRow.holds Try.pinned (OpenSpec.upto transitMostSpec)

/-- 'noongunlaw03.TransitAgrees', WHERE WHAT IT READS IS OF BULK AT MOST 1048576: true; the input reads as it did. -/
def transitAgreesUptoRow : OpenClaim := { program := "ytbcabckokmjelaa", sum := "5fe70bfd14e4e2f7262128a695d1d9334956a63ce27fa9866636e4490ec05e0f", func := "noongun/noongunlaw03.TransitAgrees", spec := "transitAgrees", unfollowed := true, recurses := true, apart := false, narrowed := true }
def TransitAgreesUptoSaid : Prop := transitAgreesUptoRow.holds Try.pinned (OpenSpec.upto transitAgreesSpec)

/-- 'noongunlaw03.TransitParts', WHERE WHAT IT READS IS OF BULK AT MOST 1048576: true; the input reads as it did. -/
def transitPartsUptoRow : OpenClaim := { program := "ytbcabckokmjelaa", sum := "5fe70bfd14e4e2f7262128a695d1d9334956a63ce27fa9866636e4490ec05e0f", func := "noongun/noongunlaw03.TransitParts", spec := "transitParts", unfollowed := true, recurses := true, apart := false, narrowed := true }
def TransitPartsUptoSaid : Prop := transitPartsUptoRow.holds Try.pinned (OpenSpec.upto transitPartsSpec)

/-- 'noongunlaw03.TransitNarrows', WHERE WHAT IT READS IS OF BULK AT MOST 1048576: true; the input reads as it did. -/
def transitNarrowsUptoRow : OpenClaim := { program := "ytbcabckokmjelaa", sum := "5fe70bfd14e4e2f7262128a695d1d9334956a63ce27fa9866636e4490ec05e0f", func := "noongun/noongunlaw03.TransitNarrows", spec := "transitNarrows", unfollowed := true, recurses := true, apart := false, narrowed := true }
def TransitNarrowsUptoSaid : Prop := transitNarrowsUptoRow.holds Try.pinned (OpenSpec.upto transitNarrowsSpec)

/-- 'noongunlaw03.TransitSuits', WHERE WHAT IT READS IS OF BULK AT MOST 1048576: true; the input reads as it did. -/
def transitSuitsUptoRow : OpenClaim := { program := "ytbcabckokmjelaa", sum := "5fe70bfd14e4e2f7262128a695d1d9334956a63ce27fa9866636e4490ec05e0f", func := "noongun/noongunlaw03.TransitSuits", spec := "transitSuits", inPlace := ["math/bits.Sub64"], unfollowed := true, recurses := true, apart := false, narrowed := true }
def TransitSuitsUptoSaid : Prop := transitSuitsUptoRow.holds Try.pinned (OpenSpec.upto transitSuitsSpec)

/-- 'noongunlaw03.TransitEnds', WHERE WHAT IT READS IS OF BULK AT MOST 1048576: true; the input reads as it did. -/
def transitEndsUptoRow : OpenClaim := { program := "ytbcabckokmjelaa", sum := "5fe70bfd14e4e2f7262128a695d1d9334956a63ce27fa9866636e4490ec05e0f", func := "noongun/noongunlaw03.TransitEnds", spec := "transitEnds", inPlace := ["math/bits.Sub64"], unfollowed := true, recurses := true, apart := false, narrowed := true }
def TransitEndsUptoSaid : Prop := transitEndsUptoRow.holds Try.pinned (OpenSpec.upto transitEndsSpec)

end Rows
end Go.Proofs.Ytbcabckokmjelaa
