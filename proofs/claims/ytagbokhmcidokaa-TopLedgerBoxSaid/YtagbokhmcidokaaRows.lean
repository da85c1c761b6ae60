/-
  No cell of these rows narrows 'for every input' (looked for: loops, veiled, ifaces, maps, wideKeys, modest, calm, conditions, laid).
  DERIVED. THE GIVEN ROWS OF THIS SEAT. 7 by the template 'for every input the law returns true; each argument reads behind the call as it read before'; 0 by the template 'total and deterministic' (their statements: YtagbokhmcidokaaTotals.lean).
  GIVEN WITH THE SEED: the statements are not yours to turn. If you find one false, say at which input.
  Laid BY PROGRAM, IN A SANDBOX (cutbox-rows.mjs): the forced cells as the released guide's own fill.sh prints them over the translation ba9930c56b0d8e9f… (all of the seat's roots in one cut). By AI agents, Wed Nov 11 2026. No macro, syntax, notation, axiom, sorry.
-/
import Derived.Test.YtagbokhmcidokaaChecked
import GoSem.Claim
import GoSem.ClaimJoined
import GoSem.ClaimMapViews
import Derived.JoinedTies
import Derived.KernelRfl
namespace Go.Proofs.Ytagbokhmcidokaa
/- THE CELL 'sum', in the pinned program and in every row, IS THE sha256 OF THE DUMP (.gsa) THAT YtagbokhmcidokaaProg.lean LOADS. Nothing in Lean hashes anything: it is a label: what it is worth is what the hold of that sum in a sandbox is worth. -/
noncomputable def Try.pinned : Pinned := { name := "ytagbokhmcidokaa", sum := "ba9930c56b0d8e9f60f37e74c9ace35f8892907ff98496bde1c28593bec1ddb9", checked := Try.checked }
namespace Rows
def none {H : Type} : Left H := { results := [], args := [] }

/-- 'noonguntop.TopLedgerBox': WHATEVER THE INPUT: true; the input reads as it did. -/
def topLedgerBoxSpec : ChangeSpec := { name := "topLedgerBox", fn := fun _ => fun
  | [d1, d2, d3] => { results := [.lit (.bool true)], args := [d1, d2, d3] }
  | _ => none }
def topLedgerBoxRow : OpenClaim := { program := "ytagbokhmcidokaa", sum := "ba9930c56b0d8e9f60f37e74c9ace35f8892907ff98496bde1c28593bec1ddb9", func := "noongun/noonguntop.TopLedgerBox", spec := "topLedgerBox", unfollowed := true, recurses := true, plainKeys := false, apart := false }
def TopLedgerBoxSaid : Prop := topLedgerBoxRow.holds Try.pinned (OpenSpec.ofChange topLedgerBoxSpec)

/-- ITS FALSE NEIGHBOUR: 'it returns false'. Refute it at one input. -/
def topLedgerBoxWrong : ChangeSpec := { name := "topLedgerBox", fn := fun _ => fun
  | [d1, d2, d3] => { results := [.lit (.bool false)], args := [d1, d2, d3] }
  | _ => none }
def TopLedgerBoxWrongFalsely : Prop := topLedgerBoxRow.holds Try.pinned (OpenSpec.ofChange topLedgerBoxWrong)

/-- 'noonguntop.TopCircles': WHATEVER THE INPUT: true; the input reads as it did. -/
def topCirclesSpec : ChangeSpec := { name := "topCircles", fn := fun _ => fun
  | [d] => { results := [.lit (.bool true)], args := [d] }
  | _ => none }
def topCirclesRow : OpenClaim := { program := "ytagbokhmcidokaa", sum := "ba9930c56b0d8e9f60f37e74c9ace35f8892907ff98496bde1c28593bec1ddb9", func := "noongun/noonguntop.TopCircles", spec := "topCircles", unfollowed := true, recurses := true, plainKeys := false, apart := false }
def TopCirclesSaid : Prop := topCirclesRow.holds Try.pinned (OpenSpec.ofChange topCirclesSpec)

/-- ITS FALSE NEIGHBOUR: 'it returns false'. Refute it at one input. -/
def topCirclesWrong : ChangeSpec := { name := "topCircles", fn := fun _ => fun
  | [d] => { results := [.lit (.bool false)], args := [d] }
  | _ => none }
def TopCirclesWrongFalsely : Prop := topCirclesRow.holds Try.pinned (OpenSpec.ofChange topCirclesWrong)

/-- 'noonguntop.TopWatches': WHATEVER THE INPUT: true; the input reads as it did. -/
def topWatchesSpec : ChangeSpec := { name := "topWatches", fn := fun _ => fun
  | [d1, d2, d3, d4] => { results := [.lit (.bool true)], args := [d1, d2, d3, d4] }
  | _ => none }
def topWatchesRow : OpenClaim := { program := "ytagbokhmcidokaa", sum := "ba9930c56b0d8e9f60f37e74c9ace35f8892907ff98496bde1c28593bec1ddb9", func := "noongun/noonguntop.TopWatches", spec := "topWatches", unfollowed := true, recurses := true, plainKeys := false, apart := false }
def TopWatchesSaid : Prop := topWatchesRow.holds Try.pinned (OpenSpec.ofChange topWatchesSpec)

/-- ITS FALSE NEIGHBOUR: 'it returns false'. Refute it at one input. -/
def topWatchesWrong : ChangeSpec := { name := "topWatches", fn := fun _ => fun
  | [d1, d2, d3, d4] => { results := [.lit (.bool false)], args := [d1, d2, d3, d4] }
  | _ => none }
def TopWatchesWrongFalsely : Prop := topWatchesRow.holds Try.pinned (OpenSpec.ofChange topWatchesWrong)

/-- 'noonguntop.TopSpans': WHATEVER THE INPUT: true; the input reads as it did. -/
def topSpansSpec : ChangeSpec := { name := "topSpans", fn := fun _ => fun
  | [d1, d2, d3, d4] => { results := [.lit (.bool true)], args := [d1, d2, d3, d4] }
  | _ => none }
def topSpansRow : OpenClaim := { program := "ytagbokhmcidokaa", sum := "ba9930c56b0d8e9f60f37e74c9ace35f8892907ff98496bde1c28593bec1ddb9", func := "noongun/noonguntop.TopSpans", spec := "topSpans", unfollowed := true, recurses := true, plainKeys := false, apart := false }
def TopSpansSaid : Prop := topSpansRow.holds Try.pinned (OpenSpec.ofChange topSpansSpec)

/-- ITS FALSE NEIGHBOUR: 'it returns false'. Refute it at one input. -/
def topSpansWrong : ChangeSpec := { name := "topSpans", fn := fun _ => fun
  | [d1, d2, d3, d4] => { results := [.lit (.bool false)], args := [d1, d2, d3, d4] }
  | _ => none }
def TopSpansWrongFalsely : Prop := topSpansRow.holds Try.pinned (OpenSpec.ofChange topSpansWrong)

/-- 'noonguntop.TopBoxSights': WHATEVER THE INPUT: true; the input reads as it did. -/
def topBoxSightsSpec : ChangeSpec := { name := "topBoxSights", fn := fun _ => fun
  | [d1, d2, d3] => { results := [.lit (.bool true)], args := [d1, d2, d3] }
  | _ => none }
def topBoxSightsRow : OpenClaim := { program := "ytagbokhmcidokaa", sum := "ba9930c56b0d8e9f60f37e74c9ace35f8892907ff98496bde1c28593bec1ddb9", func := "noongun/noonguntop.TopBoxSights", spec := "topBoxSights", unfollowed := true, recurses := true, plainKeys := false, apart := false }
def TopBoxSightsSaid : Prop := topBoxSightsRow.holds Try.pinned (OpenSpec.ofChange topBoxSightsSpec)

/-- ITS FALSE NEIGHBOUR: 'it returns false'. Refute it at one input. -/
def topBoxSightsWrong : ChangeSpec := { name := "topBoxSights", fn := fun _ => fun
  | [d1, d2, d3] => { results := [.lit (.bool false)], args := [d1, d2, d3] }
  | _ => none }
def TopBoxSightsWrongFalsely : Prop := topBoxSightsRow.holds Try.pinned (OpenSpec.ofChange topBoxSightsWrong)

/-- 'noonguntop.TopPlaces': WHATEVER THE INPUT: true; the input reads as it did. -/
def topPlacesSpec : ChangeSpec := { name := "topPlaces", fn := fun _ => fun
  | [d1, d2, d3] => { results := [.lit (.bool true)], args := [d1, d2, d3] }
  | _ => none }
def topPlacesRow : OpenClaim := { program := "ytagbokhmcidokaa", sum := "ba9930c56b0d8e9f60f37e74c9ace35f8892907ff98496bde1c28593bec1ddb9", func := "noongun/noonguntop.TopPlaces", spec := "topPlaces", unfollowed := true, recurses := true, plainKeys := false, apart := false }
def TopPlacesSaid : Prop := topPlacesRow.holds Try.pinned (OpenSpec.ofChange topPlacesSpec)

/-- ITS FALSE NEIGHBOUR: 'it returns false'. Refute it at one input. -/
def topPlacesWrong : ChangeSpec := { name := "topPlaces", fn := fun _ => fun
  | [d1, d2, d3] => { results := [.lit (.bool false)], args := [d1, d2, d3] }
  | _ => none }
def TopPlacesWrongFalsely : Prop := topPlacesRow.holds Try.pinned (OpenSpec.ofChange topPlacesWrong)

/-- 'noonguntop.TopHabitsSights': WHATEVER THE INPUT: true; the input reads as it did. -/
def topHabitsSightsSpec : ChangeSpec := { name := "topHabitsSights", fn := fun _ => fun
  | [d1, d2] => { results := [.lit (.bool true)], args := [d1, d2] }
  | _ => none }
def topHabitsSightsRow : OpenClaim := { program := "ytagbokhmcidokaa", sum := "ba9930c56b0d8e9f60f37e74c9ace35f8892907ff98496bde1c28593bec1ddb9", func := "noongun/noonguntop.TopHabitsSights", spec := "topHabitsSights", unfollowed := true, recurses := true, plainKeys := false, apart := false }
def TopHabitsSightsSaid : Prop := topHabitsSightsRow.holds Try.pinned (OpenSpec.ofChange topHabitsSightsSpec)

/-- ITS FALSE NEIGHBOUR: 'it returns false'. Refute it at one input. -/
def topHabitsSightsWrong : ChangeSpec := { name := "topHabitsSights", fn := fun _ => fun
  | [d1, d2] => { results := [.lit (.bool false)], args := [d1, d2] }
  | _ => none }
def TopHabitsSightsWrongFalsely : Prop := topHabitsSightsRow.holds Try.pinned (OpenSpec.ofChange topHabitsSightsWrong)

/- THE SECOND FORM. 'bulk': how many values and letters a reading holds, each counted each time it is reached (what is shared counts as often as it is met; a slice's spare places count too). A statement '..UptoSaid' is the law's where the arguments, and the package variables that the reading takes, are together of bulk at most 1048576: NARROWER than '..Said'. Prove '..Said' where nothing that the law and all that it calls make is longer than what came in: it says more and counts as full. Else prove '..UptoSaid'. A law counts once. -/
mutual
def uptoBulk {H : Type} : DataW H → Nat
  | .lit (.string bytes) => bytes.length + 1
  | .lit _ => 1
  | .nil => 1
  | .ptr d => uptoBulk d + 1
  | .slice elems spare => uptoBulkAll elems + uptoBulkAll spare + 1
  | .agg parts => uptoBulkAll parts + 1
  | .iface _ d => uptoBulk d + 1
  | .map entries => uptoBulkEntries entries + 1
  | .held _ => 1
def uptoBulkAll {H : Type} : List (DataW H) → Nat
  | [] => 0
  | d :: r => uptoBulk d + uptoBulkAll r
def uptoBulkEntries {H : Type} : List (Lit × DataW H) → Nat
  | [] => 0
  | x :: r => uptoBulkEntry x + uptoBulkEntries r
def uptoBulkEntry {H : Type} : Lit × DataW H → Nat
  | (.string bytes, d) => bytes.length + uptoBulk d + 1
  | (_, d) => uptoBulk d + 1
 end
def uptoSmall : (H : Type) → List (DataW H) → Bool := fun _ ds => decide (uptoBulkAll ds ≤ 1048576)
def OpenSpec.upto (s : _root_.Go.ChangeSpec) : _root_.Go.OpenSpec := { _root_.Go.OpenSpec.ofChange s with cond := some uptoSmall }

/-- 'noonguntop.TopLedgerBox', WHERE WHAT IT READS IS OF BULK AT MOST 1048576: true; the input reads as it did. -/
def topLedgerBoxUptoRow : OpenClaim := { program := "ytagbokhmcidokaa", sum := "ba9930c56b0d8e9f60f37e74c9ace35f8892907ff98496bde1c28593bec1ddb9", func := "noongun/noonguntop.TopLedgerBox", spec := "topLedgerBox", unfollowed := true, recurses := true, plainKeys := false, apart := false, narrowed := true }
def TopLedgerBoxUptoSaid : Prop := topLedgerBoxUptoRow.holds Try.pinned (OpenSpec.upto topLedgerBoxSpec)

/-- 'noonguntop.TopCircles', WHERE WHAT IT READS IS OF BULK AT MOST 1048576: true; the input reads as it did. -/
def topCirclesUptoRow : OpenClaim := { program := "ytagbokhmcidokaa", sum := "ba9930c56b0d8e9f60f37e74c9ace35f8892907ff98496bde1c28593bec1ddb9", func := "noongun/noonguntop.TopCircles", spec := "topCircles", unfollowed := true, recurses := true, plainKeys := false, apart := false, narrowed := true }
def TopCirclesUptoSaid : Prop := topCirclesUptoRow.holds Try.pinned (OpenSpec.upto topCirclesSpec)

/-- 'noonguntop.TopWatches', WHERE WHAT IT READS IS OF BULK AT MOST 1048576: true; the input reads as it did. -/
def topWatchesUptoRow : OpenClaim := { program := "ytagbokhmcidokaa", sum := "ba9930c56b0d8e9f60f37e74c9ace35f8892907ff98496bde1c28593bec1ddb9", func := "noongun/noonguntop.TopWatches", spec := "topWatches", unfollowed := true, recurses := true, plainKeys := false, apart := false, narrowed := true }
def TopWatchesUptoSaid : Prop := topWatchesUptoRow.holds Try.pinned (OpenSpec.upto topWatchesSpec)

/-- 'noonguntop.TopSpans', WHERE WHAT IT READS IS OF BULK AT MOST 1048576: true; the input reads as it did. -/
def topSpansUptoRow : OpenClaim := { program := "ytagbokhmcidokaa", sum := "ba9930c56b0d8e9f60f37e74c9ace35f8892907ff98496bde1c28593bec1ddb9", func := "noongun/noonguntop.TopSpans", spec := "topSpans", unfollowed := true, recurses := true, plainKeys := false, apart := false, narrowed := true }
def TopSpansUptoSaid : Prop := topSpansUptoRow.holds Try.pinned (OpenSpec.upto topSpansSpec)

/-- 'noonguntop.TopBoxSights', WHERE WHAT IT READS IS OF BULK AT MOST 1048576: true; the input reads as it did. -/
def topBoxSightsUptoRow : OpenClaim := { program := "ytagbokhmcidokaa", sum := "ba9930c56b0d8e9f60f37e74c9ace35f8892907ff98496bde1c28593bec1ddb9", func := "noongun/noonguntop.TopBoxSights", spec := "topBoxSights", unfollowed := true, recurses := true, plainKeys := false, apart := false, narrowed := true }
def TopBoxSightsUptoSaid : Prop := topBoxSightsUptoRow.holds Try.pinned (OpenSpec.upto topBoxSightsSpec)

/-- 'noonguntop.TopPlaces', WHERE WHAT IT READS IS OF BULK AT MOST 1048576: true; the input reads as it did. -/
def topPlacesUptoRow : OpenClaim := { program := "ytagbokhmcidokaa", sum := "ba9930c56b0d8e9f60f37e74c9ace35f8892907ff98496bde1c28593bec1ddb9", func := "noongun/noonguntop.TopPlaces", spec := "topPlaces", unfollowed := true, recurses := true, plainKeys := false, apart := false, narrowed := true }
def TopPlacesUptoSaid : Prop := topPlacesUptoRow.holds Try.pinned (OpenSpec.upto topPlacesSpec)

/-- 'noonguntop.TopHabitsSights', WHERE WHAT IT READS IS OF BULK AT MOST 1048576: true; the input reads as it did. -/
def topHabitsSightsUptoRow : OpenClaim := { program := "ytagbokhmcidokaa", sum := "ba9930c56b0d8e9f60f37e74c9ace35f8892907ff98496bde1c28593bec1ddb9", func := "noongun/noonguntop.TopHabitsSights", spec := "topHabitsSights", unfollowed := true, recurses := true, plainKeys := false, apart := false, narrowed := true }
def TopHabitsSightsUptoSaid : Prop := topHabitsSightsUptoRow.holds Try.pinned (OpenSpec.upto topHabitsSightsSpec)

end Rows
end Go.Proofs.Ytagbokhmcidokaa
