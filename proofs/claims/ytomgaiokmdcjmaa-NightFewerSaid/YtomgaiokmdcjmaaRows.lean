/-
  No cell of these rows narrows 'for every input' (looked for: loops, veiled, ifaces, maps, wideKeys, modest, calm, conditions, laid).
  DERIVED. THE GIVEN ROWS OF THIS SEAT. 9 by the template 'for every input the law returns true; each argument reads behind the call as it read before'; 0 by the template 'total and deterministic' (their statements: YtomgaiokmdcjmaaTotals.lean).
  GIVEN WITH THE SEED: the statements are not yours to turn. If you find one false, say at which input.
  Laid BY PROGRAM, IN A SANDBOX (cutbox-rows.mjs): the forced cells as the released guide's own fill.sh prints them over the translation 254f7fdcafca5bd5… (all of the seat's roots in one cut). By AI agents, Wed Nov 11 2026. No macro, syntax, notation, axiom, sorry.
-/
import Derived.Test.YtomgaiokmdcjmaaChecked
import GoSem.Claim
import GoSem.ClaimJoined
import GoSem.ClaimMapViews
import Derived.JoinedTies
import Derived.KernelRfl
namespace Go.Proofs.Ytomgaiokmdcjmaa
/- THE CELL 'sum', in the pinned program and in every row, IS THE sha256 OF THE DUMP (.gsa) THAT YtomgaiokmdcjmaaProg.lean LOADS. Nothing in Lean hashes anything: it is a label: what it is worth is what the hold of that sum in a sandbox is worth. -/
noncomputable def Try.pinned : Pinned := { name := "ytomgaiokmdcjmaa", sum := "254f7fdcafca5bd5d6b3556b268658c0132f1d75845711c4cdb96f067c47ef5c", checked := Try.checked }
namespace Rows
def none {H : Type} : Left H := { results := [], args := [] }

/-- 'noongunlaw08.NightMore': WHATEVER THE INPUT: true; the input reads as it did. -/
def nightMoreSpec : ChangeSpec := { name := "nightMore", fn := fun _ => fun
  | [d1, d2, d3, d4, d5] => { results := [.lit (.bool true)], args := [d1, d2, d3, d4, d5] }
  | _ => none }
def nightMoreRow : OpenClaim := { program := "ytomgaiokmdcjmaa", sum := "254f7fdcafca5bd5d6b3556b268658c0132f1d75845711c4cdb96f067c47ef5c", func := "noongun/noongunlaw08.NightMore", spec := "nightMore", unfollowed := true, recurses := true, plainKeys := false, apart := false }
def NightMoreSaid : Prop := nightMoreRow.holds Try.pinned (OpenSpec.ofChange nightMoreSpec)

/-- ITS FALSE NEIGHBOUR: 'it returns false'. Refute it at one input. -/
def nightMoreWrong : ChangeSpec := { name := "nightMore", fn := fun _ => fun
  | [d1, d2, d3, d4, d5] => { results := [.lit (.bool false)], args := [d1, d2, d3, d4, d5] }
  | _ => none }
def NightMoreWrongFalsely : Prop := nightMoreRow.holds Try.pinned (OpenSpec.ofChange nightMoreWrong)

/-- 'noongunlaw08.NightChances': WHATEVER THE INPUT: true; the input reads as it did. -/
def nightChancesSpec : ChangeSpec := { name := "nightChances", fn := fun _ => fun
  | [d1, d2, d3, d4, d5] => { results := [.lit (.bool true)], args := [d1, d2, d3, d4, d5] }
  | _ => none }
def nightChancesRow : OpenClaim := { program := "ytomgaiokmdcjmaa", sum := "254f7fdcafca5bd5d6b3556b268658c0132f1d75845711c4cdb96f067c47ef5c", func := "noongun/noongunlaw08.NightChances", spec := "nightChances", unfollowed := true, recurses := true, plainKeys := false, apart := false }
def NightChancesSaid : Prop := nightChancesRow.holds Try.pinned (OpenSpec.ofChange nightChancesSpec)

/-- ITS FALSE NEIGHBOUR: 'it returns false'. Refute it at one input. -/
def nightChancesWrong : ChangeSpec := { name := "nightChances", fn := fun _ => fun
  | [d1, d2, d3, d4, d5] => { results := [.lit (.bool false)], args := [d1, d2, d3, d4, d5] }
  | _ => none }
def NightChancesWrongFalsely : Prop := nightChancesRow.holds Try.pinned (OpenSpec.ofChange nightChancesWrong)

/-- 'noongunlaw08.NightFewer': WHATEVER THE INPUT: true; the input reads as it did. -/
def nightFewerSpec : ChangeSpec := { name := "nightFewer", fn := fun _ => fun
  | [d1, d2, d3, d4] => { results := [.lit (.bool true)], args := [d1, d2, d3, d4] }
  | _ => none }
def nightFewerRow : OpenClaim := { program := "ytomgaiokmdcjmaa", sum := "254f7fdcafca5bd5d6b3556b268658c0132f1d75845711c4cdb96f067c47ef5c", func := "noongun/noongunlaw08.NightFewer", spec := "nightFewer", unfollowed := true, recurses := true, plainKeys := false, apart := false }
def NightFewerSaid : Prop := nightFewerRow.holds Try.pinned (OpenSpec.ofChange nightFewerSpec)

/-- ITS FALSE NEIGHBOUR: 'it returns false'. Refute it at one input. -/
def nightFewerWrong : ChangeSpec := { name := "nightFewer", fn := fun _ => fun
  | [d1, d2, d3, d4] => { results := [.lit (.bool false)], args := [d1, d2, d3, d4] }
  | _ => none }
def NightFewerWrongFalsely : Prop := nightFewerRow.holds Try.pinned (OpenSpec.ofChange nightFewerWrong)

/-- 'noongunlaw08.NightRight': WHATEVER THE INPUT: true; the input reads as it did. -/
def nightRightSpec : ChangeSpec := { name := "nightRight", fn := fun _ => fun
  | [d1, d2, d3, d4] => { results := [.lit (.bool true)], args := [d1, d2, d3, d4] }
  | _ => none }
def nightRightRow : OpenClaim := { program := "ytomgaiokmdcjmaa", sum := "254f7fdcafca5bd5d6b3556b268658c0132f1d75845711c4cdb96f067c47ef5c", func := "noongun/noongunlaw08.NightRight", spec := "nightRight", unfollowed := true, recurses := true, plainKeys := false, apart := false }
def NightRightSaid : Prop := nightRightRow.holds Try.pinned (OpenSpec.ofChange nightRightSpec)

/-- ITS FALSE NEIGHBOUR: 'it returns false'. Refute it at one input. -/
def nightRightWrong : ChangeSpec := { name := "nightRight", fn := fun _ => fun
  | [d1, d2, d3, d4] => { results := [.lit (.bool false)], args := [d1, d2, d3, d4] }
  | _ => none }
def NightRightWrongFalsely : Prop := nightRightRow.holds Try.pinned (OpenSpec.ofChange nightRightWrong)

/-- 'noongunlaw08.NightHabits': WHATEVER THE INPUT: true; the input reads as it did. -/
def nightHabitsSpec : ChangeSpec := { name := "nightHabits", fn := fun _ => fun
  | [d1, d2] => { results := [.lit (.bool true)], args := [d1, d2] }
  | _ => none }
def nightHabitsRow : OpenClaim := { program := "ytomgaiokmdcjmaa", sum := "254f7fdcafca5bd5d6b3556b268658c0132f1d75845711c4cdb96f067c47ef5c", func := "noongun/noongunlaw08.NightHabits", spec := "nightHabits", unfollowed := true, recurses := true, plainKeys := false, apart := false }
def NightHabitsSaid : Prop := nightHabitsRow.holds Try.pinned (OpenSpec.ofChange nightHabitsSpec)

/-- ITS FALSE NEIGHBOUR: 'it returns false'. Refute it at one input. -/
def nightHabitsWrong : ChangeSpec := { name := "nightHabits", fn := fun _ => fun
  | [d1, d2] => { results := [.lit (.bool false)], args := [d1, d2] }
  | _ => none }
def NightHabitsWrongFalsely : Prop := nightHabitsRow.holds Try.pinned (OpenSpec.ofChange nightHabitsWrong)

/-- 'noongunlaw08.NightBest': WHATEVER THE INPUT: true; the input reads as it did. -/
def nightBestSpec : ChangeSpec := { name := "nightBest", fn := fun _ => fun
  | [d1, d2, d3, d4] => { results := [.lit (.bool true)], args := [d1, d2, d3, d4] }
  | _ => none }
def nightBestRow : OpenClaim := { program := "ytomgaiokmdcjmaa", sum := "254f7fdcafca5bd5d6b3556b268658c0132f1d75845711c4cdb96f067c47ef5c", func := "noongun/noongunlaw08.NightBest", spec := "nightBest", unfollowed := true, recurses := true, plainKeys := false, apart := false }
def NightBestSaid : Prop := nightBestRow.holds Try.pinned (OpenSpec.ofChange nightBestSpec)

/-- ITS FALSE NEIGHBOUR: 'it returns false'. Refute it at one input. -/
def nightBestWrong : ChangeSpec := { name := "nightBest", fn := fun _ => fun
  | [d1, d2, d3, d4] => { results := [.lit (.bool false)], args := [d1, d2, d3, d4] }
  | _ => none }
def NightBestWrongFalsely : Prop := nightBestRow.holds Try.pinned (OpenSpec.ofChange nightBestWrong)

/-- 'noongunlaw08.NightWith': WHATEVER THE INPUT: true; the input reads as it did. -/
def nightWithSpec : ChangeSpec := { name := "nightWith", fn := fun _ => fun
  | [d1, d2, d3, d4] => { results := [.lit (.bool true)], args := [d1, d2, d3, d4] }
  | _ => none }
def nightWithRow : OpenClaim := { program := "ytomgaiokmdcjmaa", sum := "254f7fdcafca5bd5d6b3556b268658c0132f1d75845711c4cdb96f067c47ef5c", func := "noongun/noongunlaw08.NightWith", spec := "nightWith", unfollowed := true, recurses := true, plainKeys := false, apart := false }
def NightWithSaid : Prop := nightWithRow.holds Try.pinned (OpenSpec.ofChange nightWithSpec)

/-- ITS FALSE NEIGHBOUR: 'it returns false'. Refute it at one input. -/
def nightWithWrong : ChangeSpec := { name := "nightWith", fn := fun _ => fun
  | [d1, d2, d3, d4] => { results := [.lit (.bool false)], args := [d1, d2, d3, d4] }
  | _ => none }
def NightWithWrongFalsely : Prop := nightWithRow.holds Try.pinned (OpenSpec.ofChange nightWithWrong)

/-- 'noongunlaw08.NightRotas': WHATEVER THE INPUT: true; the input reads as it did. -/
def nightRotasSpec : ChangeSpec := { name := "nightRotas", fn := fun _ => fun
  | [d1, d2, d3, d4] => { results := [.lit (.bool true)], args := [d1, d2, d3, d4] }
  | _ => none }
def nightRotasRow : OpenClaim := { program := "ytomgaiokmdcjmaa", sum := "254f7fdcafca5bd5d6b3556b268658c0132f1d75845711c4cdb96f067c47ef5c", func := "noongun/noongunlaw08.NightRotas", spec := "nightRotas", unfollowed := true, recurses := true, plainKeys := false, apart := false }
def NightRotasSaid : Prop := nightRotasRow.holds Try.pinned (OpenSpec.ofChange nightRotasSpec)

/-- ITS FALSE NEIGHBOUR: 'it returns false'. Refute it at one input. -/
def nightRotasWrong : ChangeSpec := { name := "nightRotas", fn := fun _ => fun
  | [d1, d2, d3, d4] => { results := [.lit (.bool false)], args := [d1, d2, d3, d4] }
  | _ => none }
def NightRotasWrongFalsely : Prop := nightRotasRow.holds Try.pinned (OpenSpec.ofChange nightRotasWrong)

/-- 'noongunlaw08.NightCircle': WHATEVER THE INPUT: true; the input reads as it did. -/
def nightCircleSpec : ChangeSpec := { name := "nightCircle", fn := fun _ => fun
  | [d1, d2] => { results := [.lit (.bool true)], args := [d1, d2] }
  | _ => none }
def nightCircleRow : OpenClaim := { program := "ytomgaiokmdcjmaa", sum := "254f7fdcafca5bd5d6b3556b268658c0132f1d75845711c4cdb96f067c47ef5c", func := "noongun/noongunlaw08.NightCircle", spec := "nightCircle", unfollowed := true, recurses := true, plainKeys := false, apart := false }
def NightCircleSaid : Prop := nightCircleRow.holds Try.pinned (OpenSpec.ofChange nightCircleSpec)

/-- ITS FALSE NEIGHBOUR: 'it returns false'. Refute it at one input. -/
def nightCircleWrong : ChangeSpec := { name := "nightCircle", fn := fun _ => fun
  | [d1, d2] => { results := [.lit (.bool false)], args := [d1, d2] }
  | _ => none }
def NightCircleWrongFalsely : Prop := nightCircleRow.holds Try.pinned (OpenSpec.ofChange nightCircleWrong)

/- THE SECOND FORM. 'bulk': how many values and letters a reading holds, each counted each time it is reached (what is shared counts as often as it is met; a slice's spare places count too). A statement '..UptoSaid' is the law's where the arguments, and the package variables that the reading takes, are together of bulk at most 1048576: NARROWER than '..Said'. Prove '..Said' where nothing that the law and all that it calls make is longer than what came in: it says more and counts as full. Else prove '..UptoSaid'. A law counts once. -/
mutual
def uptoBulk {H : Type} : DataW H → Nat
  | .lit (.string bytes) => bytes.length + 1
  | .lit _ => 1
  | .nil => 1
  | .ptr d => uptoBulk d + 1
  | .slice elems spare => uptoBulkAll elems + uptoBulkAll spare + 1
  | .agg parts => uptoBulkAll parts + 1
  | .iface _ d => uptoBulk d + 1
  | .map entries => uptoBulkEntries entries + 1
  | .held _ => 1
def uptoBulkAll {H : Type} : List (DataW H) → Nat
  | [] => 0
  | d :: r => uptoBulk d + uptoBulkAll r
def uptoBulkEntries {H : Type} : List (Lit × DataW H) → Nat
  | [] => 0
  | x :: r => uptoBulkEntry x + uptoBulkEntries r
def uptoBulkEntry {H : Type} : Lit × DataW H → Nat
  | (.string bytes, d) => bytes.length + uptoBulk d + 1
  | (_, d) => uptoBulk d + 1
 end
def uptoSmall : (H : Type) → List (DataW H) → Bool := fun _ ds => decide (uptoBulkAll ds ≤ 1048576)
def OpenSpec.upto (s : _root_.Go.ChangeSpec) : _root_.Go.OpenSpec := { _root_.Go.OpenSpec.ofChange s with cond := some uptoSmall }

/-- 'noongunlaw08.NightMore', WHERE WHAT IT READS IS OF BULK AT MOST 1048576: true; the input reads as it did. -/
def nightMoreUptoRow : OpenClaim := { program := "ytomgaiokmdcjmaa", sum := "254f7fdcafca5bd5d6b3556b268658c0132f1d75845711c4cdb96f067c47ef5c", func := "noongun/noongunlaw08.NightMore", spec := "nightMore", unfollowed := true, recurses := true, plainKeys := false, apart := false, narrowed := true }
def NightMoreUptoSaid : Prop := nightMoreUptoRow.holds Try.pinned (OpenSpec.upto nightMoreSpec)

/-- 'noongunlaw08.NightChances', WHERE WHAT IT READS IS OF BULK AT MOST 1048576: true; the input reads as it did. -/
def nightChancesUptoRow : OpenClaim := { program := "ytomgaiokmdcjmaa", sum := "254f7fdcafca5bd5d6b3556b268658c0132f1d75845711c4cdb96f067c47ef5c", func := "noongun/noongunlaw08.NightChances", spec := "nightChances", unfollowed := true, recurses := true, plainKeys := false, apart := false, narrowed := true }
def NightChancesUptoSaid : Prop := nightChancesUptoRow.holds Try.pinned (OpenSpec.upto nightChancesSpec)

/-- 'noongunlaw08.NightFewer', WHERE WHAT IT READS IS OF BULK AT MOST 1048576: true; the input reads as it did. -/
def nightFewerUptoRow : OpenClaim := { program := "ytomgaiokmdcjmaa", sum := "254f7fdcafca5bd5d6b3556b268658c0132f1d75845711c4cdb96f067c47ef5c", func := "noongun/noongunlaw08.NightFewer", spec := "nightFewer", unfollowed := true, recurses := true, plainKeys := false, apart := false, narrowed := true }
def NightFewerUptoSaid : Prop := nightFewerUptoRow.holds Try.pinned (OpenSpec.upto nightFewerSpec)

/-- 'noongunlaw08.NightRight', WHERE WHAT IT READS IS OF BULK AT MOST 1048576: true; the input reads as it did. -/
def nightRightUptoRow : OpenClaim := { program := "ytomgaiokmdcjmaa", sum := "254f7fdcafca5bd5d6b3556b268658c0132f1d75845711c4cdb96f067c47ef5c", func := "noongun/noongunlaw08.NightRight", spec := "nightRight", unfollowed := true, recurses := true, plainKeys := false, apart := false, narrowed := true }
def NightRightUptoSaid : Prop := nightRightUptoRow.holds Try.pinned (OpenSpec.upto nightRightSpec)

/-- 'noongunlaw08.NightHabits', WHERE WHAT IT READS IS OF BULK AT MOST 1048576: true; the input reads as it did. -/
def nightHabitsUptoRow : OpenClaim := { program := "ytomgaiokmdcjmaa", sum := "254f7fdcafca5bd5d6b3556b268658c0132f1d75845711c4cdb96f067c47ef5c", func := "noongun/noongunlaw08.NightHabits", spec := "nightHabits", unfollowed := true, recurses := true, plainKeys := false, apart := false, narrowed := true }
def NightHabitsUptoSaid : Prop := nightHabitsUptoRow.holds Try.pinned (OpenSpec.upto nightHabitsSpec)

/-- 'noongunlaw08.NightBest', WHERE WHAT IT READS IS OF BULK AT MOST 1048576: true; the input reads as it did. -/
def nightBestUptoRow : OpenClaim := { program := "ytomgaiokmdcjmaa", sum := "254f7fdcafca5bd5d6b3556b268658c0132f1d75845711c4cdb96f067c47ef5c", func := "noongun/noongunlaw08.NightBest", spec := "nightBest", unfollowed := true, recurses := true, plainKeys := false, apart := false, narrowed := true }
def NightBestUptoSaid : Prop := nightBestUptoRow.holds Try.pinned (OpenSpec.upto nightBestSpec)

/-- 'noongunlaw08.NightWith', WHERE WHAT IT READS IS OF BULK AT MOST 1048576: true; the input reads as it did. -/
def nightWithUptoRow : OpenClaim := { program := "ytomgaiokmdcjmaa", sum := "254f7fdcafca5bd5d6b3556b268658c0132f1d75845711c4cdb96f067c47ef5c", func := "noongun/noongunlaw08.NightWith", spec := "nightWith", unfollowed := true, recurses := true, plainKeys := false, apart := false, narrowed := true }
def NightWithUptoSaid : Prop := nightWithUptoRow.holds Try.pinned (OpenSpec.upto nightWithSpec)

/-- 'noongunlaw08.NightRotas', WHERE WHAT IT READS IS OF BULK AT MOST 1048576: true; the input reads as it did. -/
def nightRotasUptoRow : OpenClaim := { program := "ytomgaiokmdcjmaa", sum := "254f7fdcafca5bd5d6b3556b268658c0132f1d75845711c4cdb96f067c47ef5c", func := "noongun/noongunlaw08.NightRotas", spec := "nightRotas", unfollowed := true, recurses := true, plainKeys := false, apart := false, narrowed := true }
def NightRotasUptoSaid : Prop := nightRotasUptoRow.holds Try.pinned (OpenSpec.upto nightRotasSpec)

/-- 'noongunlaw08.NightCircle', WHERE WHAT IT READS IS OF BULK AT MOST 1048576: true; the input reads as it did. -/
def nightCircleUptoRow : OpenClaim := { program := "ytomgaiokmdcjmaa", sum := "254f7fdcafca5bd5d6b3556b268658c0132f1d75845711c4cdb96f067c47ef5c", func := "noongun/noongunlaw08.NightCircle", spec := "nightCircle", unfollowed := true, recurses := true, plainKeys := false, apart := false, narrowed := true }
def NightCircleUptoSaid : Prop := nightCircleUptoRow.holds Try.pinned (OpenSpec.upto nightCircleSpec)

end Rows
end Go.Proofs.Ytomgaiokmdcjmaa
