/-
  No cell of these rows narrows 'for every input' (looked for: loops, veiled, ifaces, maps, wideKeys, modest, calm, conditions, laid).
  DERIVED. THE GIVEN ROWS OF THIS SEAT. 10 by the template 'for every input the law returns true; each argument reads behind the call as it read before'; 0 by the template 'total and deterministic' (their statements: YtcdohibphhbllaaTotals.lean).
  GIVEN WITH THE SEED: the statements are not yours to turn. If you find one false, say at which input.
  Laid BY PROGRAM, IN A SANDBOX (cutbox-rows.mjs): the forced cells as the released guide's own fill.sh prints them over the translation 51f6a55d0035565c… (all of the seat's roots in one cut). By AI agents, Wed Nov 11 2026. No macro, syntax, notation, axiom, sorry.
-/
import Derived.Test.YtcdohibphhbllaaChecked
import GoSem.Claim
import GoSem.ClaimJoined
import GoSem.ClaimMapViews
import Derived.JoinedTies
import Derived.KernelRfl
namespace Go.Proofs.Ytcdohibphhbllaa
/- THE CELL 'sum', in the pinned program and in every row, IS THE sha256 OF THE DUMP (.gsa) THAT YtcdohibphhbllaaProg.lean LOADS. Nothing in Lean hashes anything: it is a label: what it is worth is what the hold of that sum in a sandbox is worth. -/
noncomputable def Try.pinned : Pinned := { name := "ytcdohibphhbllaa", sum := "51f6a55d0035565c726896d558eb6cd7a6cdafd13b18dd85c68ec19587811d39", checked := Try.checked }
namespace Rows
def none {H : Type} : Left H := { results := [], args := [] }

/-- 'noongunlaw04.BallRuns': WHATEVER THE INPUT: true; the input reads as it did. -/
def ballRunsSpec : ChangeSpec := { name := "ballRuns", fn := fun _ => fun
  | [d1, d2] => { results := [.lit (.bool true)], args := [d1, d2] }
  | _ => none }
def ballRunsRow : OpenClaim := { program := "ytcdohibphhbllaa", sum := "51f6a55d0035565c726896d558eb6cd7a6cdafd13b18dd85c68ec19587811d39", func := "noongun/noongunlaw04.BallRuns", spec := "ballRuns", unfollowed := true, recurses := true, apart := false }
def BallRunsSaid : Prop := ballRunsRow.holds Try.pinned (OpenSpec.ofChange ballRunsSpec)

/-- ITS FALSE NEIGHBOUR: 'it returns false'. Refute it at one input. -/
def ballRunsWrong : ChangeSpec := { name := "ballRuns", fn := fun _ => fun
  | [d1, d2] => { results := [.lit (.bool false)], args := [d1, d2] }
  | _ => none }
def BallRunsWrongFalsely : Prop := ballRunsRow.holds Try.pinned (OpenSpec.ofChange ballRunsWrong)

/-- 'noongunlaw04.BallUnsays': WHATEVER THE INPUT: true; the input reads as it did. -/
def ballUnsaysSpec : ChangeSpec := { name := "ballUnsays", fn := fun _ => fun
  | [d1, d2, d3] => { results := [.lit (.bool true)], args := [d1, d2, d3] }
  | _ => none }
def ballUnsaysRow : OpenClaim := { program := "ytcdohibphhbllaa", sum := "51f6a55d0035565c726896d558eb6cd7a6cdafd13b18dd85c68ec19587811d39", func := "noongun/noongunlaw04.BallUnsays", spec := "ballUnsays", unfollowed := true, recurses := true, apart := false }
def BallUnsaysSaid : Prop := ballUnsaysRow.holds Try.pinned (OpenSpec.ofChange ballUnsaysSpec)

/-- ITS FALSE NEIGHBOUR: 'it returns false'. Refute it at one input. -/
def ballUnsaysWrong : ChangeSpec := { name := "ballUnsays", fn := fun _ => fun
  | [d1, d2, d3] => { results := [.lit (.bool false)], args := [d1, d2, d3] }
  | _ => none }
def BallUnsaysWrongFalsely : Prop := ballUnsaysRow.holds Try.pinned (OpenSpec.ofChange ballUnsaysWrong)

/-- 'noongunlaw04.BallSteps': WHATEVER THE INPUT: true; the input reads as it did. -/
def ballStepsSpec : ChangeSpec := { name := "ballSteps", fn := fun _ => fun
  | [d1, d2, d3] => { results := [.lit (.bool true)], args := [d1, d2, d3] }
  | _ => none }
def ballStepsRow : OpenClaim := { program := "ytcdohibphhbllaa", sum := "51f6a55d0035565c726896d558eb6cd7a6cdafd13b18dd85c68ec19587811d39", func := "noongun/noongunlaw04.BallSteps", spec := "ballSteps", unfollowed := true, recurses := true, apart := false }
def BallStepsSaid : Prop := ballStepsRow.holds Try.pinned (OpenSpec.ofChange ballStepsSpec)

/-- ITS FALSE NEIGHBOUR: 'it returns false'. Refute it at one input. -/
def ballStepsWrong : ChangeSpec := { name := "ballSteps", fn := fun _ => fun
  | [d1, d2, d3] => { results := [.lit (.bool false)], args := [d1, d2, d3] }
  | _ => none }
def BallStepsWrongFalsely : Prop := ballStepsRow.holds Try.pinned (OpenSpec.ofChange ballStepsWrong)

/-- 'noongunlaw04.BallOnes': WHATEVER THE INPUT: true; the input reads as it did. -/
def ballOnesSpec : ChangeSpec := { name := "ballOnes", fn := fun _ => fun
  | [d1, d2] => { results := [.lit (.bool true)], args := [d1, d2] }
  | _ => none }
def ballOnesRow : OpenClaim := { program := "ytcdohibphhbllaa", sum := "51f6a55d0035565c726896d558eb6cd7a6cdafd13b18dd85c68ec19587811d39", func := "noongun/noongunlaw04.BallOnes", spec := "ballOnes", unfollowed := true, recurses := true, apart := false }
def BallOnesSaid : Prop := ballOnesRow.holds Try.pinned (OpenSpec.ofChange ballOnesSpec)

/-- ITS FALSE NEIGHBOUR: 'it returns false'. Refute it at one input. -/
def ballOnesWrong : ChangeSpec := { name := "ballOnes", fn := fun _ => fun
  | [d1, d2] => { results := [.lit (.bool false)], args := [d1, d2] }
  | _ => none }
def BallOnesWrongFalsely : Prop := ballOnesRow.holds Try.pinned (OpenSpec.ofChange ballOnesWrong)

/-- 'noongunlaw04.BallJudges': WHATEVER THE INPUT: true; the input reads as it did. -/
def ballJudgesSpec : ChangeSpec := { name := "ballJudges", fn := fun _ => fun
  | [d1, d2] => { results := [.lit (.bool true)], args := [d1, d2] }
  | _ => none }
def ballJudgesRow : OpenClaim := { program := "ytcdohibphhbllaa", sum := "51f6a55d0035565c726896d558eb6cd7a6cdafd13b18dd85c68ec19587811d39", func := "noongun/noongunlaw04.BallJudges", spec := "ballJudges", unfollowed := true, recurses := true, apart := false }
def BallJudgesSaid : Prop := ballJudgesRow.holds Try.pinned (OpenSpec.ofChange ballJudgesSpec)

/-- ITS FALSE NEIGHBOUR: 'it returns false'. Refute it at one input. -/
def ballJudgesWrong : ChangeSpec := { name := "ballJudges", fn := fun _ => fun
  | [d1, d2] => { results := [.lit (.bool false)], args := [d1, d2] }
  | _ => none }
def BallJudgesWrongFalsely : Prop := ballJudgesRow.holds Try.pinned (OpenSpec.ofChange ballJudgesWrong)

/-- 'noongunlaw04.BallWords': WHATEVER THE INPUT: true; the input reads as it did. -/
def ballWordsSpec : ChangeSpec := { name := "ballWords", fn := fun _ => fun
  | [d1, d2] => { results := [.lit (.bool true)], args := [d1, d2] }
  | _ => none }
def ballWordsRow : OpenClaim := { program := "ytcdohibphhbllaa", sum := "51f6a55d0035565c726896d558eb6cd7a6cdafd13b18dd85c68ec19587811d39", func := "noongun/noongunlaw04.BallWords", spec := "ballWords", unfollowed := true, recurses := true, apart := false }
def BallWordsSaid : Prop := ballWordsRow.holds Try.pinned (OpenSpec.ofChange ballWordsSpec)

/-- ITS FALSE NEIGHBOUR: 'it returns false'. Refute it at one input. -/
def ballWordsWrong : ChangeSpec := { name := "ballWords", fn := fun _ => fun
  | [d1, d2] => { results := [.lit (.bool false)], args := [d1, d2] }
  | _ => none }
def BallWordsWrongFalsely : Prop := ballWordsRow.holds Try.pinned (OpenSpec.ofChange ballWordsWrong)

/-- 'noongunlaw04.BallWires': WHATEVER THE INPUT: true; the input reads as it did. -/
def ballWiresSpec : ChangeSpec := { name := "ballWires", fn := fun _ => fun
  | [d1, d2] => { results := [.lit (.bool true)], args := [d1, d2] }
  | _ => none }
def ballWiresRow : OpenClaim := { program := "ytcdohibphhbllaa", sum := "51f6a55d0035565c726896d558eb6cd7a6cdafd13b18dd85c68ec19587811d39", func := "noongun/noongunlaw04.BallWires", spec := "ballWires", unfollowed := true, recurses := true, apart := false }
def BallWiresSaid : Prop := ballWiresRow.holds Try.pinned (OpenSpec.ofChange ballWiresSpec)

/-- ITS FALSE NEIGHBOUR: 'it returns false'. Refute it at one input. -/
def ballWiresWrong : ChangeSpec := { name := "ballWires", fn := fun _ => fun
  | [d1, d2] => { results := [.lit (.bool false)], args := [d1, d2] }
  | _ => none }
def BallWiresWrongFalsely : Prop := ballWiresRow.holds Try.pinned (OpenSpec.ofChange ballWiresWrong)

/-- 'noongunlaw04.BallPlans': WHATEVER THE INPUT: true; the input reads as it did. -/
def ballPlansSpec : ChangeSpec := { name := "ballPlans", fn := fun _ => fun
  | [d] => { results := [.lit (.bool true)], args := [d] }
  | _ => none }
def ballPlansRow : OpenClaim := { program := "ytcdohibphhbllaa", sum := "51f6a55d0035565c726896d558eb6cd7a6cdafd13b18dd85c68ec19587811d39", func := "noongun/noongunlaw04.BallPlans", spec := "ballPlans", unfollowed := true, recurses := true, apart := false }
def BallPlansSaid : Prop := ballPlansRow.holds Try.pinned (OpenSpec.ofChange ballPlansSpec)

/-- ITS FALSE NEIGHBOUR: 'it returns false'. Refute it at one input. -/
def ballPlansWrong : ChangeSpec := { name := "ballPlans", fn := fun _ => fun
  | [d] => { results := [.lit (.bool false)], args := [d] }
  | _ => none }
def BallPlansWrongFalsely : Prop := ballPlansRow.holds Try.pinned (OpenSpec.ofChange ballPlansWrong)

/-- 'noongunlaw04.BallMay': WHATEVER THE INPUT: true; the input reads as it did. -/
def ballMaySpec : ChangeSpec := { name := "ballMay", fn := fun _ => fun
  | [d1, d2, d3] => { results := [.lit (.bool true)], args := [d1, d2, d3] }
  | _ => none }
def ballMayRow : OpenClaim := { program := "ytcdohibphhbllaa", sum := "51f6a55d0035565c726896d558eb6cd7a6cdafd13b18dd85c68ec19587811d39", func := "noongun/noongunlaw04.BallMay", spec := "ballMay", unfollowed := true, recurses := true, apart := false }
def BallMaySaid : Prop := ballMayRow.holds Try.pinned (OpenSpec.ofChange ballMaySpec)

/-- ITS FALSE NEIGHBOUR: 'it returns false'. Refute it at one input. -/
def ballMayWrong : ChangeSpec := { name := "ballMay", fn := fun _ => fun
  | [d1, d2, d3] => { results := [.lit (.bool false)], args := [d1, d2, d3] }
  | _ => none }
def BallMayWrongFalsely : Prop := ballMayRow.holds Try.pinned (OpenSpec.ofChange ballMayWrong)

/-- 'noongunlaw04.BallSure': WHATEVER THE INPUT: true; the input reads as it did. -/
def ballSureSpec : ChangeSpec := { name := "ballSure", fn := fun _ => fun
  | [d1, d2] => { results := [.lit (.bool true)], args := [d1, d2] }
  | _ => none }
def ballSureRow : OpenClaim := { program := "ytcdohibphhbllaa", sum := "51f6a55d0035565c726896d558eb6cd7a6cdafd13b18dd85c68ec19587811d39", func := "noongun/noongunlaw04.BallSure", spec := "ballSure", unfollowed := true, recurses := true, apart := false }
def BallSureSaid : Prop := ballSureRow.holds Try.pinned (OpenSpec.ofChange ballSureSpec)

/-- ITS FALSE NEIGHBOUR: 'it returns false'. Refute it at one input. -/
def ballSureWrong : ChangeSpec := { name := "ballSure", fn := fun _ => fun
  | [d1, d2] => { results := [.lit (.bool false)], args := [d1, d2] }
  | _ => none }
def BallSureWrongFalsely : Prop := ballSureRow.holds Try.pinned (OpenSpec.ofChange ballSureWrong)

/- THE SECOND FORM. 'bulk': how many values and letters a reading holds, each counted each time it is reached (what is shared counts as often as it is met; a slice's spare places count too). A statement '..UptoSaid' is the law's where the arguments, and the package variables that the reading takes, are together of bulk at most 1048576: NARROWER than '..Said'. Prove '..Said' where nothing that the law and all that it calls make is longer than what came in: it says more and counts as full. Else prove '..UptoSaid'. A law counts once. -/
mutual
def uptoBulk {H : Type} : DataW H → Nat
  | .lit (.string bytes) => bytes.length + 1
  | .lit _ => 1
  | .nil => 1
  | .ptr d => uptoBulk d + 1
  | .slice elems spare => uptoBulkAll elems + uptoBulkAll spare + 1
  | .agg parts => uptoBulkAll parts + 1
  | .iface _ d => uptoBulk d + 1
  | .map entries => uptoBulkEntries entries + 1
  | .held _ => 1
def uptoBulkAll {H : Type} : List (DataW H) → Nat
  | [] => 0
  | d :: r => uptoBulk d + uptoBulkAll r
def uptoBulkEntries {H : Type} : List (Lit × DataW H) → Nat
  | [] => 0
  | x :: r => uptoBulkEntry x + uptoBulkEntries r
def uptoBulkEntry {H : Type} : Lit × DataW H → Nat
  | (.string bytes, d) => bytes.length + uptoBulk d + 1
  | (_, d) => uptoBulk d + 1
 end
def uptoSmall : (H : Type) → List (DataW H) → Bool := fun _ ds => decide (uptoBulkAll ds ≤ 1048576)
def OpenSpec.upto (s : _root_.Go.ChangeSpec) : _root_.Go.OpenSpec := { _root_.Go.OpenSpec.ofChange s with cond := some uptoSmall }

/-- 'noongunlaw04.BallRuns', WHERE WHAT IT READS IS OF BULK AT MOST 1048576: true; the input reads as it did. -/
def ballRunsUptoRow : OpenClaim := { program := "ytcdohibphhbllaa", sum := "51f6a55d0035565c726896d558eb6cd7a6cdafd13b18dd85c68ec19587811d39", func := "noongun/noongunlaw04.BallRuns", spec := "ballRuns", unfollowed := true, recurses := true, apart := false, narrowed := true }
def BallRunsUptoSaid : Prop := ballRunsUptoRow.holds Try.pinned (OpenSpec.upto ballRunsSpec)

/-- 'noongunlaw04.BallUnsays', WHERE WHAT IT READS IS OF BULK AT MOST 1048576: true; the input reads as it did. -/
def ballUnsaysUptoRow : OpenClaim := { program := "ytcdohibphhbllaa", sum := "51f6a55d0035565c726896d558eb6cd7a6cdafd13b18dd85c68ec19587811d39", func := "noongun/noongunlaw04.BallUnsays", spec := "ballUnsays", unfollowed := true, recurses := true, apart := false, narrowed := true }
def BallUnsaysUptoSaid : Prop := ballUnsaysUptoRow.holds Try.pinned (OpenSpec.upto ballUnsaysSpec)

/-- 'noongunlaw04.BallSteps', WHERE WHAT IT READS IS OF BULK AT MOST 1048576: true; the input reads as it did. -/
def ballStepsUptoRow : OpenClaim := { program := "ytcdohibphhbllaa", sum := "51f6a55d0035565c726896d558eb6cd7a6cdafd13b18dd85c68ec19587811d39", func := "noongun/noongunlaw04.BallSteps", spec := "ballSteps", unfollowed := true, recurses := true, apart := false, narrowed := true }
def BallStepsUptoSaid : Prop := ballStepsUptoRow.holds Try.pinned (OpenSpec.upto ballStepsSpec)

/-- 'noongunlaw04.BallOnes', WHERE WHAT IT READS IS OF BULK AT MOST 1048576: true; the input reads as it did. -/
def ballOnesUptoRow : OpenClaim := { program := "ytcdohibphhbllaa", sum := "51f6a55d0035565c726896d558eb6cd7a6cdafd13b18dd85c68ec19587811d39", func := "noongun/noongunlaw04.BallOnes", spec := "ballOnes", unfollowed := true, recurses := true, apart := false, narrowed := true }
def BallOnesUptoSaid : Prop := ballOnesUptoRow.holds Try.pinned (OpenSpec.upto ballOnesSpec)

/-- 'noongunlaw04.BallJudges', WHERE WHAT IT READS IS OF BULK AT MOST 1048576: true; the input reads as it did. -/
def ballJudgesUptoRow : OpenClaim := { program := "ytcdohibphhbllaa", sum := "51f6a55d0035565c726896d558eb6cd7a6cdafd13b18dd85c68ec19587811d39", func := "noongun/noongunlaw04.BallJudges", spec := "ballJudges", unfollowed := true, recurses := true, apart := false, narrowed := true }
def BallJudgesUptoSaid : Prop := ballJudgesUptoRow.holds Try.pinned (OpenSpec.upto ballJudgesSpec)

/-- 'noongunlaw04.BallWords', WHERE WHAT IT READS IS OF BULK AT MOST 1048576: true; the input reads as it did. -/
def ballWordsUptoRow : OpenClaim := { program := "ytcdohibphhbllaa", sum := "51f6a55d0035565c726896d558eb6cd7a6cdafd13b18dd85c68ec19587811d39", func := "noongun/noongunlaw04.BallWords", spec := "ballWords", unfollowed := true, recurses := true, apart := false, narrowed := true }
def BallWordsUptoSaid : Prop := ballWordsUptoRow.holds Try.pinned (OpenSpec.upto ballWordsSpec)

/-- 'noongunlaw04.BallWires', WHERE WHAT IT READS IS OF BULK AT MOST 1048576: true; the input reads as it did. -/
def ballWiresUptoRow : OpenClaim := { program := "ytcdohibphhbllaa", sum := "51f6a55d0035565c726896d558eb6cd7a6cdafd13b18dd85c68ec19587811d39", func := "noongun/noongunlaw04.BallWires", spec := "ballWires", unfollowed := true, recurses := true, apart := false, narrowed := true }
def BallWiresUptoSaid : Prop := ballWiresUptoRow.holds Try.pinned (OpenSpec.upto ballWiresSpec)

/-- 'noongunlaw04.BallPlans', WHERE WHAT IT READS IS OF BULK AT MOST 1048576: true; the input reads as it did. -/
def ballPlansUptoRow : OpenClaim := { program := "ytcdohibphhbllaa", sum := "51f6a55d0035565c726896d558eb6cd7a6cdafd13b18dd85c68ec19587811d39", func := "noongun/noongunlaw04.BallPlans", spec := "ballPlans", unfollowed := true, recurses := true, apart := false, narrowed := true }
def BallPlansUptoSaid : Prop := ballPlansUptoRow.holds Try.pinned (OpenSpec.upto ballPlansSpec)

/-- 'noongunlaw04.BallMay', WHERE WHAT IT READS IS OF BULK AT MOST 1048576: true; the input reads as it did. -/
def ballMayUptoRow : OpenClaim := { program := "ytcdohibphhbllaa", sum := "51f6a55d0035565c726896d558eb6cd7a6cdafd13b18dd85c68ec19587811d39", func := "noongun/noongunlaw04.BallMay", spec := "ballMay", unfollowed := true, recurses := true, apart := false, narrowed := true }
def BallMayUptoSaid : Prop := ballMayUptoRow.holds Try.pinned (OpenSpec.upto ballMaySpec)

/-- 'noongunlaw04.BallSure', WHERE WHAT IT READS IS OF BULK AT MOST 1048576: true; the input reads as it did. -/
def ballSureUptoRow : OpenClaim := { program := "ytcdohibphhbllaa", sum := "51f6a55d0035565c726896d558eb6cd7a6cdafd13b18dd85c68ec19587811d39", func := "noongun/noongunlaw04.BallSure", spec := "ballSure", unfollowed := true, recurses := true, apart := false, narrowed := true }
def BallSureUptoSaid : Prop := ballSureUptoRow.holds Try.pinned (OpenSpec.upto ballSureSpec)

end Rows
end Go.Proofs.Ytcdohibphhbllaa
