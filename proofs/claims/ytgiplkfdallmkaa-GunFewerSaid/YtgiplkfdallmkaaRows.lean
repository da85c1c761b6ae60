/-
  No cell of these rows narrows 'for every input' (looked for: loops, veiled, ifaces, maps, wideKeys, modest, calm, conditions, laid).
  DERIVED. THE GIVEN ROWS OF THIS SEAT. 10 by the template 'for every input the law returns true; each argument reads behind the call as it read before'; 0 by the template 'total and deterministic' (their statements: YtgiplkfdallmkaaTotals.lean).
  GIVEN WITH THE SEED: the statements are not yours to turn. If you find one false, say at which input.
  Laid BY PROGRAM, IN A SANDBOX (cutbox-rows.mjs): the forced cells as the released guide's own fill.sh prints them over the translation 6de808dcef1b059e… (all of the seat's roots in one cut). By AI agents, Wed Nov 11 2026. No macro, syntax, notation, axiom, sorry.
-/
import Derived.Test.YtgiplkfdallmkaaChecked
import GoSem.Claim
import GoSem.ClaimJoined
import GoSem.ClaimMapViews
import Derived.JoinedTies
import Derived.KernelRfl
namespace Go.Proofs.Ytgiplkfdallmkaa
/- THE CELL 'sum', in the pinned program and in every row, IS THE sha256 OF THE DUMP (.gsa) THAT YtgiplkfdallmkaaProg.lean LOADS. Nothing in Lean hashes anything: it is a label: what it is worth is what the hold of that sum in a sandbox is worth. -/
noncomputable def Try.pinned : Pinned := { name := "ytgiplkfdallmkaa", sum := "6de808dcef1b059e000923aa5380c87f7e8d40770e71e97dcd82b5ec097eab54", checked := Try.checked }
namespace Rows
def none {H : Type} : Left H := { results := [], args := [] }

/-- 'noongunlaw05.GunFarther': WHATEVER THE INPUT: true; the input reads as it did. -/
def gunFartherSpec : ChangeSpec := { name := "gunFarther", fn := fun _ => fun
  | [d1, d2, d3, d4] => { results := [.lit (.bool true)], args := [d1, d2, d3, d4] }
  | _ => none }
def gunFartherRow : OpenClaim := { program := "ytgiplkfdallmkaa", sum := "6de808dcef1b059e000923aa5380c87f7e8d40770e71e97dcd82b5ec097eab54", func := "noongun/noongunlaw05.GunFarther", spec := "gunFarther", unfollowed := true, recurses := true, apart := false }
def GunFartherSaid : Prop := gunFartherRow.holds Try.pinned (OpenSpec.ofChange gunFartherSpec)

/-- ITS FALSE NEIGHBOUR: 'it returns false'. Refute it at one input. -/
def gunFartherWrong : ChangeSpec := { name := "gunFarther", fn := fun _ => fun
  | [d1, d2, d3, d4] => { results := [.lit (.bool false)], args := [d1, d2, d3, d4] }
  | _ => none }
def GunFartherWrongFalsely : Prop := gunFartherRow.holds Try.pinned (OpenSpec.ofChange gunFartherWrong)

/-- 'noongunlaw05.GunSounds': WHATEVER THE INPUT: true; the input reads as it did. -/
def gunSoundsSpec : ChangeSpec := { name := "gunSounds", fn := fun _ => fun
  | [d1, d2, d3] => { results := [.lit (.bool true)], args := [d1, d2, d3] }
  | _ => none }
def gunSoundsRow : OpenClaim := { program := "ytgiplkfdallmkaa", sum := "6de808dcef1b059e000923aa5380c87f7e8d40770e71e97dcd82b5ec097eab54", func := "noongun/noongunlaw05.GunSounds", spec := "gunSounds", unfollowed := true, recurses := true, apart := false }
def GunSoundsSaid : Prop := gunSoundsRow.holds Try.pinned (OpenSpec.ofChange gunSoundsSpec)

/-- ITS FALSE NEIGHBOUR: 'it returns false'. Refute it at one input. -/
def gunSoundsWrong : ChangeSpec := { name := "gunSounds", fn := fun _ => fun
  | [d1, d2, d3] => { results := [.lit (.bool false)], args := [d1, d2, d3] }
  | _ => none }
def GunSoundsWrongFalsely : Prop := gunSoundsRow.holds Try.pinned (OpenSpec.ofChange gunSoundsWrong)

/-- 'noongunlaw05.GunLags': WHATEVER THE INPUT: true; the input reads as it did. -/
def gunLagsSpec : ChangeSpec := { name := "gunLags", fn := fun _ => fun
  | [d1, d2] => { results := [.lit (.bool true)], args := [d1, d2] }
  | _ => none }
def gunLagsRow : OpenClaim := { program := "ytgiplkfdallmkaa", sum := "6de808dcef1b059e000923aa5380c87f7e8d40770e71e97dcd82b5ec097eab54", func := "noongun/noongunlaw05.GunLags", spec := "gunLags", unfollowed := true, recurses := true, apart := false }
def GunLagsSaid : Prop := gunLagsRow.holds Try.pinned (OpenSpec.ofChange gunLagsSpec)

/-- ITS FALSE NEIGHBOUR: 'it returns false'. Refute it at one input. -/
def gunLagsWrong : ChangeSpec := { name := "gunLags", fn := fun _ => fun
  | [d1, d2] => { results := [.lit (.bool false)], args := [d1, d2] }
  | _ => none }
def GunLagsWrongFalsely : Prop := gunLagsRow.holds Try.pinned (OpenSpec.ofChange gunLagsWrong)

/-- 'noongunlaw05.GunHeard': WHATEVER THE INPUT: true; the input reads as it did. -/
def gunHeardSpec : ChangeSpec := { name := "gunHeard", fn := fun _ => fun
  | [d1, d2, d3] => { results := [.lit (.bool true)], args := [d1, d2, d3] }
  | _ => none }
def gunHeardRow : OpenClaim := { program := "ytgiplkfdallmkaa", sum := "6de808dcef1b059e000923aa5380c87f7e8d40770e71e97dcd82b5ec097eab54", func := "noongun/noongunlaw05.GunHeard", spec := "gunHeard", unfollowed := true, recurses := true, apart := false }
def GunHeardSaid : Prop := gunHeardRow.holds Try.pinned (OpenSpec.ofChange gunHeardSpec)

/-- ITS FALSE NEIGHBOUR: 'it returns false'. Refute it at one input. -/
def gunHeardWrong : ChangeSpec := { name := "gunHeard", fn := fun _ => fun
  | [d1, d2, d3] => { results := [.lit (.bool false)], args := [d1, d2, d3] }
  | _ => none }
def GunHeardWrongFalsely : Prop := gunHeardRow.holds Try.pinned (OpenSpec.ofChange gunHeardWrong)

/-- 'noongunlaw05.GunSuits': WHATEVER THE INPUT: true; the input reads as it did. -/
def gunSuitsSpec : ChangeSpec := { name := "gunSuits", fn := fun _ => fun
  | [d1, d2, d3] => { results := [.lit (.bool true)], args := [d1, d2, d3] }
  | _ => none }
def gunSuitsRow : OpenClaim := { program := "ytgiplkfdallmkaa", sum := "6de808dcef1b059e000923aa5380c87f7e8d40770e71e97dcd82b5ec097eab54", func := "noongun/noongunlaw05.GunSuits", spec := "gunSuits", unfollowed := true, recurses := true, apart := false }
def GunSuitsSaid : Prop := gunSuitsRow.holds Try.pinned (OpenSpec.ofChange gunSuitsSpec)

/-- ITS FALSE NEIGHBOUR: 'it returns false'. Refute it at one input. -/
def gunSuitsWrong : ChangeSpec := { name := "gunSuits", fn := fun _ => fun
  | [d1, d2, d3] => { results := [.lit (.bool false)], args := [d1, d2, d3] }
  | _ => none }
def GunSuitsWrongFalsely : Prop := gunSuitsRow.holds Try.pinned (OpenSpec.ofChange gunSuitsWrong)

/-- 'noongunlaw05.GunRings': WHATEVER THE INPUT: true; the input reads as it did. -/
def gunRingsSpec : ChangeSpec := { name := "gunRings", fn := fun _ => fun
  | [d1, d2, d3] => { results := [.lit (.bool true)], args := [d1, d2, d3] }
  | _ => none }
def gunRingsRow : OpenClaim := { program := "ytgiplkfdallmkaa", sum := "6de808dcef1b059e000923aa5380c87f7e8d40770e71e97dcd82b5ec097eab54", func := "noongun/noongunlaw05.GunRings", spec := "gunRings", unfollowed := true, recurses := true, apart := false }
def GunRingsSaid : Prop := gunRingsRow.holds Try.pinned (OpenSpec.ofChange gunRingsSpec)

/-- ITS FALSE NEIGHBOUR: 'it returns false'. Refute it at one input. -/
def gunRingsWrong : ChangeSpec := { name := "gunRings", fn := fun _ => fun
  | [d1, d2, d3] => { results := [.lit (.bool false)], args := [d1, d2, d3] }
  | _ => none }
def GunRingsWrongFalsely : Prop := gunRingsRow.holds Try.pinned (OpenSpec.ofChange gunRingsWrong)

/-- 'noongunlaw05.GunFirst': WHATEVER THE INPUT: true; the input reads as it did. -/
def gunFirstSpec : ChangeSpec := { name := "gunFirst", fn := fun _ => fun
  | [d1, d2, d3] => { results := [.lit (.bool true)], args := [d1, d2, d3] }
  | _ => none }
def gunFirstRow : OpenClaim := { program := "ytgiplkfdallmkaa", sum := "6de808dcef1b059e000923aa5380c87f7e8d40770e71e97dcd82b5ec097eab54", func := "noongun/noongunlaw05.GunFirst", spec := "gunFirst", unfollowed := true, recurses := true, apart := false }
def GunFirstSaid : Prop := gunFirstRow.holds Try.pinned (OpenSpec.ofChange gunFirstSpec)

/-- ITS FALSE NEIGHBOUR: 'it returns false'. Refute it at one input. -/
def gunFirstWrong : ChangeSpec := { name := "gunFirst", fn := fun _ => fun
  | [d1, d2, d3] => { results := [.lit (.bool false)], args := [d1, d2, d3] }
  | _ => none }
def GunFirstWrongFalsely : Prop := gunFirstRow.holds Try.pinned (OpenSpec.ofChange gunFirstWrong)

/-- 'noongunlaw05.GunTables': WHATEVER THE INPUT: true; the input reads as it did. -/
def gunTablesSpec : ChangeSpec := { name := "gunTables", fn := fun _ => fun
  | [d1, d2, d3] => { results := [.lit (.bool true)], args := [d1, d2, d3] }
  | _ => none }
def gunTablesRow : OpenClaim := { program := "ytgiplkfdallmkaa", sum := "6de808dcef1b059e000923aa5380c87f7e8d40770e71e97dcd82b5ec097eab54", func := "noongun/noongunlaw05.GunTables", spec := "gunTables", unfollowed := true, recurses := true, apart := false }
def GunTablesSaid : Prop := gunTablesRow.holds Try.pinned (OpenSpec.ofChange gunTablesSpec)

/-- ITS FALSE NEIGHBOUR: 'it returns false'. Refute it at one input. -/
def gunTablesWrong : ChangeSpec := { name := "gunTables", fn := fun _ => fun
  | [d1, d2, d3] => { results := [.lit (.bool false)], args := [d1, d2, d3] }
  | _ => none }
def GunTablesWrongFalsely : Prop := gunTablesRow.holds Try.pinned (OpenSpec.ofChange gunTablesWrong)

/-- 'noongunlaw05.GunFewer': WHATEVER THE INPUT: true; the input reads as it did. -/
def gunFewerSpec : ChangeSpec := { name := "gunFewer", fn := fun _ => fun
  | [d1, d2, d3, d4] => { results := [.lit (.bool true)], args := [d1, d2, d3, d4] }
  | _ => none }
def gunFewerRow : OpenClaim := { program := "ytgiplkfdallmkaa", sum := "6de808dcef1b059e000923aa5380c87f7e8d40770e71e97dcd82b5ec097eab54", func := "noongun/noongunlaw05.GunFewer", spec := "gunFewer", unfollowed := true, recurses := true, apart := false }
def GunFewerSaid : Prop := gunFewerRow.holds Try.pinned (OpenSpec.ofChange gunFewerSpec)

/-- ITS FALSE NEIGHBOUR: 'it returns false'. Refute it at one input. -/
def gunFewerWrong : ChangeSpec := { name := "gunFewer", fn := fun _ => fun
  | [d1, d2, d3, d4] => { results := [.lit (.bool false)], args := [d1, d2, d3, d4] }
  | _ => none }
def GunFewerWrongFalsely : Prop := gunFewerRow.holds Try.pinned (OpenSpec.ofChange gunFewerWrong)

/-- 'noongunlaw05.GunWhere': WHATEVER THE INPUT: true; the input reads as it did. -/
def gunWhereSpec : ChangeSpec := { name := "gunWhere", fn := fun _ => fun
  | [d1, d2, d3] => { results := [.lit (.bool true)], args := [d1, d2, d3] }
  | _ => none }
def gunWhereRow : OpenClaim := { program := "ytgiplkfdallmkaa", sum := "6de808dcef1b059e000923aa5380c87f7e8d40770e71e97dcd82b5ec097eab54", func := "noongun/noongunlaw05.GunWhere", spec := "gunWhere", unfollowed := true, recurses := true, apart := false }
def GunWhereSaid : Prop := gunWhereRow.holds Try.pinned (OpenSpec.ofChange gunWhereSpec)

/-- ITS FALSE NEIGHBOUR: 'it returns false'. Refute it at one input. -/
def gunWhereWrong : ChangeSpec := { name := "gunWhere", fn := fun _ => fun
  | [d1, d2, d3] => { results := [.lit (.bool false)], args := [d1, d2, d3] }
  | _ => none }
def GunWhereWrongFalsely : Prop := gunWhereRow.holds Try.pinned (OpenSpec.ofChange gunWhereWrong)

/- THE SECOND FORM. 'bulk': how many values and letters a reading holds, each counted each time it is reached (what is shared counts as often as it is met; a slice's spare places count too). A statement '..UptoSaid' is the law's where the arguments, and the package variables that the reading takes, are together of bulk at most 1048576: NARROWER than '..Said'. Prove '..Said' where nothing that the law and all that it calls make is longer than what came in: it says more and counts as full. Else prove '..UptoSaid'. A law counts once. -/
mutual
def uptoBulk {H : Type} : DataW H → Nat
  | .lit (.string bytes) => bytes.length + 1
  | .lit _ => 1
  | .nil => 1
  | .ptr d => uptoBulk d + 1
  | .slice elems spare => uptoBulkAll elems + uptoBulkAll spare + 1
  | .agg parts => uptoBulkAll parts + 1
  | .iface _ d => uptoBulk d + 1
  | .map entries => uptoBulkEntries entries + 1
  | .held _ => 1
def uptoBulkAll {H : Type} : List (DataW H) → Nat
  | [] => 0
  | d :: r => uptoBulk d + uptoBulkAll r
def uptoBulkEntries {H : Type} : List (Lit × DataW H) → Nat
  | [] => 0
  | x :: r => uptoBulkEntry x + uptoBulkEntries r
def uptoBulkEntry {H : Type} : Lit × DataW H → Nat
  | (.string bytes, d) => bytes.length + uptoBulk d + 1
  | (_, d) => uptoBulk d + 1
 end
def uptoSmall : (H : Type) → List (DataW H) → Bool := fun _ ds => decide (uptoBulkAll ds ≤ 1048576)
def OpenSpec.upto (s : _root_.Go.ChangeSpec) : _root_.Go.OpenSpec := { _root_.Go.OpenSpec.ofChange s with cond := some uptoSmall }

/-- 'noongunlaw05.GunFarther', WHERE WHAT IT READS IS OF BULK AT MOST 1048576: true; the input reads as it did. -/
def gunFartherUptoRow : OpenClaim := { program := "ytgiplkfdallmkaa", sum := "6de808dcef1b059e000923aa5380c87f7e8d40770e71e97dcd82b5ec097eab54", func := "noongun/noongunlaw05.GunFarther", spec := "gunFarther", unfollowed := true, recurses := true, apart := false, narrowed := true }
def GunFartherUptoSaid : Prop := gunFartherUptoRow.holds Try.pinned (OpenSpec.upto gunFartherSpec)

/-- 'noongunlaw05.GunSounds', WHERE WHAT IT READS IS OF BULK AT MOST 1048576: true; the input reads as it did. -/
def gunSoundsUptoRow : OpenClaim := { program := "ytgiplkfdallmkaa", sum := "6de808dcef1b059e000923aa5380c87f7e8d40770e71e97dcd82b5ec097eab54", func := "noongun/noongunlaw05.GunSounds", spec := "gunSounds", unfollowed := true, recurses := true, apart := false, narrowed := true }
def GunSoundsUptoSaid : Prop := gunSoundsUptoRow.holds Try.pinned (OpenSpec.upto gunSoundsSpec)

/-- 'noongunlaw05.GunLags', WHERE WHAT IT READS IS OF BULK AT MOST 1048576: true; the input reads as it did. -/
def gunLagsUptoRow : OpenClaim := { program := "ytgiplkfdallmkaa", sum := "6de808dcef1b059e000923aa5380c87f7e8d40770e71e97dcd82b5ec097eab54", func := "noongun/noongunlaw05.GunLags", spec := "gunLags", unfollowed := true, recurses := true, apart := false, narrowed := true }
def GunLagsUptoSaid : Prop := gunLagsUptoRow.holds Try.pinned (OpenSpec.upto gunLagsSpec)

/-- 'noongunlaw05.GunHeard', WHERE WHAT IT READS IS OF BULK AT MOST 1048576: true; the input reads as it did. -/
def gunHeardUptoRow : OpenClaim := { program := "ytgiplkfdallmkaa", sum := "6de808dcef1b059e000923aa5380c87f7e8d40770e71e97dcd82b5ec097eab54", func := "noongun/noongunlaw05.GunHeard", spec := "gunHeard", unfollowed := true, recurses := true, apart := false, narrowed := true }
def GunHeardUptoSaid : Prop := gunHeardUptoRow.holds Try.pinned (OpenSpec.upto gunHeardSpec)

/-- 'noongunlaw05.GunSuits', WHERE WHAT IT READS IS OF BULK AT MOST 1048576: true; the input reads as it did. -/
def gunSuitsUptoRow : OpenClaim := { program := "ytgiplkfdallmkaa", sum := "6de808dcef1b059e000923aa5380c87f7e8d40770e71e97dcd82b5ec097eab54", func := "noongun/noongunlaw05.GunSuits", spec := "gunSuits", unfollowed := true, recurses := true, apart := false, narrowed := true }
def GunSuitsUptoSaid : Prop := gunSuitsUptoRow.holds Try.pinned (OpenSpec.upto gunSuitsSpec)

/-- 'noongunlaw05.GunRings', WHERE WHAT IT READS IS OF BULK AT MOST 1048576: true; the input reads as it did. -/
def gunRingsUptoRow : OpenClaim := { program := "ytgiplkfdallmkaa", sum := "6de808dcef1b059e000923aa5380c87f7e8d40770e71e97dcd82b5ec097eab54", func := "noongun/noongunlaw05.GunRings", spec := "gunRings", unfollowed := true, recurses := true, apart := false, narrowed := true }
def GunRingsUptoSaid : Prop := gunRingsUptoRow.holds Try.pinned (OpenSpec.upto gunRingsSpec)

/-- 'noongunlaw05.GunFirst', WHERE WHAT IT READS IS OF BULK AT MOST 1048576: true; the input reads as it did. -/
def gunFirstUptoRow : OpenClaim := { program := "ytgiplkfdallmkaa", sum := "6de808dcef1b059e000923aa5380c87f7e8d40770e71e97dcd82b5ec097eab54", func := "noongun/noongunlaw05.GunFirst", spec := "gunFirst", unfollowed := true, recurses := true, apart := false, narrowed := true }
def GunFirstUptoSaid : Prop := gunFirstUptoRow.holds Try.pinned (OpenSpec.upto gunFirstSpec)

/-- 'noongunlaw05.GunTables', WHERE WHAT IT READS IS OF BULK AT MOST 1048576: true; the input reads as it did. -/
def gunTablesUptoRow : OpenClaim := { program := "ytgiplkfdallmkaa", sum := "6de808dcef1b059e000923aa5380c87f7e8d40770e71e97dcd82b5ec097eab54", func := "noongun/noongunlaw05.GunTables", spec := "gunTables", unfollowed := true, recurses := true, apart := false, narrowed := true }
def GunTablesUptoSaid : Prop := gunTablesUptoRow.holds Try.pinned (OpenSpec.upto gunTablesSpec)

/-- 'noongunlaw05.GunFewer', WHERE WHAT IT READS IS OF BULK AT MOST 1048576: true; the input reads as it did. -/
def gunFewerUptoRow : OpenClaim := { program := "ytgiplkfdallmkaa", sum := "6de808dcef1b059e000923aa5380c87f7e8d40770e71e97dcd82b5ec097eab54", func := "noongun/noongunlaw05.GunFewer", spec := "gunFewer", unfollowed := true, recurses := true, apart := false, narrowed := true }
def GunFewerUptoSaid : Prop := gunFewerUptoRow.holds Try.pinned (OpenSpec.upto gunFewerSpec)

/-- 'noongunlaw05.GunWhere', WHERE WHAT IT READS IS OF BULK AT MOST 1048576: true; the input reads as it did. -/
def gunWhereUptoRow : OpenClaim := { program := "ytgiplkfdallmkaa", sum := "6de808dcef1b059e000923aa5380c87f7e8d40770e71e97dcd82b5ec097eab54", func := "noongun/noongunlaw05.GunWhere", spec := "gunWhere", unfollowed := true, recurses := true, apart := false, narrowed := true }
def GunWhereUptoSaid : Prop := gunWhereUptoRow.holds Try.pinned (OpenSpec.upto gunWhereSpec)

end Rows
end Go.Proofs.Ytgiplkfdallmkaa
