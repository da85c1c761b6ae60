/-
  DERIVED. GIVEN WITH THE SEED: THE CARDS: each row of YtimbdnngeoccdaaGreatDoorRows.lean that lists a variable, with what it lists TIED to the program's text (the seventh form; the later family's looks); each row that meets fmt, with fmt's text TOLD by the authors' own Lean function (tested against real Go, not proved from fmt's source: count such statements apart). THE CARD IS WHAT COUNTS. Prove the row's statement (the work); the ties are given (YtimbdnngeoccdaaGreatDoorTie.lean); close each card by the builder's one call (the guide's Derived/Test/ToyasCard.lean, 'card_holds'). Laid BY PROGRAM, IN A SANDBOX (cutbox-door.mjs). By AI agents, Wed Nov 11 2026. No macro, syntax, notation, axiom, sorry.
-/
import Derived.Test.YtimbdnngeoccdaaGreatDoorRows
import GoSem.ClaimSeven
namespace Go.Proofs.YtimbdnngeoccdaaGreatDoor
namespace Rows

/-- THE TIED CARD OF 'noongunlaw04.BallTexts'. -/
def ballTextsCard : Claim7 := { stood := { row := ballTextsRow, standIns := [], harness := (true, "a7104bef0ef2b0388fe0752745c2ad712d73ebba9b27e5e5e6e228602daf64e6"), looks := true }, kinds := [], alts := [], laidByText := true, laidKinds := [.data, .data, .data, .data, .sentinel, .sentinel, .pinned], laidTests := true, laidLooks := .later }
def BallTextsCardSaid : Prop := Claim7.holds Tryz.pinned (.plain (OpenSpec.ofChange ballTextsSpec)) ballTextsCard

/-- THE TIED CARD OF 'noongunlaw08.NightTexts'. -/
def nightTextsCard : Claim7 := { stood := { row := nightTextsRow, standIns := [], harness := (true, "a7104bef0ef2b0388fe0752745c2ad712d73ebba9b27e5e5e6e228602daf64e6"), looks := true }, kinds := [], alts := [], laidByText := true, laidKinds := [.data, .data, .data, .data, .sentinel, .sentinel, .pinned], laidTests := true, laidLooks := .later }
def NightTextsCardSaid : Prop := Claim7.holds Tryz.pinned (.plain (OpenSpec.ofChange nightTextsSpec)) nightTextsCard

/-- THE SECOND FORM's CARD OF 'noongunlaw04.BallTexts'. -/
def ballTextsUptoCard : Claim7 := { stood := { row := ballTextsUptoRow, standIns := [], harness := (true, "a7104bef0ef2b0388fe0752745c2ad712d73ebba9b27e5e5e6e228602daf64e6"), looks := true }, kinds := [], alts := [], laidByText := true, laidKinds := [.data, .data, .data, .data, .sentinel, .sentinel, .pinned], laidTests := true, laidLooks := .later }
def BallTextsUptoCardSaid : Prop := Claim7.holds Tryz.pinned (.plain (OpenSpec.upto ballTextsSpec)) ballTextsUptoCard

/-- THE SECOND FORM's CARD OF 'noongunlaw08.NightTexts'. -/
def nightTextsUptoCard : Claim7 := { stood := { row := nightTextsUptoRow, standIns := [], harness := (true, "a7104bef0ef2b0388fe0752745c2ad712d73ebba9b27e5e5e6e228602daf64e6"), looks := true }, kinds := [], alts := [], laidByText := true, laidKinds := [.data, .data, .data, .data, .sentinel, .sentinel, .pinned], laidTests := true, laidLooks := .later }
def NightTextsUptoCardSaid : Prop := Claim7.holds Tryz.pinned (.plain (OpenSpec.upto nightTextsSpec)) nightTextsUptoCard
end Rows
end Go.Proofs.YtimbdnngeoccdaaGreatDoor
