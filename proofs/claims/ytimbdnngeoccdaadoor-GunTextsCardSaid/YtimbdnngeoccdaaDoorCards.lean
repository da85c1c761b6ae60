/-
  DERIVED. GIVEN WITH THE SEED: THE CARDS: each row of YtimbdnngeoccdaaDoorRows.lean that lists a variable, with what it lists TIED to the program's text (the seventh form; the later family's looks); each row that meets fmt, with fmt's text TOLD by the authors' own Lean function (tested against real Go, not proved from fmt's source: count such statements apart). THE CARD IS WHAT COUNTS. Prove the row's statement (the work); the ties are given (YtimbdnngeoccdaaDoorTie.lean); close each card by the builder's one call (the guide's Derived/Test/ToyasCard.lean, 'card_holds'). Laid BY PROGRAM, IN A SANDBOX (cutbox-door.mjs). By AI agents, Wed Nov 11 2026. No macro, syntax, notation, axiom, sorry.
-/
import Derived.Test.YtimbdnngeoccdaaDoorRows
import GoSem.ClaimSeven
namespace Go.Proofs.YtimbdnngeoccdaaDoor
namespace Rows

/-- THE TIED CARD OF 'noongunlaw03.TransitTexts'. -/
def transitTextsCard : Claim7 := { stood := { row := transitTextsRow, standIns := [], harness := (true, "c9d271aa5c34b4af99017d58431b643153f319525dd2239445d361342effff36"), looks := true }, kinds := [], alts := [], laidByText := true, laidKinds := [.data, .data, .data, .data, .sentinel, .sentinel, .pinned], laidTests := true, laidLooks := .later }
def TransitTextsCardSaid : Prop := Claim7.holds Tryd.pinned (.plain (OpenSpec.ofChange transitTextsSpec)) transitTextsCard

/-- THE TIED CARD OF 'noongunlaw05.GunTexts'. -/
def gunTextsCard : Claim7 := { stood := { row := gunTextsRow, standIns := [], harness := (true, "c9d271aa5c34b4af99017d58431b643153f319525dd2239445d361342effff36"), looks := true }, kinds := [], alts := [], laidByText := true, laidKinds := [.data, .data, .data, .data, .sentinel, .sentinel, .pinned], laidTests := true, laidLooks := .later }
def GunTextsCardSaid : Prop := Claim7.holds Tryd.pinned (.plain (OpenSpec.ofChange gunTextsSpec)) gunTextsCard

/-- THE SECOND FORM's CARD OF 'noongunlaw03.TransitTexts'. -/
def transitTextsUptoCard : Claim7 := { stood := { row := transitTextsUptoRow, standIns := [], harness := (true, "c9d271aa5c34b4af99017d58431b643153f319525dd2239445d361342effff36"), looks := true }, kinds := [], alts := [], laidByText := true, laidKinds := [.data, .data, .data, .data, .sentinel, .sentinel, .pinned], laidTests := true, laidLooks := .later }
def TransitTextsUptoCardSaid : Prop := Claim7.holds Tryd.pinned (.plain (OpenSpec.upto transitTextsSpec)) transitTextsUptoCard

/-- THE SECOND FORM's CARD OF 'noongunlaw05.GunTexts'. -/
def gunTextsUptoCard : Claim7 := { stood := { row := gunTextsUptoRow, standIns := [], harness := (true, "c9d271aa5c34b4af99017d58431b643153f319525dd2239445d361342effff36"), looks := true }, kinds := [], alts := [], laidByText := true, laidKinds := [.data, .data, .data, .data, .sentinel, .sentinel, .pinned], laidTests := true, laidLooks := .later }
def GunTextsUptoCardSaid : Prop := Claim7.holds Tryd.pinned (.plain (OpenSpec.upto gunTextsSpec)) gunTextsUptoCard
end Rows
end Go.Proofs.YtimbdnngeoccdaaDoor
