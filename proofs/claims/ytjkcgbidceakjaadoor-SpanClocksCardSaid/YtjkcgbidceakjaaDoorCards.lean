/-
  DERIVED. GIVEN WITH THE SEED: THE CARDS: each row of YtjkcgbidceakjaaDoorRows.lean that lists a variable, with what it lists TIED to the program's text (the seventh form; the later family's looks); each row that meets fmt, with fmt's text TOLD by the authors' own Lean function (tested against real Go, not proved from fmt's source: count such statements apart). THE CARD IS WHAT COUNTS. Prove the row's statement (the work); the ties are given (YtjkcgbidceakjaaDoorTie.lean); close each card by the builder's one call (the guide's Derived/Test/ToyasCard.lean, 'card_holds'). Laid BY PROGRAM, IN A SANDBOX (cutbox-door.mjs). By AI agents, Wed Nov 11 2026. No macro, syntax, notation, axiom, sorry.
-/
import Derived.Test.YtjkcgbidceakjaaDoorRows
import GoSem.ClaimSeven
namespace Go.Proofs.YtjkcgbidceakjaaDoor
namespace Rows

/-- THE TIED CARD OF 'noongunlaw01.SpanScales'. -/
def spanScalesCard : Claim7 := { stood := { row := spanScalesRow, standIns := [], harness := (true, "991c1dc99ca211da0926b68df02f4099597c99f3b5b754921f2fca7e963eebe4"), looks := true }, kinds := [], alts := [], laidByText := true, laidKinds := [.data, .data, .data], laidTests := true, laidLooks := .later }
def SpanScalesCardSaid : Prop := Claim7.holds Tryd.pinned (.plain (OpenSpec.ofChange spanScalesSpec)) spanScalesCard

/-- THE TIED CARD OF 'noongunlaw01.SpanSkies'. -/
def spanSkiesCard : Claim7 := { stood := { row := spanSkiesRow, standIns := [], harness := (true, "991c1dc99ca211da0926b68df02f4099597c99f3b5b754921f2fca7e963eebe4"), looks := true }, kinds := [], alts := [], laidByText := true, laidKinds := [.data, .data, .data], laidTests := true, laidLooks := .later }
def SpanSkiesCardSaid : Prop := Claim7.holds Tryd.pinned (.plain (OpenSpec.ofChange spanSkiesSpec)) spanSkiesCard

/-- THE TIED CARD OF 'noongunlaw01.SpanSpans'. -/
def spanSpansCard : Claim7 := { stood := { row := spanSpansRow, standIns := [], harness := (true, "991c1dc99ca211da0926b68df02f4099597c99f3b5b754921f2fca7e963eebe4"), looks := true }, kinds := [], alts := [], laidByText := true, laidKinds := [.data, .data, .data], laidTests := true, laidLooks := .later }
def SpanSpansCardSaid : Prop := Claim7.holds Tryd.pinned (.plain (OpenSpec.ofChange spanSpansSpec)) spanSpansCard

/-- THE TIED CARD OF 'noongunlaw01.SpanMeets'. -/
def spanMeetsCard : Claim7 := { stood := { row := spanMeetsRow, standIns := [], harness := (true, "991c1dc99ca211da0926b68df02f4099597c99f3b5b754921f2fca7e963eebe4"), looks := true }, kinds := [], alts := [], laidByText := true, laidKinds := [.data, .data, .data], laidTests := true, laidLooks := .later }
def SpanMeetsCardSaid : Prop := Claim7.holds Tryd.pinned (.plain (OpenSpec.ofChange spanMeetsSpec)) spanMeetsCard

/-- THE TIED CARD OF 'noongunlaw01.SpanDays'. -/
def spanDaysCard : Claim7 := { stood := { row := spanDaysRow, standIns := [], harness := (true, "991c1dc99ca211da0926b68df02f4099597c99f3b5b754921f2fca7e963eebe4"), looks := true }, kinds := [], alts := [], laidByText := true, laidKinds := [.data, .data, .data], laidTests := true, laidLooks := .later }
def SpanDaysCardSaid : Prop := Claim7.holds Tryd.pinned (.plain (OpenSpec.ofChange spanDaysSpec)) spanDaysCard

/-- THE TIED CARD OF 'noongunlaw01.SpanNextDays'. -/
def spanNextDaysCard : Claim7 := { stood := { row := spanNextDaysRow, standIns := [], harness := (true, "991c1dc99ca211da0926b68df02f4099597c99f3b5b754921f2fca7e963eebe4"), looks := true }, kinds := [], alts := [], laidByText := true, laidKinds := [.data, .data, .data], laidTests := true, laidLooks := .later }
def SpanNextDaysCardSaid : Prop := Claim7.holds Tryd.pinned (.plain (OpenSpec.ofChange spanNextDaysSpec)) spanNextDaysCard

/-- THE TIED CARD OF 'noongunlaw01.SpanRatios'. -/
def spanRatiosCard : Claim7 := { stood := { row := spanRatiosRow, standIns := [], harness := (true, "991c1dc99ca211da0926b68df02f4099597c99f3b5b754921f2fca7e963eebe4"), looks := true }, kinds := [], alts := [], laidByText := true, laidKinds := [.data, .data, .data], laidTests := true, laidLooks := .later }
def SpanRatiosCardSaid : Prop := Claim7.holds Tryd.pinned (.plain (OpenSpec.ofChange spanRatiosSpec)) spanRatiosCard

/-- THE TIED CARD OF 'noongunlaw01.SpanHas'. -/
def spanHasCard : Claim7 := { stood := { row := spanHasRow, standIns := [], harness := (true, "991c1dc99ca211da0926b68df02f4099597c99f3b5b754921f2fca7e963eebe4"), looks := true }, kinds := [], alts := [], laidByText := true, laidKinds := [.data, .data, .data], laidTests := true, laidLooks := .later }
def SpanHasCardSaid : Prop := Claim7.holds Tryd.pinned (.plain (OpenSpec.ofChange spanHasSpec)) spanHasCard

/-- THE TIED CARD OF 'noongunlaw01.SpanSums'. -/
def spanSumsCard : Claim7 := { stood := { row := spanSumsRow, standIns := [], harness := (true, "991c1dc99ca211da0926b68df02f4099597c99f3b5b754921f2fca7e963eebe4"), looks := true }, kinds := [], alts := [], laidByText := true, laidKinds := [.data, .data, .data], laidTests := true, laidLooks := .later }
def SpanSumsCardSaid : Prop := Claim7.holds Tryd.pinned (.plain (OpenSpec.ofChange spanSumsSpec)) spanSumsCard

/-- THE TIED CARD OF 'noongunlaw01.SpanFractions'. -/
def spanFractionsCard : Claim7 := { stood := { row := spanFractionsRow, standIns := [], harness := (true, "991c1dc99ca211da0926b68df02f4099597c99f3b5b754921f2fca7e963eebe4"), looks := true }, kinds := [], alts := [], laidByText := true, laidKinds := [.data, .data, .data], laidTests := true, laidLooks := .later }
def SpanFractionsCardSaid : Prop := Claim7.holds Tryd.pinned (.plain (OpenSpec.ofChange spanFractionsSpec)) spanFractionsCard

/-- THE TIED CARD OF 'noongunlaw01.SpanClocks'. -/
def spanClocksCard : Claim7 := { stood := { row := spanClocksRow, standIns := [], harness := (true, "991c1dc99ca211da0926b68df02f4099597c99f3b5b754921f2fca7e963eebe4"), looks := true }, kinds := [], alts := [], laidByText := true, laidKinds := [.data, .data, .data, .sentinel, .sentinel], laidTests := true, laidLooks := .later }
def SpanClocksCardSaid : Prop := Claim7.holds Tryd.pinned (.plain (OpenSpec.ofChange spanClocksSpec)) spanClocksCard

/-- THE SECOND FORM's CARD OF 'noongunlaw01.SpanScales'. -/
def spanScalesUptoCard : Claim7 := { stood := { row := spanScalesUptoRow, standIns := [], harness := (true, "991c1dc99ca211da0926b68df02f4099597c99f3b5b754921f2fca7e963eebe4"), looks := true }, kinds := [], alts := [], laidByText := true, laidKinds := [.data, .data, .data], laidTests := true, laidLooks := .later }
def SpanScalesUptoCardSaid : Prop := Claim7.holds Tryd.pinned (.plain (OpenSpec.upto spanScalesSpec)) spanScalesUptoCard

/-- THE SECOND FORM's CARD OF 'noongunlaw01.SpanSkies'. -/
def spanSkiesUptoCard : Claim7 := { stood := { row := spanSkiesUptoRow, standIns := [], harness := (true, "991c1dc99ca211da0926b68df02f4099597c99f3b5b754921f2fca7e963eebe4"), looks := true }, kinds := [], alts := [], laidByText := true, laidKinds := [.data, .data, .data], laidTests := true, laidLooks := .later }
def SpanSkiesUptoCardSaid : Prop := Claim7.holds Tryd.pinned (.plain (OpenSpec.upto spanSkiesSpec)) spanSkiesUptoCard

/-- THE SECOND FORM's CARD OF 'noongunlaw01.SpanSpans'. -/
def spanSpansUptoCard : Claim7 := { stood := { row := spanSpansUptoRow, standIns := [], harness := (true, "991c1dc99ca211da0926b68df02f4099597c99f3b5b754921f2fca7e963eebe4"), looks := true }, kinds := [], alts := [], laidByText := true, laidKinds := [.data, .data, .data], laidTests := true, laidLooks := .later }
def SpanSpansUptoCardSaid : Prop := Claim7.holds Tryd.pinned (.plain (OpenSpec.upto spanSpansSpec)) spanSpansUptoCard

/-- THE SECOND FORM's CARD OF 'noongunlaw01.SpanMeets'. -/
def spanMeetsUptoCard : Claim7 := { stood := { row := spanMeetsUptoRow, standIns := [], harness := (true, "991c1dc99ca211da0926b68df02f4099597c99f3b5b754921f2fca7e963eebe4"), looks := true }, kinds := [], alts := [], laidByText := true, laidKinds := [.data, .data, .data], laidTests := true, laidLooks := .later }
def SpanMeetsUptoCardSaid : Prop := Claim7.holds Tryd.pinned (.plain (OpenSpec.upto spanMeetsSpec)) spanMeetsUptoCard

/-- THE SECOND FORM's CARD OF 'noongunlaw01.SpanDays'. -/
def spanDaysUptoCard : Claim7 := { stood := { row := spanDaysUptoRow, standIns := [], harness := (true, "991c1dc99ca211da0926b68df02f4099597c99f3b5b754921f2fca7e963eebe4"), looks := true }, kinds := [], alts := [], laidByText := true, laidKinds := [.data, .data, .data], laidTests := true, laidLooks := .later }
def SpanDaysUptoCardSaid : Prop := Claim7.holds Tryd.pinned (.plain (OpenSpec.upto spanDaysSpec)) spanDaysUptoCard

/-- THE SECOND FORM's CARD OF 'noongunlaw01.SpanNextDays'. -/
def spanNextDaysUptoCard : Claim7 := { stood := { row := spanNextDaysUptoRow, standIns := [], harness := (true, "991c1dc99ca211da0926b68df02f4099597c99f3b5b754921f2fca7e963eebe4"), looks := true }, kinds := [], alts := [], laidByText := true, laidKinds := [.data, .data, .data], laidTests := true, laidLooks := .later }
def SpanNextDaysUptoCardSaid : Prop := Claim7.holds Tryd.pinned (.plain (OpenSpec.upto spanNextDaysSpec)) spanNextDaysUptoCard

/-- THE SECOND FORM's CARD OF 'noongunlaw01.SpanRatios'. -/
def spanRatiosUptoCard : Claim7 := { stood := { row := spanRatiosUptoRow, standIns := [], harness := (true, "991c1dc99ca211da0926b68df02f4099597c99f3b5b754921f2fca7e963eebe4"), looks := true }, kinds := [], alts := [], laidByText := true, laidKinds := [.data, .data, .data], laidTests := true, laidLooks := .later }
def SpanRatiosUptoCardSaid : Prop := Claim7.holds Tryd.pinned (.plain (OpenSpec.upto spanRatiosSpec)) spanRatiosUptoCard

/-- THE SECOND FORM's CARD OF 'noongunlaw01.SpanHas'. -/
def spanHasUptoCard : Claim7 := { stood := { row := spanHasUptoRow, standIns := [], harness := (true, "991c1dc99ca211da0926b68df02f4099597c99f3b5b754921f2fca7e963eebe4"), looks := true }, kinds := [], alts := [], laidByText := true, laidKinds := [.data, .data, .data], laidTests := true, laidLooks := .later }
def SpanHasUptoCardSaid : Prop := Claim7.holds Tryd.pinned (.plain (OpenSpec.upto spanHasSpec)) spanHasUptoCard

/-- THE SECOND FORM's CARD OF 'noongunlaw01.SpanSums'. -/
def spanSumsUptoCard : Claim7 := { stood := { row := spanSumsUptoRow, standIns := [], harness := (true, "991c1dc99ca211da0926b68df02f4099597c99f3b5b754921f2fca7e963eebe4"), looks := true }, kinds := [], alts := [], laidByText := true, laidKinds := [.data, .data, .data], laidTests := true, laidLooks := .later }
def SpanSumsUptoCardSaid : Prop := Claim7.holds Tryd.pinned (.plain (OpenSpec.upto spanSumsSpec)) spanSumsUptoCard

/-- THE SECOND FORM's CARD OF 'noongunlaw01.SpanFractions'. -/
def spanFractionsUptoCard : Claim7 := { stood := { row := spanFractionsUptoRow, standIns := [], harness := (true, "991c1dc99ca211da0926b68df02f4099597c99f3b5b754921f2fca7e963eebe4"), looks := true }, kinds := [], alts := [], laidByText := true, laidKinds := [.data, .data, .data], laidTests := true, laidLooks := .later }
def SpanFractionsUptoCardSaid : Prop := Claim7.holds Tryd.pinned (.plain (OpenSpec.upto spanFractionsSpec)) spanFractionsUptoCard

/-- THE SECOND FORM's CARD OF 'noongunlaw01.SpanClocks'. -/
def spanClocksUptoCard : Claim7 := { stood := { row := spanClocksUptoRow, standIns := [], harness := (true, "991c1dc99ca211da0926b68df02f4099597c99f3b5b754921f2fca7e963eebe4"), looks := true }, kinds := [], alts := [], laidByText := true, laidKinds := [.data, .data, .data, .sentinel, .sentinel], laidTests := true, laidLooks := .later }
def SpanClocksUptoCardSaid : Prop := Claim7.holds Tryd.pinned (.plain (OpenSpec.upto spanClocksSpec)) spanClocksUptoCard
end Rows
end Go.Proofs.YtjkcgbidceakjaaDoor
