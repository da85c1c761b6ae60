/-
  NARROWER THAN 'FOR EVERY INPUT', by the rows' own cells (each row's printed sentence says how): SpanScales: laid · SpanSkies: laid · SpanSpans: laid · SpanMeets: laid · SpanDays: laid · SpanNextDays: laid · SpanRatios: laid · SpanHas: laid · SpanSums: laid · SpanFractions: laid · SpanClocks: laid.
  DERIVED. THE GIVEN ROWS OF THIS SEAT. 11 by the template 'for every input the law returns true; each argument reads behind the call as it read before'; 0 by the template 'total and deterministic' (their statements: YtjkcgbidceakjaaDoorTotals.lean).
  GIVEN WITH THE SEED: the statements are not yours to turn. If you find one false, say at which input.
  Laid BY PROGRAM, IN A SANDBOX (cutbox-rows.mjs): the forced cells as the released guide's own fill.sh prints them over the translation fba1f73975f06e5f… (all of the seat's roots in one cut). By AI agents, Wed Nov 11 2026. No macro, syntax, notation, axiom, sorry.
-/
import Derived.Test.YtjkcgbidceakjaaDoorChecked
import GoSem.Claim
import GoSem.ClaimJoined
import GoSem.ClaimMapViews
import Derived.JoinedTies
import Derived.KernelRfl
namespace Go.Proofs.YtjkcgbidceakjaaDoor
/- THE CELL 'sum', in the pinned program and in every row, IS THE sha256 OF THE DUMP (.gsa) THAT YtjkcgbidceakjaaDoorProg.lean LOADS. Nothing in Lean hashes anything: it is a label: what it is worth is what the hold of that sum in a sandbox is worth. -/
noncomputable def Tryd.pinned : Pinned := { name := "ytjkcgbidceakjaadoor", sum := "fba1f73975f06e5ff03724e79a03edc1ad6ade885f2f3068257f6c75ef8c7bce", checked := Tryd.checked }
namespace Rows
def none {H : Type} : Left H := { results := [], args := [] }

/- WHAT THE LISTED PACKAGE-LEVEL VARIABLES READ AS WHEN THE CALL BEGINS. Each datum BY PROGRAM (the guide's laid-datum.mjs) off the statement by which the dump's own 'gosem.cut.vars' lays the variable. In a bare row this is a premise. The card (YtjkcgbidceakjaaDoorCards.lean) ties it to the program's text. -/
def laid_math_bits_deBruijn32tab {H : Type} : DataW H := .agg [.lit (.int .u8 0), .lit (.int .u8 1), .lit (.int .u8 28), .lit (.int .u8 2), .lit (.int .u8 29), .lit (.int .u8 14), .lit (.int .u8 24), .lit (.int .u8 3), .lit (.int .u8 30), .lit (.int .u8 22), .lit (.int .u8 20), .lit (.int .u8 15), .lit (.int .u8 25), .lit (.int .u8 17), .lit (.int .u8 4), .lit (.int .u8 8), .lit (.int .u8 31), .lit (.int .u8 27), .lit (.int .u8 13), .lit (.int .u8 23), .lit (.int .u8 21), .lit (.int .u8 19), .lit (.int .u8 16), .lit (.int .u8 7), .lit (.int .u8 26), .lit (.int .u8 12), .lit (.int .u8 18), .lit (.int .u8 6), .lit (.int .u8 11), .lit (.int .u8 5), .lit (.int .u8 10), .lit (.int .u8 9)]
def laid_math_bits_deBruijn64tab {H : Type} : DataW H := .agg [.lit (.int .u8 0), .lit (.int .u8 1), .lit (.int .u8 56), .lit (.int .u8 2), .lit (.int .u8 57), .lit (.int .u8 49), .lit (.int .u8 28), .lit (.int .u8 3), .lit (.int .u8 61), .lit (.int .u8 58), .lit (.int .u8 42), .lit (.int .u8 50), .lit (.int .u8 38), .lit (.int .u8 29), .lit (.int .u8 17), .lit (.int .u8 4), .lit (.int .u8 62), .lit (.int .u8 47), .lit (.int .u8 59), .lit (.int .u8 36), .lit (.int .u8 45), .lit (.int .u8 43), .lit (.int .u8 51), .lit (.int .u8 22), .lit (.int .u8 53), .lit (.int .u8 39), .lit (.int .u8 33), .lit (.int .u8 30), .lit (.int .u8 24), .lit (.int .u8 18), .lit (.int .u8 12), .lit (.int .u8 5), .lit (.int .u8 63), .lit (.int .u8 55), .lit (.int .u8 48), .lit (.int .u8 27), .lit (.int .u8 60), .lit (.int .u8 41), .lit (.int .u8 37), .lit (.int .u8 16), .lit (.int .u8 46), .lit (.int .u8 35), .lit (.int .u8 44), .lit (.int .u8 21), .lit (.int .u8 52), .lit (.int .u8 32), .lit (.int .u8 23), .lit (.int .u8 11), .lit (.int .u8 54), .lit (.int .u8 26), .lit (.int .u8 40), .lit (.int .u8 15), .lit (.int .u8 34), .lit (.int .u8 20), .lit (.int .u8 31), .lit (.int .u8 10), .lit (.int .u8 25), .lit (.int .u8 14), .lit (.int .u8 19), .lit (.int .u8 9), .lit (.int .u8 13), .lit (.int .u8 8), .lit (.int .u8 7), .lit (.int .u8 6)]
def laid_internal_strconv_uint64pow10 {H : Type} : DataW H := .agg [.lit (.int .u64 1), .lit (.int .u64 10), .lit (.int .u64 100), .lit (.int .u64 1000), .lit (.int .u64 10000), .lit (.int .u64 100000), .lit (.int .u64 1000000), .lit (.int .u64 10000000), .lit (.int .u64 100000000), .lit (.int .u64 1000000000), .lit (.int .u64 10000000000), .lit (.int .u64 100000000000), .lit (.int .u64 1000000000000), .lit (.int .u64 10000000000000), .lit (.int .u64 100000000000000), .lit (.int .u64 1000000000000000), .lit (.int .u64 10000000000000000), .lit (.int .u64 100000000000000000), .lit (.int .u64 1000000000000000000), .lit (.int .u64 10000000000000000000)]
def laid_strconv_ErrRange {H : Type} : DataW H := .iface "*errors.errorString" (.ptr (.agg [.lit (.string [118, 97, 108, 117, 101, 32, 111, 117, 116, 32, 111, 102, 32, 114, 97, 110, 103, 101])]))
def laid_strconv_ErrSyntax {H : Type} : DataW H := .iface "*errors.errorString" (.ptr (.agg [.lit (.string [105, 110, 118, 97, 108, 105, 100, 32, 115, 121, 110, 116, 97, 120])]))

/-- 'noongunlaw01.SpanScales': WHATEVER THE INPUT: true; the input reads as it did. -/
def spanScalesSpec : ChangeSpec := { name := "spanScales", fn := fun _ => fun
  | [d1, d2] => { results := [.lit (.bool true)], args := [d1, d2] }
  | _ => none }
def spanScalesRow : OpenClaim := { program := "ytjkcgbidceakjaadoor", sum := "fba1f73975f06e5ff03724e79a03edc1ad6ade885f2f3068257f6c75ef8c7bce", func := "noongun/noongunlaw01.SpanScales", spec := "spanScales", unfollowed := true, recurses := true, named := ["internal/strconv.uint64pow10", "math/bits.deBruijn32tab", "math/bits.deBruijn64tab"], apart := false, laid := [("math/bits.deBruijn32tab", laid_math_bits_deBruijn32tab), ("math/bits.deBruijn64tab", laid_math_bits_deBruijn64tab), ("internal/strconv.uint64pow10", laid_internal_strconv_uint64pow10)] }
def SpanScalesSaid : Prop := spanScalesRow.holds Tryd.pinned (OpenSpec.ofChange spanScalesSpec)

/-- ITS FALSE NEIGHBOUR: 'it returns false'. Refute it at one input. -/
def spanScalesWrong : ChangeSpec := { name := "spanScales", fn := fun _ => fun
  | [d1, d2] => { results := [.lit (.bool false)], args := [d1, d2] }
  | _ => none }
def SpanScalesWrongFalsely : Prop := spanScalesRow.holds Tryd.pinned (OpenSpec.ofChange spanScalesWrong)

/-- 'noongunlaw01.SpanSkies': WHATEVER THE INPUT: true; the input reads as it did. -/
def spanSkiesSpec : ChangeSpec := { name := "spanSkies", fn := fun _ => fun
  | [d1, d2] => { results := [.lit (.bool true)], args := [d1, d2] }
  | _ => none }
def spanSkiesRow : OpenClaim := { program := "ytjkcgbidceakjaadoor", sum := "fba1f73975f06e5ff03724e79a03edc1ad6ade885f2f3068257f6c75ef8c7bce", func := "noongun/noongunlaw01.SpanSkies", spec := "spanSkies", unfollowed := true, recurses := true, named := ["internal/strconv.uint64pow10", "math/bits.deBruijn32tab", "math/bits.deBruijn64tab"], apart := false, laid := [("math/bits.deBruijn32tab", laid_math_bits_deBruijn32tab), ("math/bits.deBruijn64tab", laid_math_bits_deBruijn64tab), ("internal/strconv.uint64pow10", laid_internal_strconv_uint64pow10)] }
def SpanSkiesSaid : Prop := spanSkiesRow.holds Tryd.pinned (OpenSpec.ofChange spanSkiesSpec)

/-- ITS FALSE NEIGHBOUR: 'it returns false'. Refute it at one input. -/
def spanSkiesWrong : ChangeSpec := { name := "spanSkies", fn := fun _ => fun
  | [d1, d2] => { results := [.lit (.bool false)], args := [d1, d2] }
  | _ => none }
def SpanSkiesWrongFalsely : Prop := spanSkiesRow.holds Tryd.pinned (OpenSpec.ofChange spanSkiesWrong)

/-- 'noongunlaw01.SpanSpans': WHATEVER THE INPUT: true; the input reads as it did. -/
def spanSpansSpec : ChangeSpec := { name := "spanSpans", fn := fun _ => fun
  | [d1, d2] => { results := [.lit (.bool true)], args := [d1, d2] }
  | _ => none }
def spanSpansRow : OpenClaim := { program := "ytjkcgbidceakjaadoor", sum := "fba1f73975f06e5ff03724e79a03edc1ad6ade885f2f3068257f6c75ef8c7bce", func := "noongun/noongunlaw01.SpanSpans", spec := "spanSpans", unfollowed := true, recurses := true, named := ["internal/strconv.uint64pow10", "math/bits.deBruijn32tab", "math/bits.deBruijn64tab"], apart := false, laid := [("math/bits.deBruijn32tab", laid_math_bits_deBruijn32tab), ("math/bits.deBruijn64tab", laid_math_bits_deBruijn64tab), ("internal/strconv.uint64pow10", laid_internal_strconv_uint64pow10)] }
def SpanSpansSaid : Prop := spanSpansRow.holds Tryd.pinned (OpenSpec.ofChange spanSpansSpec)

/-- ITS FALSE NEIGHBOUR: 'it returns false'. Refute it at one input. -/
def spanSpansWrong : ChangeSpec := { name := "spanSpans", fn := fun _ => fun
  | [d1, d2] => { results := [.lit (.bool false)], args := [d1, d2] }
  | _ => none }
def SpanSpansWrongFalsely : Prop := spanSpansRow.holds Tryd.pinned (OpenSpec.ofChange spanSpansWrong)

/-- 'noongunlaw01.SpanMeets': WHATEVER THE INPUT: true; the input reads as it did. -/
def spanMeetsSpec : ChangeSpec := { name := "spanMeets", fn := fun _ => fun
  | [d1, d2, d3] => { results := [.lit (.bool true)], args := [d1, d2, d3] }
  | _ => none }
def spanMeetsRow : OpenClaim := { program := "ytjkcgbidceakjaadoor", sum := "fba1f73975f06e5ff03724e79a03edc1ad6ade885f2f3068257f6c75ef8c7bce", func := "noongun/noongunlaw01.SpanMeets", spec := "spanMeets", unfollowed := true, recurses := true, named := ["internal/strconv.uint64pow10", "math/bits.deBruijn32tab", "math/bits.deBruijn64tab"], apart := false, laid := [("math/bits.deBruijn32tab", laid_math_bits_deBruijn32tab), ("math/bits.deBruijn64tab", laid_math_bits_deBruijn64tab), ("internal/strconv.uint64pow10", laid_internal_strconv_uint64pow10)] }
def SpanMeetsSaid : Prop := spanMeetsRow.holds Tryd.pinned (OpenSpec.ofChange spanMeetsSpec)

/-- ITS FALSE NEIGHBOUR: 'it returns false'. Refute it at one input. -/
def spanMeetsWrong : ChangeSpec := { name := "spanMeets", fn := fun _ => fun
  | [d1, d2, d3] => { results := [.lit (.bool false)], args := [d1, d2, d3] }
  | _ => none }
def SpanMeetsWrongFalsely : Prop := spanMeetsRow.holds Tryd.pinned (OpenSpec.ofChange spanMeetsWrong)

/-- 'noongunlaw01.SpanDays': WHATEVER THE INPUT: true; the input reads as it did. -/
def spanDaysSpec : ChangeSpec := { name := "spanDays", fn := fun _ => fun
  | [d1, d2, d3] => { results := [.lit (.bool true)], args := [d1, d2, d3] }
  | _ => none }
def spanDaysRow : OpenClaim := { program := "ytjkcgbidceakjaadoor", sum := "fba1f73975f06e5ff03724e79a03edc1ad6ade885f2f3068257f6c75ef8c7bce", func := "noongun/noongunlaw01.SpanDays", spec := "spanDays", unfollowed := true, recurses := true, named := ["internal/strconv.uint64pow10", "math/bits.deBruijn32tab", "math/bits.deBruijn64tab"], apart := false, laid := [("math/bits.deBruijn32tab", laid_math_bits_deBruijn32tab), ("math/bits.deBruijn64tab", laid_math_bits_deBruijn64tab), ("internal/strconv.uint64pow10", laid_internal_strconv_uint64pow10)] }
def SpanDaysSaid : Prop := spanDaysRow.holds Tryd.pinned (OpenSpec.ofChange spanDaysSpec)

/-- ITS FALSE NEIGHBOUR: 'it returns false'. Refute it at one input. -/
def spanDaysWrong : ChangeSpec := { name := "spanDays", fn := fun _ => fun
  | [d1, d2, d3] => { results := [.lit (.bool false)], args := [d1, d2, d3] }
  | _ => none }
def SpanDaysWrongFalsely : Prop := spanDaysRow.holds Tryd.pinned (OpenSpec.ofChange spanDaysWrong)

/-- 'noongunlaw01.SpanNextDays': WHATEVER THE INPUT: true; the input reads as it did. -/
def spanNextDaysSpec : ChangeSpec := { name := "spanNextDays", fn := fun _ => fun
  | [d] => { results := [.lit (.bool true)], args := [d] }
  | _ => none }
def spanNextDaysRow : OpenClaim := { program := "ytjkcgbidceakjaadoor", sum := "fba1f73975f06e5ff03724e79a03edc1ad6ade885f2f3068257f6c75ef8c7bce", func := "noongun/noongunlaw01.SpanNextDays", spec := "spanNextDays", unfollowed := true, recurses := true, named := ["internal/strconv.uint64pow10", "math/bits.deBruijn32tab", "math/bits.deBruijn64tab"], apart := false, laid := [("math/bits.deBruijn32tab", laid_math_bits_deBruijn32tab), ("math/bits.deBruijn64tab", laid_math_bits_deBruijn64tab), ("internal/strconv.uint64pow10", laid_internal_strconv_uint64pow10)] }
def SpanNextDaysSaid : Prop := spanNextDaysRow.holds Tryd.pinned (OpenSpec.ofChange spanNextDaysSpec)

/-- ITS FALSE NEIGHBOUR: 'it returns false'. Refute it at one input. -/
def spanNextDaysWrong : ChangeSpec := { name := "spanNextDays", fn := fun _ => fun
  | [d] => { results := [.lit (.bool false)], args := [d] }
  | _ => none }
def SpanNextDaysWrongFalsely : Prop := spanNextDaysRow.holds Tryd.pinned (OpenSpec.ofChange spanNextDaysWrong)

/-- 'noongunlaw01.SpanRatios': WHATEVER THE INPUT: true; the input reads as it did. -/
def spanRatiosSpec : ChangeSpec := { name := "spanRatios", fn := fun _ => fun
  | [d1, d2, d3] => { results := [.lit (.bool true)], args := [d1, d2, d3] }
  | _ => none }
def spanRatiosRow : OpenClaim := { program := "ytjkcgbidceakjaadoor", sum := "fba1f73975f06e5ff03724e79a03edc1ad6ade885f2f3068257f6c75ef8c7bce", func := "noongun/noongunlaw01.SpanRatios", spec := "spanRatios", unfollowed := true, recurses := true, named := ["internal/strconv.uint64pow10", "math/bits.deBruijn32tab", "math/bits.deBruijn64tab"], apart := false, laid := [("math/bits.deBruijn32tab", laid_math_bits_deBruijn32tab), ("math/bits.deBruijn64tab", laid_math_bits_deBruijn64tab), ("internal/strconv.uint64pow10", laid_internal_strconv_uint64pow10)] }
def SpanRatiosSaid : Prop := spanRatiosRow.holds Tryd.pinned (OpenSpec.ofChange spanRatiosSpec)

/-- ITS FALSE NEIGHBOUR: 'it returns false'. Refute it at one input. -/
def spanRatiosWrong : ChangeSpec := { name := "spanRatios", fn := fun _ => fun
  | [d1, d2, d3] => { results := [.lit (.bool false)], args := [d1, d2, d3] }
  | _ => none }
def SpanRatiosWrongFalsely : Prop := spanRatiosRow.holds Tryd.pinned (OpenSpec.ofChange spanRatiosWrong)

/-- 'noongunlaw01.SpanHas': WHATEVER THE INPUT: true; the input reads as it did. -/
def spanHasSpec : ChangeSpec := { name := "spanHas", fn := fun _ => fun
  | [d1, d2, d3] => { results := [.lit (.bool true)], args := [d1, d2, d3] }
  | _ => none }
def spanHasRow : OpenClaim := { program := "ytjkcgbidceakjaadoor", sum := "fba1f73975f06e5ff03724e79a03edc1ad6ade885f2f3068257f6c75ef8c7bce", func := "noongun/noongunlaw01.SpanHas", spec := "spanHas", unfollowed := true, recurses := true, named := ["internal/strconv.uint64pow10", "math/bits.deBruijn32tab", "math/bits.deBruijn64tab"], apart := false, laid := [("math/bits.deBruijn32tab", laid_math_bits_deBruijn32tab), ("math/bits.deBruijn64tab", laid_math_bits_deBruijn64tab), ("internal/strconv.uint64pow10", laid_internal_strconv_uint64pow10)] }
def SpanHasSaid : Prop := spanHasRow.holds Tryd.pinned (OpenSpec.ofChange spanHasSpec)

/-- ITS FALSE NEIGHBOUR: 'it returns false'. Refute it at one input. -/
def spanHasWrong : ChangeSpec := { name := "spanHas", fn := fun _ => fun
  | [d1, d2, d3] => { results := [.lit (.bool false)], args := [d1, d2, d3] }
  | _ => none }
def SpanHasWrongFalsely : Prop := spanHasRow.holds Tryd.pinned (OpenSpec.ofChange spanHasWrong)

/-- 'noongunlaw01.SpanSums': WHATEVER THE INPUT: true; the input reads as it did. -/
def spanSumsSpec : ChangeSpec := { name := "spanSums", fn := fun _ => fun
  | [d1, d2] => { results := [.lit (.bool true)], args := [d1, d2] }
  | _ => none }
def spanSumsRow : OpenClaim := { program := "ytjkcgbidceakjaadoor", sum := "fba1f73975f06e5ff03724e79a03edc1ad6ade885f2f3068257f6c75ef8c7bce", func := "noongun/noongunlaw01.SpanSums", spec := "spanSums", unfollowed := true, recurses := true, named := ["internal/strconv.uint64pow10", "math/bits.deBruijn32tab", "math/bits.deBruijn64tab"], apart := false, laid := [("math/bits.deBruijn32tab", laid_math_bits_deBruijn32tab), ("math/bits.deBruijn64tab", laid_math_bits_deBruijn64tab), ("internal/strconv.uint64pow10", laid_internal_strconv_uint64pow10)] }
def SpanSumsSaid : Prop := spanSumsRow.holds Tryd.pinned (OpenSpec.ofChange spanSumsSpec)

/-- ITS FALSE NEIGHBOUR: 'it returns false'. Refute it at one input. -/
def spanSumsWrong : ChangeSpec := { name := "spanSums", fn := fun _ => fun
  | [d1, d2] => { results := [.lit (.bool false)], args := [d1, d2] }
  | _ => none }
def SpanSumsWrongFalsely : Prop := spanSumsRow.holds Tryd.pinned (OpenSpec.ofChange spanSumsWrong)

/-- 'noongunlaw01.SpanFractions': WHATEVER THE INPUT: true; the input reads as it did. -/
def spanFractionsSpec : ChangeSpec := { name := "spanFractions", fn := fun _ => fun
  | [d1, d2, d3] => { results := [.lit (.bool true)], args := [d1, d2, d3] }
  | _ => none }
def spanFractionsRow : OpenClaim := { program := "ytjkcgbidceakjaadoor", sum := "fba1f73975f06e5ff03724e79a03edc1ad6ade885f2f3068257f6c75ef8c7bce", func := "noongun/noongunlaw01.SpanFractions", spec := "spanFractions", unfollowed := true, recurses := true, named := ["internal/strconv.uint64pow10", "math/bits.deBruijn32tab", "math/bits.deBruijn64tab"], apart := false, laid := [("math/bits.deBruijn32tab", laid_math_bits_deBruijn32tab), ("math/bits.deBruijn64tab", laid_math_bits_deBruijn64tab), ("internal/strconv.uint64pow10", laid_internal_strconv_uint64pow10)] }
def SpanFractionsSaid : Prop := spanFractionsRow.holds Tryd.pinned (OpenSpec.ofChange spanFractionsSpec)

/-- ITS FALSE NEIGHBOUR: 'it returns false'. Refute it at one input. -/
def spanFractionsWrong : ChangeSpec := { name := "spanFractions", fn := fun _ => fun
  | [d1, d2, d3] => { results := [.lit (.bool false)], args := [d1, d2, d3] }
  | _ => none }
def SpanFractionsWrongFalsely : Prop := spanFractionsRow.holds Tryd.pinned (OpenSpec.ofChange spanFractionsWrong)

/-- 'noongunlaw01.SpanClocks': WHATEVER THE INPUT: true; the input reads as it did. -/
def spanClocksSpec : ChangeSpec := { name := "spanClocks", fn := fun _ => fun
  | [d1, d2] => { results := [.lit (.bool true)], args := [d1, d2] }
  | _ => none }
def spanClocksRow : OpenClaim := { program := "ytjkcgbidceakjaadoor", sum := "fba1f73975f06e5ff03724e79a03edc1ad6ade885f2f3068257f6c75ef8c7bce", func := "noongun/noongunlaw01.SpanClocks", spec := "spanClocks", unfollowed := true, recurses := true, named := ["internal/strconv.uint64pow10", "math/bits.deBruijn32tab", "math/bits.deBruijn64tab", "strconv.ErrSyntax", "strconv.ErrRange"], apart := false, laid := [("math/bits.deBruijn32tab", laid_math_bits_deBruijn32tab), ("math/bits.deBruijn64tab", laid_math_bits_deBruijn64tab), ("internal/strconv.uint64pow10", laid_internal_strconv_uint64pow10), ("strconv.ErrRange", laid_strconv_ErrRange), ("strconv.ErrSyntax", laid_strconv_ErrSyntax)] }
def SpanClocksSaid : Prop := spanClocksRow.holds Tryd.pinned (OpenSpec.ofChange spanClocksSpec)

/-- ITS FALSE NEIGHBOUR: 'it returns false'. Refute it at one input. -/
def spanClocksWrong : ChangeSpec := { name := "spanClocks", fn := fun _ => fun
  | [d1, d2] => { results := [.lit (.bool false)], args := [d1, d2] }
  | _ => none }
def SpanClocksWrongFalsely : Prop := spanClocksRow.holds Tryd.pinned (OpenSpec.ofChange spanClocksWrong)

/- THE SECOND FORM. 'bulk': how many values and letters a reading holds, each counted each time it is reached (what is shared counts as often as it is met; a slice's spare places count too). A statement '..UptoSaid' is the law's where the arguments, and the package variables that the reading takes, are together of bulk at most 1048576: NARROWER than '..Said'. Prove '..Said' where nothing that the law and all that it calls make is longer than what came in: it says more and counts as full. Else prove '..UptoSaid'. A law counts once. -/
mutual
def uptoBulk {H : Type} : DataW H → Nat
  | .lit (.string bytes) => bytes.length + 1
  | .lit _ => 1
  | .nil => 1
  | .ptr d => uptoBulk d + 1
  | .slice elems spare => uptoBulkAll elems + uptoBulkAll spare + 1
  | .agg parts => uptoBulkAll parts + 1
  | .iface _ d => uptoBulk d + 1
  | .map entries => uptoBulkEntries entries + 1
  | .held _ => 1
def uptoBulkAll {H : Type} : List (DataW H) → Nat
  | [] => 0
  | d :: r => uptoBulk d + uptoBulkAll r
def uptoBulkEntries {H : Type} : List (Lit × DataW H) → Nat
  | [] => 0
  | x :: r => uptoBulkEntry x + uptoBulkEntries r
def uptoBulkEntry {H : Type} : Lit × DataW H → Nat
  | (.string bytes, d) => bytes.length + uptoBulk d + 1
  | (_, d) => uptoBulk d + 1
 end
def uptoSmall : (H : Type) → List (DataW H) → Bool := fun _ ds => decide (uptoBulkAll ds ≤ 1048576)
def OpenSpec.upto (s : _root_.Go.ChangeSpec) : _root_.Go.OpenSpec := { _root_.Go.OpenSpec.ofChange s with cond := some uptoSmall }

/-- 'noongunlaw01.SpanScales', WHERE WHAT IT READS IS OF BULK AT MOST 1048576: true; the input reads as it did. -/
def spanScalesUptoRow : OpenClaim := { program := "ytjkcgbidceakjaadoor", sum := "fba1f73975f06e5ff03724e79a03edc1ad6ade885f2f3068257f6c75ef8c7bce", func := "noongun/noongunlaw01.SpanScales", spec := "spanScales", unfollowed := true, recurses := true, named := ["internal/strconv.uint64pow10", "math/bits.deBruijn32tab", "math/bits.deBruijn64tab"], apart := false, laid := [("math/bits.deBruijn32tab", laid_math_bits_deBruijn32tab), ("math/bits.deBruijn64tab", laid_math_bits_deBruijn64tab), ("internal/strconv.uint64pow10", laid_internal_strconv_uint64pow10)], narrowed := true }
def SpanScalesUptoSaid : Prop := spanScalesUptoRow.holds Tryd.pinned (OpenSpec.upto spanScalesSpec)

/-- 'noongunlaw01.SpanSkies', WHERE WHAT IT READS IS OF BULK AT MOST 1048576: true; the input reads as it did. -/
def spanSkiesUptoRow : OpenClaim := { program := "ytjkcgbidceakjaadoor", sum := "fba1f73975f06e5ff03724e79a03edc1ad6ade885f2f3068257f6c75ef8c7bce", func := "noongun/noongunlaw01.SpanSkies", spec := "spanSkies", unfollowed := true, recurses := true, named := ["internal/strconv.uint64pow10", "math/bits.deBruijn32tab", "math/bits.deBruijn64tab"], apart := false, laid := [("math/bits.deBruijn32tab", laid_math_bits_deBruijn32tab), ("math/bits.deBruijn64tab", laid_math_bits_deBruijn64tab), ("internal/strconv.uint64pow10", laid_internal_strconv_uint64pow10)], narrowed := true }
def SpanSkiesUptoSaid : Prop := spanSkiesUptoRow.holds Tryd.pinned (OpenSpec.upto spanSkiesSpec)

/-- 'noongunlaw01.SpanSpans', WHERE WHAT IT READS IS OF BULK AT MOST 1048576: true; the input reads as it did. -/
def spanSpansUptoRow : OpenClaim := { program := "ytjkcgbidceakjaadoor", sum := "fba1f73975f06e5ff03724e79a03edc1ad6ade885f2f3068257f6c75ef8c7bce", func := "noongun/noongunlaw01.SpanSpans", spec := "spanSpans", unfollowed := true, recurses := true, named := ["internal/strconv.uint64pow10", "math/bits.deBruijn32tab", "math/bits.deBruijn64tab"], apart := false, laid := [("math/bits.deBruijn32tab", laid_math_bits_deBruijn32tab), ("math/bits.deBruijn64tab", laid_math_bits_deBruijn64tab), ("internal/strconv.uint64pow10", laid_internal_strconv_uint64pow10)], narrowed := true }
def SpanSpansUptoSaid : Prop := spanSpansUptoRow.holds Tryd.pinned (OpenSpec.upto spanSpansSpec)

/-- 'noongunlaw01.SpanMeets', WHERE WHAT IT READS IS OF BULK AT MOST 1048576: true; the input reads as it did. -/
def spanMeetsUptoRow : OpenClaim := { program := "ytjkcgbidceakjaadoor", sum := "fba1f73975f06e5ff03724e79a03edc1ad6ade885f2f3068257f6c75ef8c7bce", func := "noongun/noongunlaw01.SpanMeets", spec := "spanMeets", unfollowed := true, recurses := true, named := ["internal/strconv.uint64pow10", "math/bits.deBruijn32tab", "math/bits.deBruijn64tab"], apart := false, laid := [("math/bits.deBruijn32tab", laid_math_bits_deBruijn32tab), ("math/bits.deBruijn64tab", laid_math_bits_deBruijn64tab), ("internal/strconv.uint64pow10", laid_internal_strconv_uint64pow10)], narrowed := true }
def SpanMeetsUptoSaid : Prop := spanMeetsUptoRow.holds Tryd.pinned (OpenSpec.upto spanMeetsSpec)

/-- 'noongunlaw01.SpanDays', WHERE WHAT IT READS IS OF BULK AT MOST 1048576: true; the input reads as it did. -/
def spanDaysUptoRow : OpenClaim := { program := "ytjkcgbidceakjaadoor", sum := "fba1f73975f06e5ff03724e79a03edc1ad6ade885f2f3068257f6c75ef8c7bce", func := "noongun/noongunlaw01.SpanDays", spec := "spanDays", unfollowed := true, recurses := true, named := ["internal/strconv.uint64pow10", "math/bits.deBruijn32tab", "math/bits.deBruijn64tab"], apart := false, laid := [("math/bits.deBruijn32tab", laid_math_bits_deBruijn32tab), ("math/bits.deBruijn64tab", laid_math_bits_deBruijn64tab), ("internal/strconv.uint64pow10", laid_internal_strconv_uint64pow10)], narrowed := true }
def SpanDaysUptoSaid : Prop := spanDaysUptoRow.holds Tryd.pinned (OpenSpec.upto spanDaysSpec)

/-- 'noongunlaw01.SpanNextDays', WHERE WHAT IT READS IS OF BULK AT MOST 1048576: true; the input reads as it did. -/
def spanNextDaysUptoRow : OpenClaim := { program := "ytjkcgbidceakjaadoor", sum := "fba1f73975f06e5ff03724e79a03edc1ad6ade885f2f3068257f6c75ef8c7bce", func := "noongun/noongunlaw01.SpanNextDays", spec := "spanNextDays", unfollowed := true, recurses := true, named := ["internal/strconv.uint64pow10", "math/bits.deBruijn32tab", "math/bits.deBruijn64tab"], apart := false, laid := [("math/bits.deBruijn32tab", laid_math_bits_deBruijn32tab), ("math/bits.deBruijn64tab", laid_math_bits_deBruijn64tab), ("internal/strconv.uint64pow10", laid_internal_strconv_uint64pow10)], narrowed := true }
def SpanNextDaysUptoSaid : Prop := spanNextDaysUptoRow.holds Tryd.pinned (OpenSpec.upto spanNextDaysSpec)

/-- 'noongunlaw01.SpanRatios', WHERE WHAT IT READS IS OF BULK AT MOST 1048576: true; the input reads as it did. -/
def spanRatiosUptoRow : OpenClaim := { program := "ytjkcgbidceakjaadoor", sum := "fba1f73975f06e5ff03724e79a03edc1ad6ade885f2f3068257f6c75ef8c7bce", func := "noongun/noongunlaw01.SpanRatios", spec := "spanRatios", unfollowed := true, recurses := true, named := ["internal/strconv.uint64pow10", "math/bits.deBruijn32tab", "math/bits.deBruijn64tab"], apart := false, laid := [("math/bits.deBruijn32tab", laid_math_bits_deBruijn32tab), ("math/bits.deBruijn64tab", laid_math_bits_deBruijn64tab), ("internal/strconv.uint64pow10", laid_internal_strconv_uint64pow10)], narrowed := true }
def SpanRatiosUptoSaid : Prop := spanRatiosUptoRow.holds Tryd.pinned (OpenSpec.upto spanRatiosSpec)

/-- 'noongunlaw01.SpanHas', WHERE WHAT IT READS IS OF BULK AT MOST 1048576: true; the input reads as it did. -/
def spanHasUptoRow : OpenClaim := { program := "ytjkcgbidceakjaadoor", sum := "fba1f73975f06e5ff03724e79a03edc1ad6ade885f2f3068257f6c75ef8c7bce", func := "noongun/noongunlaw01.SpanHas", spec := "spanHas", unfollowed := true, recurses := true, named := ["internal/strconv.uint64pow10", "math/bits.deBruijn32tab", "math/bits.deBruijn64tab"], apart := false, laid := [("math/bits.deBruijn32tab", laid_math_bits_deBruijn32tab), ("math/bits.deBruijn64tab", laid_math_bits_deBruijn64tab), ("internal/strconv.uint64pow10", laid_internal_strconv_uint64pow10)], narrowed := true }
def SpanHasUptoSaid : Prop := spanHasUptoRow.holds Tryd.pinned (OpenSpec.upto spanHasSpec)

/-- 'noongunlaw01.SpanSums', WHERE WHAT IT READS IS OF BULK AT MOST 1048576: true; the input reads as it did. -/
def spanSumsUptoRow : OpenClaim := { program := "ytjkcgbidceakjaadoor", sum := "fba1f73975f06e5ff03724e79a03edc1ad6ade885f2f3068257f6c75ef8c7bce", func := "noongun/noongunlaw01.SpanSums", spec := "spanSums", unfollowed := true, recurses := true, named := ["internal/strconv.uint64pow10", "math/bits.deBruijn32tab", "math/bits.deBruijn64tab"], apart := false, laid := [("math/bits.deBruijn32tab", laid_math_bits_deBruijn32tab), ("math/bits.deBruijn64tab", laid_math_bits_deBruijn64tab), ("internal/strconv.uint64pow10", laid_internal_strconv_uint64pow10)], narrowed := true }
def SpanSumsUptoSaid : Prop := spanSumsUptoRow.holds Tryd.pinned (OpenSpec.upto spanSumsSpec)

/-- 'noongunlaw01.SpanFractions', WHERE WHAT IT READS IS OF BULK AT MOST 1048576: true; the input reads as it did. -/
def spanFractionsUptoRow : OpenClaim := { program := "ytjkcgbidceakjaadoor", sum := "fba1f73975f06e5ff03724e79a03edc1ad6ade885f2f3068257f6c75ef8c7bce", func := "noongun/noongunlaw01.SpanFractions", spec := "spanFractions", unfollowed := true, recurses := true, named := ["internal/strconv.uint64pow10", "math/bits.deBruijn32tab", "math/bits.deBruijn64tab"], apart := false, laid := [("math/bits.deBruijn32tab", laid_math_bits_deBruijn32tab), ("math/bits.deBruijn64tab", laid_math_bits_deBruijn64tab), ("internal/strconv.uint64pow10", laid_internal_strconv_uint64pow10)], narrowed := true }
def SpanFractionsUptoSaid : Prop := spanFractionsUptoRow.holds Tryd.pinned (OpenSpec.upto spanFractionsSpec)

/-- 'noongunlaw01.SpanClocks', WHERE WHAT IT READS IS OF BULK AT MOST 1048576: true; the input reads as it did. -/
def spanClocksUptoRow : OpenClaim := { program := "ytjkcgbidceakjaadoor", sum := "fba1f73975f06e5ff03724e79a03edc1ad6ade885f2f3068257f6c75ef8c7bce", func := "noongun/noongunlaw01.SpanClocks", spec := "spanClocks", unfollowed := true, recurses := true, named := ["internal/strconv.uint64pow10", "math/bits.deBruijn32tab", "math/bits.deBruijn64tab", "strconv.ErrSyntax", "strconv.ErrRange"], apart := false, laid := [("math/bits.deBruijn32tab", laid_math_bits_deBruijn32tab), ("math/bits.deBruijn64tab", laid_math_bits_deBruijn64tab), ("internal/strconv.uint64pow10", laid_internal_strconv_uint64pow10), ("strconv.ErrRange", laid_strconv_ErrRange), ("strconv.ErrSyntax", laid_strconv_ErrSyntax)], narrowed := true }
def SpanClocksUptoSaid : Prop := spanClocksUptoRow.holds Tryd.pinned (OpenSpec.upto spanClocksSpec)

end Rows
end Go.Proofs.YtjkcgbidceakjaaDoor
