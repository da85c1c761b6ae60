/-
  Contracts of down of the reference, folded and Folded of both.
-/
import Derived.Test.YtimbdnngeoccdaaDoorA1
namespace Go.Proofs.YtimbdnngeoccdaaDoor
open Go.RowKit
set_option linter.unusedVariables false
set_option linter.unusedSimpArgs false
/-- A number, folded. -/
def foldD (d : Int) : Int := d - (d + 43200000) / 86400000 * 86400000
theorem foldD_bd (d : Int) : -43200000 ≤ foldD d ∧ foldD d < 43200000 := by unfold foldD; omega
theorem folded_c (d : Int) (h0 : -4000000000000 ≤ d) (h1 : d ≤ 4000000000000) (w : World) : Calls Tryd.prog 46 #[.int .i64 d] w fun e w' => e = .returned (.int .i64 (foldD d)) ∧ w' = w := by
  have HD := Lib.hid (fun W => down_c (d + 43200000) 86400000 (by omega) (by omega) (by omega) (by omega) W)
  unfold foldD
  have w1 : IntKind.i64.wrap (d + 43200000) = d + 43200000 := IntWalk.i64_in _ (by omega)
  have w2 : IntKind.i64.wrap ((d + 43200000) / 86400000 * 86400000) = (d + 43200000) / 86400000 * 86400000 := IntWalk.i64_in _ (by omega)
  have w3 : IntKind.i64.wrap (d - (d + 43200000) / 86400000 * 86400000) = d - (d + 43200000) / 86400000 * 86400000 := IntWalk.i64_in _ (by omega)
  go_enter Tryd.func46, Tryd.ntmps46
  go_wp2_with fail
  refine (HD.out _).mono ?_
  rintro e w' ⟨rfl, rfl⟩
  go_wp2
  go_ret
  exact ⟨rfl, rfl⟩
end Go.Proofs.YtimbdnngeoccdaaDoor
