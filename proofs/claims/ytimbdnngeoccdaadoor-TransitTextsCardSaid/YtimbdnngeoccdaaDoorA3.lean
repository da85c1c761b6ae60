/-
  Contracts of Folded of both.
-/
import Derived.Test.YtimbdnngeoccdaaDoorA2
namespace Go.Proofs.YtimbdnngeoccdaaDoor
open Go.RowKit
set_option linter.unusedVariables false
set_option linter.unusedSimpArgs false
def foV (d : Int) : Int := if within d (-1000000000000) 1000000000000 then foldD d else 0
def foE (d : Int) : Int := if within d (-1000000000000) 1000000000000 then 0 else 7
theorem Folded_c (d : Int) (w : World) : Calls Tryd.prog 20 #[.int .i64 d] w fun e w' => e = .returned (.tuple #[.int .i64 (foV d), .int .i64 (foE d)]) ∧ w' = w := by
  have HW := Lib.hid (fun W => within_c d (-1000000000000) 1000000000000 W)
  unfold foV foE
  cases h : within d (-1000000000000) 1000000000000
  · rw [h] at HW
    clear h
    go_enter Tryd.func20, Tryd.ntmps20
    go_wp2_with fail
    refine (HW.out _).mono ?_
    rintro e w' ⟨rfl, rfl⟩
    go_wp2
    go_ret2
    exact ⟨rfl, rfl⟩
  · rw [h] at HW
    obtain ⟨h1, h2⟩ := within_true h
    have HF := Lib.hid (fun W => folded_c d (by omega) (by omega) W)
    clear h h1 h2
    go_enter Tryd.func20, Tryd.ntmps20
    go_wp2_with fail
    refine (HW.out _).mono ?_
    rintro e w' ⟨rfl, rfl⟩
    go_wp2_with fail
    refine (HF.out _).mono ?_
    rintro e w' ⟨rfl, rfl⟩
    go_wp2
    go_ret2
    exact ⟨rfl, rfl⟩
end Go.Proofs.YtimbdnngeoccdaaDoor
