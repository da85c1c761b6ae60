/-
  The walks of the laws GunFarther, GunSounds, GunLags.
-/
import Derived.Test.YtimbdnngeoccdaaDoorG5
import Derived.Test.YtimbdnngeoccdaaDoorTypes
import Derived.BigQuiet
import Derived.Deep.QuietTactic
import Derived.Deep.RegionHeld3
namespace Go.Proofs.YtimbdnngeoccdaaDoor
open Go.RowKit
set_option linter.unusedVariables false

theorem awake_c (w : World) : Calls Tryd.prog 12 #[] w fun e w' => e = .returned (.bool true) ∧ Below w.heap.size w w' := by
  have e1 : lagE 340000 0 0 0 3000 1600 = 0 := by decide
  have e0 : isq (dd 0 0 3000 1600 * 1000000) = 3400000 := isq_unique (by decide) (by decide) (by decide)
  have e2 : LLo 340000 0 0 0 3000 1600 = 10000 := by
    unfold LLo; rw [if_pos e1]; unfold lagLo dLo; rw [e0]; decide
  have e3 : LHi 340000 0 0 0 3000 1600 = 10000 := by
    unfold LHi; rw [if_pos e1]; unfold lagHi dHi; rw [e0]; decide
  have e4 : speedAt 15000 = 340390 := by decide
  have e5 : speedE 15000 = 0 := by decide
  clear e0
  go_enter Tryd.func12, Tryd.ntmps12
  go_wp2_with (first | (go_at_call 34; (with_reducible refine (Lag_c _ _ _ _ _ _ _).mono ?_); rintro e w1 ⟨rfl, hb⟩; obtain ⟨hc, hf⟩ := bcell hb; have hz := hb.size; (try simp at hz); (try have hz0 : w.heap.size < w1.heap.size := by omega); (try have hz1 : w.heap.size + 1 < w1.heap.size := by omega); (try have hz2 : w.heap.size + 1 + 1 < w1.heap.size := by omega); (try have hz3 : w.heap.size + 1 + 1 + 1 < w1.heap.size := by omega); (try have hz4 : w.heap.size + 1 + 1 + 1 + 1 < w1.heap.size := by omega); (try have hz5 : w.heap.size + 1 + 1 + 1 + 1 + 1 < w1.heap.size := by omega)) | (go_at_call 35; (with_reducible refine (SpeedAt_c _ _).mono ?_); rintro e w' ⟨rfl, rfl⟩))
  go_ret
  exact ⟨rfl, by (repeat (first | exact Below.refl _ _ | refine Below.drew ?_ | refine Below.allocS ?_ _ | refine Below.step ?_ (by assumption) | refine Below.setCell ?_ (by simp <;> omega) _ | refine Below.drewN' ?_ _))⟩

end Go.Proofs.YtimbdnngeoccdaaDoor
