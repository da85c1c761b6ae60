/-
  The walks of the laws GunFarther, GunSounds, GunLags.
-/
import Derived.Test.YtgiplkfdallmkaaG5
import Derived.Test.YtgiplkfdallmkaaTypes
import Derived.BigQuiet
import Derived.Deep.QuietTactic
import Derived.Deep.RegionHeld3
namespace Go.Proofs.Ytgiplkfdallmkaa
open Go.RowKit
set_option linter.unusedVariables false

theorem awake_c (w : World) : Calls Try.prog 14 #[] w fun e w' => e = .returned (.bool true) ∧ Below w.heap.size w w' := by
  have e1 : lagE 340000 0 0 0 3000 1600 = 0 := by decide
  have e0 : isq (dd 0 0 3000 1600 * 1000000) = 3400000 := isq_unique (by decide) (by decide) (by decide)
  have e2 : LLo 340000 0 0 0 3000 1600 = 10000 := by
    unfold LLo; rw [if_pos e1]; unfold lagLo dLo; rw [e0]; decide
  have e3 : LHi 340000 0 0 0 3000 1600 = 10000 := by
    unfold LHi; rw [if_pos e1]; unfold lagHi dHi; rw [e0]; decide
  have e4 : speedAt 15000 = 340390 := by decide
  have e5 : speedE 15000 = 0 := by decide
  clear e0
  go_enter Try.func14, Try.ntmps14
  go_wp2_with (first | (go_at_call 13; (with_reducible refine (Lag_c _ _ _ _ _ _ _).mono ?_); rintro e w1 ⟨rfl, hb⟩; obtain ⟨hc, hf⟩ := bcell hb; have hz := hb.size; (try simp at hz); (try have hz0 : w.heap.size < w1.heap.size := by omega); (try have hz1 : w.heap.size + 1 < w1.heap.size := by omega); (try have hz2 : w.heap.size + 1 + 1 < w1.heap.size := by omega); (try have hz3 : w.heap.size + 1 + 1 + 1 < w1.heap.size := by omega); (try have hz4 : w.heap.size + 1 + 1 + 1 + 1 < w1.heap.size := by omega); (try have hz5 : w.heap.size + 1 + 1 + 1 + 1 + 1 < w1.heap.size := by omega)) | (go_at_call 15; (with_reducible refine (SpeedAt_c _ _).mono ?_); rintro e w' ⟨rfl, rfl⟩))
  go_ret
  exact ⟨rfl, by (repeat (first | exact Below.refl _ _ | refine Below.drew ?_ | refine Below.allocS ?_ _ | refine Below.step ?_ (by assumption) | refine Below.setCell ?_ (by simp <;> omega) _ | refine Below.drewN' ?_ _))⟩

theorem GunSounds_walk (a0_0 a0_1 : Int) (a1 : Int) (a2 : Int) (w0_0 : I64 a0_0) (w0_1 : I64 a0_1) (w1 : I64 a1) (w2 : I64 a2) (w : World) :
    Calls Try.prog 4 #[.agg #[.int .i64 a0_0, .int .i64 a0_1], .int .i64 a1, .int .i64 a2] w fun e w' => e = .returned (.bool true) ∧ Below w.heap.size w w' := by
  go_enter Try.func4, Try.ntmps4
  go_wp2_with (first | (go_at_call 15; (with_reducible refine (SpeedAt_c _ _).mono ?_); rintro e w' ⟨rfl, rfl⟩) | (go_at_call 16; (with_reducible refine (rSpeedAt_c _ _).mono ?_); rintro e w' ⟨rfl, rfl⟩) | (go_at_call 17; (with_reducible refine (Root_c _ _).mono ?_); rintro e w' ⟨rfl, rfl⟩) | (go_at_call 18; (with_reducible refine (rRoot_c _ _).mono ?_); rintro e w' ⟨rfl, rfl⟩))


  go_region_held3 (fun W => W.cell? ⟨w.heap.size, 0, none⟩ = some (.int .i64 a0_0) ∧ W.cell? ⟨w.heap.size, 1, none⟩ = some (.int .i64 a0_1) ∧ Below w.heap.size w W) (first | (exact And.imp (keep_cell (by assumption)) (And.imp (keep_cell (by assumption)) (fun h => Below.step h (by assumption))) (by assumption)) | exact ⟨by simp [go_sem], by simp [go_sem], by (repeat (first | exact Below.refl _ _ | refine Below.drew ?_ | refine Below.allocS ?_ _ | refine Below.step ?_ (by assumption) | refine Below.setCell ?_ (by simp <;> omega) _ | refine Below.drewN' ?_ _))⟩)
    (first
      | (go_at_call 19; refine (validAir_c _ _ _).mono ?_; rintro e w1 ⟨rfl, hb⟩)
      | (go_at_call 20; refine (rvalidAir_c _ _ _).mono ?_; rintro e w1 ⟨rfl, hb⟩)
      | (go_at_call 14; refine (awake_c _).mono ?_; rintro e w1 ⟨rfl, hb⟩))
  go_wp2
  go_ret
  exact ⟨rfl, (fun (h : _ ∧ _ ∧ Below w.heap.size w _) => h.2.2) (by assumption)⟩
end Go.Proofs.Ytgiplkfdallmkaa
