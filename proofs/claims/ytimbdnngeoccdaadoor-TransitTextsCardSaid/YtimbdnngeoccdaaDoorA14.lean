/-
  Difference of both.
-/
import Derived.Test.YtimbdnngeoccdaaDoorA13
namespace Go.Proofs.YtimbdnngeoccdaaDoor
open Go.RowKit
set_option linter.unusedVariables false
set_option linter.unusedSimpArgs false
theorem crE_cases (o : Obs) : crE o = 0 ∧ crV o = crQ o ∧ fitsB o = true ∧ crN o o.ts.length ≠ 0 ∨ (crE o = 1 ∨ crE o = 8) := by
  unfold crE crV
  by_cases h : fitsB o = true
  · rw [if_pos h, if_pos h]
    by_cases hN : crN o o.ts.length = 0
    · rw [if_pos hN]; exact .inr (.inr rfl)
    · rw [if_neg hN, if_neg hN]; exact .inl ⟨rfl, rfl, h, hN⟩
  · rw [if_neg h]; exact .inr (.inl rfl)
end Go.Proofs.YtimbdnngeoccdaaDoor
