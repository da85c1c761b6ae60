/-
  What the listed variables of GunTexts' row and the world's shape give.
-/
import Derived.Test.YtimbdnngeoccdaaDoorTe
namespace Go.Proofs.YtimbdnngeoccdaaDoor
open Go.RowKit
set_option linter.unusedVariables false
theorem env_ofG {w : World} (hL : laidMetH Tryd.prog Rows.gunTextsRow.laid w) (hS : w.ShapedOpen Tryd.prog) : Env w := by
  rw [MakeChecks.laidMetH_plain _ _ _ (by kernel_rfl)] at hL
  have h2 := laidMet.tail (laidMet.tail hL)
  have h4 := laidMet.tail (laidMet.tail h2)
  have h5 := laidMet.tail h4
  refine ⟨?_, ?_, ?_, ?_⟩
  · exact Lib.tabIs_of_head (t := 155) (e := 125) (n := 20) gTab (by kernel_rfl) (by kernel_rfl) (by kernel_rfl) (by kernel_rfl) (by kernel_rfl) h2
  · obtain ⟨a0, s0, hv0, -, -, -⟩ := laid_sentinel (g := 0) (ti := 54) (tp := 138) (te := 140) (ts := 9) h5 (by kernel_rfl) (by kernel_rfl) Tryd.underlying54 es_row Tryd.underlying138 Tryd.underlying140 rfl rfl Tryd.underlying9 (by kernel_rfl) (by kernel_rfl)
    have h0 := World.var?_cell (g := 0) (by kernel_rfl) hv0 0
    exact ⟨_, by simpa using h0, Or.inr ⟨_, _, rfl⟩⟩
  · obtain ⟨a0, s0, hv0, -, -, -⟩ := laid_sentinel (g := 1) (ti := 54) (tp := 138) (te := 140) (ts := 9) h4 (by kernel_rfl) (by kernel_rfl) Tryd.underlying54 es_row Tryd.underlying138 Tryd.underlying140 rfl rfl Tryd.underlying9 (by kernel_rfl) (by kernel_rfl)
    have h0 := World.var?_cell (g := 1) (by kernel_rfl) hv0 0
    exact ⟨_, by simpa using h0, Or.inr ⟨_, _, rfl⟩⟩
  · exact cell_of_shapedOpen_int (P := Tryd.prog) (g := 2) (t := 3) (zero := #[.int .i64 0]) hS (of_decide_eq_true (by kernel_rfl)) (by kernel_rfl) rfl (by kernel_rfl) (by kernel_rfl) Tryd.underlying3
end Go.Proofs.YtimbdnngeoccdaaDoor
