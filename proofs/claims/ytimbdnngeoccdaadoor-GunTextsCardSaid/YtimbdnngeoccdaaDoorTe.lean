/-
  What the row's listed variables and the world's shape give: the table of powers, the two errors, a number for MaxLen.
-/
import Derived.Test.YtimbdnngeoccdaaDoorTb2
import Derived.Stop.LaidErr
import Derived.MakeChecks
import Derived.Shelf.Vars
import Derived.Handed
import Derived.HandedShaped
namespace Go.Proofs.YtimbdnngeoccdaaDoor
open Go.RowKit
set_option linter.unusedVariables false
theorem es_star : "*" ++ "errors.errorString" = "*errors.errorString" := by decide
theorem es_row (u : TypeId) (h : Tryd.prog.typeName? 3 u = some "*errors.errorString") : u = 138 :=
  typeName_ptr_named (nm := "errors.errorString") (by rw [es_star]; kernel_rfl) (by kernel_rfl) (by decide) u (by rw [es_star]; exact h)
theorem env_of {w : World} (hL : laidMetH Tryd.prog Rows.transitTextsRow.laid w) (hS : w.ShapedOpen Tryd.prog) : Env w := by
  rw [MakeChecks.laidMetH_plain _ _ _ (by kernel_rfl)] at hL
  have h2 := laidMet.tail (laidMet.tail hL)
  have h4 := laidMet.tail (laidMet.tail h2)
  have h5 := laidMet.tail h4
  refine ⟨?_, ?_, ?_, ?_⟩
  · exact Lib.tabIs_of_head (t := 155) (e := 125) (n := 20) gTab (by kernel_rfl) (by kernel_rfl) (by kernel_rfl) (by kernel_rfl) (by kernel_rfl) h2
  · obtain ⟨a0, s0, hv0, -, -, -⟩ := laid_sentinel (g := 0) (ti := 54) (tp := 138) (te := 140) (ts := 9) h5 (by kernel_rfl) (by kernel_rfl) Tryd.underlying54 es_row Tryd.underlying138 Tryd.underlying140 rfl rfl Tryd.underlying9 (by kernel_rfl) (by kernel_rfl)
    have h0 := World.var?_cell (g := 0) (by kernel_rfl) hv0 0
    exact ⟨_, by simpa using h0, Or.inr ⟨_, _, rfl⟩⟩
  · obtain ⟨a0, s0, hv0, -, -, -⟩ := laid_sentinel (g := 1) (ti := 54) (tp := 138) (te := 140) (ts := 9) h4 (by kernel_rfl) (by kernel_rfl) Tryd.underlying54 es_row Tryd.underlying138 Tryd.underlying140 rfl rfl Tryd.underlying9 (by kernel_rfl) (by kernel_rfl)
    have h0 := World.var?_cell (g := 1) (by kernel_rfl) hv0 0
    exact ⟨_, by simpa using h0, Or.inr ⟨_, _, rfl⟩⟩
  · exact cell_of_shapedOpen_int (P := Tryd.prog) (g := 2) (t := 3) (zero := #[.int .i64 0]) hS (of_decide_eq_true (by kernel_rfl)) (by kernel_rfl) rfl (by kernel_rfl) (by kernel_rfl) Tryd.underlying3
end Go.Proofs.YtimbdnngeoccdaaDoor
