/-
  What the row's listed variables give: the table of powers, and the error that a text is no number.
-/
import Derived.Test.YtjkcgbidceakjaaDoorD28
import Derived.Test.YtjkcgbidceakjaaDoorRows
import Derived.Lib.AppendIntMem
import Derived.Lib.SmallJoins
import Derived.Lib.LaidTab
import Derived.Stop.LaidErr
import Derived.MakeChecks
namespace Go.Proofs.YtjkcgbidceakjaaDoor
open Go.RowKit
set_option linter.unusedVariables false
def TabAt (w : World) : Prop := Lib.TabIs Tryd.prog w "internal/strconv.uint64pow10" .u64 Lib.pow10Tab
theorem gTab : Tryd.prog.globalNamed "internal/strconv.uint64pow10" = some 2 := by kernel_rfl
theorem TabAt.step {w w' : World} (h : TabAt w) (hb : Below w.heap.size w w') : TabAt w' := Go.Joins.tab_stays gTab h hb (Nat.le_refl _)
theorem itoa_tab (n : Nat) (hn : n < 1000) (w : World) (h : TabAt w) : ItoaAt n w := fun W hb => by
  refine (Tryd.strconv_Itoa (n : Int) (by omega) (by omega) W (h.step hb)).mono ?_
  rintro e w' ⟨rfl, k, os, rfl⟩
  exact ⟨by rw [Lib.itoa_nonneg]; rfl, Lib.below_grow _ W (Nat.le_refl _) k os⟩
theorem clocks_tab {w : World} (hL : laidMetH Tryd.prog Rows.spanClocksRow.laid w) : TabAt w := by
  rw [MakeChecks.laidMetH_plain _ _ _ (by kernel_rfl)] at hL
  have h := (laidMet.tail (laidMet.tail hL))
  exact Lib.tabIs_of_head (t := 114) (e := 93) (n := 20) gTab (by kernel_rfl) (by kernel_rfl) (by kernel_rfl) (by kernel_rfl) (by kernel_rfl) h
theorem es_star : "*" ++ "errors.errorString" = "*errors.errorString" := by decide
theorem es_row (u : TypeId) (h : Tryd.prog.typeName? 3 u = some "*errors.errorString") : u = 105 :=
  typeName_ptr_named (nm := "errors.errorString") (by rw [es_star]; kernel_rfl) (by kernel_rfl) (by decide) u (by rw [es_star]; exact h)
theorem clocks_err {w : World} (hL : laidMetH Tryd.prog Rows.spanClocksRow.laid w) : ErrHeld w := by
  rw [MakeChecks.laidMetH_plain _ _ _ (by kernel_rfl)] at hL
  have h := laidMet.tail (laidMet.tail (laidMet.tail (laidMet.tail hL)))
  obtain ⟨a0, s0, hv0, -, -, -⟩ := laid_sentinel (g := 0) (ti := 77) (tp := 105) (te := 107) (ts := 9) h (by kernel_rfl) (by kernel_rfl) Tryd.underlying77 es_row Tryd.underlying105 Tryd.underlying107 rfl rfl Tryd.underlying9 (by kernel_rfl) (by kernel_rfl)
  have h0 := World.var?_cell (g := 0) (by kernel_rfl) hv0 0
  exact ⟨_, by simpa using h0, Or.inr ⟨_, _, rfl⟩⟩
end Go.Proofs.YtjkcgbidceakjaaDoor
