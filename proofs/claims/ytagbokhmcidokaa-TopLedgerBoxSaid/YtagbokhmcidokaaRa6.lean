/-
  The least and the greatest of a list.
-/
import Derived.Test.YtagbokhmcidokaaRa5
import Derived.BigRegion
namespace Go.Proofs.Ytagbokhmcidokaa
open Go.RowKit Go.Deep Go.Shelf
attribute [local go_sem] Oper.semAt_some
set_option linter.unusedVariables false
set_option linter.unusedSimpArgs false
/-- The least and the greatest. -/
def esS (o : Option (Int × Int)) (x : Int) : Option (Int × Int) := some (match o with
  | none => (x, x)
  | some p => (if x < p.1 then x else p.1, if p.2 < x then x else p.2))
def es (l : List Int) : Option (Int × Int) := l.foldl esS none
theorem es_snoc (l : List Int) (x : Int) : es (l ++ [x]) = esS (es l) x := by unfold es; rw [List.foldl_append]; rfl
/-- What holds between two numbers. -/
def EnJ (w : World) (pre : List Int) (V : World) : Prop :=
  ∃ (lo hi : Int) (fb : Bool), (V.cell? ⟨w.heap.size, 0, none⟩ = some (.int .i64 lo) ∧ V.frozen? ⟨w.heap.size, 0, none⟩ = false) ∧ (V.cell? ⟨w.heap.size + 1, 0, none⟩ = some (.int .i64 hi) ∧ V.frozen? ⟨w.heap.size + 1, 0, none⟩ = false) ∧ (V.cell? ⟨w.heap.size + 1 + 1, 0, none⟩ = some (.bool fb) ∧ V.frozen? ⟨w.heap.size + 1 + 1, 0, none⟩ = false) ∧
    (match es pre with
      | none => fb = true
      | some p => fb = false ∧ lo = p.1 ∧ hi = p.2) ∧ Below w.heap.size w V
theorem EnJ.of {w V V' : World} {pre : List Int} (h : EnJ w pre V) (hb : Below w.heap.size w V') (hk : ∀ k, k < V.heap.size → k < w.heap.size + 3 → V'.heap[k]? = V.heap[k]?) : EnJ w pre V' := by
  obtain ⟨lo, hi, fb, ⟨a1, a2⟩, ⟨b1, b2⟩, ⟨c1, c2⟩, h, -⟩ := h
  have e1 := hk _ (cell?_lt a1) (by show w.heap.size < _; omega)
  have e2 := hk _ (cell?_lt b1) (by show w.heap.size + 1 < _; omega)
  have e3 := hk _ (cell?_lt c1) (by show w.heap.size + 1 + 1 < _; omega)
  exact ⟨lo, hi, fb, ⟨blk_cell e1 a1, blk_frozen e1 a2⟩, ⟨blk_cell e2 b1, blk_frozen e2 b2⟩, ⟨blk_cell e3 c1, blk_frozen e3 c2⟩, h, hb⟩
theorem EnJ.low {w V : World} {pre : List Int} (h : EnJ w pre V) : Below w.heap.size w V := by obtain ⟨lo, hi, fb, -, -, -, -, h⟩ := h; exact h
theorem EnJ.keep {w V V' : World} {pre : List Int} (h : EnJ w pre V) (hb : Below V.heap.size V V') : EnJ w pre V' := h.of (Below.step h.low hb) (fun k hk _ => hb.block k hk)
theorem EnJ.put {w V : World} {pre : List Int} (h : EnJ w pre V) {l : Nat} (hl : l = w.heap.size + 4) (o : Obj) : EnJ w pre (V.putObj l o) :=
  h.of (h.low.trans (below_put V (by omega) o)) (fun k hk h2 => World.putObj_heap_other (by omega))
theorem KT.put {K : Nat → Prop} {A B : World} (h : KT K A B) {l : Nat} (h1 : ¬ K l) (o : Obj) : KT K A (B.putObj l o) :=
  h.trans ⟨by simp, fun k _ hr => World.putObj_heap_other (by rintro rfl; exact h1 hr)⟩
theorem en_end {w W V : World} {K : Nat → Prop} {Ix : Code → List Int → World → Prop} {l : List Int} {a : Act} {lo hi : Int} (hes : es l = some (lo, hi)) (hk : KT K W V) (hb : Below w.heap.size w V)
    (a1 : V.cell? ⟨w.heap.size, 0, none⟩ = some (.int .i64 lo)) (a2 : V.frozen? ⟨w.heap.size, 0, none⟩ = false) (b1 : V.cell? ⟨w.heap.size + 1, 0, none⟩ = some (.int .i64 hi)) (b2 : V.frozen? ⟨w.heap.size + 1, 0, none⟩ = false)
    (c1 : V.cell? ⟨w.heap.size + 1 + 1, 0, none⟩ = some (.bool false)) (c2 : V.frozen? ⟨w.heap.size + 1 + 1, 0, none⟩ = false) : postS K (EnJ w) Ix l W .normal a V :=
  ⟨hk, lo, hi, false, ⟨a1, a2⟩, ⟨b1, b2⟩, ⟨c1, c2⟩, by rw [hes]; exact ⟨rfl, rfl, rfl⟩, hb⟩
end Go.Proofs.Ytagbokhmcidokaa
