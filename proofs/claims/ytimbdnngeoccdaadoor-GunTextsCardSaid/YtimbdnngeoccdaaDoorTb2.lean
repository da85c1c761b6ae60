/-
  What the library's functions are worth here: Atoi, Itoa, Cut, Split, with what they ask of the listed variables.
-/
import Derived.Test.YtimbdnngeoccdaaDoorTx1
import Derived.Test.YtimbdnngeoccdaaDoorShelf
import Derived.Test.YtimbdnngeoccdaaDoorRows
import Derived.Test.YtimbdnngeoccdaaDoorPre
import Derived.Test.YtimbdnngeoccdaaDoorPre2
import Derived.Test.YtimbdnngeoccdaaDoorTypes
import Derived.Lib.AppendIntMem
import Derived.Lib.AtoiErrMem
import Derived.Lib.SmallJoins
import Derived.Lib.LaidTab
namespace Go.Proofs.YtimbdnngeoccdaaDoor
open Go.RowKit
set_option linter.unusedVariables false
theorem gTab : Tryd.prog.globalNamed "internal/strconv.uint64pow10" = some 5 := by kernel_rfl
/-- What the library's contracts ask of its own variables. -/
structure Env (w : World) : Prop where
  tab : Lib.TabIs Tryd.prog w "internal/strconv.uint64pow10" .u64 Lib.pow10Tab
  syn : ∃ ev, w.cell? ⟨0, 0, none⟩ = some ev ∧ (ev = .nilIface ∨ ∃ te pe, ev = .iface te pe)
  rng : ∃ ev, w.cell? ⟨1, 0, none⟩ = some ev ∧ (ev = .nilIface ∨ ∃ te pe, ev = .iface te pe)
  mx : ∃ m, w.cell? ⟨2, 0, none⟩ = some (.int .i64 m)
theorem Env.step {w w' : World} (h : Env w) (hb : Below w.heap.size w w') : Env w' := by
  obtain ⟨h1, ⟨e2, h2, k2⟩, ⟨e3, h3, k3⟩, m, h4⟩ := h
  exact ⟨Go.Joins.tab_stays gTab h1 hb (Nat.le_refl _), ⟨e2, keep_cell hb h2, k2⟩, ⟨e3, keep_cell hb h3, k3⟩, m, keep_cell hb h4⟩
def errV (l : List UInt8) (E : Value) : Prop := (atoiB l = true ∧ E = .nilIface) ∨ (atoiB l = false ∧ ∃ t a, E = .iface t (.pointer (some a)))
/-- Atoi, whatever the word. -/
theorem atoi_c (p : ByteArray) (hp : p.size ≤ 281474976710656) (w : World) (he : Env w) : Calls Tryd.prog 24 #[.string p] w fun e w' => ∃ E, (e = .returned (.tuple #[.int .i64 (atoiN p.data.toList), E]) ∧ errV p.data.toList E) ∧ Below w.heap.size w w' := by
  cases h : Lib.atoiAll p.data.toList with
  | ok v =>
    refine (Tryd.strconv_Atoi_ok p (by omega) v h w).mono ?_
    rintro e w' ⟨rfl, hw⟩
    refine ⟨_, ⟨by unfold atoiN; rw [h], Or.inl ⟨by unfold atoiB; rw [h], rfl⟩⟩, ?_⟩
    rcases hw with rfl | ⟨t, rfl⟩
    · exact Below.refl _ _
    · exact Lib.bytesWorld_below w _ t
  | range =>
    obtain ⟨ev, h1, h2⟩ := he.rng
    refine (Tryd.strconv_Atoi_range p hp h ev w h1 h2).mono ?_
    rintro e w' ⟨N, rfl, _, _, hb⟩
    exact ⟨_, ⟨by unfold atoiN; rw [h], Or.inr ⟨by unfold atoiB; rw [h], _, _, rfl⟩⟩, hb⟩
  | _ =>
    obtain ⟨ev, h1, h2⟩ := he.syn
    refine (Any.strconv_Atoi_syntax Tryd.laysC172 p hp h ev w h1 h2).mono ?_
    rintro e w' ⟨N, rfl, _, _, hb⟩
    exact ⟨_, ⟨by unfold atoiN; rw [h], Or.inr ⟨by unfold atoiB; rw [h], _, _, rfl⟩⟩, hb⟩
theorem itoa_c (n : Int) (h0 : -9223372036854775808 ≤ n) (h1 : n ≤ 9223372036854775807) (w : World) (he : Env w) : Calls Tryd.prog 53 #[.int .i64 n] w fun e w' => e = .returned (.string (str (Lib.itoa n))) ∧ Below w.heap.size w w' := by
  refine (Tryd.strconv_Itoa n h0 h1 w he.tab).mono ?_
  rintro e w' ⟨rfl, k, os, rfl⟩
  exact ⟨rfl, Lib.below_grow _ w (Nat.le_refl _) k os⟩
/-- A list of words in a new block. -/
def WordsAt (w : World) (b : Nat) (l : List (List UInt8)) : Prop := ∀ j x, l[j]? = some x → w.cell? ⟨b, j, none⟩ = some (.string (str x))
theorem split_c (s : ByteArray) (c : UInt8) (hs : s.size < 4294967281) (w : World) (he : Env w) : Calls Tryd.prog 22 #[.string s, .string ⟨#[c]⟩] w fun e w' =>
    ∃ b, (e = .returned (.slice (some ⟨b, 0, none⟩) (pieces c s.data.toList).length (pieces c s.data.toList).length) ∧ WordsAt w' b (pieces c s.data.toList) ∧ b = w.heap.size ∧ w'.heap.size = w.heap.size + 1) ∧ Below w.heap.size w w' := by
  obtain ⟨m, hm⟩ := he.mx
  refine (Tryd.strings_Split s ⟨#[c]⟩ m w hs hm (Nat.le_refl 1)).mono ?_
  rintro e w' ⟨rfl, rfl⟩
  refine ⟨w.heap.size, ⟨?_, ?_, rfl, by simp⟩, Below.allocS (Below.refl _ _) _⟩
  · rw [← pieces_len]
  · intro j x hj
    have hx : (((pieces c s.data.toList).map str).map Value.string)[j]? = some (.string (str x)) := by
      rw [List.getElem?_map, List.getElem?_map, hj]; rfl
    simp only [World.cell?, World.alloc, splitB_pieces]
    simpa using hx
end Go.Proofs.YtimbdnngeoccdaaDoor
