/-
  What texts of lines need of the library's functions, and small laws on rows and builders.
-/
import Derived.Test.YtimbdnngeoccdaaDoorTx2
import Derived.Test.YtimbdnngeoccdaaDoorTb3
import Derived.Test.YtimbdnngeoccdaaDoorAp0
import Derived.Test.YtimbdnngeoccdaaDoorLn
import Derived.Laws.OwnMore
import Derived.Deep.RegionHeld3
import Derived.Deep.Cut
namespace Go.Proofs.YtimbdnngeoccdaaDoor
open Go.RowKit Go.Deep
set_option linter.unusedVariables false
set_option linter.unusedSimpArgs false
theorem BdAt.keep {B b : Nat} {p : Value} {bs : List Value} {W W' : World} (h : BdAt B b p bs W) (hb : Below W.heap.size W W') : BdAt B b p bs W' := by
  have hlt := Lib.BuilderAt.lt h
  obtain ⟨h1, v, h2, h3, h4⟩ := h
  exact ⟨h1, v, by rw [hb.block b hlt]; exact h2, ownsRow_keep h3 hb, h4⟩
theorem BdT.keep {B b : Nat} {l : List UInt8} {W W' : World} (h : BdT B b l W) (hb : Below W.heap.size W W') : BdT B b l W' := by
  rcases h with h | h
  · exact Or.inl (BdAt.keep h hb)
  · exact Or.inr (BdAt.keep h hb)
theorem bdt_write {B b : Nat} {t s : List UInt8} {p : Value} {w : World} (h : BdAt B b p (Lib.byteCells t ++ Lib.strCells (str s)) w) : BdAt B b p (Lib.byteCells (t ++ s)) w := by
  rw [Lib.byteCells_append]; exact h
/-- WriteString at a text. -/
theorem write_l (B b : Nat) (t s : List UInt8) (w : World) (h : BdT B b t w) (hlen : t.length + s.length ≤ 140737488355328) (hBw : B ≤ w.heap.size) :
    Calls Tryd.prog 32 #[.pointer (some ⟨b, 0, none⟩), .string (str s)] w fun e w' => e = .returned (.tuple #[.int .i64 s.length, .nilIface]) ∧ BdT B b (t ++ s) w' ∧ Below B w w' := by
  refine (writeString_c B b (Lib.byteCells t) (str s) w h (by rw [Lib.byteCells_length, size_str]; exact hlen) hBw).mono ?_
  rintro e w' ⟨rfl, h1, hb⟩
  exact ⟨by rw [size_str], Or.inr (bdt_write h1), hb⟩
theorem String_l (B b : Nat) (t : List UInt8) (w : World) (h : BdT B b t w) (hBw : B ≤ w.heap.size) :
    Calls Tryd.prog 33 #[.pointer (some ⟨b, 0, none⟩)] w fun e w' => e = .returned (.string (str t)) ∧ Below B w w' := Tryd.Builder_String_any B b t w h hBw
/-- An append that keeps all blocks but its own. -/
theorem app_keep {α : Type} {t e : TypeId} {enc : α → List Value} {sz : Nat} (H : AppE t e enc sz) (l : List α) (x : α) (n : Nat) (hn : l.length = n) (hl : n ≤ 100000) (W : World) (base g : Nat) (v : Value)
    (hrow : W.ownsRow base e sz v n (l.flatMap enc)) (hb : base ≤ W.heap.size) (hc : ∀ j u, (enc x)[j]? = some u → W.cell? ⟨g, j, none⟩ = some u) :
    ∃ v' w', (Builtin.append_ #[t, t] t #[v, .slice (some ⟨g, 0, none⟩) 1 1]).run Tryd.prog W = .ok v' w' ∧ (w'.ownsRow base e sz v' (n + 1) ((l ++ [x]).flatMap enc) ∧ Below base W w' ∧ W.grownBy w' v.ownBlock) := by
  obtain ⟨i, z, bytes, h1, h2, h3, h4, h5, h6⟩ := H.info
  obtain ⟨v', w', hrun, r1, r2, -⟩ := run_append_own (P := Tryd.prog) W base t t e i z sz bytes H.ht h1 h2 h3 h4 h5 H.pos v n (l.flatMap enc) hrow ⟨g, 0, none⟩ 1 1 (enc x) (by rw [H.len]; omega) (fun j u hu => by rw [add_none]; exact hc j u hu) (H.one x) (by unfold maxLen; omega)
    (by have := Nat.mul_le_mul (show n + 1 ≤ 100001 by omega) h6; omega) hb
  refine ⟨v', w', hrun, row_snoc (enc := enc) (y := x) r1 rfl, ?_, r2⟩
  exact Below.grow (Below.refl base W) hrow r2 rfl hb
theorem gr_cell {W w' : World} {r : Option Nat} {b o : Nat} {u : Value} (h : W.grownBy w' r) (hne : r ≠ some b) (hc : W.cell? ⟨b, o, none⟩ = some u) : w'.cell? ⟨b, o, none⟩ = some u :=
  (World.cell?_of_block (a := ⟨b, o, none⟩) (h.block b (cell?_lt hc) (Ne.symm hne))).trans hc
theorem gr_frozen {W w' : World} {r : Option Nat} {b o : Nat} {u : Bool} (h : W.grownBy w' r) (hne : r ≠ some b) (hlt : b < W.heap.size) (hc : W.frozen? ⟨b, o, none⟩ = u) : w'.frozen? ⟨b, o, none⟩ = u :=
  (World.frozen?_of_block (a := ⟨b, o, none⟩) (h.block b hlt (Ne.symm hne))).trans hc
theorem row_ne {W : World} {base sz n b : Nat} {e : TypeId} {v : Value} {xs : List Value} (h : W.ownsRow base e sz v n xs) (hb : W.heap.size ≤ b ∨ b < base) : v.ownBlock ≠ some b := fun e => by
  have := h.lt b e; omega
/-- Atoi, with its error. -/
theorem atoi_e (l : List UInt8) (hp : l.length ≤ 70000) (w : World) (he : Env w) : Calls Tryd.prog 24 #[.string (str l)] w fun e w' => ∃ E, e = .returned (.tuple #[.int .i64 (atoiN l), E]) ∧ errV l E ∧ Below w.heap.size w w' := by
  refine (atoi_c (str l) (by rw [size_str]; omega) w he).mono ?_
  rintro e w' ⟨E, ⟨rfl, h⟩, hb⟩
  rw [str_data] at *
  exact ⟨E, rfl, h, hb⟩
theorem atoi_l (l : List UInt8) (hp : l.length ≤ 70000) (w : World) (he : Env w) : Calls Tryd.prog 24 #[.string (str l)] w fun e w' => ∃ E, e = .returned (.tuple #[.int .i64 (atoiN l), E]) ∧ Below w.heap.size w w' :=
  (atoi_e l hp w he).mono fun e w' ⟨E, h1, _, h3⟩ => ⟨E, h1, h3⟩
theorem split_l (l : List UInt8) (hs : l.length ≤ 70000) (w : World) (he : Env w) : Calls Tryd.prog 22 #[.string (str l), .string ⟨#[32]⟩] w fun e w' =>
    ∃ b, e = .returned (.slice (some ⟨b, 0, none⟩) (pieces 32 l).length (pieces 32 l).length) ∧ WordsAt w' b (pieces 32 l) ∧ w.heap.size ≤ b ∧ b < w'.heap.size ∧ Below w.heap.size w w' := by
  refine (split_c (str l) 32 (by rw [size_str]; omega) w he).mono ?_
  rintro e w' ⟨b, ⟨rfl, h2, rfl, h3⟩, hb⟩
  rw [str_data] at *
  exact ⟨_, rfl, h2, Nat.le_refl _, by omega, hb⟩
/-- A line without its end. -/
theorem trim_line (a : List UInt8) : Lib.trimSuffix (a ++ [10]) [10] = a := by
  unfold Lib.trimSuffix Lib.hasSuffix
  rw [if_pos (by rw [List.isSuffixOf_iff_suffix]; exact ⟨a, rfl⟩)]
  simp
theorem trim_none {a : List UInt8} (h : (10 : UInt8) ∉ a) : Lib.trimSuffix a [10] = a := by
  unfold Lib.trimSuffix Lib.hasSuffix
  rw [if_neg (fun e => by rw [List.isSuffixOf_iff_suffix] at e; obtain ⟨b, rfl⟩ := e; exact h (by simp))]
theorem trim_l (l : List UInt8) (hs : l.length ≤ 70000) (w : World) : Calls Tryd.prog 23 #[.string (str l), .string ⟨#[10]⟩] w fun e w' => e = .returned (.string (str (Lib.trimSuffix l [10]))) ∧ w = w' := by
  refine (Tryd.strings_TrimSuffix (str l) ⟨#[10]⟩ w (by rw [size_str]; omega)).mono ?_
  rintro e w' ⟨rfl, rfl⟩
  exact ⟨by rw [str_data]; rfl, rfl⟩
/-- The first of the lines that are left. -/
theorem lns_step {t x : List UInt8} {r : List (List UInt8)} (h : lns t = x :: r) : t ≠ [] ∧ lns (restL t) = r ∧ (((10 : UInt8) ∈ t ∧ x = headL t ++ [10]) ∨ ((10 : UInt8) ∉ t ∧ x = t)) ∧ Lib.trimSuffix x [10] = headL t := by
  have ht : t ≠ [] := by rintro rfl; simp [lns] at h
  rcases head_cases t with ⟨h1, h2, h3, _⟩ | ⟨h1, h2, _⟩
  · rw [lns_one t ht h1] at h
    injection h with e1 e2
    subst e1 e2
    exact ⟨ht, by rw [h3]; rfl, .inr ⟨h1, rfl⟩, by rw [h2]; exact trim_none h1⟩
  · have e : lns t = (headL t ++ [10]) :: lns (restL t) := by
      conv => lhs; rw [h2]
      exact lns_app _ _ h1
    rw [e] at h
    injection h with e1 e2
    subst e1 e2
    exact ⟨ht, rfl, .inl ⟨t_mem h2, rfl⟩, trim_line _⟩
theorem lns_next {s t x : List UInt8} {pre : List (List UInt8)} (h : lns s = pre ++ lns t) (hp : pre ++ [x] <+: lns s) : ∃ r, lns t = x :: r := by
  obtain ⟨r, hr⟩ := hp
  rw [h, List.append_assoc] at hr
  exact ⟨r, (List.append_cancel_left hr).symm⟩
end Go.Proofs.YtimbdnngeoccdaaDoor
