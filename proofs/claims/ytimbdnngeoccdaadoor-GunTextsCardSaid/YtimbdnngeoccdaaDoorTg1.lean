/-
  The text of shots: plain law, no program in sight.
-/
import Derived.Test.YtimbdnngeoccdaaDoorTx2
import Derived.Test.YtimbdnngeoccdaaDoorS3
namespace Go.Proofs.YtimbdnngeoccdaaDoor
set_option linter.unusedVariables false
set_option linter.unusedSimpArgs false
def bodyG (x : Shot) : List UInt8 := Lib.itoa x.gx ++ 32 :: (Lib.itoa x.gy ++ 32 :: (Lib.itoa x.lo ++ 32 :: Lib.itoa x.hi))
def sh0 : Shot := ⟨0, 0, 0, 0⟩
def decG (t : List UInt8) : Shot := match pieces 32 t with
  | [a, b, c, d] => ⟨atoiN a, atoiN b, atoiN c, atoiN d⟩
  | _ => sh0
def okSh (x : Shot) : Bool := okShot x.gx x.gy x.lo x.hi
def okG (l : List Shot) : Bool := decide (l.length ≤ 6) && l.all okSh
def fmG : Fm Shot := ⟨bodyG, decG, okG⟩
theorem okSh_parts {x : Shot} (h : okSh x = true) : (-50000 ≤ x.gx ∧ x.gx ≤ 50000) ∧ (-50000 ≤ x.gy ∧ x.gy ≤ 50000) ∧ (0 ≤ x.lo ∧ x.lo ≤ 1000000) ∧ 0 ≤ x.hi ∧ x.hi ≤ 1000000 := by
  obtain ⟨h1, h2, h3, h4⟩ := okShot_true h
  obtain ⟨h5, h6⟩ := place_true h1
  exact ⟨h5, h6, ⟨h2, by omega⟩, by omega, h4⟩
theorem okG_parts {l : List Shot} (h : okG l = true) : l.length ≤ 6 ∧ ∀ x ∈ l, okSh x = true := by
  unfold okG at h
  rw [Bool.and_eq_true, decide_eq_true_eq, List.all_eq_true] at h
  exact h
theorem okG_of {l : List Shot} (h1 : l.length ≤ 6) (h2 : ∀ x ∈ l, okSh x = true) : okG l = true := by
  unfold okG
  rw [Bool.and_eq_true, decide_eq_true_eq, List.all_eq_true]
  exact ⟨h1, h2⟩
theorem okG_nil : okG [] = true := rfl
theorem okG_app {a b : List Shot} (h : okG (a ++ b) = true) : okG a = true := by
  obtain ⟨h1, h2⟩ := okG_parts h
  rw [List.length_append] at h1
  exact okG_of (by omega) (fun x hx => h2 x (List.mem_append_left _ hx))
theorem okG_last {l : List Shot} {x : Shot} (h : okG (l ++ [x]) = true) : okSh x = true := (okG_parts h).2 x (by simp)
theorem okG_snoc {l : List Shot} {x : Shot} (h : okG l = true) (hl : l.length < 6) (hx : okSh x = true) : okG (l ++ [x]) = true :=
  okG_of (by rw [List.length_append, List.length_singleton]; omega) (fun y hy => by
    rcases List.mem_append.1 hy with hy | hy
    · exact (okG_parts h).2 y hy
    · simp at hy; subst hy; exact hx)
theorem okG_not {l : List Shot} {x : Shot} (h : x ∈ l) (hx : okSh x = false) : okG l = false := by
  cases ho : okG l with
  | false => rfl
  | true => rw [(okG_parts ho).2 x h] at hx; cases hx
theorem okG_big {l : List Shot} (h : 6 < l.length) : okG l = false := by
  cases ho : okG l with
  | false => rfl
  | true => have := (okG_parts ho).1; omega
/-- Of shots that are there, ValidShots says so. -/
theorem okG_shots {l : List Shot} (h : l ≠ []) : okShots l = okG l := by
  have hp : 0 < l.length := List.length_pos_iff.2 h
  unfold okShots okG
  have : within (l.length : Int) 1 6 = decide (l.length ≤ 6) := by
    unfold within
    rw [Bool.eq_iff_iff]
    simp
    omega
  rw [this]
  rfl
theorem body_no {x : Shot} : (10 : UInt8) ∉ bodyG x ∧ pieces 32 (bodyG x) = [Lib.itoa x.gx, Lib.itoa x.gy, Lib.itoa x.lo, Lib.itoa x.hi] := by
  have i0 := itoa_no x.gx 10 (by decide)
  have i1 := itoa_no x.gy 10 (by decide)
  have i2 := itoa_no x.lo 10 (by decide)
  have i3 := itoa_no x.hi 10 (by decide)
  unfold bodyG
  refine ⟨by simp only [List.mem_append, List.mem_cons, i0, i1, i2, i3, false_or, or_false, not_or]; decide, ?_⟩
  rw [pieces_app 32 _ _ (itoa_no _ 32 (by decide)), pieces_app 32 _ _ (itoa_no _ 32 (by decide)), pieces_app 32 _ _ (itoa_no _ 32 (by decide)), pieces_none 32 _ (itoa_no _ 32 (by decide))]
theorem dec_body {x : Shot} (h : okSh x = true) : decG (bodyG x) = x := by
  obtain ⟨h1, h2, h3, h4⟩ := okSh_parts h
  unfold decG
  rw [body_no.2]
  simp only
  rw [atoiN_itoa _ (by omega) (by omega), atoiN_itoa _ (by omega) (by omega), atoiN_itoa _ (by omega) (by omega), atoiN_itoa _ (by omega) (by omega)]
theorem body_len {x : Shot} (h : okSh x = true) : (fmG.line x).length ≤ 60 := by
  obtain ⟨h1, h2, h3, h4⟩ := okSh_parts h
  have a0 := itoa_len 8 x.gx (by omega)
  have a1 := itoa_len 8 x.gy (by omega)
  have a2 := itoa_len 8 x.lo (by omega)
  have a3 := itoa_len 8 x.hi (by omega)
  show (bodyG x ++ [10]).length ≤ 60
  unfold bodyG
  simp only [List.length_append, List.length_cons, List.length_nil]
  omega
theorem text_le {l : List Shot} (h : okG l = true) : (fmG.text l).length ≤ 1000 := by
  have h1 := Fm.text_len (F := fmG) (n := 60) l (fun x hx => body_len ((okG_parts h).2 x hx))
  have := (okG_parts h).1
  omega
/-- What is written for shots. -/
def fmtG (l : List Shot) : List UInt8 := if okShots l = true then fmG.text l else []
theorem read_back {l : List Shot} (h : okG l = true) : fmG.read (fmG.text l) = (l, 0, 0) := by
  refine Fm.read_text (fun a b hab => okG_app hab) (fun l x hx => ?_) l h (by have := text_le h; omega)
  have := okG_last hx
  exact ⟨dec_body this, body_no.1⟩
/-- What a right line's words are. -/
theorem good_words {l : List Shot} {s : List UInt8} (h : fmG.good l s = true) : ∃ a b c d, pieces 32 (headL s) = [a, b, c, d] ∧ atoiB a = true ∧ atoiB b = true ∧ atoiB c = true ∧ atoiB d = true := by
  obtain ⟨-, h2, h3⟩ := Fm.good_parts h
  have h2' : bodyG (decG (headL s)) = headL s := h2
  have hk := okG_last (show okG (l ++ [decG (headL s)]) = true from h3)
  generalize decG (headL s) = x at *
  obtain ⟨p1, p2, p3, p4⟩ := okSh_parts hk
  rw [← h2']
  exact ⟨_, _, _, _, body_no.2, atoiB_itoa _ (by omega) (by omega), atoiB_itoa _ (by omega) (by omega), atoiB_itoa _ (by omega) (by omega), atoiB_itoa _ (by omega) (by omega)⟩
theorem good_long {l : List Shot} {s : List UInt8} (h : 80 < (headL s).length) : fmG.good l s = false := Fm.good_not fun ⟨_, h2, h3⟩ => by
  have h2' : bodyG (decG (headL s)) = headL s := h2
  have hk := body_len (okG_last (show okG (l ++ [decG (headL s)]) = true from h3))
  have hk' : (bodyG (decG (headL s)) ++ [10]).length ≤ 60 := hk
  rw [h2', List.length_append] at hk'
  omega
theorem decG_other {t : List UInt8} (h : (pieces 32 t).length ≠ 4) : decG t = sh0 := by
  unfold decG
  split
  · rename_i e; rw [e] at h; exact absurd rfl h
  · rfl
theorem good_four {l : List Shot} {s : List UInt8} (h : (pieces 32 (headL s)).length ≠ 4) : fmG.good l s = false := by
  cases hg : fmG.good l s with
  | false => rfl
  | true =>
    obtain ⟨n, a, b, c, e, -⟩ := good_words hg
    rw [e] at h
    exact absurd rfl h
theorem good_word {l : List Shot} {s y : List UInt8} (hy : y ∈ pieces 32 (headL s)) (hb : atoiB y = false) : fmG.good l s = false := by
  cases hg : fmG.good l s with
  | false => rfl
  | true =>
    obtain ⟨a, b, c, d, e, h1, h2, h3, h4⟩ := good_words hg
    rw [e] at hy
    simp at hy
    rcases hy with rfl | rfl | rfl | rfl
    · rw [hb] at h1; cases h1
    · rw [hb] at h2; cases h2
    · rw [hb] at h3; cases h3
    · rw [hb] at h4; cases h4
theorem good_end {l : List Shot} {s : List UInt8} (h : (10 : UInt8) ∉ s) : fmG.good l s = false := Fm.good_not fun e => h e.1
theorem good_body {l : List Shot} {s : List UInt8} (h : bodyG (decG (headL s)) ≠ headL s) : fmG.good l s = false := Fm.good_not fun e => h e.2.1
theorem good_val {l : List Shot} {s : List UInt8} (h : okG (l ++ [decG (headL s)]) = false) : fmG.good l s = false := Fm.good_not fun e => by
  have : okG (l ++ [decG (headL s)]) = true := e.2.2
  rw [h] at this; cases this
end Go.Proofs.YtimbdnngeoccdaaDoor
