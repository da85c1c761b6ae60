/-
  The text of stars: plain law, no program in sight.
-/
import Derived.Test.YtimbdnngeoccdaaDoorTx2
import Derived.Test.YtimbdnngeoccdaaDoorTT
import Derived.Test.YtimbdnngeoccdaaDoorA6
namespace Go.Proofs.YtimbdnngeoccdaaDoor
set_option linter.unusedVariables false
set_option linter.unusedSimpArgs false
def srE (x : St) : List Value := [.string x.nm, .int .i64 x.a, .int .i64 x.b, .int .i64 x.c]
def bodyS (x : St) : List UInt8 := x.nm.data.toList ++ 32 :: (Lib.itoa x.a ++ 32 :: (Lib.itoa x.b ++ 32 :: Lib.itoa x.c))
def st0 : St := ⟨⟨#[]⟩, 0, 0, 0⟩
def decS (t : List UInt8) : St := match pieces 32 t with
  | [n, a, b, c] => ⟨str n, atoiN a, atoiN b, atoiN c⟩
  | _ => st0
def okS (x : St) : Bool := okStar x.nm x.a x.b x.c
def okSl (l : List St) : Bool := decide (l.length ≤ 100) && l.all okS
def fmS : Fm St := ⟨bodyS, decS, okSl⟩
theorem chk_mem {s : ByteArray} : ∀ (n k : Nat), k + n = s.size → chk s n k = true → ∀ j, k ≤ j → j < s.size → okI j (byteAt s j) = true
  | 0, k, hk, _, j, h1, h2 => by omega
  | n + 1, k, hk, h, j, h1, h2 => by
    unfold chk at h
    rw [Bool.and_eq_true] at h
    by_cases hj : j = k
    · subst hj; exact h.1
    · exact chk_mem n (k + 1) (by omega) h.2 j (by omega) h2
theorem name_bytes {s : ByteArray} (h : nameB s = true) : (∀ c ∈ s.data.toList, c ≠ 32 ∧ c ≠ 10) ∧ s.size ≤ 16 := by
  unfold nameB at h
  rw [Bool.and_eq_true] at h
  have hw := within_true h.2
  refine ⟨fun c hc => ?_, by omega⟩
  obtain ⟨j, hj, rfl⟩ := List.getElem_of_mem hc
  have hj' : j < s.size := by rw [size_list]; exact hj
  have := chk_mem s.size 0 (by omega) h.1 j (by omega) hj'
  have e : byteAt s j = (s.data.toList[j]).toNat := by
    unfold byteAt
    rw [List.getD_eq_getElem?_getD, List.getElem?_eq_getElem hj]; rfl
  rw [e] at this
  generalize s.data.toList[j] = c at *
  refine ⟨?_, ?_⟩
  · rintro rfl
    rcases ok_cases j ((32 : UInt8).toNat) with ⟨_, h⟩ | ⟨h, _⟩
    · have : (32 : UInt8).toNat = 32 := rfl
      omega
    · rw [h] at this; cases this
  · rintro rfl
    rcases ok_cases j ((10 : UInt8).toNat) with ⟨_, h⟩ | ⟨h, _⟩
    · have : (10 : UInt8).toNat = 10 := rfl
      omega
    · rw [h] at this; cases this
theorem okS_parts {x : St} (h : okS x = true) : nameB x.nm = true ∧ (0 ≤ x.a ∧ x.a ≤ 86399999) ∧ (-10000 ≤ x.b ∧ x.b ≤ 10000) ∧ 1000 ≤ x.c ∧ x.c ≤ 10000 := by
  unfold okS okStar at h
  simp only [Bool.and_eq_true] at h
  exact ⟨h.1, within_true h.2.1, within_true h.2.2.1, within_true h.2.2.2⟩
theorem okSl_parts {l : List St} (h : okSl l = true) : l.length ≤ 100 ∧ ∀ x ∈ l, okS x = true := by
  unfold okSl at h
  rw [Bool.and_eq_true, decide_eq_true_eq, List.all_eq_true] at h
  exact h
theorem okSl_of {l : List St} (h1 : l.length ≤ 100) (h2 : ∀ x ∈ l, okS x = true) : okSl l = true := by
  unfold okSl
  rw [Bool.and_eq_true, decide_eq_true_eq, List.all_eq_true]
  exact ⟨h1, h2⟩
theorem okSl_nil : okSl [] = true := rfl
theorem okSl_app {a b : List St} (h : okSl (a ++ b) = true) : okSl a = true := by
  obtain ⟨h1, h2⟩ := okSl_parts h
  rw [List.length_append] at h1
  exact okSl_of (by omega) (fun x hx => h2 x (List.mem_append_left _ hx))
theorem okSl_last {l : List St} {x : St} (h : okSl (l ++ [x]) = true) : okS x = true := (okSl_parts h).2 x (by simp)
theorem okSl_snoc {l : List St} {x : St} (h : okSl l = true) (hl : l.length < 100) (hx : okS x = true) : okSl (l ++ [x]) = true :=
  okSl_of (by rw [List.length_append, List.length_singleton]; omega) (fun y hy => by
    rcases List.mem_append.1 hy with hy | hy
    · exact (okSl_parts h).2 y hy
    · simp at hy; subst hy; exact hx)
theorem body_no {x : St} (h : okS x = true) : (10 : UInt8) ∉ bodyS x ∧ pieces 32 (bodyS x) = [x.nm.data.toList, Lib.itoa x.a, Lib.itoa x.b, Lib.itoa x.c] := by
  have hn := (name_bytes (okS_parts h).1).1
  have h32 : (32 : UInt8) ∉ x.nm.data.toList := fun hm => (hn _ hm).1 rfl
  have h10 : (10 : UInt8) ∉ x.nm.data.toList := fun hm => (hn _ hm).2 rfl
  have i1 := itoa_no x.a 10 (by decide)
  have i2 := itoa_no x.b 10 (by decide)
  have i3 := itoa_no x.c 10 (by decide)
  unfold bodyS
  refine ⟨by simp only [List.mem_append, List.mem_cons, h10, i1, i2, i3, false_or, or_false, not_or]; decide, ?_⟩
  rw [pieces_app 32 _ _ h32, pieces_app 32 _ _ (itoa_no _ 32 (by decide)), pieces_app 32 _ _ (itoa_no _ 32 (by decide)), pieces_none 32 _ (itoa_no _ 32 (by decide))]
theorem dec_body {x : St} (h : okS x = true) : decS (bodyS x) = x := by
  obtain ⟨-, h2, h3, h4⟩ := okS_parts h
  unfold decS
  rw [(body_no h).2]
  simp only
  rw [atoiN_itoa _ (by omega) (by omega), atoiN_itoa _ (by omega) (by omega), atoiN_itoa _ (by omega) (by omega), str_eta]
theorem body_len {x : St} (h : okS x = true) : (fmS.line x).length ≤ 60 := by
  obtain ⟨h1, h2, h3, h4⟩ := okS_parts h
  have hn := (name_bytes h1).2
  rw [size_list] at hn
  have a1 := itoa_len 8 x.a (by omega)
  have a2 := itoa_len 8 x.b (by omega)
  have a3 := itoa_len 8 x.c (by omega)
  show (bodyS x ++ [10]).length ≤ 60
  unfold bodyS
  simp only [List.length_append, List.length_cons, List.length_nil]
  omega
theorem text_le {l : List St} (h : okSl l = true) : (fmS.text l).length ≤ 6000 := by
  have h1 := Fm.text_len (F := fmS) (n := 60) l (fun x hx => body_len ((okSl_parts h).2 x hx))
  have := (okSl_parts h).1
  omega
/-- What is written for stars. -/
def fmtS (l : List St) : List UInt8 := if okSl l = true then fmS.text l else []
theorem read_back {l : List St} (h : okSl l = true) : fmS.read (fmtS l) = (l, 0, 0) := by
  unfold fmtS
  rw [if_pos h]
  refine Fm.read_text (fun a b hab => okSl_app hab) (fun l x hx => ?_) l h (by have := text_le h; omega)
  have := okSl_last hx
  exact ⟨dec_body this, (body_no this).1⟩
/-- What a right line's words are. -/
theorem good_words {l : List St} {s : List UInt8} (h : fmS.good l s = true) : ∃ n a b c, pieces 32 (headL s) = [n, a, b, c] ∧ atoiB a = true ∧ atoiB b = true ∧ atoiB c = true := by
  obtain ⟨-, h2, h3⟩ := Fm.good_parts h
  have h2' : bodyS (decS (headL s)) = headL s := h2
  have hk := okSl_last (show okSl (l ++ [decS (headL s)]) = true from h3)
  generalize decS (headL s) = x at *
  obtain ⟨-, p2, p3, p4⟩ := okS_parts hk
  rw [← h2']
  exact ⟨_, _, _, _, (body_no hk).2, atoiB_itoa _ (by omega) (by omega), atoiB_itoa _ (by omega) (by omega), atoiB_itoa _ (by omega) (by omega)⟩
theorem good_long {l : List St} {s : List UInt8} (h : 100 < (headL s).length) : fmS.good l s = false := Fm.good_not fun ⟨_, h2, h3⟩ => by
  have h2' : bodyS (decS (headL s)) = headL s := h2
  have hk := body_len (okSl_last (show okSl (l ++ [decS (headL s)]) = true from h3))
  have hk' : (bodyS (decS (headL s)) ++ [10]).length ≤ 60 := hk
  rw [h2', List.length_append] at hk'
  omega
end Go.Proofs.YtimbdnngeoccdaaDoor
