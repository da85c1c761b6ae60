/-
  The text of chances: plain law, no program in sight.
-/
import Derived.Test.YtimbdnngeoccdaaGreatDoorTx2
import Derived.Test.YtimbdnngeoccdaaGreatDoorNt7
namespace Go.Proofs.YtimbdnngeoccdaaGreatDoor
set_option linter.unusedVariables false
set_option linter.unusedSimpArgs false
def bodyC (x : Ch) : List UInt8 := x.nm.data.toList ++ 32 :: (Lib.itoa x.a ++ 32 :: (Lib.itoa x.b ++ 32 :: (Lib.itoa x.t ++ 32 :: Lib.itoa x.v)))
def decC (t : List UInt8) : Ch := match pieces 32 t with
  | [n, a, b, c, d] => ⟨str n, atoiN a, atoiN b, atoiN c, atoiN d⟩
  | _ => ch0
noncomputable def fmC : Fm Ch := ⟨bodyC, decC, okV⟩
theorem chk_mem {s : ByteArray} : ∀ (n k : Nat), k + n = s.size → chk s n k = true → ∀ j, k ≤ j → j < s.size → okI j (byteAt s j) = true
  | 0, k, hk, _, j, h1, h2 => by omega
  | n + 1, k, hk, h, j, h1, h2 => by
    unfold chk at h
    rw [Bool.and_eq_true] at h
    by_cases hj : j = k
    · subst hj; exact h.1
    · exact chk_mem n (k + 1) (by omega) h.2 j (by omega) h2
theorem name_bytes {s : ByteArray} (h : nameB s = true) : (∀ c ∈ s.data.toList, c ≠ 32 ∧ c ≠ 10) ∧ s.size ≤ 16 := by
  unfold nameB at h
  rw [Bool.and_eq_true] at h
  have hw := within_true h.2
  refine ⟨fun c hc => ?_, by omega⟩
  obtain ⟨j, hj, rfl⟩ := List.getElem_of_mem hc
  have hj' : j < s.size := by rw [size_list]; exact hj
  have := chk_mem s.size 0 (by omega) h.1 j (by omega) hj'
  have e : byteAt s j = (s.data.toList[j]).toNat := by
    unfold byteAt
    rw [List.getD_eq_getElem?_getD, List.getElem?_eq_getElem hj]; rfl
  rw [e] at this
  generalize s.data.toList[j] = c at *
  refine ⟨?_, ?_⟩
  · rintro rfl
    rcases ok_cases j ((32 : UInt8).toNat) with ⟨_, h⟩ | ⟨h, _⟩
    · have : (32 : UInt8).toNat = 32 := rfl
      omega
    · rw [h] at this; cases this
  · rintro rfl
    rcases ok_cases j ((10 : UInt8).toNat) with ⟨_, h⟩ | ⟨h, _⟩
    · have : (10 : UInt8).toNat = 10 := rfl
      omega
    · rw [h] at this; cases this
theorem okC_parts {n : ByteArray} {a b t v : Int} (h : okC n a b t v = true) : nameB n = true ∧ 0 ≤ a ∧ a < b ∧ b ≤ 86400000 ∧ (-90000 ≤ t ∧ t ≤ 90000) ∧ 0 ≤ v ∧ v ≤ 1000000 := by
  unfold okC at h
  simp only [Bool.and_eq_true, decide_eq_true_eq] at h
  obtain ⟨h1, h2, h3, h4, h5, h6⟩ := h
  exact ⟨h1, h2, h3, h4, within_true h5, within_true h6⟩
theorem okV_parts {l : List Ch} (h : okV l = true) : (∀ k, k < l.length → okAt l k = true) ∧ l.length ≤ 20 := by
  unfold okV at h
  rw [Bool.and_eq_true, decide_eq_true_eq] at h
  exact ⟨fun k hk => List.all_eq_true.1 h.1 k (List.mem_range.2 hk), h.2⟩
theorem okV_of {l : List Ch} (h : ∀ k, k < l.length → okAt l k = true) (hl : l.length ≤ 20) : okV l = true := by
  rw [okV_end h]; exact decide_eq_true hl
theorem okV_nil : okV [] = true := okV_of (fun k hk => absurd hk (by simp)) (by simp)
theorem getD_app {a b : List Ch} {k : Nat} (hk : k < a.length) : (a ++ b).getD k ch0 = a.getD k ch0 := by
  rw [List.getD_eq_getElem?_getD, List.getD_eq_getElem?_getD, List.getElem?_append_left hk]
theorem okAt_app {a b : List Ch} {k : Nat} (hk : k < a.length) : okAt (a ++ b) k = okAt a k := by
  unfold okAt
  rw [getD_app hk, List.take_append_of_le_length (by omega)]
  by_cases h0 : k = 0
  · rw [decide_eq_true h0]; simp
  · rw [getD_app (show k - 1 < a.length by omega)]
theorem okV_app {a b : List Ch} (h : okV (a ++ b) = true) : okV a = true := by
  obtain ⟨h1, h2⟩ := okV_parts h
  rw [List.length_append] at h2
  exact okV_of (fun k hk => by rw [← okAt_app (b := b) hk]; exact h1 k (by rw [List.length_append]; omega)) (by omega)
theorem okV_last {l : List Ch} {x : Ch} (h : okV (l ++ [x]) = true) : okC x.nm x.a x.b x.t x.v = true := by
  have := (okV_parts h).1 l.length (by simp)
  unfold okAt at this
  have e : (l ++ [x]).getD l.length ch0 = x := by simp [List.getD_eq_getElem?_getD]
  rw [e, Bool.and_eq_true] at this
  exact this.1
theorem body_no {x : Ch} (h : okC x.nm x.a x.b x.t x.v = true) : (10 : UInt8) ∉ bodyC x ∧ pieces 32 (bodyC x) = [x.nm.data.toList, Lib.itoa x.a, Lib.itoa x.b, Lib.itoa x.t, Lib.itoa x.v] := by
  have hn := (name_bytes (okC_parts h).1).1
  have h32 : (32 : UInt8) ∉ x.nm.data.toList := fun hm => (hn _ hm).1 rfl
  have h10 : (10 : UInt8) ∉ x.nm.data.toList := fun hm => (hn _ hm).2 rfl
  have i1 := itoa_no x.a 10 (by decide)
  have i2 := itoa_no x.b 10 (by decide)
  have i3 := itoa_no x.t 10 (by decide)
  have i4 := itoa_no x.v 10 (by decide)
  unfold bodyC
  refine ⟨by simp only [List.mem_append, List.mem_cons, h10, i1, i2, i3, i4, false_or, or_false, not_or]; decide, ?_⟩
  rw [pieces_app 32 _ _ h32, pieces_app 32 _ _ (itoa_no _ 32 (by decide)), pieces_app 32 _ _ (itoa_no _ 32 (by decide)), pieces_app 32 _ _ (itoa_no _ 32 (by decide)), pieces_none 32 _ (itoa_no _ 32 (by decide))]
theorem dec_body {x : Ch} (h : okC x.nm x.a x.b x.t x.v = true) : decC (bodyC x) = x := by
  obtain ⟨-, h2, h3, h4, h5, h6⟩ := okC_parts h
  unfold decC
  rw [(body_no h).2]
  simp only
  rw [atoiN_itoa _ (by omega) (by omega), atoiN_itoa _ (by omega) (by omega), atoiN_itoa _ (by omega) (by omega), atoiN_itoa _ (by omega) (by omega), str_eta]
theorem body_len {x : Ch} (h : okC x.nm x.a x.b x.t x.v = true) : (fmC.line x).length ≤ 100 := by
  obtain ⟨h1, h2, h3, h4, h5, h6⟩ := okC_parts h
  have hn := (name_bytes h1).2
  rw [size_list] at hn
  have a1 := itoa_len 8 x.a (by omega)
  have a2 := itoa_len 8 x.b (by omega)
  have a3 := itoa_len 8 x.t (by omega)
  have a4 := itoa_len 8 x.v (by omega)
  show (bodyC x ++ [10]).length ≤ 100
  unfold bodyC
  simp only [List.length_append, List.length_cons, List.length_nil]
  omega
theorem okV_mem {l : List Ch} (h : okV l = true) {x : Ch} (hx : x ∈ l) : okC x.nm x.a x.b x.t x.v = true := by
  obtain ⟨i, hi, rfl⟩ := List.getElem_of_mem hx
  have := (okV_parts h).1 i hi
  unfold okAt at this
  have e : l.getD i ch0 = l[i] := by rw [List.getD_eq_getElem?_getD, List.getElem?_eq_getElem hi]; rfl
  rw [e, Bool.and_eq_true] at this
  exact this.1
theorem text_le {l : List Ch} (h : okV l = true) : (fmC.text l).length ≤ 2000 := by
  have h1 := Fm.text_len (F := fmC) (n := 100) l (fun x hx => body_len (okV_mem h hx))
  have := (okV_parts h).2
  omega
/-- What is written for chances. -/
noncomputable def fmtC (l : List Ch) : List UInt8 := if okV l = true then fmC.text l else []
theorem read_back {l : List Ch} (h : okV l = true) : fmC.read (fmtC l) = (l, 0, 0) := by
  unfold fmtC
  rw [if_pos h]
  refine Fm.read_text (fun a b hab => okV_app hab) (fun l x hx => ?_) l h (by have := text_le h; omega)
  have := okV_last hx
  exact ⟨dec_body this, (body_no this).1⟩
/-- What a right line's words are. -/
theorem good_words {l : List Ch} {s : List UInt8} (h : fmC.good l s = true) : ∃ n a b c d, pieces 32 (headL s) = [n, a, b, c, d] ∧ atoiB a = true ∧ atoiB b = true ∧ atoiB c = true ∧ atoiB d = true := by
  obtain ⟨-, h2, h3⟩ := Fm.good_parts h
  have h2' : bodyC (decC (headL s)) = headL s := h2
  have hk := okV_last (show okV (l ++ [decC (headL s)]) = true from h3)
  generalize decC (headL s) = x at *
  obtain ⟨-, p2, p3, p4, p5, p6⟩ := okC_parts hk
  rw [← h2']
  exact ⟨_, _, _, _, _, (body_no hk).2, atoiB_itoa _ (by omega) (by omega), atoiB_itoa _ (by omega) (by omega), atoiB_itoa _ (by omega) (by omega), atoiB_itoa _ (by omega) (by omega)⟩
end Go.Proofs.YtimbdnngeoccdaaGreatDoor
