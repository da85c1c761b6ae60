/-
  The text of a log of events: plain law, no program in sight.
-/
import Derived.Test.YtimbdnngeoccdaaGreatDoorB1
import Derived.Test.YtimbdnngeoccdaaGreatDoorTx1
namespace Go.Proofs.YtimbdnngeoccdaaGreatDoor
set_option linter.unusedVariables false
set_option linter.unusedSimpArgs false
def bodyE (x : Ev) : List UInt8 := Lib.itoa x.at' ++ 32 :: (Lib.itoa x.kind ++ 32 :: Lib.itoa x.n)
def lineE (x : Ev) : List UInt8 := bodyE x ++ [10]
def textE (l : List Ev) : List UInt8 := l.flatMap lineE
def decE (t : List UInt8) : Ev := match pieces 32 t with
  | [a, b, c] => ⟨atoiN a, atoiN b, atoiN c⟩
  | _ => ⟨0, 0, 0⟩
/-- Element i is fine, and not earlier than the one before it. -/
def okI (l : List Ev) (i : Nat) : Bool := match l[i]? with
  | none => true
  | some x => fineB x && (decide (i = 0) || (match l[i - 1]? with
    | none => true
    | some y => decide (y.at' ≤ x.at')))
def upB (l : List Ev) : Bool := (List.range l.length).all (okI l)
def ordB (l : List Ev) : Bool := decide (l.length ≤ 100) && upB l
theorem upB_iff {l : List Ev} : upB l = true ↔ ∀ i, i < l.length → okI l i = true := by
  unfold upB; simp [List.all_eq_true]
theorem upB_bad {l : List Ev} {i : Nat} (hi : i < l.length) (h : okI l i = false) : upB l = false := by
  cases hu : upB l with
  | false => rfl
  | true => rw [upB_iff.1 hu i hi] at h; cases h
theorem ordB_iff {l : List Ev} : ordB l = true ↔ l.length ≤ 100 ∧ ∀ i, i < l.length → okI l i = true := by
  unfold ordB; rw [Bool.and_eq_true, decide_eq_true_eq, upB_iff]
theorem okI_app {a b : List Ev} {i : Nat} (hi : i < a.length) : okI (a ++ b) i = okI a i := by
  unfold okI
  rw [List.getElem?_append_left hi, List.getElem?_append_left (by omega)]
theorem ordB_app {a b : List Ev} (h : ordB (a ++ b) = true) : ordB a = true := by
  rw [ordB_iff] at h ⊢
  rw [List.length_append] at h
  exact ⟨by omega, fun i hi => by rw [← okI_app (b := b) hi]; exact h.2 i (by omega)⟩
theorem ordB_fine {l : List Ev} (h : ordB l = true) {x : Ev} (hx : x ∈ l) : fineB x = true := by
  obtain ⟨i, hi, rfl⟩ := List.getElem_of_mem hx
  have := (ordB_iff.1 h).2 i hi
  unfold okI at this
  rw [List.getElem?_eq_getElem hi] at this
  simp only [Bool.and_eq_true] at this
  exact this.1
theorem ordB_one (x : Ev) : ordB [x] = fineB x := by
  unfold ordB upB okI
  simp
theorem body_no (x : Ev) : (10 : UInt8) ∉ bodyE x := by
  unfold bodyE
  have h1 := itoa_no x.at' 10 (by decide)
  have h2 := itoa_no x.kind 10 (by decide)
  have h3 := itoa_no x.n 10 (by decide)
  simp [h1, h2, h3]
theorem body_pieces (x : Ev) : pieces 32 (bodyE x) = [Lib.itoa x.at', Lib.itoa x.kind, Lib.itoa x.n] := by
  unfold bodyE
  rw [pieces_app 32 _ _ (itoa_no _ 32 (by decide)), pieces_app 32 _ _ (itoa_no _ 32 (by decide)), pieces_none 32 _ (itoa_no _ 32 (by decide))]
theorem dec_body {x : Ev} (h : fineB x = true) : decE (bodyE x) = x := by
  obtain ⟨h1, h2, h3, _⟩ := fineB_true h
  unfold decE
  rw [body_pieces]
  simp only
  rw [atoiN_itoa _ (by omega) (by omega), atoiN_itoa _ (by omega) (by omega), atoiN_itoa _ (by omega) (by omega)]
theorem body_len {x : Ev} (h : fineB x = true) : (bodyE x).length ≤ 60 := by
  obtain ⟨h1, h2, h3, _⟩ := fineB_true h
  unfold bodyE
  have a1 := itoa_len 8 x.at' (by omega)
  have a2 := itoa_len 8 x.kind (by omega)
  have a3 := itoa_len 8 x.n (by omega)
  simp only [List.length_append, List.length_cons]
  omega
theorem line_len {x : Ev} (h : fineB x = true) : (lineE x).length ≤ 61 := by
  have := body_len h
  unfold lineE
  rw [List.length_append, List.length_singleton]; omega
theorem line_ne (x : Ev) : lineE x ≠ [] := by unfold lineE; simp
theorem line_app (x : Ev) (r : List UInt8) : lineE x ++ r = bodyE x ++ 10 :: r := by unfold lineE; simp
theorem textE_cons (x : Ev) (l : List Ev) : textE (x :: l) = lineE x ++ textE l := by unfold textE; rw [List.flatMap_cons]
theorem textE_snoc (l : List Ev) (x : Ev) : textE (l ++ [x]) = textE l ++ lineE x := by unfold textE; simp
theorem textE_one (x : Ev) : textE [x] = lineE x := by unfold textE; simp
theorem textE_ne {l : List Ev} (h : l ≠ []) : textE l ≠ [] := by
  cases l with
  | nil => exact absurd rfl h
  | cons x l => rw [textE_cons]; simp [line_ne]
theorem textE_len : ∀ l : List Ev, (∀ x ∈ l, fineB x = true) → (textE l).length ≤ 61 * l.length ∧ l.length ≤ (textE l).length
  | [], _ => by simp [textE]
  | x :: l, h => by
    have ih := textE_len l (fun y hy => h y (List.mem_cons_of_mem _ hy))
    have hx := line_len (h x (List.mem_cons_self ..))
    have h1 : 0 < (lineE x).length := List.length_pos_iff.2 (line_ne x)
    rw [textE_cons, List.length_append, List.length_cons]
    omega
/-- What is written for a log. -/
def fmtE (l : List Ev) : List UInt8 := if ordB l = true then textE l else []
/-- The text before the first line's end, and what follows. -/
def headL (s : List UInt8) : List UInt8 := (Lib.cut s [10]).1
def restL (s : List UInt8) : List UInt8 := (Lib.cut s [10]).2.1
theorem head_app {a : List UInt8} (r : List UInt8) (h : (10 : UInt8) ∉ a) : headL (a ++ 10 :: r) = a ∧ restL (a ++ 10 :: r) = r := by
  unfold headL restL; rw [cut_app r h]; exact ⟨rfl, rfl⟩
theorem head_none {a : List UInt8} (h : (10 : UInt8) ∉ a) : headL a = a ∧ restL a = [] := by
  unfold headL restL; rw [cut_none h]; exact ⟨rfl, rfl⟩
theorem head_cases (s : List UInt8) : ((10 : UInt8) ∉ s ∧ headL s = s ∧ restL s = [] ∧ Lib.indexByte s 10 = -1) ∨ ((10 : UInt8) ∉ headL s ∧ s = headL s ++ 10 :: restL s ∧ Lib.indexByte s 10 = ((headL s).length : Nat)) := by
  rcases find_byte 10 s with ⟨h1, h2⟩ | ⟨a, r, rfl, h2, h3⟩
  · exact Or.inl ⟨h2, (head_none h2).1, (head_none h2).2, h1⟩
  · obtain ⟨e1, e2⟩ := head_app r h2
    rw [e1, e2]
    exact Or.inr ⟨h2, rfl, h3⟩
def okE (l : List Ev) (s : List UInt8) : Bool :=
  decide ((10 : UInt8) ∈ s) && (decide (bodyE (decE (headL s)) = headL s) && ordB (l ++ [decE (headL s)]))
def parseE : Nat → List Ev → List UInt8 → List Ev × Int × Int
  | 0, l, _ => (l, 0, 0)
  | k + 1, l, s => if s = [] then (l, 0, 0) else if okE l s = true then parseE k (l ++ [decE (headL s)]) (restL s) else ([], (l.length : Int), 2)
theorem rest_len {s : List UInt8} (h : s ≠ []) : (restL s).length + 1 ≤ s.length := by
  rcases head_cases s with ⟨_, _, h2, _⟩ | ⟨_, h2, _⟩
  · rw [h2]; exact List.length_pos_iff.2 h
  · conv => rhs; rw [h2]
    rw [List.length_append, List.length_cons]; omega
theorem okE_parts {l : List Ev} {s : List UInt8} (h : okE l s = true) : (10 : UInt8) ∈ s ∧ bodyE (decE (headL s)) = headL s ∧ ordB (l ++ [decE (headL s)]) = true := by
  unfold okE at h; simpa only [Bool.and_eq_true, decide_eq_true_eq] using h
theorem okE_of {l : List Ev} {s : List UInt8} (h1 : (10 : UInt8) ∈ s) (h2 : bodyE (decE (headL s)) = headL s) (h3 : ordB (l ++ [decE (headL s)]) = true) : okE l s = true := by
  unfold okE; simp only [Bool.and_eq_true, decide_eq_true_eq]; exact ⟨h1, h2, h3⟩
theorem okE_not {l : List Ev} {s : List UInt8} (h : ¬ ((10 : UInt8) ∈ s ∧ bodyE (decE (headL s)) = headL s ∧ ordB (l ++ [decE (headL s)]) = true)) : okE l s = false := by
  cases e : okE l s with
  | false => rfl
  | true => exact absurd (okE_parts e) h
theorem snoc_fine {l : List Ev} {x : Ev} (h : ordB (l ++ [x]) = true) : fineB x = true := ordB_fine h (by simp)
/-- A line that has not three words is none. -/
theorem okE_words {l : List Ev} {s : List UInt8} (h : (pieces 32 (headL s)).length ≠ 3) : okE l s = false := okE_not fun ⟨_, h2, _⟩ => h (by
  rw [← h2, body_pieces]; rfl)
theorem okE_fine {l : List Ev} {s : List UInt8} (h : fineB (decE (headL s)) = false) : okE l s = false := okE_not fun ⟨_, _, h3⟩ => by
  rw [snoc_fine h3] at h; cases h
theorem okE_ord {l : List Ev} {s : List UInt8} (h : ordB (l ++ [decE (headL s)]) = false) : okE l s = false := okE_not fun ⟨_, _, h3⟩ => by
  rw [h3] at h; cases h
theorem okE_prefix {l : List Ev} {s : List UInt8} (h : Lib.hasPrefix s (lineE (decE (headL s))) = false) : okE l s = false := okE_not fun ⟨h1, h2, _⟩ => by
  rcases head_cases s with ⟨h3, _⟩ | ⟨_, h4, _⟩
  · exact h3 h1
  · have : lineE (decE (headL s)) <+: s := ⟨restL s, by rw [line_app, h2]; exact h4.symm⟩
    unfold Lib.hasPrefix at h
    rw [List.isPrefixOf_iff_prefix.2 this] at h; cases h
theorem okE_good {l : List Ev} {s : List UInt8} (h : Lib.hasPrefix s (lineE (decE (headL s))) = true) (h3 : ordB (l ++ [decE (headL s)]) = true) : okE l s = true := by
  unfold Lib.hasPrefix at h
  obtain ⟨r, hr⟩ := List.isPrefixOf_iff_prefix.1 h
  rw [line_app] at hr
  have hh := (head_app r (body_no (decE (headL s)))).1
  rw [hr] at hh
  exact okE_of (by rw [← hr]; simp) hh.symm h3
theorem okE_long {l : List Ev} {s : List UInt8} (h : 60 < (headL s).length) : okE l s = false := okE_not fun ⟨_, h2, h3⟩ => by
  have := body_len (snoc_fine h3)
  rw [h2] at this; omega
theorem okE_other {l : List Ev} {s : List UInt8} (h : lineE (decE (headL s)) ≠ headL s ++ [10]) : okE l s = false := okE_not fun ⟨_, h2, _⟩ => h (by
  unfold lineE; rw [h2])
theorem okE_same {l : List Ev} {s : List UInt8} (h1 : (10 : UInt8) ∈ s) (h : lineE (decE (headL s)) = headL s ++ [10]) (h3 : ordB (l ++ [decE (headL s)]) = true) : okE l s = true :=
  okE_of h1 (List.append_cancel_right (by unfold lineE at h; exact h)) h3
/-- What was written is read back. -/
theorem parse_text : ∀ (r pre : List Ev) (k : Nat), ordB (pre ++ r) = true → (textE r).length ≤ k → parseE k pre (textE r) = (pre ++ r, 0, 0)
  | [], pre, k, _, _ => by
    cases k with
    | zero => simp [parseE]
    | succ k => simp [parseE, textE]
  | x :: r, pre, k, h, hk => by
    have h' : ordB ((pre ++ [x]) ++ r) = true := by rw [List.append_assoc]; exact h
    have hx := snoc_fine (ordB_app h')
    have hn := textE_ne (List.cons_ne_nil x r)
    cases k with
    | zero => exact absurd (List.length_eq_zero_iff.1 (by omega)) hn
    | succ k =>
      have e : textE (x :: r) = bodyE x ++ 10 :: textE r := by rw [textE_cons, line_app]
      obtain ⟨e1, e2⟩ := head_app (textE r) (body_no x)
      have hr := rest_len hn
      rw [e] at hn hk hr ⊢
      have hok : okE pre (bodyE x ++ 10 :: textE r) = true := by
        refine okE_of (by simp) ?_ ?_
        · rw [e1, dec_body hx]
        · rw [e1, dec_body hx]; exact ordB_app h'
      unfold parseE
      rw [if_neg hn, if_pos hok, e1, e2, dec_body hx]
      rw [e2] at hr
      rw [parse_text r (pre ++ [x]) k h' (by omega), List.append_assoc]
      rfl
end Go.Proofs.YtimbdnngeoccdaaGreatDoor
