/-
  Texts of lines: what is read of a text line by line, and that what was written is read back. Plain law, no program in sight.
-/
import Derived.Test.YtimbdnngeoccdaaDoorTx1
namespace Go.Proofs.YtimbdnngeoccdaaDoor
set_option linter.unusedVariables false
set_option linter.unusedSimpArgs false
/-- The text before the first line's end, and what follows. -/
def headL (s : List UInt8) : List UInt8 := (Lib.cut s [10]).1
def restL (s : List UInt8) : List UInt8 := (Lib.cut s [10]).2.1
theorem head_app {a : List UInt8} (r : List UInt8) (h : (10 : UInt8) ∉ a) : headL (a ++ 10 :: r) = a ∧ restL (a ++ 10 :: r) = r := by
  unfold headL restL; rw [cut_app r h]; exact ⟨rfl, rfl⟩
theorem head_none {a : List UInt8} (h : (10 : UInt8) ∉ a) : headL a = a ∧ restL a = [] := by
  unfold headL restL; rw [cut_none h]; exact ⟨rfl, rfl⟩
theorem head_cases (s : List UInt8) : ((10 : UInt8) ∉ s ∧ headL s = s ∧ restL s = [] ∧ Lib.indexByte s 10 = -1) ∨ ((10 : UInt8) ∉ headL s ∧ s = headL s ++ 10 :: restL s ∧ Lib.indexByte s 10 = ((headL s).length : Nat)) := by
  rcases find_byte 10 s with ⟨h1, h2⟩ | ⟨a, r, rfl, h2, h3⟩
  · exact Or.inl ⟨h2, (head_none h2).1, (head_none h2).2, h1⟩
  · obtain ⟨e1, e2⟩ := head_app r h2
    rw [e1, e2]
    exact Or.inr ⟨h2, rfl, h3⟩
theorem rest_len {s : List UInt8} (h : s ≠ []) : (restL s).length + 1 ≤ s.length := by
  rcases head_cases s with ⟨_, _, h2, _⟩ | ⟨_, h2, _⟩
  · rw [h2]; exact List.length_pos_iff.2 h
  · conv => rhs; rw [h2]
    rw [List.length_append, List.length_cons]; omega
theorem head_le (t : List UInt8) : (headL t).length ≤ t.length := by
  rcases head_cases t with ⟨_, h, _⟩ | ⟨_, h, _⟩
  · rw [h]; omega
  · conv => rhs; rw [h]
    rw [List.length_append]; omega
/-- How elements are written, what is read of a line, and which lists are right. -/
structure Fm (α : Type) where
  body : α → List UInt8
  dec : List UInt8 → α
  ok : List α → Bool
section
variable {α : Type} (F : Fm α)
def Fm.line (x : α) : List UInt8 := F.body x ++ [10]
def Fm.text (l : List α) : List UInt8 := l.flatMap F.line
def Fm.good (l : List α) (s : List UInt8) : Bool :=
  decide ((10 : UInt8) ∈ s) && (decide (F.body (F.dec (headL s)) = headL s) && F.ok (l ++ [F.dec (headL s)]))
def Fm.parse : Nat → List α → List UInt8 → List α × Int × Int
  | 0, l, _ => (l, 0, 0)
  | k + 1, l, s => if s = [] then (l, 0, 0) else if F.good l s = true then Fm.parse k (l ++ [F.dec (headL s)]) (restL s) else ([], (l.length : Int), 2)
def Fm.read (s : List UInt8) : List α × Int × Int := if s.length ≤ 65536 then F.parse s.length [] s else ([], 0, 3)
end
section
variable {α : Type} {F : Fm α}
theorem Fm.good_parts {l : List α} {s : List UInt8} (h : F.good l s = true) : (10 : UInt8) ∈ s ∧ F.body (F.dec (headL s)) = headL s ∧ F.ok (l ++ [F.dec (headL s)]) = true := by
  unfold Fm.good at h; simpa only [Bool.and_eq_true, decide_eq_true_eq] using h
theorem Fm.good_of {l : List α} {s : List UInt8} (h1 : (10 : UInt8) ∈ s) (h2 : F.body (F.dec (headL s)) = headL s) (h3 : F.ok (l ++ [F.dec (headL s)]) = true) : F.good l s = true := by
  unfold Fm.good; simp only [Bool.and_eq_true, decide_eq_true_eq]; exact ⟨h1, h2, h3⟩
theorem Fm.good_not {l : List α} {s : List UInt8} (h : ¬ ((10 : UInt8) ∈ s ∧ F.body (F.dec (headL s)) = headL s ∧ F.ok (l ++ [F.dec (headL s)]) = true)) : F.good l s = false := by
  cases e : F.good l s with
  | false => rfl
  | true => exact absurd (Fm.good_parts e) h
theorem Fm.parse_nil (k : Nat) (l : List α) : F.parse k l [] = (l, 0, 0) := by cases k <;> simp [Fm.parse]
theorem Fm.parse_ok {k : Nat} {l : List α} {t : List UInt8} (ht : t ≠ []) (hk : t.length ≤ k) (h : F.good l t = true) : ∃ k', (restL t).length ≤ k' ∧ F.parse k l t = F.parse k' (l ++ [F.dec (headL t)]) (restL t) := by
  cases k with
  | zero => exact absurd (List.length_eq_zero_iff.1 (by omega)) ht
  | succ k =>
    have := rest_len ht
    refine ⟨k, by omega, ?_⟩
    conv => lhs; unfold Fm.parse
    rw [if_neg ht, if_pos h]
theorem Fm.parse_bad {k : Nat} {l : List α} {t : List UInt8} (ht : t ≠ []) (hk : t.length ≤ k) (h : F.good l t = false) : F.parse k l t = ([], (l.length : Int), 2) := by
  cases k with
  | zero => exact absurd (List.length_eq_zero_iff.1 (by omega)) ht
  | succ k =>
    unfold Fm.parse
    rw [if_neg ht, if_neg (by rw [h]; decide)]
theorem Fm.line_ne (x : α) : F.line x ≠ [] := by unfold Fm.line; simp
theorem Fm.line_app (x : α) (r : List UInt8) : F.line x ++ r = F.body x ++ 10 :: r := by unfold Fm.line; simp
theorem Fm.text_cons (x : α) (l : List α) : F.text (x :: l) = F.line x ++ F.text l := by unfold Fm.text; rw [List.flatMap_cons]
theorem Fm.text_snoc (l : List α) (x : α) : F.text (l ++ [x]) = F.text l ++ F.line x := by unfold Fm.text; simp
theorem Fm.text_ne {l : List α} (h : l ≠ []) : F.text l ≠ [] := by
  cases l with
  | nil => exact absurd rfl h
  | cons x l => rw [Fm.text_cons]; simp [Fm.line_ne]
theorem Fm.text_len {n : Nat} : ∀ l : List α, (∀ x ∈ l, (F.line x).length ≤ n) → (F.text l).length ≤ n * l.length
  | [], _ => by simp [Fm.text]
  | x :: l, h => by
    have ih := Fm.text_len l (fun y hy => h y (List.mem_cons_of_mem _ hy))
    have hx := h x (List.mem_cons_self ..)
    rw [Fm.text_cons, List.length_append, List.length_cons, Nat.mul_succ]
    omega
/-- What was written is read back. -/
theorem Fm.parse_text (hpre : ∀ a b, F.ok (a ++ b) = true → F.ok a = true) (hone : ∀ l x, F.ok (l ++ [x]) = true → F.dec (F.body x) = x ∧ (10 : UInt8) ∉ F.body x) :
    ∀ (r pre : List α) (k : Nat), F.ok (pre ++ r) = true → (F.text r).length ≤ k → F.parse k pre (F.text r) = (pre ++ r, 0, 0)
  | [], pre, k, _, _ => by
    have : F.text [] = [] := rfl
    rw [this, Fm.parse_nil, List.append_nil]
  | x :: r, pre, k, h, hk => by
    have h' : F.ok ((pre ++ [x]) ++ r) = true := by rw [List.append_assoc]; exact h
    have hx := hpre _ _ h'
    obtain ⟨hd, h10⟩ := hone _ _ hx
    have hn := Fm.text_ne (F := F) (List.cons_ne_nil x r)
    have e : F.text (x :: r) = F.body x ++ 10 :: F.text r := by rw [Fm.text_cons, Fm.line_app]
    obtain ⟨e1, e2⟩ := head_app (F.text r) h10
    have hok : F.good pre (F.text (x :: r)) = true := by
      rw [e]
      exact Fm.good_of (by simp) (by rw [e1, hd]) (by rw [e1, hd]; exact hx)
    obtain ⟨k', hk', hp⟩ := Fm.parse_ok hn hk hok
    rw [hp, e, e1, e2, hd]
    rw [e, e2] at hk'
    rw [Fm.parse_text hpre hone r (pre ++ [x]) k' h' hk', List.append_assoc]
    rfl
theorem Fm.read_text (hpre : ∀ a b, F.ok (a ++ b) = true → F.ok a = true) (hone : ∀ l x, F.ok (l ++ [x]) = true → F.dec (F.body x) = x ∧ (10 : UInt8) ∉ F.body x) (l : List α) (h : F.ok l = true) (hl : (F.text l).length ≤ 65536) : F.read (F.text l) = (l, 0, 0) := by
  unfold Fm.read
  rw [if_pos hl]
  exact Fm.parse_text hpre hone l [] _ h (Nat.le_refl _)
end
/-- A word that stands for what is written is a numeral. -/
theorem itoa_b {w : List UInt8} {n : Int} (h : w = Lib.itoa n) (h0 : -9223372036854775808 ≤ n) (h1 : n ≤ 9223372036854775807) : atoiB w = true := by rw [h]; exact atoiB_itoa n h0 h1
theorem pieces_mem_len (c : UInt8) : ∀ l : List UInt8, ∀ x ∈ pieces c l, x.length ≤ l.length
  | [], x, h => by simp [pieces] at h; subst h; simp
  | b :: l, x, h => by
    have ih := pieces_mem_len c l
    unfold pieces at h
    by_cases hb : b = c
    · rw [if_pos hb] at h
      rcases List.mem_cons.1 h with rfl | h
      · simp
      · have := ih x h; rw [List.length_cons]; omega
    · rw [if_neg hb] at h
      cases hp : pieces c l with
      | nil => rw [hp] at h; simp at h; subst h; simp
      | cons a t =>
        rw [hp] at h ih
        rcases List.mem_cons.1 h with rfl | h
        · have := ih a (List.mem_cons_self ..); rw [List.length_cons, List.length_cons]; omega
        · have := ih x (List.mem_cons_of_mem _ h); rw [List.length_cons]; omega
theorem pieces_len_le (c : UInt8) : ∀ l : List UInt8, (pieces c l).length ≤ l.length + 1
  | [] => by simp [pieces]
  | b :: l => by
    have ih := pieces_len_le c l
    unfold pieces
    by_cases hb : b = c
    · rw [if_pos hb]; simp; omega
    · rw [if_neg hb]
      cases hp : pieces c l with
      | nil => simp
      | cons a t => rw [hp] at ih; simp at ih ⊢; omega
theorem extract_app {t h r : List UInt8} {c : UInt8} (e : t = h ++ c :: r) : (str t).extract 0 h.length = str h := by
  subst e
  rw [extract_str]; simp
theorem extract_app1 {t h r : List UInt8} {c : UInt8} (e : t = h ++ c :: r) : (str t).extract 0 (h.length + 1) = str (h ++ [c]) := by
  subst e
  have e2 : h ++ c :: r = (h ++ [c]) ++ r := by simp
  rw [extract_str, e2, List.drop_zero, Nat.sub_zero, List.take_left' (by simp)]
theorem extract_app2 {t h r : List UInt8} {c : UInt8} (e : t = h ++ c :: r) : (str t).extract (h.length + 1) t.length = str r := by
  subst e
  have e2 : h ++ c :: r = (h ++ [c]) ++ r := by simp
  rw [extract_str, e2, List.drop_left' (by simp), List.take_of_length_le (by simp; omega)]
theorem t_mem {t h r : List UInt8} {c : UInt8} (e : t = h ++ c :: r) : c ∈ t := by subst e; simp
theorem empty_str (l : List UInt8) : (str l).toList.isEmpty = l.isEmpty := by rw [ByteArray.toList_eq, str_data]
theorem beq_str (a b : List UInt8) : ((str a).toList == (str b).toList) = decide (a = b) := by
  rw [ByteArray.toList_eq, ByteArray.toList_eq, str_data, str_data]
  by_cases h : a = b
  · rw [decide_eq_true h, h]; simp
  · rw [decide_eq_false h]; simpa using h
end Go.Proofs.YtimbdnngeoccdaaDoor
