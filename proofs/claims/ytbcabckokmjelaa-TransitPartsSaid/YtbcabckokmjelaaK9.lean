/-
  Bundle K9: Q34, Q35, Q36, Q37, Q38, Q39. Printed by bundle.py.
-/
import Derived.Test.YtbcabckokmjelaaK8
namespace Go.Proofs.Ytbcabckokmjelaa
open Go.RowKit Go.Deep
set_option linter.unusedVariables false
set_option linter.unusedSimpArgs false
theorem strips_of_ag {l : List Sp} (hne : l ≠ []) (h : agB (azR l) = true) : ∃ e p q, 0 < q ∧ InStrips l e p q := by
  obtain ⟨p, q, hq, hs⟩ := sat_ch (azCh l) h
  obtain ⟨e, he⟩ := strips_of_sat hne hs
  exact ⟨e, p, q, hq, he⟩
/-- A lower end above the line through two upper ends. -/
theorem dis_low {l : List Sp} {x t v : Sp} (hx : x ∈ l) (ht : t ∈ l) (hv : v ∈ l) (h1 : t.s ≤ x.s) (h2 : x.s ≤ v.s) (h : 0 < (v.s - x.s) * (x.lo - t.hi) + (x.s - t.s) * (x.lo - v.hi)) : agB (azR l) = false := by
  cases hg : agB (azR l) with
  | false => rfl
  | true =>
    obtain ⟨e, p, q, hq, hi⟩ := strips_of_ag (fun h0 => by rw [h0] at hx; cases hx) hg
    have a1 := (hi x hx).1
    have a2 := (hi t ht).2
    have a3 := (hi v hv).2
    have b1 := Int.mul_le_mul_of_nonneg_left (Int.le_trans (Int.sub_le_sub_right a1 (e + x.s * p)) (Int.le_of_eq (Int.sub_self _))) (show (0 : Int) ≤ v.s - t.s by omega)
    have b2 := Int.mul_le_mul_of_nonneg_left (Int.le_trans (Int.sub_le_sub_right a2 (t.hi * (1000 * q))) (Int.le_of_eq (Int.sub_self _))) (show (0 : Int) ≤ v.s - x.s by omega)
    have b3 := Int.mul_le_mul_of_nonneg_left (Int.le_trans (Int.sub_le_sub_right a3 (v.hi * (1000 * q))) (Int.le_of_eq (Int.sub_self _))) (show (0 : Int) ≤ x.s - t.s by omega)
    have e1 : ((v.s - x.s) * (x.lo - t.hi) + (x.s - t.s) * (x.lo - v.hi)) * (1000 * q) = (v.s - t.s) * (x.lo * (1000 * q) - (e + x.s * p)) + (v.s - x.s) * (e + t.s * p - t.hi * (1000 * q)) + (x.s - t.s) * (e + v.s * p - v.hi * (1000 * q)) := by grind
    have e2 := Int.mul_pos h (show (0 : Int) < 1000 * q by omega)
    omega
/-- An upper end below the line through two lower ends. -/
theorem dis_up {l : List Sp} {y u s : Sp} (hy : y ∈ l) (hu : u ∈ l) (hs : s ∈ l) (h1 : u.s ≤ y.s) (h2 : y.s ≤ s.s) (h : 0 < (s.s - y.s) * (u.lo - y.hi) + (y.s - u.s) * (s.lo - y.hi)) : agB (azR l) = false := by
  cases hg : agB (azR l) with
  | false => rfl
  | true =>
    obtain ⟨e, p, q, hq, hi⟩ := strips_of_ag (fun h0 => by rw [h0] at hy; cases hy) hg
    have a1 := (hi y hy).2
    have a2 := (hi u hu).1
    have a3 := (hi s hs).1
    have b1 := Int.mul_le_mul_of_nonneg_left (Int.le_trans (Int.sub_le_sub_right a1 (y.hi * (1000 * q))) (Int.le_of_eq (Int.sub_self _))) (show (0 : Int) ≤ s.s - u.s by omega)
    have b2 := Int.mul_le_mul_of_nonneg_left (Int.le_trans (Int.sub_le_sub_right a2 (e + u.s * p)) (Int.le_of_eq (Int.sub_self _))) (show (0 : Int) ≤ s.s - y.s by omega)
    have b3 := Int.mul_le_mul_of_nonneg_left (Int.le_trans (Int.sub_le_sub_right a3 (e + s.s * p)) (Int.le_of_eq (Int.sub_self _))) (show (0 : Int) ≤ y.s - u.s by omega)
    have e1 : ((s.s - y.s) * (u.lo - y.hi) + (y.s - u.s) * (s.lo - y.hi)) * (1000 * q) = (s.s - u.s) * (e + y.s * p - y.hi * (1000 * q)) + (s.s - y.s) * (u.lo * (1000 * q) - (e + u.s * p)) + (y.s - u.s) * (s.lo * (1000 * q) - (e + s.s * p)) := by grind
    have e2 := Int.mul_pos h (show (0 : Int) < 1000 * q by omega)
    omega
theorem one_pos {a b c d : Int} (ha : 0 ≤ a) (hb : 0 ≤ b) (h : 0 < a * c + b * d) : 0 < c ∨ 0 < d := by
  rcases Int.lt_or_le 0 c with h1 | h1
  · exact .inl h1
  rcases Int.lt_or_le 0 d with h2 | h2
  · exact .inr h2
  have := Int.mul_le_mul_of_nonneg_left h1 ha
  have := Int.mul_le_mul_of_nonneg_left h2 hb
  omega
/-- Four that do not agree: three of them do not. -/
theorem four_three (s t u v : Sp) (hA : t.s < s.s) (hB : u.s < v.s) (h : (v.hi - u.lo) * (s.s - t.s) < (s.lo - t.hi) * (v.s - u.s)) :
    agB (azR [s, t, v]) = false ∨ agB (azR [u, t, v]) = false ∨ agB (azR [t, u, s]) = false ∨ agB (azR [v, u, s]) = false := by
  have H : 0 < (v.s - u.s) * s.lo + (s.s - t.s) * u.lo - (v.s - u.s) * t.hi - (s.s - t.s) * v.hi := by
    have e : (v.s - u.s) * s.lo + (s.s - t.s) * u.lo - (v.s - u.s) * t.hi - (s.s - t.s) * v.hi = (s.lo - t.hi) * (v.s - u.s) - (v.hi - u.lo) * (s.s - t.s) := by grind
    omega
  rcases Int.lt_or_le v.s s.s with hSV | hSV
  · rcases Int.lt_or_le t.s u.s with hTU | hTU
    · have e : 1 * ((v.s - u.s) * (u.lo - t.hi) + (u.s - t.s) * (u.lo - v.hi)) + 1 * ((s.s - v.s) * (u.lo - v.hi) + (v.s - u.s) * (s.lo - v.hi)) = (v.s - u.s) * s.lo + (s.s - t.s) * u.lo - (v.s - u.s) * t.hi - (s.s - t.s) * v.hi := by grind
      have e2 : 0 < 1 * ((v.s - u.s) * (u.lo - t.hi) + (u.s - t.s) * (u.lo - v.hi)) + 1 * ((s.s - v.s) * (u.lo - v.hi) + (v.s - u.s) * (s.lo - v.hi)) := by rw [e]; exact H
      rcases one_pos (by omega) (by omega) e2 with h1 | h1
      · exact .inr (.inl (dis_low (x := u) (t := t) (v := v) (by simp) (by simp) (by simp) (by omega) (by omega) h1))
      · exact .inr (.inr (.inr (dis_up (y := v) (u := u) (s := s) (by simp) (by simp) (by simp) (by omega) (by omega) h1)))
    · have e : (v.s - u.s) * ((s.s - t.s) * (u.lo - t.hi) + (t.s - u.s) * (s.lo - t.hi)) + (s.s - t.s) * ((s.s - v.s) * (u.lo - v.hi) + (v.s - u.s) * (s.lo - v.hi)) = (s.s - u.s) * ((v.s - u.s) * s.lo + (s.s - t.s) * u.lo - (v.s - u.s) * t.hi - (s.s - t.s) * v.hi) := by grind
      have e2 : 0 < (v.s - u.s) * ((s.s - t.s) * (u.lo - t.hi) + (t.s - u.s) * (s.lo - t.hi)) + (s.s - t.s) * ((s.s - v.s) * (u.lo - v.hi) + (v.s - u.s) * (s.lo - v.hi)) := by rw [e]; exact Int.mul_pos (by omega) H
      rcases one_pos (by omega) (by omega) e2 with h1 | h1
      · exact .inr (.inr (.inl (dis_up (y := t) (u := u) (s := s) (by simp) (by simp) (by simp) (by omega) (by omega) h1)))
      · exact .inr (.inr (.inr (dis_up (y := v) (u := u) (s := s) (by simp) (by simp) (by simp) (by omega) (by omega) h1)))
  · rcases Int.lt_or_le u.s t.s with hTU | hTU
    · have e : 1 * ((s.s - t.s) * (u.lo - t.hi) + (t.s - u.s) * (s.lo - t.hi)) + 1 * ((v.s - s.s) * (s.lo - t.hi) + (s.s - t.s) * (s.lo - v.hi)) = (v.s - u.s) * s.lo + (s.s - t.s) * u.lo - (v.s - u.s) * t.hi - (s.s - t.s) * v.hi := by grind
      have e2 : 0 < 1 * ((s.s - t.s) * (u.lo - t.hi) + (t.s - u.s) * (s.lo - t.hi)) + 1 * ((v.s - s.s) * (s.lo - t.hi) + (s.s - t.s) * (s.lo - v.hi)) := by rw [e]; exact H
      rcases one_pos (by omega) (by omega) e2 with h1 | h1
      · exact .inr (.inr (.inl (dis_up (y := t) (u := u) (s := s) (by simp) (by simp) (by simp) (by omega) (by omega) h1)))
      · exact .inl (dis_low (x := s) (t := t) (v := v) (by simp) (by simp) (by simp) (by omega) (by omega) h1)
    · have e : (v.s - u.s) * ((v.s - s.s) * (s.lo - t.hi) + (s.s - t.s) * (s.lo - v.hi)) + (s.s - t.s) * ((v.s - u.s) * (u.lo - t.hi) + (u.s - t.s) * (u.lo - v.hi)) = (v.s - t.s) * ((v.s - u.s) * s.lo + (s.s - t.s) * u.lo - (v.s - u.s) * t.hi - (s.s - t.s) * v.hi) := by grind
      have e2 : 0 < (v.s - u.s) * ((v.s - s.s) * (s.lo - t.hi) + (s.s - t.s) * (s.lo - v.hi)) + (s.s - t.s) * ((v.s - u.s) * (u.lo - t.hi) + (u.s - t.s) * (u.lo - v.hi)) := by rw [e]; exact Int.mul_pos (by omega) H
      rcases one_pos (by omega) (by omega) e2 with h1 | h1
      · exact .inl (dis_low (x := s) (t := t) (v := v) (by simp) (by simp) (by simp) (by omega) (by omega) h1)
      · exact .inr (.inl (dis_low (x := u) (t := t) (v := v) (by simp) (by simp) (by simp) (by omega) (by omega) h1))
/-- What does not agree holds three that do not. -/
theorem dis_three {l : List Sp} (h : agB (azR l) = false) : ∃ a ∈ l, ∃ b ∈ l, ∃ c ∈ l, agB (azR [a, b, c]) = false := by
  have hc := azCh l
  unfold agB at h
  have h8 := hc.dlo
  have h9 := hc.dhi
  cases hok : (azR l).ok with
  | false =>
    have : ¬ ∀ a ∈ azA l, a.2 = 0 → a.1 ≤ 0 := fun hh => by rw [hc.ok.2 hh] at hok; cases hok
    have ⟨a, ha, h0, h1⟩ : ∃ a, a ∈ azA l ∧ a.2 = 0 ∧ 0 < a.1 := by
      apply Classical.byContradiction
      intro hn
      exact this fun a ha h0 => Int.not_lt.1 fun h1 => hn ⟨a, ha, h0, h1⟩
    obtain ⟨s, hs, t, ht, rfl⟩ := mem_az.1 ha
    refine ⟨s, hs, t, ht, t, ht, ?_⟩
    cases hg : agB (azR [s, t, t]) with
    | false => rfl
    | true =>
      obtain ⟨e, p, q, hq, hi⟩ := strips_of_ag (by simp) hg
      have a1 := (hi s (by simp)).1
      have a2 := (hi t (by simp)).2
      simp only at h0 h1
      have e0 : s.s = t.s := by omega
      rw [e0] at a1
      have := Int.le_of_mul_le_mul_right (Int.le_trans a1 a2) (show (0 : Int) < 1000 * q by omega)
      omega
  | true =>
    rw [hok, Bool.true_and] at h
    have ⟨h1, h2, h3⟩ : (azR l).lo.d ≠ 0 ∧ (azR l).hi.d ≠ 0 ∧ frLess (azR l).hi (azR l).lo = true := by
      refine ⟨fun e => ?_, fun e => ?_, ?_⟩
      · rw [e] at h; simp at h
      · rw [e] at h; simp at h
      · cases hf : frLess (azR l).hi (azR l).lo with
        | true => rfl
        | false => rw [hf] at h; simp at h
    obtain ⟨a, ha, ha2, ea⟩ := hc.loM h1
    obtain ⟨b, hb, hb2, eb⟩ := hc.hiM h2
    obtain ⟨s, hs, t, ht, rfl⟩ := mem_az.1 ha
    obtain ⟨u, hu, v, hv, rfl⟩ := mem_az.1 hb
    unfold frLess at h3
    rw [ea, eb] at h3
    simp only [decide_eq_true_eq] at h3
    have hH : (v.hi - u.lo) * (s.s - t.s) < (s.lo - t.hi) * (v.s - u.s) := by
      have e1 : -(1000 * (u.lo - v.hi)) * (s.s - t.s) = 1000 * ((v.hi - u.lo) * (s.s - t.s)) := by grind
      have e2 : 1000 * (s.lo - t.hi) * -(u.s - v.s) = 1000 * ((s.lo - t.hi) * (v.s - u.s)) := by grind
      rw [e1, e2] at h3
      omega
    simp only at ha2 hb2
    rcases four_three s t u v (by omega) (by omega) hH with h | h | h | h
    · exact ⟨s, hs, t, ht, v, hv, h⟩
    · exact ⟨u, hu, t, ht, v, hv, h⟩
    · exact ⟨t, ht, u, hu, s, hs, h⟩
    · exact ⟨v, hv, u, hu, s, hs, h⟩
end Go.Proofs.Ytbcabckokmjelaa
namespace Go.Proofs.Ytbcabckokmjelaa
open Go.RowKit Go.Deep
set_option linter.unusedVariables false
set_option linter.unusedSimpArgs false
def Asc (c : List Nat) : Prop := c.Pairwise (· < ·)
theorem asc_eq : ∀ {c d : List Nat}, Asc c → Asc d → (∀ i, i ∈ c ↔ i ∈ d) → c = d
  | [], [], _, _, _ => rfl
  | [], b :: d, _, _, h => by have := (h b).2 (by simp); cases this
  | a :: c, [], _, _, h => by have := (h a).1 (by simp); cases this
  | a :: c, b :: d, hc, hd, h => by
    have hc' := List.pairwise_cons.1 hc
    have hd' := List.pairwise_cons.1 hd
    have hab : a = b := by
      rcases List.mem_cons.1 ((h a).1 (by simp)) with e | e
      · exact e
      rcases List.mem_cons.1 ((h b).2 (by simp)) with e2 | e2
      · exact e2.symm
      have := hd'.1 a e
      have := hc'.1 b e2
      omega
    subst hab
    have : c = d := asc_eq hc'.2 hd'.2 fun i => by
      constructor
      · intro hi
        rcases List.mem_cons.1 ((h i).1 (List.mem_cons_of_mem _ hi)) with e | e
        · have := hc'.1 i hi; omega
        · exact e
      · intro hi
        rcases List.mem_cons.1 ((h i).2 (List.mem_cons_of_mem _ hi)) with e | e
        · have := hd'.1 i hi; omega
        · exact e
    rw [this]
theorem bits_fold (c : List Nat) : ∀ (m i : Nat), (c.foldl (fun s i => s ||| 2 ^ i) m).testBit i = (m.testBit i || decide (i ∈ c)) := by
  induction c with
  | nil => intro m i; simp
  | cons a c ih =>
    intro m i
    rw [List.foldl_cons, ih, Nat.testBit_or, Nat.testBit_two_pow]
    by_cases h : a = i
    · subst h; simp
    · simp [h, Ne.symm h]
theorem bits_mem (c : List Nat) (i : Nat) : (bitsOf c).testBit i = decide (i ∈ c) := by
  unfold bitsOf
  rw [bits_fold]; simp
theorem range_asc : ∀ n : Nat, Asc (List.range n)
  | 0 => List.Pairwise.nil
  | n + 1 => by
    unfold Asc
    rw [List.range_succ, List.pairwise_append]
    exact ⟨range_asc n, by simp, fun a ha b hb => by simp at ha hb; omega⟩
theorem pickK_filter {α : Type} (l : List α) (d : α) (m : Nat) : ∀ n, pickK l d m n = ((List.range n).filter (fun i => m.testBit i)).map (fun i => l.getD i d)
  | 0 => rfl
  | n + 1 => by
    rw [pickK, List.range_succ, List.filter_append, List.map_append, pickK_filter l d m n]
    cases h : m.testBit n
    · simp [h]
    · simp [h]
/-- What the strips of a list of indexes are. -/
def selL {α : Type} (l : List α) (d : α) (c : List Nat) : List α := c.map fun i => l.getD i d
theorem pickK_asc {α : Type} (l : List α) (d : α) (n : Nat) (c : List Nat) (hc : Asc c) (hn : ∀ i ∈ c, i < n) : pickK l d (bitsOf c) n = selL l d c := by
  rw [pickK_filter]
  unfold selL
  congr 1
  refine asc_eq (List.Pairwise.filter _ (range_asc n)) hc fun i => ?_
  rw [List.mem_filter, bits_mem, decide_eq_true_iff, List.mem_range]
  exact ⟨fun h => h.2, fun h => ⟨hn i h, h⟩⟩
theorem mem_combos (n : Nat) : ∀ (f m : Nat) (c : List Nat), f ≤ n → (c ∈ combos n f m ↔ c.length = m ∧ Asc c ∧ ∀ i ∈ c, n - f ≤ i ∧ i < n) := by
  intro f
  induction f with
  | zero =>
    intro m c hf
    unfold combos
    constructor
    · intro h
      split at h
      · rename_i h0
        simp at h; subst h; subst h0
        exact ⟨rfl, List.Pairwise.nil, fun i hi => by cases hi⟩
      · cases h
    · rintro ⟨h1, h2, h3⟩
      cases c with
      | nil => simp at h1; subst h1; simp
      | cons a c => have := h3 a (by simp); omega
  | succ f ih =>
    intro m c hf
    unfold combos
    by_cases h0 : m = 0
    · subst h0
      rw [if_pos rfl]
      constructor
      · intro h; simp at h; subst h; exact ⟨rfl, List.Pairwise.nil, fun i hi => by cases hi⟩
      · rintro ⟨h1, -, -⟩; simp [List.eq_nil_of_length_eq_zero h1]
    · rw [if_neg h0, List.mem_append, List.mem_map]
      constructor
      · rintro (⟨c', hc', rfl⟩ | h)
        · obtain ⟨h1, h2, h3⟩ := (ih _ _ (by omega)).1 hc'
          refine ⟨by rw [List.length_cons]; omega, List.pairwise_cons.2 ⟨fun j hj => by have := h3 j hj; omega, h2⟩, fun i hi => ?_⟩
          rcases List.mem_cons.1 hi with rfl | hi
          · omega
          · have := h3 i hi; omega
        · obtain ⟨h1, h2, h3⟩ := (ih _ _ (by omega)).1 h
          exact ⟨h1, h2, fun i hi => by have := h3 i hi; omega⟩
      · rintro ⟨h1, h2, h3⟩
        cases c with
        | nil => exact absurd h1.symm h0
        | cons a c =>
          have hp := List.pairwise_cons.1 h2
          have ha := h3 a (by simp)
          by_cases he : a = n - (f + 1)
          · subst he
            exact .inl ⟨c, (ih _ _ (by omega)).2 ⟨by rw [List.length_cons] at h1; omega, hp.2, fun i hi => by have := hp.1 i hi; have := h3 i (List.mem_cons_of_mem _ hi); omega⟩, rfl⟩
          · refine .inr ((ih _ _ (by omega)).2 ⟨h1, h2, fun i hi => ?_⟩)
            rcases List.mem_cons.1 hi with rfl | hi
            · omega
            · have := hp.1 i hi; have := h3 i (List.mem_cons_of_mem _ hi); omega
theorem tryL_all {n k : Nat} {c : List Nat} : c ∈ tryL n k n [] ↔ c.length = k ∧ Asc c ∧ ∀ i ∈ c, i < n := by
  unfold tryL
  have e : (([] : List Nat) ++ ·) = (id : List Nat → List Nat) := by funext x; rfl
  rw [e, List.map_id, List.length_nil, Nat.sub_zero, mem_combos n n k c (Nat.le_refl _)]
  simp
theorem ls_none {PL : List Sp → Bool} {s : List Sp} {n k : Nat} (h : lsK PL s n k = none) {c : List Nat} (hl : c.length = k) (ha : Asc c) (hn : ∀ i ∈ c, i < n) : PL (selL s sp0 c) = false := by
  unfold lsK at h
  have := List.find?_eq_none.1 h c (tryL_all.2 ⟨hl, ha, hn⟩)
  unfold PB at this
  rw [pickK_asc s sp0 n c ha hn] at this
  simpa using this
theorem ls_some {PL : List Sp → Bool} {s : List Sp} {n k : Nat} {r : List Nat} (h : lsK PL s n k = some r) : r.length = k ∧ Asc r ∧ (∀ i ∈ r, i < n) ∧ PL (selL s sp0 r) = true := by
  unfold lsK at h
  obtain ⟨h1, h2, h3⟩ := tryL_all.1 (List.mem_of_find?_eq_some h)
  have := List.find?_some h
  unfold PB at this
  rw [pickK_asc s sp0 n r h2 h3] at this
  exact ⟨h1, h2, h3, this⟩
/-- An index more. -/
def ins (i : Nat) : List Nat → List Nat
  | [] => [i]
  | a :: c => if i < a then i :: a :: c else if i = a then a :: c else a :: ins i c
theorem mem_ins {i j : Nat} : ∀ {c : List Nat}, j ∈ ins i c ↔ j = i ∨ j ∈ c
  | [] => by simp [ins]
  | a :: c => by
    unfold ins
    split
    · simp
    · split
      · rename_i h1 h2; subst h2; simp
      · rw [List.mem_cons, mem_ins, List.mem_cons]
        constructor
        · rintro (h | h | h)
          · exact .inr (.inl h)
          · exact .inl h
          · exact .inr (.inr h)
        · rintro (h | h | h)
          · exact .inr (.inl h)
          · exact .inl h
          · exact .inr (.inr h)
theorem asc_ins {i : Nat} : ∀ {c : List Nat}, Asc c → Asc (ins i c)
  | [], _ => by simp [ins, Asc]
  | a :: c, h => by
    have hp := List.pairwise_cons.1 h
    unfold ins
    split
    · rename_i h1
      refine List.pairwise_cons.2 ⟨fun j hj => ?_, h⟩
      rcases List.mem_cons.1 hj with rfl | hj
      · exact h1
      · have := hp.1 j hj; omega
    · split
      · exact h
      · refine List.pairwise_cons.2 ⟨fun j hj => ?_, asc_ins hp.2⟩
        rcases mem_ins.1 hj with rfl | hj
        · omega
        · exact hp.1 j hj
theorem len_ins {i : Nat} : ∀ {c : List Nat}, (ins i c).length ≤ c.length + 1 ∧ (i ∉ c → (ins i c).length = c.length + 1)
  | [] => by simp [ins]
  | a :: c => by
    have h := @len_ins i c
    unfold ins
    split
    · simp
    · split
      · rename_i h1 h2; subst h2; simp
      · refine ⟨by rw [List.length_cons, List.length_cons]; omega, fun hn => ?_⟩
        rw [List.length_cons, List.length_cons, h.2 fun hc => hn (List.mem_cons_of_mem _ hc)]
theorem mem_sel {α : Type} {l : List α} {d x : α} {c : List Nat} : x ∈ selL l d c ↔ ∃ i ∈ c, l.getD i d = x := by
  unfold selL; exact List.mem_map
theorem sel_of_mem {α : Type} {l : List α} {d x : α} (h : x ∈ l) : ∃ i, i < l.length ∧ l.getD i d = x := by
  obtain ⟨i, hi, e⟩ := List.mem_iff_getElem.1 h
  exact ⟨i, hi, by rw [List.getD_eq_getElem?_getD, List.getElem?_eq_getElem hi]; exact e⟩
theorem sel_map {α β : Type} (f : α → β) (l : List α) (d : α) (e : β) (c : List Nat) (hn : ∀ i ∈ c, i < l.length) : selL (l.map f) e c = (selL l d c).map f := by
  unfold selL
  rw [List.map_map]
  refine List.map_congr_left fun i hi => ?_
  have := hn i hi
  simp [List.getD_eq_getElem?_getD, this]
/-- Three that do not agree are among the lists. -/
theorem least_le {s : List Sp} {n : Nat} (hn : s.length = n) (h : agB (azR s) = false) : ∃ c, c.length ≤ 3 ∧ Asc c ∧ (∀ i ∈ c, i < n) ∧ agB (azR (selL s sp0 c)) = false := by
  obtain ⟨x, hx, y, hy, z, hz, hd⟩ := dis_three h
  obtain ⟨i, hi, ei⟩ := sel_of_mem (d := sp0) hx
  obtain ⟨j, hj, ej⟩ := sel_of_mem (d := sp0) hy
  obtain ⟨k, hk, ek⟩ := sel_of_mem (d := sp0) hz
  have hm : ∀ a, a ∈ ins i (ins j (ins k [])) ↔ a = i ∨ a = j ∨ a = k := fun a => by rw [mem_ins, mem_ins, mem_ins]; simp
  refine ⟨ins i (ins j (ins k [])), ?_, asc_ins (asc_ins (asc_ins List.Pairwise.nil)), fun a ha => ?_, ?_⟩
  · have h1 := (@len_ins i (ins j (ins k []))).1
    have h2 := (@len_ins j (ins k [])).1
    have h3 := (@len_ins k []).1
    simp at h3; omega
  · rcases (hm a).1 ha with rfl | rfl | rfl <;> omega
  · cases hg : agB (azR (selL s sp0 (ins i (ins j (ins k []))))) with
    | false => rfl
    | true =>
      rw [az_mono (fun t ht => ?_) hg] at hd
      · cases hd
      · simp at ht
        rcases ht with rfl | rfl | rfl
        · exact mem_sel.2 ⟨i, (hm _).2 (.inl rfl), ei⟩
        · exact mem_sel.2 ⟨j, (hm _).2 (.inr (.inl rfl)), ej⟩
        · exact mem_sel.2 ⟨k, (hm _).2 (.inr (.inr rfl)), ek⟩
end Go.Proofs.Ytbcabckokmjelaa
namespace Go.Proofs.Ytbcabckokmjelaa
open Go.RowKit Go.Deep
set_option linter.unusedVariables false
set_option linter.unusedSimpArgs false
def tr0 : Tr := ⟨⟨#[]⟩, 0, 0, 0, none, 0, []⟩
theorem five_cells {W : World} {g : Nat} {a b c d e : Value} (h0 : W.cell? ⟨g, 0, none⟩ = some a) (h1 : W.cell? ⟨g, 1, none⟩ = some b) (h2 : W.cell? ⟨g, 2, none⟩ = some c) (h3 : W.cell? ⟨g, 3, none⟩ = some d) (h4 : W.cell? ⟨g, 4, none⟩ = some e) :
    ∀ j u, ([a, b, c, d, e] : List Value)[j]? = some u → W.cell? ⟨g, j, none⟩ = some u := by
  intro j u hu
  have hj : j < 5 := (List.getElem?_eq_some_iff.1 hu).1
  match j, hj with
  | 0, _ => simp at hu; subst hu; exact h0
  | 1, _ => simp at hu; subst hu; exact h1
  | 2, _ => simp at hu; subst hu; exact h2
  | 3, _ => simp at hu; subst hu; exact h3
  | 4, _ => simp at hu; subst hu; exact h4
theorem row_form0 {W : World} {base sz n : Nat} {e : TypeId} {v : Value} {xs : List Value} (h : W.ownsRow base e sz v n xs) : ∃ A cap, v = .slice A n cap ∧ n ≤ cap ∧ cap ≤ maxLen ∧ (A = none → n = 0 ∧ cap = 0) := by
  rcases h.2 with ⟨rfl, rfl⟩ | ⟨g, cap, cur, hv, hg0, hg, h1, h2, h3, h4⟩
  · exact ⟨none, 0, rfl, Nat.le_refl _, Nat.zero_le _, fun _ => ⟨rfl, rfl⟩⟩
  · exact ⟨_, cap, hv, h1, h2, fun e => by cases e⟩
set_option maxRecDepth 100000 in
set_option maxHeartbeats 2000000 in
theorem lsome_c (l : List Tr) (A : Option Addr) (cap : Nat) (r : List Nat) (hr1 : ∀ i ∈ r, i < l.length) (hln : l.length ≤ 100000) (hrn : r.length ≤ 1000) (B : Option Addr) (cb : Nat) (w : World) (hr : RdL w w.heap.size trE 5 A l) (hb : RdL w w.heap.size inE 1 B (r.map Int.ofNat)) :
    Calls Try.prog 31 #[.slice A l.length cap, .slice B r.length cb] w fun e w' => (∃ A' c', e = .returned (.tuple #[.slice A' r.length c', .bool true]) ∧ RdL w' w'.heap.size trE 5 A' (selL l tr0 r) ∧ r.length ≤ c' ∧ c' ≤ maxLen ∧ (A' = none → r.length = 0 ∧ c' = 0)) ∧ Below w.heap.size w w' := by
  have HR := Lib.hid hr
  have HB := Lib.hid hb
  have H1 := Lib.hid hr1
  clear hr hb hr1
  obtain ⟨n, hn⟩ : ∃ n, n = l.length := ⟨_, rfl⟩
  obtain ⟨rn, hrl⟩ : ∃ n, n = r.length := ⟨_, rfl⟩
  rw [← hn, ← hrl]
  rw [← hn] at hln
  rw [← hrl] at hrn
  have HN := Lib.hid hn
  have HRN := Lib.hid hrl
  clear hn hrl
  go_enter Try.func31, Try.ntmps31
  go_wp2
  go_loopw [6, 11] (fun u i wr => ∃ (k : Nat) (v8 : Value), v8 = u ∧ k ≤ rn ∧ i = .int .i64 k ∧ wr.ownsRow w.heap.size 28 5 v8 k ((selL l tr0 (r.take k)).flatMap trE) ∧ Below w.heap.size w wr) (fun _ i _ => rn - (intOf i).toNat)
  case atStart => exact ⟨0, _, rfl, Nat.zero_le _, rfl, World.ownsRow_nil _ _ _ _, Below.refl _ _⟩
  case round =>
    obtain ⟨k, v8, rfl, hk, rfl, hown, hbw⟩ := hrel
    obtain ⟨A8, c8, rfl, k8, m8, z8⟩ := row_form0 hown
    have HO := Lib.hid hown
    have HZ := Lib.hid z8
    clear hown z8
    have hsz := hbw.size
    by_cases hlt : k < rn
    · have hltr : k < r.length := by rw [← HRN.out]; exact hlt
      obtain ⟨m, hm⟩ : ∃ m, m = r[k] := ⟨_, rfl⟩
      have hml : m < l.length := by rw [hm]; exact H1.out _ (List.getElem_mem hltr)
      have hmn : m < n := by rw [HN.out]; exact hml
      obtain ⟨b2, off2, rfl, hb2, hc2⟩ := HB.out (by rw [List.length_map]; omega)
      have d0 := (hbw.cell (p := ⟨b2, _, none⟩) hb2).trans (hc2 k (by rw [List.length_map]; exact hltr) 0 _ rfl)
      clear hc2
      have d1 : wr.cell? ⟨b2, off2 + k, none⟩ = some (.int .i64 m) := by
        rw [hm]; simpa using d0
      clear d0
      have y2 : b2 < wr.heap.size := cell?_lt d1
      obtain ⟨b, off, rfl, hb0, hc⟩ := HR.out (by omega)
      obtain ⟨t, ht⟩ : ∃ t, t = l[m] := ⟨_, rfl⟩
      have c0 := (hbw.cell (p := ⟨b, _, none⟩) hb0).trans (hc m hml 0 _ rfl)
      have c1 := (hbw.cell (p := ⟨b, _, none⟩) hb0).trans (hc m hml 1 _ rfl)
      have c2 := (hbw.cell (p := ⟨b, _, none⟩) hb0).trans (hc m hml 2 _ rfl)
      have c3 := (hbw.cell (p := ⟨b, _, none⟩) hb0).trans (hc m hml 3 _ rfl)
      have c4 := (hbw.cell (p := ⟨b, _, none⟩) hb0).trans (hc m hml 4 _ rfl)
      clear hc
      simp at c0
      rw [← ht] at c0 c1 c2 c3 c4
      have y0 : b < wr.heap.size := cell?_lt c0
      have HTk := Lib.hid (show selL l tr0 (r.take (k + 1)) = selL l tr0 (r.take k) ++ [t] by
        unfold selL
        rw [List.take_succ_eq_append_getElem hltr, List.map_append]
        congr 1
        rw [← hm, ht, List.map_cons, List.map_nil, List.getD_eq_getElem?_getD, List.getElem?_eq_getElem hml]; rfl)
      have hlen : (selL l tr0 (r.take k)).length = k := by unfold selL; rw [List.length_map, List.length_take]; omega
      have u1 : decide ((m : Int) < 0) = false := decide_eq_false (by omega)
      have u2 : decide ((m : Int) ≥ (n : Int)) = false := decide_eq_false (by omega)
      have u2' : decide ((n : Int) ≤ (m : Int)) = false := decide_eq_false (by omega)
      have u3 : (0 : Int) ≤ (m : Int) := by omega
      have u4 : (m : Int) < (n : Int) := by omega
      have HAPP := Lib.hid (app_run appT _ t k hlen (by omega) (wr.alloc (.cells #[.string t.nm, .int .i64 t.a, .int .i64 t.b, .int .i64 t.c, .slice t.T t.ts.length t.ct] 28)) w.heap.size wr.heap.size (.slice A8 k c8) (HO.out.alloc _) (by simp; omega) (five_cells (by simp [go_sem]) (by simp [go_sem]) (by simp [go_sem]) (by simp [go_sem]) (by simp [go_sem])))
      clear hlen ht hm hml hltr
      go_wp2_with (at_builtin; refine wpList_app rfl (.tmp 23) (.tmp 28) 30 rfl _ _ rfl rfl HAPP.out ?_; rintro v5 w5 ⟨hown5, hbel5⟩; obtain ⟨A5, c5, rfl, -, -⟩ := row_form hown5; have HO5 := Lib.hid hown5; clear hown5; have hB5 : Below w.heap.size w w5 := Below.low (Below.allocS hbw _) hbel5 (Nat.le_refl _); clear hbel5)
      go_roundw
      case rel => exact ⟨k + 1, _, rfl, by omega, by go_num, by rw [HTk.out]; exact HO5.out, hB5⟩
      case measure => simp [intOf]; omega
    · obtain rfl : k = rn := by omega
      have hI := RdL.of_own (enc := trE) (l := selL l tr0 r) trE_len (by have := HO.out; rw [List.take_of_length_le (by rw [← HRN.out]; exact Nat.le_refl _)] at this; exact this) (by unfold selL; rw [List.length_map, ← HRN.out])
      have HI := Lib.hid hI
      have HK := Lib.hid (And.intro k8 m8)
      clear hI k8 m8
      go_wp2
      go_ret2
      exact ⟨⟨A8, c8, rfl, HI.out, HK.out.1, HK.out.2, HZ.out⟩, hbw⟩
end Go.Proofs.Ytbcabckokmjelaa
namespace Go.Proofs.Ytbcabckokmjelaa
open Go.RowKit Go.Deep
set_option linter.unusedVariables false
set_option linter.unusedSimpArgs false
theorem st_sub {x : Tb} {l m : List Tr} (h : stErr x l = 0) (hs : ∀ t ∈ m, t ∈ l) (h1 : 1 ≤ m.length) (h2 : m.length ≤ 12) : stErr x m = 0 := by
  obtain ⟨a, b⟩ := stErr_ok h
  unfold okAll at a
  simp only [Bool.and_eq_true] at a
  obtain ⟨a1, -, a3⟩ := a
  have b1 : okAll x m = true := by
    unfold okAll
    simp only [Bool.and_eq_true]
    refine ⟨a1, ?_, List.all_eq_true.2 fun t ht => List.all_eq_true.1 a3 t (hs t ht)⟩
    unfold within
    rw [decide_eq_true (by omega), decide_eq_true (by omega)]; rfl
  have b2 : m.any (noCr x) = false := by
    cases hm : m.any (noCr x) with
    | false => rfl
    | true =>
      obtain ⟨t, ht, hn⟩ := List.any_eq_true.1 hm
      rw [List.any_eq_true.2 ⟨t, hs t ht, hn⟩] at b; cases b
  unfold stErr
  rw [if_pos b1, if_neg (by rw [b2]; simp)]
theorem sel_in {α : Type} {l : List α} {d : α} {c : List Nat} (hn : ∀ i ∈ c, i < l.length) : ∀ t ∈ selL l d c, t ∈ l := by
  intro t ht
  obtain ⟨i, hi, rfl⟩ := mem_sel.1 ht
  have := hn i hi
  rw [List.getD_eq_getElem?_getD, List.getElem?_eq_getElem this]
  exact List.getElem_mem this
theorem sel_len {α : Type} (l : List α) (d : α) (c : List Nat) : (selL l d c).length = c.length := List.length_map ..
theorem wdL_sel {x : Tb} {l : List Tr} {c : List Nat} (hn : ∀ i ∈ c, i < l.length) : wdL x (selL l tr0 c) = selL (wdL x l) sp0 c := by
  unfold wdL stL
  rw [List.map_map, List.map_map, sel_map _ l tr0 sp0 c hn]
theorem wd_lohi {x : Tb} {l : List Tr} (h : stErr x l = 0) : ∀ s ∈ wdL x l, s.lo ≤ s.hi := by
  intro s hs
  have hok := (stErr_ok h).1
  obtain ⟨t, ht, rfl⟩ := List.mem_map.1 hs
  obtain ⟨h1, h2, h3⟩ := stL_in hok t ht
  have := (okAll_ok hok).e
  simp only [widen]; omega
theorem ag_one {s : Sp} (h : s.lo ≤ s.hi) : agB (azR [s]) = true := by
  refine ch_sat (azCh [s]) (p := 0) (q := 1) (by omega) fun a ha => ?_
  obtain ⟨s', hs, t, ht, rfl⟩ := mem_az.1 ha
  simp at hs ht
  subst hs; subst ht
  simp only; omega
theorem asc_len : ∀ {n : Nat} {c : List Nat}, Asc c → (∀ i ∈ c, i < n) → c.length ≤ n := by
  intro n c ha hn
  have hsub : c = (List.range n).filter (fun i => decide (i ∈ c)) :=
    asc_eq ha (List.Pairwise.filter _ (range_asc n)) fun i => by
      rw [List.mem_filter, List.mem_range, decide_eq_true_iff]
      exact ⟨fun h => ⟨hn i h, h⟩, fun h => h.2⟩
  rw [hsub]
  exact Nat.le_trans (List.length_filter_le ..) (by simp)
/-- All agree: none that do not are found. -/
theorem ls_ok {s : List Sp} {n : Nat} (hn : s.length = n) (h : agB (azR s) = true) (j : Nat) : lsK notAg s n j = none := by
  cases hl : lsK notAg s n j with
  | none => rfl
  | some r =>
    obtain ⟨-, -, h3, h4⟩ := ls_some hl
    unfold notAg at h4
    rw [az_mono (sel_in (by rw [hn]; exact h3)) h] at h4
    cases h4
/-- The least that do not agree. -/
theorem ls_three {s : List Sp} {n k : Nat} {r : List Nat} (hn : s.length = n) (hlo : ∀ t ∈ s, t.lo ≤ t.hi) (h : agB (azR s) = false) (hk : ∀ j, j < k → lsK notAg s n j = none) (hr : lsK notAg s n k = some r) :
    k = r.length ∧ Asc r ∧ (∀ i ∈ r, i < n) ∧ 2 ≤ r.length ∧ r.length ≤ 3 ∧ agB (azR (selL s sp0 r)) = false ∧ ∀ i, i < r.length → agB (azR (selL s sp0 (r.take i ++ r.drop (i + 1)))) = true := by
  obtain ⟨h1, h2, h3, h4⟩ := ls_some hr
  have hd : agB (azR (selL s sp0 r)) = false := by unfold notAg at h4; simpa using h4
  refine ⟨h1.symm, h2, h3, ?_, ?_, hd, fun i hi => ?_⟩
  · match r, h1, h3, hd with
    | [], _, _, hd => exact absurd (show agB (azR []) = false from hd) (by decide)
    | [i], _, h3, hd =>
      have hi := h3 i (by simp)
      have hm : s.getD i sp0 ∈ s := sel_in (l := s) (d := sp0) (c := [i]) (by rw [hn]; exact h3) _ (by simp [selL])
      have := ag_one (hlo _ hm)
      rw [show selL s sp0 [i] = [s.getD i sp0] from rfl, this] at hd
      cases hd
    | _ :: _ :: _, _, _, _ => simp
  · obtain ⟨c, c1, c2, c3, c4⟩ := least_le hn h
    rcases Nat.lt_or_ge c.length k with hlt | hge
    · have := ls_none (hk _ hlt) rfl c2 c3
      unfold notAg at this
      rw [c4] at this; cases this
    · omega
  · have hlen : (r.take i ++ r.drop (i + 1)).length = k - 1 := by rw [List.length_append, List.length_take, List.length_drop]; omega
    have hsub : (r.take i ++ r.drop (i + 1)).Sublist r := by
      conv => rhs; rw [← List.take_append_drop i r]
      refine List.Sublist.append_left ?_ _
      rw [← List.drop_drop]
      exact List.drop_sublist _ _
    have := ls_none (hk (k - 1) (by omega)) hlen (h2.sublist hsub) (fun j hj => h3 j (hsub.subset hj))
    unfold notAg at this
    simpa using this
theorem ls_some_ex {s : List Sp} {n : Nat} (hn : s.length = n) (h : agB (azR s) = false) (hno : ∀ j, j ≤ n → lsK notAg s n j = none) : False := by
  obtain ⟨c, c1, c2, c3, c4⟩ := least_le hn h
  have := ls_none (hno _ (asc_len c2 c3)) rfl c2 c3
  unfold notAg at this
  rw [c4] at this; cases this
/-- The most that agree. -/
theorem ls_most {s : List Sp} {n k : Nat} {r : List Nat} (hn : s.length = n) (hk : ∀ j, k < j → j ≤ n → lsK isAg s n j = none) (hr : lsK isAg s n k = some r) :
    k = r.length ∧ Asc r ∧ (∀ i ∈ r, i < n) ∧ agB (azR (selL s sp0 r)) = true ∧ ∀ i, i < n → i ∉ r → agB (azR (selL s sp0 r ++ [s.getD i sp0])) = false := by
  obtain ⟨h1, h2, h3, h4⟩ := ls_some hr
  refine ⟨h1.symm, h2, h3, h4, fun i hi hir => ?_⟩
  cases hg : agB (azR (selL s sp0 r ++ [s.getD i sp0])) with
  | false => rfl
  | true =>
    have hm : ∀ j ∈ ins i r, j < n := fun j hj => by
      rcases mem_ins.1 hj with rfl | hj
      · exact hi
      · exact h3 j hj
    have hl := (@len_ins i r).2 hir
    have hal := asc_len (asc_ins (i := i) h2) hm
    have := ls_none (hk (k + 1) (by omega) (by omega)) (by rw [hl]; omega) (asc_ins (i := i) h2) hm
    unfold isAg at this
    rw [az_mono (fun t ht => ?_) hg] at this
    · cases this
    · obtain ⟨j, hj, rfl⟩ := mem_sel.1 ht
      rcases mem_ins.1 hj with rfl | hj
      · simp
      · exact List.mem_append_left _ (mem_sel.2 ⟨j, hj, rfl⟩)
/-- One alone agrees. -/
theorem most_pos {s : List Sp} {n k : Nat} {r : List Nat} (hn : s.length = n) (h1 : 1 ≤ n) (hlo : ∀ t ∈ s, t.lo ≤ t.hi) (hk : ∀ j, k < j → j ≤ n → lsK isAg s n j = none) (hr : lsK isAg s n k = some r) : 1 ≤ r.length := by
  obtain ⟨e, -, -, -, -⟩ := ls_most hn hk hr
  rcases Nat.eq_zero_or_pos r.length with h0 | h0
  · have := ls_none (hk 1 (by omega) h1) (c := [0]) rfl (by simp [Asc]) (by simp; omega)
    unfold isAg at this
    have hm : s.getD 0 sp0 ∈ s := sel_in (l := s) (d := sp0) (c := [0]) (by simp; omega) _ (by simp [selL])
    rw [show selL s sp0 [0] = [s.getD 0 sp0] from rfl, ag_one (hlo _ hm)] at this
    cases this
  · exact h0
end Go.Proofs.Ytbcabckokmjelaa
namespace Go.Proofs.Ytbcabckokmjelaa
open Go.RowKit Go.Deep
set_option linter.unusedVariables false
set_option linter.unusedSimpArgs false
theorem RdL.take {α : Type} {w : World} {B sz : Nat} {enc : α → List Value} {A : Option Addr} {l : List α} (h : RdL w B enc sz A l) (d : Nat) : RdL w B enc sz A (l.take d) := by
  intro hl
  rw [List.length_take] at hl
  obtain ⟨b, off, e, hlt, hc⟩ := h (by omega)
  refine ⟨b, off, e, hlt, fun i hi j v hv => hc i (by rw [List.length_take] at hi; omega) j v ?_⟩
  rw [← hv]; simp
theorem RdL.drop {α : Type} {w : World} {B sz b off : Nat} {enc : α → List Value} {l : List α} (h : RdL w B enc sz (some ⟨b, off, none⟩) l) (d : Nat) : RdL w B enc sz (some ⟨b, off + d * sz, none⟩) (l.drop d) := by
  intro hl
  rw [List.length_drop] at hl
  obtain ⟨b', off', e, hlt, hc⟩ := h (by omega)
  injection e with e
  injection e with e1 e2
  subst e1 e2
  refine ⟨_, _, rfl, hlt, fun i hi j v hv => ?_⟩
  have hi' : d + i < l.length := by rw [List.length_drop] at hi; omega
  have := hc (d + i) hi' j v (by rw [← hv]; simp)
  rw [← this]; congr 2; rw [Nat.add_mul]; omega
theorem appL (pre l : List Tr) (np n : Nat) (hp : pre.length = np) (hn : l.length = n) (hs : np + n ≤ 1000) (b : Addr) (cap : Nat) (W : World) (base : Nat) (v : Value) (hrow : W.ownsRow base 28 5 v np (pre.flatMap trE)) (hb : base ≤ W.heap.size)
    (holds : ∀ j u, (l.flatMap trE)[j]? = some u → W.cell? (b.add j) = some u) :
    ∃ v' w', (Builtin.append_ #[30, 30] 30 #[v, .slice (some b) n cap]).run Try.prog W = .ok v' w' ∧ (w'.ownsRow base 28 5 v' (np + n) ((pre ++ l).flatMap trE) ∧ Below base W w') := by
  obtain ⟨i1, z, bytes, hj, hy0, hy1, hy2, hy3, hy4⟩ := appT.info
  obtain ⟨v', w', hrun, r1, r2, -⟩ := run_append_own (P := Try.prog) W base 30 30 28 i1 z 5 bytes appT.ht hj hy0 hy1 hy2 hy3 (by decide) v np (pre.flatMap trE) hrow b n cap (l.flatMap trE) (by rw [flat_len trE 5 trE_len l, hn]) holds (trE_one l) (by unfold maxLen; omega) (by have := Nat.mul_le_mul hs hy4; omega) hb
  exact ⟨v', w', hrun, by rw [List.flatMap_append]; exact r1, Below.grow (Below.refl base W) hrow r2 rfl hb⟩
end Go.Proofs.Ytbcabckokmjelaa
namespace Go.Proofs.Ytbcabckokmjelaa
open Go.RowKit Go.Deep
set_option linter.unusedVariables false
set_option linter.unusedSimpArgs false
/-- What the most transits that agree are. -/
structure MsP (x : Tb) (l : List Tr) (r : List Nat) : Prop where
  n : ∀ i ∈ r, i < l.length
  one : 1 ≤ r.length
  most : r.length ≤ l.length
  ag : agE x (selL l tr0 r) = true
  st : stErr x (selL l tr0 r) = 0
  more : ∀ i, i < l.length → i ∉ r → agE x (selL l tr0 r ++ [l.getD i tr0]) = false ∧ stErr x (selL l tr0 r ++ [l.getD i tr0]) = 0
theorem msP_of {x : Tb} {l : List Tr} {k : Nat} {r : List Nat} (h0 : stErr x l = 0) (hk : ∀ j, k < j → j ≤ l.length → lsK isAg (wdL x l) l.length j = none) (hr : lsK isAg (wdL x l) l.length k = some r) : MsP x l r := by
  have hO := okAll_ok (stErr_ok h0).1
  have hn := hO.n
  obtain ⟨-, h2, h3, h4, h5⟩ := ls_most (wdL_len x l) hk hr
  have h1 := most_pos (wdL_len x l) (by omega) (wd_lohi h0) hk hr
  have hlen := asc_len h2 h3
  have hst : stErr x (selL l tr0 r) = 0 := st_sub h0 (sel_in h3) (by rw [sel_len]; omega) (by rw [sel_len]; omega)
  refine ⟨h3, h1, hlen, ?_, hst, fun i hi hir => ?_⟩
  · unfold agE; rw [hst, wdL_sel h3, h4]; rfl
  · have hm : ∀ j ∈ ins i r, j < l.length := fun j hj => by
      rcases mem_ins.1 hj with rfl | hj
      · exact hi
      · exact h3 j hj
    have hl1 := asc_len (asc_ins (i := i) h2) hm
    have hl2 := (@len_ins i r).2 hir
    have hmem : l.getD i tr0 ∈ l := sel_in (l := l) (d := tr0) (c := [i]) (by simp; omega) _ (by simp [selL])
    have hs : stErr x (selL l tr0 r ++ [l.getD i tr0]) = 0 := st_sub h0 (fun t ht => by
      rcases List.mem_append.1 ht with h | h
      · exact sel_in h3 t h
      · simp at h; rw [h]; simpa using hmem) (by rw [List.length_append, sel_len]; simp) (by rw [List.length_append, sel_len]; simp; omega)
    refine ⟨?_, hs⟩
    have e : wdL x (selL l tr0 r ++ [l.getD i tr0]) = selL (wdL x l) sp0 r ++ [(wdL x l).getD i sp0] := by
      have e1 := wdL_sel (x := x) h3
      have e2 := wdL_sel (x := x) (l := l) (c := [i]) (by simp; omega)
      rw [show selL l tr0 [i] = [l.getD i tr0] from rfl, show selL (wdL x l) sp0 [i] = [(wdL x l).getD i sp0] from rfl] at e2
      rw [← e1, ← e2]
      unfold wdL stL
      simp only [List.map_append]
    unfold agE
    rw [hs, e, h5 i hi hir]; rfl
theorem tight_ok {x : Tb} {l : List Tr} (h0 : stErr x l = 0) {y : Tb} (hx : y.xs = x.xs) (hy : 0 ≤ y.e ∧ y.e ≤ 10000) : stErr y l = 0 ∧ agE y l = agW x l y.e := by
  obtain ⟨xA, xc, xs, xe⟩ := x
  obtain ⟨yA, yc, ys, ye⟩ := y
  simp only at hx hy
  subst hx
  obtain ⟨a, b⟩ := stErr_ok h0
  unfold okAll at a
  simp only [Bool.and_eq_true] at a
  obtain ⟨a1, a2, a3⟩ := a
  have t1 : okTube ys ye = true := by
    unfold okTube at a1 ⊢
    simp only [Bool.and_eq_true] at a1 ⊢
    refine ⟨a1.1, a1.2.1, ?_⟩
    unfold within
    rw [decide_eq_true hy.1, decide_eq_true hy.2]; rfl
  have hf : ∀ t ∈ l, fitsB (obs (⟨yA, yc, ys, ye⟩ : Tb) t) = true ∧ fitsB (obs (⟨xA, xc, ys, xe⟩ : Tb) t) = true := fun t ht => by
    have h := List.all_eq_true.1 a3 t ht
    refine ⟨?_, h⟩
    unfold fitsB at h ⊢
    simp only [Bool.and_eq_true] at h ⊢
    obtain ⟨-, h2⟩ := h
    exact ⟨t1, h2⟩
  have hN : ∀ t : Tr, ∀ k, crN (obs (⟨yA, yc, ys, ye⟩ : Tb) t) k = crN (obs (⟨xA, xc, ys, xe⟩ : Tb) t) k := fun t k => by
    induction k with
    | zero => rfl
    | succ k ih => unfold crN; rw [ih]; rfl
  have hS : ∀ t : Tr, ∀ k, crS (obs (⟨yA, yc, ys, ye⟩ : Tb) t) k = crS (obs (⟨xA, xc, ys, xe⟩ : Tb) t) k := fun t k => by
    induction k with
    | zero => rfl
    | succ k ih => unfold crS; rw [ih]; rfl
  have hE : ∀ t ∈ l, crE (obs (⟨yA, yc, ys, ye⟩ : Tb) t) = crE (obs (⟨xA, xc, ys, xe⟩ : Tb) t) := fun t ht => by
    obtain ⟨h1, h2⟩ := hf t ht
    unfold crE
    rw [if_pos h1, if_pos h2, show (obs (⟨yA, yc, ys, ye⟩ : Tb) t).ts = (obs (⟨xA, xc, ys, xe⟩ : Tb) t).ts from rfl, hN]
  have hD : ∀ t ∈ l, dfV (obs (⟨yA, yc, ys, ye⟩ : Tb) t) = dfV (obs (⟨xA, xc, ys, xe⟩ : Tb) t) := fun t ht => by
    unfold dfV crQ
    rw [hE t ht, show (obs (⟨yA, yc, ys, ye⟩ : Tb) t).ts = (obs (⟨xA, xc, ys, xe⟩ : Tb) t).ts from rfl, hN, hS]; rfl
  have hst : stErr (⟨yA, yc, ys, ye⟩ : Tb) l = 0 := by
    have b1 : okAll (⟨yA, yc, ys, ye⟩ : Tb) l = true := by
      unfold okAll
      simp only [Bool.and_eq_true]
      exact ⟨t1, a2, List.all_eq_true.2 fun t ht => (hf t ht).1⟩
    have b2 : l.any (noCr (⟨yA, yc, ys, ye⟩ : Tb)) = false := by
      cases hm : l.any (noCr (⟨yA, yc, ys, ye⟩ : Tb)) with
      | false => rfl
      | true =>
        obtain ⟨t, ht, hn⟩ := List.any_eq_true.1 hm
        have : noCr (⟨xA, xc, ys, xe⟩ : Tb) t = true := by unfold noCr at hn ⊢; rwa [hE t ht] at hn
        rw [List.any_eq_true.2 ⟨t, ht, this⟩] at b; cases b
    unfold stErr
    rw [if_pos b1, if_neg (by rw [b2]; simp)]
  refine ⟨hst, ?_⟩
  have hL : stL (⟨yA, yc, ys, ye⟩ : Tb) l = stL (⟨xA, xc, ys, xe⟩ : Tb) l := by
    unfold stL
    refine List.map_congr_left fun t ht => ?_
    unfold stOf
    rw [hD t ht]
  unfold agE agW wdL
  rw [hst, hL]; rfl
theorem app1n (l : List Tr) (n : Nat) (hn : l.length = n) (hl : n ≤ 1000) (b : Addr) (cap : Nat) (W : World) (g : Nat) (hrow : W.ownsRow g 28 5 (.slice (some ⟨g, 0, none⟩) 0 0) 0 []) (hb : g ≤ W.heap.size)
    (holds : ∀ j u, (l.flatMap trE)[j]? = some u → W.cell? (b.add j) = some u) :
    ∃ v' w', (Builtin.append_ #[30, 30] 30 #[.slice (some ⟨g, 0, none⟩) 0 0, .slice (some b) n cap]).run Try.prog W = .ok v' w' ∧ (w'.ownsRow g 28 5 v' n (l.flatMap trE) ∧ Below g W w' ∧ W.grownBy w' (some g)) := by
  subst hn
  obtain ⟨i1, z, bytes, hj, hy0, hy1, hy2, hy3, hy4⟩ := appT.info
  obtain ⟨v', w', hrun, r1, r2, -⟩ := run_append_own (P := Try.prog) W g 30 30 28 i1 z 5 bytes appT.ht hj hy0 hy1 hy2 hy3 (by decide) _ 0 [] hrow b l.length cap (l.flatMap trE) (flat_len trE 5 trE_len l) holds (trE_one l) (by unfold maxLen; omega) (by have := Nat.mul_le_mul (show 0 + l.length ≤ 1000 by omega) hy4; omega) hb
  exact ⟨v', w', hrun, by simpa using r1, Below.grow (Below.refl g W) hrow r2 rfl hb, r2⟩
end Go.Proofs.Ytbcabckokmjelaa
