/-
  The best right list: plain laws, no program. No conditions.
-/
import Derived.Test.YtomgaiokmdcjmaaNt24
namespace Go.Proofs.Ytomgaiokmdcjmaa
open Go.RowKit Go.Deep
set_option linter.unusedVariables false
set_option linter.unusedSimpArgs false
theorem sgnI_cases (a b : Int) : (a < b ∧ sgnI a b = -1) ∨ (a = b ∧ sgnI a b = 0) ∨ (b < a ∧ sgnI a b = 1) := by
  unfold sgnI
  by_cases h : a < b
  · exact .inl ⟨h, if_pos h⟩
  · by_cases k : b < a
    · exact .inr (.inr ⟨k, by rw [if_neg h, if_pos k]⟩)
    · exact .inr (.inl ⟨by omega, by rw [if_neg h, if_neg k]⟩)
theorem cmpL_cons (a b : Nat) (x y : List Nat) : (a < b ∧ cmpL (a :: x) (b :: y) = -1) ∨ (a = b ∧ cmpL (a :: x) (b :: y) = cmpL x y) ∨ (b < a ∧ cmpL (a :: x) (b :: y) = 1) := by
  rw [cmpL]
  rcases sgnI_cases (a : Int) (b : Int) with ⟨h, e⟩ | ⟨h, e⟩ | ⟨h, e⟩
  · rw [e]; exact .inl ⟨by omega, by simp⟩
  · rw [e]; exact .inr (.inl ⟨by omega, by simp⟩)
  · rw [e]; exact .inr (.inr ⟨by omega, by simp⟩)
theorem cmpL_self : ∀ a : List Nat, cmpL a a = 0
  | [] => rfl
  | a :: x => by
    rcases cmpL_cons a a x x with ⟨h, e⟩ | ⟨h, e⟩ | ⟨h, e⟩
    · omega
    · rw [e]; exact cmpL_self x
    · omega
theorem cmpL_anti : ∀ a b : List Nat, cmpL b a = - cmpL a b
  | [], [] => rfl
  | [], _ :: _ => rfl
  | _ :: _, [] => rfl
  | a :: x, b :: y => by
    have h := cmpL_anti x y
    rcases cmpL_cons a b x y with ⟨h1, e1⟩ | ⟨h1, e1⟩ | ⟨h1, e1⟩ <;> rcases cmpL_cons b a y x with ⟨h2, e2⟩ | ⟨h2, e2⟩ | ⟨h2, e2⟩ <;> omega
theorem cmpL_eq : ∀ {a b : List Nat}, cmpL a b = 0 → a = b
  | [], [], _ => rfl
  | [], _ :: _, h => by simp [cmpL] at h
  | _ :: _, [], h => by simp [cmpL] at h
  | a :: x, b :: y, h => by
    rcases cmpL_cons a b x y with ⟨h1, e1⟩ | ⟨h1, e1⟩ | ⟨h1, e1⟩
    · omega
    · subst h1; rw [cmpL_eq (a := x) (b := y) (by omega)]
    · omega
theorem cmpL_trans : ∀ {a b c : List Nat}, cmpL a b ≤ 0 → cmpL b c ≤ 0 → cmpL a c ≤ 0
  | [], _, [], _, _ => by simp [cmpL]
  | [], _, _ :: _, _, _ => by simp [cmpL]
  | _ :: _, [], _, h, _ => by simp [cmpL] at h
  | a :: x, b :: y, [], _, k => by simp [cmpL] at k
  | a :: x, b :: y, c :: z, h, k => by
    have ih := @cmpL_trans x y z
    rcases cmpL_cons a b x y with ⟨h1, e1⟩ | ⟨h1, e1⟩ | ⟨h1, e1⟩ <;> rcases cmpL_cons b c y z with ⟨h2, e2⟩ | ⟨h2, e2⟩ | ⟨h2, e2⟩ <;> rcases cmpL_cons a c x z with ⟨h3, e3⟩ | ⟨h3, e3⟩ | ⟨h3, e3⟩ <;> first | omega | (have := ih (by omega) (by omega); omega)
theorem cmpL_app : ∀ {a b c d : List Nat}, a.length = b.length → cmpL a b ≤ 0 → cmpL c d ≤ 0 → cmpL (a ++ c) (b ++ d) ≤ 0
  | [], [], _, _, _, _, h => h
  | [], _ :: _, _, _, h, _, _ => by simp at h
  | _ :: _, [], _, _, h, _, _ => by simp at h
  | a :: x, b :: y, c, d, hl, h, k => by
    have ih := @cmpL_app x y c d (by simpa using hl)
    rcases cmpL_cons a b x y with ⟨h1, e1⟩ | ⟨h1, e1⟩ | ⟨h1, e1⟩ <;> rcases cmpL_cons a b (x ++ c) (y ++ d) with ⟨h2, e2⟩ | ⟨h2, e2⟩ | ⟨h2, e2⟩ <;> simp only [List.cons_append] <;> first | omega | (have := ih (by omega) k; omega)
theorem cmpL_prefix : ∀ (a s : List Nat), cmpL a (a ++ s) ≤ 0
  | [], [] => by simp [cmpL]
  | [], _ :: _ => by simp [cmpL]
  | a :: x, s => by
    have ih := cmpL_prefix x s
    rcases cmpL_cons a a x (x ++ s) with ⟨h1, e1⟩ | ⟨h1, e1⟩ | ⟨h1, e1⟩ <;> simp only [List.cons_append] <;> omega
theorem cmpL_after : ∀ (b : List Nat) {i j : Nat} (s t : List Nat), i < j → cmpL (b ++ i :: s) (b ++ j :: t) ≤ 0
  | [], i, j, s, t, h => by
    rcases cmpL_cons i j s t with ⟨h1, e1⟩ | ⟨h1, e1⟩ | ⟨h1, e1⟩ <;> simp only [List.nil_append] <;> omega
  | a :: x, i, j, s, t, h => by
    have ih := cmpL_after x s t h
    rcases cmpL_cons a a (x ++ i :: s) (x ++ j :: t) with ⟨h1, e1⟩ | ⟨h1, e1⟩ | ⟨h1, e1⟩ <;> simp only [List.cons_append] <;> omega
theorem worth_app (l : List Ch) : ∀ a b : List Nat, worthL l (a ++ b) = worthL l a + worthL l b
  | [], b => by simp [worthL]
  | i :: a, b => by simp only [List.cons_append, worthL]; rw [worth_app l a b]; omega
/-- At least as good. -/
def btr (l : List Ch) (a b : List Nat) : Prop := worthL l b < worthL l a ∨ worthL l a = worthL l b ∧ (a.length < b.length ∨ a.length = b.length ∧ cmpL a b ≤ 0)
theorem btr_refl (l : List Ch) (a : List Nat) : btr l a a := .inr ⟨rfl, .inr ⟨rfl, by rw [cmpL_self]; exact Int.le_refl _⟩⟩
theorem btr_trans {l : List Ch} {a b c : List Nat} (h : btr l a b) (k : btr l b c) : btr l a c := by
  unfold btr at *
  rcases h with h | ⟨h, h2⟩ <;> rcases k with k | ⟨k, k2⟩
  · exact .inl (by omega)
  · exact .inl (by omega)
  · exact .inl (by omega)
  · refine .inr ⟨by omega, ?_⟩
    rcases h2 with h2 | ⟨h2, h3⟩ <;> rcases k2 with k2 | ⟨k2, k3⟩
    · exact .inl (by omega)
    · exact .inl (by omega)
    · exact .inl (by omega)
    · exact .inr ⟨by omega, cmpL_trans h3 k3⟩
theorem btr_worth {l : List Ch} {a b : List Nat} (h : btr l a b) : worthL l b ≤ worthL l a := by
  unfold btr at h; omega
theorem btr_anti {l : List Ch} {a b : List Nat} (h : btr l a b) (k : btr l b a) : a = b := by
  unfold btr at *
  have h1 := cmpL_anti a b
  exact cmpL_eq (by omega)
theorem cmpR_neg {l : List Ch} {a b : List Nat} : cmpR l a b < 0 ↔ ¬ btr l b a := by
  unfold cmpR btr
  have h1 := cmpL_anti a b
  rcases sgnI_cases (worthL l b) (worthL l a) with ⟨h2, e2⟩ | ⟨h2, e2⟩ | ⟨h2, e2⟩ <;> rcases sgnI_cases (a.length : Int) (b.length : Int) with ⟨h3, e3⟩ | ⟨h3, e3⟩ | ⟨h3, e3⟩ <;> rw [e2, e3] <;> simp only [orI]
  · simp; omega
  · simp; omega
  · simp; omega
  · simp; omega
  · by_cases hz : cmpL a b = 0
    · simp [hz]; omega
    · simp [hz]; omega
  · simp; omega
  · simp; omega
  · simp; omega
  · simp; omega
theorem btr_total {l : List Ch} {a b : List Nat} (h : ¬ btr l a b) : btr l b a := by
  unfold btr at *
  have h1 := cmpL_anti a b
  omega
theorem btr_app {l : List Ch} {a b c d : List Nat} (h : btr l a b) (k : btr l c d) : btr l (a ++ c) (b ++ d) := by
  unfold btr at *
  rw [worth_app, worth_app, List.length_append, List.length_append]
  have h1 := @cmpL_app a b c d
  by_cases e : a.length = b.length ∧ cmpL a b ≤ 0 ∧ cmpL c d ≤ 0
  · have := h1 e.1 e.2.1 e.2.2
    omega
  · omega
theorem btr_cons {l : List Ch} {i : Nat} {c d : List Nat} (h : btr l (i :: c) (i :: d)) : btr l c d := by
  unfold btr at *
  simp only [worthL, List.length_cons] at h
  rcases cmpL_cons i i c d with ⟨h1, e1⟩ | ⟨h1, e1⟩ | ⟨h1, e1⟩ <;> omega
theorem minP_spec (l : List Ch) (cs : List (List Nat)) : ∀ k, k < cs.length → minP l cs k ∈ cs ∧ ∀ j, j ≤ k → btr l (minP l cs k) (cs.getD j [])
  | 0, h => by
    have e : cs.getD 0 [] = cs[0] := by rw [List.getD_eq_getElem?_getD, List.getElem?_eq_getElem h]; rfl
    refine ⟨by unfold minP; rw [e]; exact List.getElem_mem h, fun j hj => ?_⟩
    obtain rfl : j = 0 := by omega
    exact btr_refl _ _
  | k + 1, h => by
    have ih := minP_spec l cs k (by omega)
    have e : cs.getD (k + 1) [] = cs[k + 1] := by rw [List.getD_eq_getElem?_getD, List.getElem?_eq_getElem h]; rfl
    unfold minP
    by_cases hc : cmpR l (cs.getD (k + 1) []) (minP l cs k) < 0
    · rw [if_pos hc]
      have hb := btr_total (cmpR_neg.1 hc)
      refine ⟨by rw [e]; exact List.getElem_mem h, fun j hj => ?_⟩
      rcases Nat.lt_succ_iff_lt_or_eq.1 (Nat.lt_succ_of_le hj) with hj | rfl
      · exact btr_trans hb (ih.2 j (by omega))
      · exact btr_refl _ _
    · rw [if_neg hc]
      refine ⟨ih.1, fun j hj => ?_⟩
      rcases Nat.lt_succ_iff_lt_or_eq.1 (Nat.lt_succ_of_le hj) with hj | rfl
      · exact ih.2 j (by omega)
      · exact Classical.byContradiction fun hn => hc (cmpR_neg.2 hn)
theorem minP_all {l : List Ch} {cs : List (List Nat)} (h : 0 < cs.length) : minP l cs (cs.length - 1) ∈ cs ∧ ∀ x ∈ cs, btr l (minP l cs (cs.length - 1)) x := by
  have hs := minP_spec l cs (cs.length - 1) (by omega)
  refine ⟨hs.1, fun x hx => ?_⟩
  obtain ⟨j, hj, rfl⟩ := List.mem_iff_getElem.1 hx
  have := hs.2 j (by omega)
  rw [List.getD_eq_getElem?_getD, List.getElem?_eq_getElem hj] at this
  exact this
/-- A list whose members hold and follow each other. -/
def RtP (cl : Nat → Prop) (st : Nat → Nat → Prop) : List Nat → Prop
  | [] => True
  | [i] => cl i
  | i :: j :: r => cl i ∧ st i j ∧ RtP cl st (j :: r)
theorem RtP_split {cl : Nat → Prop} {st : Nat → Nat → Prop} : ∀ (p : List Nat) (i : Nat) (s : List Nat), RtP cl st (p ++ i :: s) ↔ RtP cl st (p ++ [i]) ∧ RtP cl st (i :: s)
  | [], i, [] => by simp [RtP]
  | [], i, j :: s => by simp only [List.nil_append, RtP]; constructor
                        · exact fun h => ⟨h.1, h⟩
                        · exact fun h => h.2
  | [k], i, s => by
    have := RtP_split (cl := cl) (st := st) [] i s
    simp only [List.nil_append, List.cons_append, RtP] at this ⊢
    constructor
    · exact fun h => ⟨⟨h.1, h.2.1, (this.1 h.2.2).1⟩, h.2.2⟩
    · exact fun h => ⟨h.1.1, h.1.2.1, h.2⟩
  | k :: m :: p, i, s => by
    have := RtP_split (cl := cl) (st := st) (m :: p) i s
    simp only [List.cons_append, RtP] at this ⊢
    rw [this]
    constructor
    · exact fun h => ⟨⟨h.1, h.2.1, h.2.2.1⟩, h.2.2.2⟩
    · exact fun h => ⟨h.1.1, h.1.2.1, h.1.2.2, h.2⟩
theorem RtP_snoc {cl : Nat → Prop} {st : Nat → Nat → Prop} (p : List Nat) (k i : Nat) : RtP cl st (p ++ [k, i]) ↔ RtP cl st (p ++ [k]) ∧ cl k ∧ st k i ∧ cl i := by
  rw [RtP_split p k [i]]
  simp only [RtP]
theorem atN_cons (i : Nat) (r : List Nat) (k : Nat) : atN (i :: r) (k + 1) = atN r k := rfl
theorem RtP_at {cl : Nat → Prop} {st : Nat → Nat → Prop} : ∀ r : List Nat, RtP cl st r ↔ (∀ k, k < r.length → cl (atN r k)) ∧ ∀ k, k + 1 < r.length → st (atN r k) (atN r (k + 1))
  | [] => by simp [RtP]
  | [i] => by
    simp only [RtP, List.length_cons, List.length_nil]
    constructor
    · exact fun h => ⟨fun k hk => (by obtain rfl : k = 0 := (by omega); exact h), fun k hk => absurd hk (by omega)⟩
    · exact fun h => h.1 0 (by omega)
  | i :: j :: r => by
    have ih := RtP_at (cl := cl) (st := st) (j :: r)
    simp only [RtP]
    rw [ih]
    constructor
    · rintro ⟨h1, h2, h3, h4⟩
      refine ⟨fun k hk => ?_, fun k hk => ?_⟩
      · cases k with
        | zero => exact h1
        | succ k => exact h3 k (by simpa using hk)
      · cases k with
        | zero => exact h2
        | succ k => exact h4 k (by simpa using hk)
    · rintro ⟨h1, h2⟩
      exact ⟨h1 0 (by simp), h2 0 (by simp), fun k hk => h1 (k + 1) (by simpa using hk), fun k hk => h2 (k + 1) (by simpa using hk)⟩
def clP (l : List Ch) (L : List Cl) (i : Nat) : Prop := i < l.length ∧ clB l L i = true
def stP (l : List Ch) (per : Int) (i j : Nat) : Prop := i < j ∧ folC (l.getD i ch0) (l.getD j ch0) per = true
/-- A right list. -/
def Rt (l : List Ch) (L : List Cl) (per : Int) (r : List Nat) : Prop := RtP (clP l L) (stP l per) r
theorem rgt_iff {l : List Ch} {L : List Cl} {per : Int} {r : List Nat} : (rgtB l L per r = true ∧ ∀ i ∈ r, i < l.length) ↔ Rt l L per r := by
  unfold Rt
  rw [RtP_at]
  unfold rgtB ascB
  rw [Bool.and_eq_true]
  constructor
  · rintro ⟨⟨h1, h2⟩, h3⟩
    have h1 := all_get h1
    have h2 := all_get h2
    refine ⟨fun k hk => ⟨h3 _ (atN_mem hk), ?_⟩, fun k hk => ⟨?_, ?_⟩⟩
    · have := h1 k hk
      unfold rgt1 at this
      rw [Bool.and_eq_true] at this
      exact this.1
    · have := h2 (k + 1) (by simpa using hk)
      unfold ascAt at this
      rw [atI_nat, atI_nat] at this
      simp at this
      exact this
    · have := h1 (k + 1) hk
      unfold rgt1 at this
      simp at this
      exact this.2
  · rintro ⟨h1, h2⟩
    refine ⟨⟨all_end fun k hk => ?_, all_end fun k hk => ?_⟩, fun i hi => ?_⟩
    · unfold rgt1
      rw [Bool.and_eq_true]
      refine ⟨(h1 k hk).2, ?_⟩
      cases k with
      | zero => rfl
      | succ k => rw [Bool.or_eq_true]; exact .inr (h2 k hk).2
    · unfold ascAt
      cases k with
      | zero => rfl
      | succ k =>
        rw [List.length_map] at hk
        have := (h2 k hk).1
        rw [Nat.add_sub_cancel, atI_nat, atI_nat]
        simp
        exact this
    · obtain ⟨k, hk, e⟩ := List.mem_iff_getElem.1 hi
      have := (h1 k hk).1
      unfold atN at this
      rw [List.getD_eq_getElem?_getD, List.getElem?_eq_getElem hk, Option.getD_some, e] at this
      exact this
theorem Rt_asc {l : List Ch} {L : List Cl} {per : Int} {r : List Nat} (h : Rt l L per r) : ∀ k, k < r.length → k ≤ atN r k
  | 0, _ => Nat.zero_le _
  | k + 1, hk => by
    have h1 := Rt_asc h k (by omega)
    have h2 := (((RtP_at r).1 h).2 k hk).1
    omega
theorem Rt_len {l : List Ch} {L : List Cl} {per : Int} {r : List Nat} (h : Rt l L per r) : r.length ≤ l.length := by
  rcases Nat.eq_zero_or_pos r.length with h0 | h0
  · omega
  · have h1 := Rt_asc h (r.length - 1) (by omega)
    have h2 := (((RtP_at r).1 h).1 (r.length - 1) (by omega)).1
    omega
/-- The best one that ends so. -/
def endL (l : List Ch) (L : List Cl) (per : Int) (i : Nat) : List Nat := (eT l L per (i + 1)).getD i []
theorem endL_eq (l : List Ch) (L : List Cl) (per : Int) (i : Nat) : endL l L per i = minP l (cand l L per (eT l L per i) i i) ((cand l L per (eT l L per i) i i).length - 1) := by
  unfold endL
  rw [eT, List.getD_eq_getElem?_getD, List.getElem?_append_right (by rw [eT_len]; exact Nat.le_refl _), eT_len, Nat.sub_self]
  rfl
theorem cand_mem {l : List Ch} {L : List Cl} {per : Int} {i : Nat} {x : List Nat} : x ∈ cand l L per (eT l L per i) i i ↔ x = [i] ∨ ∃ j, j < i ∧ preB l L per j i = true ∧ x = endL l L per j ++ [i] := by
  unfold cand
  simp only [List.mem_cons, List.mem_map, List.mem_filter, List.mem_range]
  constructor
  · rintro (h | ⟨j, ⟨h1, h2⟩, h3⟩)
    · exact .inl h
    · exact .inr ⟨j, h1, h2, by rw [← h3, eT_get l L per h1]; rfl⟩
  · rintro (h | ⟨j, h1, h2, h3⟩)
    · exact .inl h
    · exact .inr ⟨j, ⟨h1, h2⟩, by rw [h3, eT_get l L per h1]; rfl⟩
theorem snoc_cases (p : List Nat) : p = [] ∨ ∃ q k, p = q ++ [k] := by
  rcases List.eq_nil_or_concat p with h | ⟨q, k, h⟩
  · exact .inl h
  · exact .inr ⟨q, k, by simpa using h⟩
theorem endL_spec (l : List Ch) (L : List Cl) (per : Int) (i : Nat) : i < l.length → clB l L i = true → Rt l L per (endL l L per i) ∧ (∃ p, endL l L per i = p ++ [i]) ∧ ∀ p, Rt l L per (p ++ [i]) → btr l (endL l L per i) (p ++ [i]) := by
  induction i using Nat.strongRecOn with
  | _ i ih =>
    intro hi hc
    have hm := minP_all (l := l) (cs := cand l L per (eT l L per i) i i) (by simp [cand])
    rw [← endL_eq] at hm
    refine ⟨?_, ?_, ?_⟩
    · rcases cand_mem.1 hm.1 with h | ⟨j, hj, hp, h⟩
      · rw [h]; exact ⟨hi, hc⟩
      · unfold preB at hp
        rw [Bool.and_eq_true] at hp
        obtain ⟨h1, ⟨p, h2⟩, -⟩ := ih j hj (by omega) hp.1
        rw [h, h2]
        rw [h2] at h1
        have := (RtP_snoc (cl := clP l L) (st := stP l per) p j i).2 ⟨h1, ⟨by omega, hp.1⟩, ⟨hj, hp.2⟩, hi, hc⟩
        show RtP _ _ _
        rw [List.append_assoc]
        exact this
    · rcases cand_mem.1 hm.1 with h | ⟨j, hj, hp, h⟩
      · exact ⟨[], h⟩
      · exact ⟨_, h⟩
    · intro p hp
      rcases snoc_cases p with rfl | ⟨q, k, rfl⟩
      · exact hm.2 _ (cand_mem.2 (.inl rfl))
      · have h1 := (RtP_snoc (cl := clP l L) (st := stP l per) q k i).1 (by simpa [Rt] using hp)
        obtain ⟨h2, -, h3⟩ := ih k h1.2.2.1.1 h1.2.1.1 h1.2.1.2
        have h4 := hm.2 _ (cand_mem.2 (.inr ⟨k, h1.2.2.1.1, by unfold preB; rw [Bool.and_eq_true]; exact ⟨h1.2.1.2, h1.2.2.1.2⟩, rfl⟩))
        exact btr_trans h4 (btr_app (h3 q h1.1) (btr_refl _ _))
theorem bestL_spec (l : List Ch) (L : List Cl) (per : Int) : Rt l L per (bestL l L per) ∧ ∀ r, Rt l L per r → btr l (bestL l L per) r := by
  have hm := minP_all (l := l) (cs := ends l L per l.length) (by simp [ends])
  have hmem : ∀ x, x ∈ ends l L per l.length ↔ x = [] ∨ ∃ j, j < l.length ∧ clB l L j = true ∧ x = endL l L per j := by
    intro x
    unfold ends
    simp only [List.mem_cons, List.mem_map, List.mem_filter, List.mem_range]
    constructor
    · rintro (h | ⟨j, ⟨h1, h2⟩, h3⟩)
      · exact .inl h
      · exact .inr ⟨j, h1, h2, h3.symm⟩
    · rintro (h | ⟨j, h1, h2, h3⟩)
      · exact .inl h
      · exact .inr ⟨j, ⟨h1, h2⟩, h3.symm⟩
  constructor
  · rcases (hmem _).1 hm.1 with h | ⟨j, h1, h2, h3⟩
    · unfold bestL; rw [h]; trivial
    · unfold bestL; rw [h3]; exact (endL_spec l L per j h1 h2).1
  · intro r hr
    rcases snoc_cases r with rfl | ⟨p, i, rfl⟩
    · exact hm.2 _ ((hmem _).2 (.inl rfl))
    · have hi : clP l L i := by
        have := ((RtP_split p i []).1 (by simpa [Rt] using hr)).2
        exact this
      exact btr_trans (hm.2 _ ((hmem _).2 (.inr ⟨i, hi.1, hi.2, rfl⟩))) ((endL_spec l L per i hi.1 hi.2).2.2 p hr)
theorem best_unique {l : List Ch} {L : List Cl} {per : Int} {a : List Nat} (h1 : Rt l L per a) (h2 : ∀ r, Rt l L per r → btr l a r) : a = bestL l L per :=
  btr_anti (h2 _ (bestL_spec l L per).1) ((bestL_spec l L per).2 _ h1)
end Go.Proofs.Ytomgaiokmdcjmaa
