/-
  The best right list that has a chance: plain laws, no program. No conditions.
-/
import Derived.Test.YtomgaiokmdcjmaaNt28
namespace Go.Proofs.Ytomgaiokmdcjmaa
open Go.RowKit Go.Deep
set_option linter.unusedVariables false
set_option linter.unusedSimpArgs false
def preF (l : List Ch) (L : List Cl) (per : Int) (k j : Nat) : Bool := decide (k < j) && (clB l L j && folC (l.getD k ch0) (l.getD j ch0) per)
/-- The lists that begin with k, as far as the chances below J go. -/
def candB (l : List Ch) (L : List Cl) (per : Int) (T : List (List Nat)) (k J : Nat) : List (List Nat) := [k] :: ((List.range J).filter (fun j => preF l L per k j)).map (fun j => k :: T.getD (l.length - 1 - j) [])
theorem candB_succ (l : List Ch) (L : List Cl) (per : Int) (T : List (List Nat)) (k J : Nat) : candB l L per T k (J + 1) = if preF l L per k J = true then candB l L per T k J ++ [k :: T.getD (l.length - 1 - J) []] else candB l L per T k J := by
  unfold candB
  rw [List.range_succ, List.filter_append, List.map_append]
  by_cases h : preF l L per k J = true
  · rw [if_pos h]; simp [h]
  · rw [if_neg h]; simp [h]
theorem candB_start (l : List Ch) (L : List Cl) (per : Int) (T : List (List Nat)) (k : Nat) : candB l L per T k (k + 1) = [[k]] := by
  unfold candB
  have : (List.range (k + 1)).filter (fun j => preF l L per k j) = [] := by
    rw [List.filter_eq_nil_iff]
    intro j hj
    have := List.mem_range.1 hj
    unfold preF
    rw [decide_eq_false (by omega)]
    simp
  rw [this]; rfl
/-- From the last one on. -/
def bTb (l : List Ch) (L : List Cl) (per : Int) : Nat → List (List Nat)
  | 0 => []
  | m + 1 => bTb l L per m ++ [minP l (candB l L per (bTb l L per m) (l.length - 1 - m) l.length) ((candB l L per (bTb l L per m) (l.length - 1 - m) l.length).length - 1)]
theorem bTb_len (l : List Ch) (L : List Cl) (per : Int) : ∀ m, (bTb l L per m).length = m
  | 0 => rfl
  | m + 1 => by rw [bTb, List.length_append, bTb_len l L per m]; rfl
theorem bTb_get (l : List Ch) (L : List Cl) (per : Int) {j : Nat} : ∀ {m : Nat}, j < m → (bTb l L per m).getD j [] = (bTb l L per (j + 1)).getD j []
  | m + 1, h => by
    rcases Nat.lt_succ_iff_lt_or_eq.1 h with h | rfl
    · rw [← bTb_get l L per h]
      conv => lhs; rw [bTb]
      rw [List.getD_eq_getElem?_getD, List.getElem?_append_left (by rw [bTb_len]; exact h), ← List.getD_eq_getElem?_getD]
    · rfl
def begL (l : List Ch) (L : List Cl) (per : Int) (k : Nat) : List Nat := (bTb l L per (l.length - k)).getD (l.length - 1 - k) []
theorem begL_eq (l : List Ch) (L : List Cl) (per : Int) {k : Nat} (hk : k < l.length) : begL l L per k = minP l (candB l L per (bTb l L per (l.length - 1 - k)) k l.length) ((candB l L per (bTb l L per (l.length - 1 - k)) k l.length).length - 1) := by
  unfold begL
  rw [show l.length - k = l.length - 1 - k + 1 by omega, bTb, List.getD_eq_getElem?_getD, List.getElem?_append_right (by rw [bTb_len]; exact Nat.le_refl _), bTb_len, Nat.sub_self, show l.length - 1 - (l.length - 1 - k) = k by omega]
  rfl
theorem bT_beg (l : List Ch) (L : List Cl) (per : Int) {k j : Nat} (hkj : k < j) (hj : j < l.length) : (bTb l L per (l.length - 1 - k)).getD (l.length - 1 - j) [] = begL l L per j := by
  rw [bTb_get l L per (by omega)]
  unfold begL
  rw [show l.length - 1 - j + 1 = l.length - j by omega]
theorem candB_mem {l : List Ch} {L : List Cl} {per : Int} {k : Nat} (hk : k < l.length) {x : List Nat} : x ∈ candB l L per (bTb l L per (l.length - 1 - k)) k l.length ↔ x = [k] ∨ ∃ j, j < l.length ∧ preF l L per k j = true ∧ x = k :: begL l L per j := by
  unfold candB
  simp only [List.mem_cons, List.mem_map, List.mem_filter, List.mem_range]
  constructor
  · rintro (h | ⟨j, ⟨h1, h2⟩, h3⟩)
    · exact .inl h
    · have hkj : k < j := by unfold preF at h2; rw [Bool.and_eq_true] at h2; exact of_decide_eq_true h2.1
      exact .inr ⟨j, h1, h2, by rw [← h3, bT_beg l L per hkj h1]⟩
  · rintro (h | ⟨j, h1, h2, h3⟩)
    · exact .inl h
    · have hkj : k < j := by unfold preF at h2; rw [Bool.and_eq_true] at h2; exact of_decide_eq_true h2.1
      exact .inr ⟨j, ⟨h1, h2⟩, by rw [h3, bT_beg l L per hkj h1]⟩
theorem Rt_cons {l : List Ch} {L : List Cl} {per : Int} {k j : Nat} {s : List Nat} : Rt l L per (k :: j :: s) ↔ clP l L k ∧ stP l per k j ∧ Rt l L per (j :: s) := by
  unfold Rt; simp only [RtP]
theorem begL_spec (l : List Ch) (L : List Cl) (per : Int) (m : Nat) : ∀ k, l.length - k = m → k < l.length → clB l L k = true → Rt l L per (begL l L per k) ∧ (∃ s, begL l L per k = k :: s) ∧ ∀ s, Rt l L per (k :: s) → btr l (begL l L per k) (k :: s) := by
  induction m using Nat.strongRecOn with
  | _ m ih =>
    intro k hkm hk hc
    have hm := minP_all (l := l) (cs := candB l L per (bTb l L per (l.length - 1 - k)) k l.length) (by simp [candB])
    rw [← begL_eq l L per hk] at hm
    refine ⟨?_, ?_, ?_⟩
    · rcases (candB_mem hk).1 hm.1 with h | ⟨j, hj, hp, h⟩
      · rw [h]; exact ⟨hk, hc⟩
      · unfold preF at hp
        simp only [Bool.and_eq_true, decide_eq_true_eq] at hp
        obtain ⟨h1, ⟨s, h2⟩, -⟩ := ih (l.length - j) (by omega) j rfl hj hp.2.1
        rw [h, h2]
        rw [h2] at h1
        exact Rt_cons.2 ⟨⟨hk, hc⟩, ⟨hp.1, hp.2.2⟩, h1⟩
    · rcases (candB_mem hk).1 hm.1 with h | ⟨j, hj, hp, h⟩
      · exact ⟨_, h⟩
      · exact ⟨_, h⟩
    · intro s hs
      cases s with
      | nil => exact hm.2 _ ((candB_mem hk).2 (.inl rfl))
      | cons j t =>
        obtain ⟨h1, h2, h3⟩ := Rt_cons.1 hs
        have hcj : clP l L j := by
          have := ((RtP_at (j :: t)).1 h3).1 0 (by simp)
          exact this
        obtain ⟨-, -, h4⟩ := ih (l.length - j) (by have := h2.1; have := hcj.1; omega) j rfl hcj.1 hcj.2
        have h5 := hm.2 _ ((candB_mem hk).2 (.inr ⟨j, hcj.1, by unfold preF; simp only [Bool.and_eq_true, decide_eq_true_eq]; exact ⟨h2.1, hcj.2, h2.2⟩, rfl⟩))
        exact btr_trans h5 (btr_app (a := [k]) (b := [k]) (btr_refl _ _) (h4 t h3))
/-- What With finds. -/
def withL (l : List Ch) (L : List Cl) (per : Int) (i : Nat) : List Nat := endL l L per i ++ (begL l L per i).tail
theorem withL_spec {l : List Ch} {L : List Cl} {per : Int} {i : Nat} (hi : i < l.length) (hc : clB l L i = true) : Rt l L per (withL l L per i) ∧ i ∈ withL l L per i ∧ ∀ r, Rt l L per r → i ∈ r → btr l (withL l L per i) r := by
  obtain ⟨h1, ⟨p, h2⟩, h3⟩ := endL_spec l L per i hi hc
  obtain ⟨k1, ⟨t, k2⟩, k3⟩ := begL_spec l L per _ i rfl hi hc
  have e : withL l L per i = p ++ i :: t := by
    unfold withL
    rw [h2, k2, List.tail_cons, List.append_assoc]; rfl
  have e2 : withL l L per i = endL l L per i ++ t := by
    unfold withL
    rw [k2, List.tail_cons]
  refine ⟨?_, by rw [e]; simp, fun r hr hir => ?_⟩
  · rw [e]
    refine (RtP_split p i t).2 ⟨?_, ?_⟩
    · rw [h2] at h1; exact h1
    · rw [k2] at k1; exact k1
  · obtain ⟨q, s, rfl⟩ := List.append_of_mem hir
    have h4 := (RtP_split q i s).1 hr
    have h5 := h3 q h4.1
    have h6 := k3 s h4.2
    rw [k2] at h6
    have h7 := btr_app h5 (btr_cons h6)
    rw [List.append_assoc] at h7
    rw [e2]
    exact h7
theorem has_mem {x : List Nat} {i : Nat} : keepB (i : Int) x = true ↔ i ∈ x := by
  unfold keepB hasB
  rw [decide_eq_false (by omega), Bool.false_or, List.any_eq_true]
  constructor
  · rintro ⟨k, hk, e⟩
    have := of_decide_eq_true e
    obtain rfl : k = i := by omega
    exact hk
  · intro h
    exact ⟨i, h, decide_eq_true rfl⟩
theorem bst_with {l : List Ch} {L : List Cl} {per : Int} {i : Nat} (hi : i < l.length) (hc : clB l L i = true) : bstR l L per (i : Int) = (withL l L per i, true) := by
  have h := bst_spec l L per (i : Int)
  have hw := withL_spec (L := L) (per := per) hi hc
  have hm : (bstR l L per (i : Int)).2 = true := by
    rw [h.m, List.any_eq_true]
    exact ⟨_, rights_mem.2 hw.1, has_mem.2 hw.2.1⟩
  have hb := h.b hm
  have h1 : (bstR l L per (i : Int)).1 = withL l L per i := btr_anti (hb.2.2 _ (rights_mem.2 hw.1) (has_mem.2 hw.2.1)) (hw.2.2 _ (rights_mem.1 hb.1) (has_mem.1 hb.2.1))
  rw [← h1, ← hm]
theorem bst_none {l : List Ch} {L : List Cl} {per : Int} {i : Nat} (hc : clB l L i = false) : (bstR l L per (i : Int)).2 = false := by
  have h := bst_spec l L per (i : Int)
  rw [h.m, List.any_eq_false]
  intro x hx hk
  have hr := rights_mem.1 hx
  have hix := has_mem.1 hk
  obtain ⟨q, s, rfl⟩ := List.append_of_mem hix
  have h4 := (RtP_at (i :: s)).1 ((RtP_split q i s).1 hr).2
  have h5 : clP l L i := h4.1 0 (by simp)
  rw [h5.2] at hc; cases hc
end Go.Proofs.Ytomgaiokmdcjmaa
