/-
  What the reference finds: plain laws, no program. No conditions.
-/
import Derived.Test.YtomgaiokmdcjmaaNt27
namespace Go.Proofs.Ytomgaiokmdcjmaa
open Go.RowKit Go.Deep
set_option linter.unusedVariables false
set_option linter.unusedSimpArgs false
def lastN (b : List Nat) : Nat := atN b (b.length - 1)
theorem lastN_snoc (p : List Nat) (k : Nat) : lastN (p ++ [k]) = k := by
  unfold lastN atN
  rw [List.length_append, List.length_cons, List.length_nil, Nat.add_sub_cancel, List.getD_eq_getElem?_getD, List.getElem?_append_right (Nat.le_refl _), Nat.sub_self]
  rfl
def okN (l : List Ch) (L : List Cl) (per : Int) (b : List Nat) (i : Nat) : Bool := clB l L i && (decide (b.length = 0) || folC (l.getD (lastN b) ch0) (l.getD i ch0) per)
theorem okN_iff {l : List Ch} {L : List Cl} {per : Int} {b : List Nat} {i : Nat} (hb : Rt l L per b) (hi : i < l.length) (hl : b = [] ∨ lastN b < i) : Rt l L per (b ++ [i]) ↔ okN l L per b i = true := by
  unfold okN
  rcases snoc_cases b with rfl | ⟨p, k, rfl⟩
  · simp [Rt, RtP, clP, hi]
  · have hlt : k < i := by
      rcases hl with h | h
      · simp at h
      · rwa [lastN_snoc] at h
    rw [lastN_snoc]
    have h1 : Rt l L per (p ++ [k] ++ [i]) ↔ RtP (clP l L) (stP l per) (p ++ [k, i]) := by unfold Rt; rw [List.append_assoc]; rfl
    rw [h1, RtP_snoc]
    simp only [Bool.and_eq_true, Bool.or_eq_true, decide_eq_true_eq]
    constructor
    · rintro ⟨-, -, h2, h3⟩
      exact ⟨h3.2, .inr h2.2⟩
    · rintro ⟨h2, h3⟩
      refine ⟨hb, ?_, ⟨hlt, ?_⟩, hi, h2⟩
      · exact ((RtP_split p k []).1 hb).2
      · rcases h3 with h3 | h3
        · simp at h3
        · exact h3
/-- The right lists that go on from one, from an index on. -/
def rtsF (l : List Ch) (L : List Cl) (per : Int) : Nat → List Nat → List (List Nat)
  | 0, _ => []
  | f + 1, b => (if okN l L per b (l.length - (f + 1)) = true then (b ++ [l.length - (f + 1)]) :: rtsF l L per f (b ++ [l.length - (f + 1)]) else []) ++ rtsF l L per f b
theorem rts_len (l : List Ch) (L : List Cl) (per : Int) : ∀ f b, (rtsF l L per f b).length + 1 ≤ 2 ^ f
  | 0, b => by simp [rtsF]
  | f + 1, b => by
    have h1 := rts_len l L per f b
    have h2 := rts_len l L per f (b ++ [l.length - (f + 1)])
    unfold rtsF
    rw [List.length_append, Nat.pow_succ]
    split
    · rw [List.length_cons]; omega
    · simp; omega
theorem rts_form {l : List Ch} {L : List Cl} {per : Int} : ∀ {f : Nat} {b r : List Nat}, f ≤ l.length → r ∈ rtsF l L per f b → ∃ i s, l.length - f ≤ i ∧ r = b ++ i :: s
  | 0, b, r, _, h => by simp [rtsF] at h
  | f + 1, b, r, hf, h => by
    unfold rtsF at h
    rcases List.mem_append.1 h with h | h
    · split at h
      · rcases List.mem_cons.1 h with h | h
        · exact ⟨_, [], Nat.le_refl _, h⟩
        · obtain ⟨i, s, h1, h2⟩ := rts_form (by omega) h
          exact ⟨_, i :: s, Nat.le_refl _, by rw [h2]; simp⟩
      · cases h
    · obtain ⟨i, s, h1, h2⟩ := rts_form (by omega) h
      exact ⟨i, s, by omega, h2⟩
theorem rts_mem {l : List Ch} {L : List Cl} {per : Int} : ∀ {f : Nat} {b r : List Nat}, f ≤ l.length → Rt l L per b → (b = [] ∨ lastN b < l.length - f) → (r ∈ rtsF l L per f b ↔ ∃ i s, l.length - f ≤ i ∧ r = b ++ i :: s ∧ Rt l L per r)
  | 0, b, r, _, hb, hl => by
    constructor
    · intro h; simp [rtsF] at h
    · rintro ⟨i, s, h1, h2, h3⟩
      rw [h2] at h3
      have h4 := ((RtP_split b i s).1 h3).2
      have h5 := ((RtP_at (i :: s)).1 h4).1 0 (by simp)
      have : i < l.length := h5.1
      omega
  | f + 1, b, r, hf, hb, hl => by
    have hi : l.length - (f + 1) < l.length := by omega
    have hok := okN_iff hb hi hl
    have hb2 : b = [] ∨ lastN b < l.length - f := hl.imp_right (by omega)
    unfold rtsF
    rw [List.mem_append]
    constructor
    · rintro (h | h)
      · split at h
        · rename_i ho
          have hr := hok.2 ho
          rcases List.mem_cons.1 h with h | h
          · exact ⟨_, [], Nat.le_refl _, h, by rw [h]; exact hr⟩
          · obtain ⟨i, s, h1, h2, h3⟩ := (rts_mem (by omega) hr (.inr (by rw [lastN_snoc]; omega))).1 h
            exact ⟨_, i :: s, Nat.le_refl _, by rw [h2]; simp, h3⟩
        · cases h
      · obtain ⟨i, s, h1, h2, h3⟩ := (rts_mem (by omega) hb hb2).1 h
        exact ⟨i, s, by omega, h2, h3⟩
    · rintro ⟨i, s, h1, h2, h3⟩
      by_cases he : i = l.length - (f + 1)
      · subst he
        rw [h2] at h3
        have h4 := (RtP_split b _ s).1 h3
        have ho := hok.1 h4.1
        refine .inl ?_
        rw [if_pos ho]
        cases s with
        | nil => rw [h2]; exact List.mem_cons_self
        | cons j t =>
          have h5 : stP l per (l.length - (f + 1)) j := h4.2.2.1
          refine List.mem_cons_of_mem _ ((rts_mem (by omega) h4.1 (.inr (by rw [lastN_snoc]; omega))).2 ⟨j, t, by have := h5.1; omega, by rw [h2]; simp, by rw [h2]; exact h3⟩)
      · exact .inr ((rts_mem (by omega) hb hb2).2 ⟨i, s, by omega, h2, h3⟩)
theorem rts_sorted {l : List Ch} {L : List Cl} {per : Int} : ∀ {f : Nat} {b : List Nat}, f ≤ l.length → (rtsF l L per f b).Pairwise (fun x y => cmpL x y ≤ 0)
  | 0, b, _ => by unfold rtsF; exact List.Pairwise.nil
  | f + 1, b, hf => by
    unfold rtsF
    rw [List.pairwise_append]
    refine ⟨?_, rts_sorted (by omega), ?_⟩
    · split
      · rw [List.pairwise_cons]
        refine ⟨fun y hy => ?_, rts_sorted (by omega)⟩
        obtain ⟨i, s, -, h⟩ := rts_form (by omega) hy
        rw [h]; exact cmpL_prefix _ _
      · exact List.Pairwise.nil
    · intro x hx y hy
      obtain ⟨j, s, h1, h2⟩ := rts_form (by omega) hy
      split at hx
      · rcases List.mem_cons.1 hx with h | h
        · rw [h, h2]; exact cmpL_after b [] s (by omega)
        · obtain ⟨i, t, h3, h4⟩ := rts_form (by omega) h
          rw [h4, h2, List.append_assoc]
          exact cmpL_after b (i :: t) s (by omega)
      · cases hx
/-- All right lists, in order. -/
def rightsL (l : List Ch) (L : List Cl) (per : Int) : List (List Nat) := [] :: rtsF l L per l.length []
theorem rights_mem {l : List Ch} {L : List Cl} {per : Int} {r : List Nat} : r ∈ rightsL l L per ↔ Rt l L per r := by
  unfold rightsL
  rw [List.mem_cons, rts_mem (Nat.le_refl _) (show Rt l L per [] from trivial) (.inl rfl)]
  constructor
  · rintro (h | ⟨i, s, -, h1, h2⟩)
    · rw [h]; trivial
    · exact h2
  · intro h
    cases r with
    | nil => exact .inl rfl
    | cons i s => exact .inr ⟨i, s, by omega, rfl, h⟩
theorem rights_sorted (l : List Ch) (L : List Cl) (per : Int) : (rightsL l L per).Pairwise (fun x y => cmpL x y ≤ 0) := by
  unfold rightsL
  rw [List.pairwise_cons]
  exact ⟨fun y _ => cmpL_prefix [] y, rts_sorted (Nat.le_refl _)⟩
def hasB (x : List Nat) (i : Int) : Bool := x.any (fun k => decide ((k : Int) = i))
def keepB (i : Int) (x : List Nat) : Bool := decide (i < 0) || hasB x i
def gtB (l : List Ch) (o : List Nat × Bool) (x : List Nat) : Bool := !o.2 || (decide (worthL l o.1 < worthL l x) || (decide (worthL l x = worthL l o.1) && decide (x.length < o.1.length)))
def bstS (l : List Ch) (i : Int) (o : List Nat × Bool) (x : List Nat) : List Nat × Bool := if keepB i x = true then (if gtB l o x = true then (x, true) else o) else o
structure BstI (l : List Ch) (i : Int) (P : List (List Nat)) (o : List Nat × Bool) : Prop where
  m : o.2 = P.any (keepB i)
  b : o.2 = true → o.1 ∈ P ∧ keepB i o.1 = true ∧ ∀ x ∈ P, keepB i x = true → btr l o.1 x
theorem BstI.step {l : List Ch} {i : Int} {P : List (List Nat)} {o : List Nat × Bool} (h : BstI l i P o) {x : List Nat} (hs : ∀ y ∈ P, cmpL y x ≤ 0) : BstI l i (P ++ [x]) (bstS l i o x) := by
  unfold bstS
  by_cases hk : keepB i x = true
  · rw [if_pos hk]
    by_cases hg : gtB l o x = true
    · rw [if_pos hg]
      refine ⟨by simp [hk], fun _ => ⟨by simp, hk, fun y hy hy2 => ?_⟩⟩
      rcases List.mem_append.1 hy with hy | hy
      · have hm : o.2 = true := by rw [h.m, List.any_eq_true]; exact ⟨y, hy, hy2⟩
        have h1 := (h.b hm).2.2 y hy hy2
        refine btr_trans ?_ h1
        unfold gtB at hg
        rw [hm] at hg
        simp at hg
        unfold btr
        rcases hg with hg | hg
        · exact .inl hg
        · exact .inr ⟨hg.1, .inl hg.2⟩
      · obtain rfl : y = x := by simpa using hy
        exact btr_refl _ _
    · rw [if_neg hg]
      have hm : o.2 = true := by
        cases ho : o.2
        · exact absurd (by unfold gtB; rw [ho]; rfl) hg
        · rfl
      have hb := h.b hm
      refine ⟨by rw [hm, List.any_append, ← h.m, hm]; rfl, fun _ => ⟨List.mem_append_left _ hb.1, hb.2.1, fun y hy hy2 => ?_⟩⟩
      rcases List.mem_append.1 hy with hy | hy
      · exact hb.2.2 y hy hy2
      · obtain rfl : y = x := by simpa using hy
        have h1 := hs _ hb.1
        unfold gtB at hg
        rw [hm] at hg
        simp at hg
        unfold btr
        by_cases e : worthL l o.1 = worthL l y
        · refine .inr ⟨e, ?_⟩
          have := hg.2 e.symm
          by_cases e2 : o.1.length = y.length
          · exact .inr ⟨e2, h1⟩
          · exact .inl (by omega)
        · exact .inl (by have := hg.1; omega)
  · rw [if_neg hk]
    have hk : keepB i x = false := by simpa using hk
    refine ⟨by rw [List.any_append, ← h.m]; simp [hk], fun hm => ?_⟩
    have hb := h.b hm
    refine ⟨List.mem_append_left _ hb.1, hb.2.1, fun y hy hy2 => ?_⟩
    rcases List.mem_append.1 hy with hy | hy
    · exact hb.2.2 y hy hy2
    · obtain rfl : y = x := by simpa using hy
      rw [hk] at hy2; cases hy2
theorem bst_fold {l : List Ch} {i : Int} : ∀ (xs P : List (List Nat)) (o : List Nat × Bool), BstI l i P o → (P ++ xs).Pairwise (fun x y => cmpL x y ≤ 0) → BstI l i (P ++ xs) (xs.foldl (bstS l i) o)
  | [], P, o, h, _ => by simpa using h
  | x :: xs, P, o, h, hs => by
    have h1 := h.step (x := x) (fun y hy => (List.pairwise_append.1 hs).2.2 y hy x (by simp))
    have := bst_fold xs (P ++ [x]) _ h1 (by simpa using hs)
    simpa using this
def bstR (l : List Ch) (L : List Cl) (per i : Int) : List Nat × Bool := (rightsL l L per).foldl (bstS l i) ([], false)
theorem bst_spec (l : List Ch) (L : List Cl) (per i : Int) : BstI l i (rightsL l L per) (bstR l L per i) := by
  have := bst_fold (l := l) (i := i) (rightsL l L per) [] ([], false) ⟨rfl, fun h => by cases h⟩ (rights_sorted l L per)
  exact this
theorem bst_best (l : List Ch) (L : List Cl) (per : Int) : bstR l L per (-1) = (bestL l L per, true) := by
  have h := bst_spec l L per (-1)
  have hk : ∀ x, keepB (-1) x = true := fun x => rfl
  have hm : (bstR l L per (-1)).2 = true := by rw [h.m]; unfold rightsL; rfl
  have hb := h.b hm
  have h1 : (bstR l L per (-1)).1 = bestL l L per := best_unique (rights_mem.1 hb.1) (fun r hr => hb.2.2 r (rights_mem.2 hr) (hk r))
  rw [← h1, ← hm]
/-- All worth one. -/
def ones (l : List Ch) : List Ch := l.map (fun x => ⟨x.nm, x.a, x.b, x.t, 1⟩)
theorem ones_len (l : List Ch) : (ones l).length = l.length := by simp [ones]
theorem ones_get (l : List Ch) (i : Nat) : ((ones l).getD i ch0).a = (l.getD i ch0).a ∧ ((ones l).getD i ch0).b = (l.getD i ch0).b ∧ ((ones l).getD i ch0).t = (l.getD i ch0).t := by
  unfold ones
  rw [List.getD_eq_getElem?_getD, List.getD_eq_getElem?_getD, List.getElem?_map]
  cases l[i]? <;> exact ⟨rfl, rfl, rfl⟩
theorem ones_rt (l : List Ch) (L : List Cl) (per : Int) : Rt (ones l) L per = Rt l L per := by
  have h1 : clP (ones l) L = clP l L := by
    funext i
    unfold clP clB covB
    rw [ones_len]
    have : covC ((ones l).getD i ch0) = covC (l.getD i ch0) := by
      funext s
      unfold covC
      rw [(ones_get l i).1, (ones_get l i).2.1]
    rw [this]
  have h2 : stP (ones l) per = stP l per := by
    funext i j
    unfold stP folC trnC
    rw [(ones_get l i).2.1, (ones_get l i).2.2, (ones_get l j).1, (ones_get l j).2.2]
  funext r
  unfold Rt
  rw [h1, h2]
theorem ones_worth (l : List Ch) : ∀ {r : List Nat}, (∀ i ∈ r, i < l.length) → worthL (ones l) r = r.length
  | [], _ => rfl
  | i :: r, h => by
    have h1 := ones_worth l (r := r) (fun j hj => h j (List.mem_cons_of_mem _ hj))
    have hi := h i (by simp)
    have : ((ones l).getD i ch0).v = 1 := by
      unfold ones
      rw [List.getD_eq_getElem?_getD, List.getElem?_map, List.getElem?_eq_getElem hi]
      rfl
    rw [worthL, h1, this, List.length_cons]
    omega
def mostL (l : List Ch) (L : List Cl) (per : Int) : Nat := (bestL (ones l) L per).length
theorem most_ge {l : List Ch} {L : List Cl} {per : Int} {r : List Nat} (h : Rt l L per r) : r.length ≤ mostL l L per := by
  have hb := bestL_spec (ones l) L per
  rw [ones_rt] at hb
  have h1 := btr_worth (hb.2 r h)
  rw [ones_worth l (rgt_iff.2 h).2, ones_worth l (rgt_iff.2 hb.1).2] at h1
  unfold mostL
  omega
theorem fold_max : ∀ (xs : List (List Nat)) (n m : Nat), (∀ x ∈ xs, x.length ≤ m) → n ≤ m → (n = m ∨ ∃ x ∈ xs, x.length = m) → xs.foldl (fun n x => max n x.length) n = m
  | [], n, m, _, h, k => by
    rcases k with k | ⟨x, hx, -⟩
    · exact k
    · cases hx
  | x :: xs, n, m, h1, h2, h3 => by
    have hx := h1 x (by simp)
    refine fold_max xs _ m (fun y hy => h1 y (List.mem_cons_of_mem _ hy)) (by show max n x.length ≤ m; omega) ?_
    rcases h3 with h3 | ⟨y, hy, h3⟩
    · exact .inl (by show max n x.length = m; omega)
    · rcases List.mem_cons.1 hy with rfl | hy
      · exact .inl (by show max n y.length = m; omega)
      · exact .inr ⟨y, hy, h3⟩
theorem most_ref (l : List Ch) (L : List Cl) (per : Int) : (rightsL l L per).foldl (fun n x => max n x.length) 0 = mostL l L per := by
  refine fold_max _ _ _ (fun x hx => most_ge (rights_mem.1 hx)) (Nat.zero_le _) (.inr ⟨bestL (ones l) L per, rights_mem.2 ?_, rfl⟩)
  have hb := bestL_spec (ones l) L per
  rw [ones_rt] at hb
  exact hb.1
end Go.Proofs.Ytomgaiokmdcjmaa
