/-
  Rotas: plain laws. No conditions.
-/
import Derived.Test.YtomgaiokmdcjmaaNt22
namespace Go.Proofs.Ytomgaiokmdcjmaa
set_option linter.unusedVariables false
set_option linter.unusedSimpArgs false
/-- Who can be there on each night, how many observers there are, and on how many nights each one is at most. -/
structure Crw where
  can : List Nat
  obs : Nat
  most : Nat
def bitB (x o : Nat) : Bool := decide (x / 2 ^ o % 2 = 1)
def Crw.may (K : Crw) (night last : Nat) (f : Nat → Nat) (o : Nat) : Bool := bitB (K.can.getD night 0) o && (decide (o ≠ last) && decide (f o ≠ K.most))
def incF (f : Nat → Nat) (o : Nat) : Nat → Nat := fun j => if j = o then f j + 1 else f j
def freeF (N night most : Nat) (f : Nat → Nat) : Nat → Nat := fun j => if f j + (N - night + 1) / 2 ≤ most then 0 else f j
def Crw.nx (K : Crw) (night : Nat) (f : Nat → Nat) (o : Nat) : Nat → Nat := freeF K.can.length (night + 1) K.most (incF f o)
/-- In how many ways a rota's beginning can go on. -/
def Crw.cnt (K : Crw) : Nat → Nat → (Nat → Nat) → Nat
  | 0, _, _ => 1
  | r + 1, last, f => ((List.range K.obs).map fun o => if K.may (K.can.length - (r + 1)) last f o then K.cnt r o (K.nx (K.can.length - (r + 1)) f o) else 0).sum
def fitB (K : Crw) (b : List Nat) (o : Nat) : Bool := bitB (K.can.getD b.length 0) o && (decide (b.getLast? ≠ some o) && decide (b.count o + 1 ≤ K.most))
def rN (K : Crw) : Nat → List Nat → Nat
  | 0, _ => 1
  | r + 1, b => ((List.range K.obs).map fun o => if fitB K b o then rN K r (b ++ [o]) else 0).sum
def rF (K : Crw) : Nat → List Nat → List Nat
  | 0, b => b
  | r + 1, b => match (List.range K.obs).find? (fun o => fitB K b o && decide (rN K r (b ++ [o]) ≠ 0)) with | some o => rF K r (b ++ [o]) | none => []
/-- What a rota's beginning b is, as the program keeps it. -/
structure Rel (K : Crw) (b : List Nat) (last : Nat) (f : Nat → Nat) : Prop where
  lst : last = b.getLast?.getD 8
  len : b.length ≤ K.can.length
  at' : ∀ o, o < 8 → f o ≤ b.count o ∧ b.count o ≤ K.most ∧ (f o = b.count o ∨ b.count o + (if o = last then (K.can.length - b.length) / 2 else (K.can.length - b.length + 1) / 2) ≤ K.most)
theorem Rel.start (K : Crw) : Rel K [] 8 (fun _ => 0) := ⟨rfl, Nat.zero_le _, fun o ho => ⟨Nat.zero_le _, Nat.zero_le _, .inl rfl⟩⟩
theorem Rel.may {K : Crw} {b : List Nat} {last : Nat} {f : Nat → Nat} (h : Rel K b last f) (hb : b.length < K.can.length) {o : Nat} (ho : o < 8) : K.may b.length last f o = fitB K b o := by
  unfold Crw.may fitB
  obtain ⟨h1, h2, h3⟩ := h.at' o ho
  have hl : decide (o ≠ last) = decide (b.getLast? ≠ some o) := by
    rw [h.lst]
    cases hg : b.getLast? with
    | none => simp; omega
    | some x => simp; omega
  rw [hl]
  by_cases hlo : b.getLast? ≠ some o
  · have hne : o ≠ last := by
      have := of_decide_eq_true (hl.trans (decide_eq_true hlo)); exact this
    have : decide (f o ≠ K.most) = decide (b.count o + 1 ≤ K.most) := by
      rw [if_neg hne] at h3
      apply decide_eq_decide.2
      rcases h3 with h3 | h3
      · omega
      · omega
    rw [this]
  · rw [decide_eq_false hlo]; simp
theorem getLast?_snoc (b : List Nat) (o : Nat) : (b ++ [o]).getLast? = some o := by simp
theorem Rel.nx {K : Crw} {b : List Nat} {last : Nat} {f : Nat → Nat} (h : Rel K b last f) (hb : b.length < K.can.length) {o : Nat} (ho : o < 8) (hf : fitB K b o = true) : Rel K (b ++ [o]) o (K.nx b.length f o) := by
  have hm := h.may hb ho
  rw [hf] at hm
  unfold fitB at hf
  simp only [Bool.and_eq_true, decide_eq_true_eq] at hf
  unfold Crw.may at hm
  simp only [Bool.and_eq_true, decide_eq_true_eq] at hm
  obtain ⟨-, hol, hfm⟩ := hm
  obtain ⟨-, -, hcm⟩ := hf
  refine ⟨by rw [getLast?_snoc]; rfl, by rw [List.length_append, List.length_singleton]; omega, fun p hp => ?_⟩
  obtain ⟨h1, h2, h3⟩ := h.at' p hp
  obtain ⟨q1, q2, q3⟩ := h.at' o ho
  rw [List.length_append, List.length_singleton]
  unfold Crw.nx freeF incF
  by_cases hpo : p = o
  · subst hpo
    have hc : (b ++ [p]).count p = b.count p + 1 := by simp
    rw [hc, if_pos rfl, if_pos rfl]
    rw [if_neg hol] at q3
    split <;> omega
  · have hc : (b ++ [o]).count p = b.count p := by
      rw [List.count_append, List.count_singleton, if_neg (by simpa using fun e => hpo e.symm)]; rfl
    rw [hc, if_neg hpo, if_neg hpo]
    split at h3 <;> split <;> omega
theorem sum_congr {l : List Nat} {f g : Nat → Nat} (h : ∀ o ∈ l, f o = g o) : (l.map f).sum = (l.map g).sum := by
  rw [List.map_congr_left h]
theorem Rel.cnt {K : Crw} (hk : K.obs ≤ 8) : ∀ (r : Nat) {b : List Nat} {last : Nat} {f : Nat → Nat}, Rel K b last f → r + b.length = K.can.length → K.cnt r last f = rN K r b
  | 0, b, last, f, h, hr => rfl
  | r + 1, b, last, f, h, hr => by
    unfold Crw.cnt rN
    refine sum_congr fun o ho => ?_
    have ho8 : o < 8 := by have := List.mem_range.1 ho; omega
    have e : K.can.length - (r + 1) = b.length := by omega
    rw [e, h.may (by omega) ho8]
    by_cases hf : fitB K b o = true
    · rw [if_pos hf, if_pos hf]
      exact Rel.cnt hk r (h.nx (by omega) ho8 hf) (by rw [List.length_append, List.length_singleton]; omega)
    · rw [if_neg hf, if_neg hf]
theorem may_congr (K : Crw) (n last : Nat) {f g : Nat → Nat} {o : Nat} (h : f o = g o) : K.may n last f o = K.may n last g o := by
  unfold Crw.may; rw [h]
theorem cnt_congr {K : Crw} (hk : K.obs ≤ 8) : ∀ (r last : Nat) {f g : Nat → Nat}, (∀ j, j < 8 → f j = g j) → K.cnt r last f = K.cnt r last g
  | 0, last, f, g, h => rfl
  | r + 1, last, f, g, h => by
    unfold Crw.cnt
    refine sum_congr fun o ho => ?_
    have ho8 : o < 8 := by have := List.mem_range.1 ho; omega
    rw [may_congr K _ last (h o ho8)]
    rw [cnt_congr hk r o (f := K.nx (K.can.length - (r + 1)) f o) (g := K.nx (K.can.length - (r + 1)) g o) (fun j hj => by unfold Crw.nx freeF incF; rw [h j hj])]
theorem sum_le {l : List Nat} {f : Nat → Nat} {c : Nat} (h : ∀ o ∈ l, f o ≤ c) : (l.map f).sum ≤ c * l.length := by
  induction l with
  | nil => simp
  | cons x t ih =>
    rw [List.map_cons, List.sum_cons, List.length_cons, Nat.mul_succ]
    have h1 := h x (by simp)
    have h2 := ih (fun o ho => h o (by simp [ho]))
    omega
theorem cnt_le {K : Crw} (hk : K.obs ≤ 8) : ∀ (r last : Nat) (f : Nat → Nat), K.cnt r last f ≤ 8 ^ r
  | 0, last, f => Nat.le_refl _
  | r + 1, last, f => by
    unfold Crw.cnt
    refine Nat.le_trans (sum_le (c := 8 ^ r) fun o ho => ?_) ?_
    · split
      · exact cnt_le hk r _ _
      · exact Nat.zero_le _
    · rw [List.length_range, Nat.pow_succ]; exact Nat.mul_le_mul_left _ hk
theorem rN_le {K : Crw} (hk : K.obs ≤ 8) : ∀ (r : Nat) (b : List Nat), rN K r b ≤ 8 ^ r
  | 0, b => Nat.le_refl _
  | r + 1, b => by
    unfold rN
    refine Nat.le_trans (sum_le (c := 8 ^ r) fun o ho => ?_) ?_
    · split
      · exact rN_le hk r _
      · exact Nat.zero_le _
    · rw [List.length_range, Nat.pow_succ]; exact Nat.mul_le_mul_left _ hk
theorem sum_zero {l : List Nat} {f : Nat → Nat} : (l.map f).sum = 0 ↔ ∀ o ∈ l, f o = 0 := by
  induction l with
  | nil => simp
  | cons x t ih => rw [List.map_cons, List.sum_cons, Nat.add_eq_zero_iff, ih]; simp
theorem rF_none {K : Crw} : ∀ {r : Nat} {b : List Nat}, rN K r b = 0 → rF K r b = []
  | 0, b, h => by cases h
  | r + 1, b, h => by
    unfold rN at h
    rw [sum_zero] at h
    unfold rF
    have : (List.range K.obs).find? (fun o => fitB K b o && decide (rN K r (b ++ [o]) ≠ 0)) = none := by
      rw [List.find?_eq_none]
      intro o ho hc
      have := h o ho
      simp only [Bool.and_eq_true, decide_eq_true_eq] at hc
      rw [if_pos hc.1] at this
      exact hc.2 this
    rw [this]
theorem rF_len {K : Crw} : ∀ {r : Nat} {b : List Nat}, rN K r b ≠ 0 → (rF K r b).length = b.length + r
  | 0, b, h => rfl
  | r + 1, b, h => by
    unfold rF
    cases hf : (List.range K.obs).find? (fun o => fitB K b o && decide (rN K r (b ++ [o]) ≠ 0)) with
    | none =>
      refine absurd ?_ h
      unfold rN
      rw [sum_zero]
      intro o ho
      rw [List.find?_eq_none] at hf
      have := hf o ho
      simp only [Bool.and_eq_true, decide_eq_true_eq, not_and, Decidable.not_not] at this
      split
      · rename_i hc; exact this hc
      · rfl
    | some o =>
      have hs := List.find?_some hf
      simp only [Bool.and_eq_true, decide_eq_true_eq] at hs
      show (rF K r (b ++ [o])).length = _
      rw [rF_len hs.2, List.length_append, List.length_singleton]; omega
/-- A list is a rota, behind a beginning. -/
def isR (K : Crw) : List Nat → List Nat → Bool
  | b, [] => true
  | b, o :: t => decide (o < K.obs) && (fitB K b o && isR K (b ++ [o]) t)
theorem rF_is {K : Crw} : ∀ {r : Nat} {b : List Nat}, rN K r b ≠ 0 → ∃ t, rF K r b = b ++ t ∧ isR K b t = true
  | 0, b, h => ⟨[], by rw [List.append_nil]; rfl, rfl⟩
  | r + 1, b, h => by
    unfold rF
    cases hf : (List.range K.obs).find? (fun o => fitB K b o && decide (rN K r (b ++ [o]) ≠ 0)) with
    | none =>
      refine absurd ?_ h
      unfold rN
      rw [sum_zero]
      intro o ho
      rw [List.find?_eq_none] at hf
      have := hf o ho
      simp only [Bool.and_eq_true, decide_eq_true_eq, not_and, Decidable.not_not] at this
      split
      · rename_i hc; exact this hc
      · rfl
    | some o =>
      have hs := List.find?_some hf
      have hm := List.mem_range.1 (List.mem_of_find?_eq_some hf)
      simp only [Bool.and_eq_true, decide_eq_true_eq] at hs
      obtain ⟨t, h1, h2⟩ := rF_is hs.2
      refine ⟨o :: t, ?_, ?_⟩
      · show rF K r (b ++ [o]) = _
        rw [h1]; simp
      · unfold isR; rw [decide_eq_true hm, hs.1, h2]; rfl
/-- More nights, or a greater number: no fewer. -/
theorem rN_mono {K L : Crw} (ho : K.obs = L.obs) (hm : K.most ≤ L.most) (hc : ∀ k o, o < K.obs → bitB (K.can.getD k 0) o = true → bitB (L.can.getD k 0) o = true) : ∀ (r : Nat) (b : List Nat), rN K r b ≤ rN L r b
  | 0, b => Nat.le_refl _
  | r + 1, b => by
    unfold rN
    rw [← ho]
    have : ∀ l : List Nat, (∀ o ∈ l, o < K.obs) → (l.map fun o => if fitB K b o then rN K r (b ++ [o]) else 0).sum ≤ (l.map fun o => if fitB L b o then rN L r (b ++ [o]) else 0).sum := by
      intro l
      induction l with
      | nil => intro _; exact Nat.le_refl _
      | cons x t ih =>
        intro hl
        rw [List.map_cons, List.sum_cons, List.map_cons, List.sum_cons]
        refine Nat.add_le_add ?_ (ih (fun o ho => hl o (by simp [ho])))
        by_cases hf : fitB K b x = true
        · have hf2 : fitB L b x = true := by
            unfold fitB at hf ⊢
            simp only [Bool.and_eq_true, decide_eq_true_eq] at hf ⊢
            exact ⟨hc _ _ (hl x (by simp)) hf.1, hf.2.1, by omega⟩
          rw [if_pos hf, if_pos hf2]
          exact rN_mono ho hm hc r _
        · rw [if_neg hf]; exact Nat.zero_le _
    exact this _ (fun o ho => List.mem_range.1 ho)
end Go.Proofs.Ytomgaiokmdcjmaa
