/-
  Both say the same of chances: plain Lean.
-/
import Derived.Test.YtimbdnngeoccdaaGreatDoorNt6
namespace Go.Proofs.YtimbdnngeoccdaaGreatDoor
open Go.RowKit Go.Deep
set_option linter.unusedVariables false
set_option linter.unusedSimpArgs false
theorem less_trans : ∀ {a b c : List UInt8}, Op.bytesLess a b = true → Op.bytesLess b c = true → Op.bytesLess a c = true
  | _, [], _, h, _ => by simp [Op.bytesLess] at h
  | _, _ :: _, [], _, k => by simp [Op.bytesLess] at k
  | [], _ :: _, _ :: _, _, _ => by simp [Op.bytesLess]
  | a :: x, b :: y, c :: z, h, k => by
    simp only [Op.bytesLess, Bool.or_eq_true, Bool.and_eq_true, decide_eq_true_eq, beq_iff_eq] at h k ⊢
    rcases h with h | ⟨rfl, h⟩
    · rcases k with k | ⟨rfl, k⟩
      · exact .inl (UInt8.lt_trans h k)
      · exact .inl h
    · rcases k with k | ⟨rfl, k⟩
      · exact .inl k
      · exact .inr ⟨rfl, less_trans h k⟩
theorem less_irr : ∀ a : List UInt8, Op.bytesLess a a = false
  | [] => rfl
  | a :: x => by simp [Op.bytesLess, less_irr x]
theorem eqN_iff {d c : Ch} : eqN d c = true ↔ d.nm = c.nm := by
  unfold eqN
  rw [beq_iff_eq, ByteArray.toList_eq, ByteArray.toList_eq]
  exact ⟨fun h => bytes_inj h, fun h => by rw [h]⟩
/-- Stands ahead. -/
def ltC (d c : Ch) : Prop := d.a < c.a ∨ d.a = c.a ∧ Op.bytesLess d.nm.toList c.nm.toList = true
theorem ltC_trans {a b c : Ch} (h : ltC a b) (k : ltC b c) : ltC a c := by
  unfold ltC at *
  rcases h with h | ⟨h1, h2⟩
  · exact .inl (by rcases k with k | ⟨k, -⟩ <;> omega)
  · rcases k with k | ⟨k1, k2⟩
    · exact .inl (by omega)
    · exact .inr ⟨by omega, less_trans h2 k2⟩
theorem ord_lt {d c : Ch} : ordC d c < 0 ↔ ltC d c := by
  unfold ordC ltC sgnI sgnS orI orI orI
  by_cases h1 : d.a < c.a
  · simp [h1]
  · by_cases h2 : c.a < d.a
    · simp [h1, h2]; omega
    · have h3 : d.a = c.a := by omega
      simp [h1, h2, h3]
      cases Op.bytesLess d.nm.toList c.nm.toList <;> simp <;> (repeat' split) <;> omega
theorem bad_iff {d c : Ch} : badC d c = false ↔ d.nm ≠ c.nm ∧ ltC d c := by
  unfold badC gtN ltC
  have e := @eqN_iff d c
  cases hE : eqN d c with
  | true => rw [hE] at e; simp; intro h; exact absurd (e.1 rfl) h
  | false =>
    have hE2 : (d.nm.toList == c.nm.toList) = false := hE
    have hne : d.nm ≠ c.nm := fun h => by rw [e.2 h] at hE; cases hE
    rw [hE2]
    simp [hne]
    cases Op.bytesLess d.nm.toList c.nm.toList <;> simp <;> omega
theorem okAt_iff {l : List Ch} {k : Nat} : okAt l k = true ↔ okC (l.getD k ch0).nm (l.getD k ch0).a (l.getD k ch0).b (l.getD k ch0).t (l.getD k ch0).v = true ∧ (¬ ∃ x ∈ l.take k, x.nm = (l.getD k ch0).nm) ∧ (k = 0 ∨ ltC (l.getD (k - 1) ch0) (l.getD k ch0)) := by
  unfold okAt dupB
  simp only [Bool.and_eq_true, Bool.or_eq_true, Bool.not_eq_true', decide_eq_true_eq, decide_eq_false_iff_not, ord_lt]
theorem rokAt_iff {l : List Ch} {k : Nat} : rokAt l k = true ↔ okC (l.getD k ch0).nm (l.getD k ch0).a (l.getD k ch0).b (l.getD k ch0).t (l.getD k ch0).v = true ∧ ∀ j, j < k → (l.getD j ch0).nm ≠ (l.getD k ch0).nm ∧ ltC (l.getD j ch0) (l.getD k ch0) := by
  unfold rokAt
  simp only [Bool.and_eq_true, List.all_eq_true, List.mem_range, Bool.not_eq_true', bad_iff]
theorem mem_take {l : List Ch} {k : Nat} (hk : k ≤ l.length) {x : Ch} : x ∈ l.take k ↔ ∃ j, j < k ∧ l.getD j ch0 = x := by
  constructor
  · intro h
    obtain ⟨j, hj⟩ := List.mem_iff_getElem?.1 h
    rw [List.getElem?_take] at hj
    split at hj
    · rename_i h1
      exact ⟨j, h1, by rw [List.getD_eq_getElem?_getD, hj]; rfl⟩
    · cases hj
  · rintro ⟨j, hj, rfl⟩
    refine List.mem_iff_getElem?.2 ⟨j, ?_⟩
    rw [List.getElem?_take, if_pos hj, List.getD_eq_getElem?_getD, List.getElem?_eq_getElem (by omega)]; rfl
theorem all_ok {l : List Ch} : (∀ k, k < l.length → okAt l k = true) ↔ ∀ k, k < l.length → rokAt l k = true := by
  constructor
  · intro h
    have hlt : ∀ k, k < l.length → ∀ j, j < k → ltC (l.getD j ch0) (l.getD k ch0) := by
      intro k
      induction k with
      | zero => intro _ j hj; exact absurd hj (Nat.not_lt_zero j)
      | succ k ih =>
        intro hk j hj
        have h1 := (okAt_iff.1 (h (k + 1) hk)).2.2
        have h2 : ltC (l.getD k ch0) (l.getD (k + 1) ch0) := by rcases h1 with h1 | h1; omega; exact h1
        rcases Nat.lt_succ_iff_lt_or_eq.1 hj with hj | rfl
        · exact ltC_trans (ih (by omega) j hj) h2
        · exact h2
    intro k hk
    have h0 := okAt_iff.1 (h k hk)
    exact rokAt_iff.2 ⟨h0.1, fun j hj => ⟨fun e => h0.2.1 ⟨_, (mem_take (by omega)).2 ⟨j, hj, rfl⟩, e⟩, hlt k hk j hj⟩⟩
  · intro h k hk
    have h0 := rokAt_iff.1 (h k hk)
    refine okAt_iff.2 ⟨h0.1, fun ⟨x, hx, e⟩ => ?_, ?_⟩
    · obtain ⟨j, hj, rfl⟩ := (mem_take (by omega)).1 hx
      exact (h0.2 j hj).1 e
    · rcases Nat.eq_zero_or_pos k with h1 | h1
      · exact .inl h1
      · exact .inr (h0.2 (k - 1) (by omega)).2
theorem ok_eq (l : List Ch) : okV l = rokV l := by
  unfold okV rokV
  congr 1
  have h := @all_ok l
  cases h1 : (List.range l.length).all (okAt l) with
  | true =>
    symm
    exact List.all_eq_true.2 fun k hk => h.1 (fun k hk => List.all_eq_true.1 h1 k (List.mem_range.2 hk)) k (List.mem_range.1 hk)
  | false =>
    cases h2 : (List.range l.length).all (rokAt l) with
    | false => rfl
    | true =>
      rw [List.all_eq_true.2 fun k hk => h.2 (fun k hk => List.all_eq_true.1 h2 k (List.mem_range.2 hk)) k (List.mem_range.1 hk)] at h1
      cases h1
end Go.Proofs.YtimbdnngeoccdaaGreatDoor
