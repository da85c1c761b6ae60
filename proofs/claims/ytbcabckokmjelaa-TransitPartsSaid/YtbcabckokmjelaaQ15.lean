/-
  What the asks of a reach come to, whatever their order: plain Lean.
-/
import Derived.Test.YtbcabckokmjelaaQ14
namespace Go.Proofs.Ytbcabckokmjelaa
open Go.RowKit
set_option linter.unusedVariables false
set_option linter.unusedSimpArgs false
/-- All asks, one behind the other. -/
def asks (r : Rc) (l : List (Int × Int)) : Rc := l.foldl (fun r a => askR r a.1 a.2) r
theorem asks_append (r : Rc) (l m : List (Int × Int)) : asks r (l ++ m) = asks (asks r l) m := by unfold asks; rw [List.foldl_append]
theorem asks_flat {α : Type} (f : α → List (Int × Int)) (g : Rc → α → Rc) (h : ∀ r x, g r x = asks r (f x)) : ∀ (l : List α) (r : Rc), l.foldl g r = asks r (l.flatMap f)
  | [], r => rfl
  | x :: l, r => by rw [List.foldl_cons, h, asks_flat f g h l, List.flatMap_cons, asks_append]
/-- What a reach is when just these have been asked. -/
structure Ch (l : List (Int × Int)) (r : Rc) : Prop where
  ok : r.ok = true ↔ ∀ a ∈ l, a.2 = 0 → a.1 ≤ 0
  lo0 : r.lo.d = 0 → ∀ a ∈ l, a.2 ≤ 0
  loM : r.lo.d ≠ 0 → ∃ a ∈ l, 0 < a.2 ∧ r.lo = ⟨a.1, a.2⟩
  lo : ∀ a ∈ l, 0 < a.2 → a.1 * r.lo.d ≤ r.lo.n * a.2
  hi0 : r.hi.d = 0 → ∀ a ∈ l, 0 ≤ a.2
  hiM : r.hi.d ≠ 0 → ∃ a ∈ l, a.2 < 0 ∧ r.hi = ⟨-a.1, -a.2⟩
  hi : ∀ a ∈ l, a.2 < 0 → r.hi.n * (-a.2) ≤ (-a.1) * r.hi.d
  dlo : 0 ≤ r.lo.d
  dhi : 0 ≤ r.hi.d
theorem ch_nil : Ch [] r00 := ⟨by simp [r00], by simp, by simp [r00], by simp, by simp, by simp [r00], by simp, by simp [r00], by simp [r00]⟩
theorem mem_snoc {α : Type} {l : List α} {x a : α} : a ∈ l ++ [x] ↔ a ∈ l ∨ a = x := by simp
theorem cross_trans {a b c d e f : Int} (hb : 0 < b) (hd : 0 < d) (hf : 0 < f) (h1 : a * d ≤ c * b) (h2 : c * f ≤ e * d) : a * f ≤ e * b := by
  have e1 : d * (a * f) ≤ d * (e * b) := by
    calc d * (a * f) = (a * d) * f := by rw [← Int.mul_assoc, Int.mul_comm d a]
      _ ≤ (c * b) * f := Int.mul_le_mul_of_nonneg_right h1 (by omega)
      _ = (c * f) * b := by rw [Int.mul_assoc, Int.mul_comm b f, ← Int.mul_assoc]
      _ ≤ (e * d) * b := Int.mul_le_mul_of_nonneg_right h2 (by omega)
      _ = d * (e * b) := by rw [Int.mul_comm e d, Int.mul_assoc]
  exact Int.le_of_mul_le_mul_left e1 hd
theorem ch_step {l : List (Int × Int)} {r : Rc} (h : Ch l r) (n d : Int) : Ch (l ++ [(n, d)]) (askR r n d) := by
  obtain ⟨h1, h2, h3, h4, h5, h6, h7, h8, h9⟩ := h
  unfold askR
  rcases Int.lt_trichotomy d 0 with hd | rfl | hd
  · rw [if_neg (by omega), if_pos hd]
    have hov : overF n d = ⟨-n, -d⟩ := by unfold overF; rw [if_pos hd]
    unfold keepL
    rw [hov]
    have hok : (∀ a ∈ l ++ [(n, d)], a.2 = 0 → a.1 ≤ 0) ↔ ∀ a ∈ l, a.2 = 0 → a.1 ≤ 0 :=
      ⟨fun h a ha => h a (mem_snoc.2 (.inl ha)), fun h a ha h0 => by
        rcases mem_snoc.1 ha with ha | rfl
        · exact h a ha h0
        · simp only at h0; omega⟩
    by_cases hc : (decide (r.hi.d = 0) || frLess ⟨-n, -d⟩ r.hi) = true
    · rw [if_pos hc]
      refine ⟨h1.trans hok.symm, fun h0 a ha => ?_, fun h0 => ?_, fun a ha h0 => ?_, fun h0 => ?_, fun _ => ⟨(n, d), mem_snoc.2 (.inr rfl), hd, rfl⟩, fun a ha h0 => ?_, h8, ?_⟩
      · rcases mem_snoc.1 ha with ha | rfl
        · exact h2 h0 a ha
        · simp only; omega
      · obtain ⟨a, ha, e⟩ := h3 h0; exact ⟨a, mem_snoc.2 (.inl ha), e⟩
      · rcases mem_snoc.1 ha with ha | rfl
        · exact h4 a ha h0
        · simp only at h0; omega
      · simp only at h0; omega
      · simp only
        rcases mem_snoc.1 ha with ha | rfl
        · simp only [Bool.or_eq_true, decide_eq_true_eq, frLess] at hc
          rcases hc with hc | hc
          · have := h5 hc a ha; omega
          · by_cases hz : r.hi.d = 0
            · have := h5 hz a ha; omega
            · have h10 := h7 a ha h0
              exact cross_trans (a := -n) (b := -d) (c := r.hi.n) (d := r.hi.d) (e := -a.1) (f := -a.2) (by omega) (by omega) (by omega) (by omega) h10
        · exact Int.le_refl _
      · simp only; omega
    · rw [if_neg hc]
      simp only [Bool.or_eq_true, decide_eq_true_eq, frLess, not_or] at hc
      refine ⟨h1.trans hok.symm, fun h0 a ha => ?_, fun h0 => ?_, fun a ha h0 => ?_, fun h0 => absurd h0 hc.1, fun h0 => ?_, fun a ha h0 => ?_, h8, h9⟩
      · rcases mem_snoc.1 ha with ha | rfl
        · exact h2 h0 a ha
        · simp only; omega
      · obtain ⟨a, ha, e⟩ := h3 h0; exact ⟨a, mem_snoc.2 (.inl ha), e⟩
      · rcases mem_snoc.1 ha with ha | rfl
        · exact h4 a ha h0
        · simp only at h0; omega
      · obtain ⟨a, ha, e⟩ := h6 h0; exact ⟨a, mem_snoc.2 (.inl ha), e⟩
      · rcases mem_snoc.1 ha with ha | rfl
        · exact h7 a ha h0
        · simp only; omega
  · rw [if_neg (by omega), if_neg (by omega)]
    have hlo : r.lo.d = 0 → ∀ a ∈ l ++ [(n, (0 : Int))], a.2 ≤ 0 := fun h0 a ha => by
      rcases mem_snoc.1 ha with ha | rfl
      · exact h2 h0 a ha
      · simp
    have hhi : r.hi.d = 0 → ∀ a ∈ l ++ [(n, (0 : Int))], 0 ≤ a.2 := fun h0 a ha => by
      rcases mem_snoc.1 ha with ha | rfl
      · exact h5 h0 a ha
      · simp
    have g3 : r.lo.d ≠ 0 → ∃ a ∈ l ++ [(n, (0 : Int))], 0 < a.2 ∧ r.lo = ⟨a.1, a.2⟩ := fun h0 => by
      obtain ⟨a, ha, e⟩ := h3 h0; exact ⟨a, mem_snoc.2 (.inl ha), e⟩
    have g6 : r.hi.d ≠ 0 → ∃ a ∈ l ++ [(n, (0 : Int))], a.2 < 0 ∧ r.hi = ⟨-a.1, -a.2⟩ := fun h0 => by
      obtain ⟨a, ha, e⟩ := h6 h0; exact ⟨a, mem_snoc.2 (.inl ha), e⟩
    have g4 : ∀ a ∈ l ++ [(n, (0 : Int))], 0 < a.2 → a.1 * r.lo.d ≤ r.lo.n * a.2 := fun a ha h0 => by
      rcases mem_snoc.1 ha with ha | rfl
      · exact h4 a ha h0
      · simp only at h0; omega
    have g7 : ∀ a ∈ l ++ [(n, (0 : Int))], a.2 < 0 → r.hi.n * (-a.2) ≤ (-a.1) * r.hi.d := fun a ha h0 => by
      rcases mem_snoc.1 ha with ha | rfl
      · exact h7 a ha h0
      · simp only at h0; omega
    by_cases hn : 0 < n
    · rw [if_pos hn]
      refine ⟨⟨fun h => by simp at h, fun h => ?_⟩, hlo, g3, g4, hhi, g6, g7, h8, h9⟩
      have := h (n, 0) (mem_snoc.2 (.inr rfl)) rfl
      simp only at this; omega
    · rw [if_neg hn]
      refine ⟨⟨fun h a ha h0 => ?_, fun h => h1.2 fun a ha h0 => h a (mem_snoc.2 (.inl ha)) h0⟩, hlo, g3, g4, hhi, g6, g7, h8, h9⟩
      rcases mem_snoc.1 ha with ha | rfl
      · exact h1.1 h a ha h0
      · simp only; omega
  · rw [if_pos hd]
    have hov : overF n d = ⟨n, d⟩ := by unfold overF; rw [if_neg (by omega)]
    unfold keepG
    rw [hov]
    have hok : (∀ a ∈ l ++ [(n, d)], a.2 = 0 → a.1 ≤ 0) ↔ ∀ a ∈ l, a.2 = 0 → a.1 ≤ 0 :=
      ⟨fun h a ha => h a (mem_snoc.2 (.inl ha)), fun h a ha h0 => by
        rcases mem_snoc.1 ha with ha | rfl
        · exact h a ha h0
        · simp only at h0; omega⟩
    by_cases hc : (decide (r.lo.d = 0) || frLess r.lo ⟨n, d⟩) = true
    · rw [if_pos hc]
      refine ⟨h1.trans hok.symm, fun h0 => ?_, fun _ => ⟨(n, d), mem_snoc.2 (.inr rfl), hd, rfl⟩, fun a ha h0 => ?_, fun h0 a ha => ?_, fun h0 => ?_, fun a ha h0 => ?_, ?_, h9⟩
      · simp only at h0; omega
      · simp only
        rcases mem_snoc.1 ha with ha | rfl
        · simp only [Bool.or_eq_true, decide_eq_true_eq, frLess] at hc
          rcases hc with hc | hc
          · have := h2 hc a ha; omega
          · by_cases hz : r.lo.d = 0
            · have := h2 hz a ha; omega
            · have h10 := h4 a ha h0
              exact cross_trans (a := a.1) (b := a.2) (c := r.lo.n) (d := r.lo.d) (e := n) (f := d) (by omega) (by omega) (by omega) h10 (by omega)
        · exact Int.le_refl _
      · rcases mem_snoc.1 ha with ha | rfl
        · exact h5 h0 a ha
        · simp only; omega
      · obtain ⟨a, ha, e⟩ := h6 h0; exact ⟨a, mem_snoc.2 (.inl ha), e⟩
      · rcases mem_snoc.1 ha with ha | rfl
        · exact h7 a ha h0
        · simp only at h0; omega
      · simp only; omega
    · rw [if_neg hc]
      simp only [Bool.or_eq_true, decide_eq_true_eq, frLess, not_or] at hc
      refine ⟨h1.trans hok.symm, fun h0 => absurd h0 hc.1, fun h0 => ?_, fun a ha h0 => ?_, fun h0 a ha => ?_, fun h0 => ?_, fun a ha h0 => ?_, h8, h9⟩
      · obtain ⟨a, ha, e⟩ := h3 h0; exact ⟨a, mem_snoc.2 (.inl ha), e⟩
      · rcases mem_snoc.1 ha with ha | rfl
        · exact h4 a ha h0
        · simp only; omega
      · rcases mem_snoc.1 ha with ha | rfl
        · exact h5 h0 a ha
        · simp only; omega
      · obtain ⟨a, ha, e⟩ := h6 h0; exact ⟨a, mem_snoc.2 (.inl ha), e⟩
      · rcases mem_snoc.1 ha with ha | rfl
        · exact h7 a ha h0
        · simp only at h0; omega
theorem ch_asks : ∀ (m l : List (Int × Int)) (r : Rc), Ch l r → Ch (l ++ m) (asks r m)
  | [], l, r, h => by simpa [asks] using h
  | (n, d) :: m, l, r, h => by
    have := ch_asks m (l ++ [(n, d)]) (askR r n d) (ch_step h n d)
    rw [List.append_assoc] at this
    exact this
theorem ch_all (l : List (Int × Int)) : Ch l (asks r00 l) := by simpa using ch_asks l [] r00 ch_nil
/-- What all asks hold of. -/
def Sat (l : List (Int × Int)) (p q : Int) : Prop := ∀ a ∈ l, a.1 * q ≤ a.2 * p
theorem ch_sat {l : List (Int × Int)} {r : Rc} (h : Ch l r) {p q : Int} (hq : 0 < q) (hs : Sat l p q) : agB r = true := by
  unfold agB
  rw [Bool.and_eq_true]
  refine ⟨h.ok.2 fun a ha h0 => ?_, ?_⟩
  · have := hs a ha
    rw [h0, Int.zero_mul] at this
    rcases Int.lt_or_le 0 a.1 with h1 | h1
    · have := Int.mul_pos h1 hq; omega
    · exact h1
  · by_cases h1 : r.lo.d = 0
    · rw [decide_eq_true h1]; rfl
    · by_cases h2 : r.hi.d = 0
      · rw [decide_eq_true h2]; simp
      · obtain ⟨a, ha, ha2, ea⟩ := h.loM h1
        obtain ⟨b, hb, hb2, eb⟩ := h.hiM h2
        have s1 := hs a ha
        have s2 := hs b hb
        have : frLess r.hi r.lo = false := by
          unfold frLess
          rw [ea, eb]
          simp only [decide_eq_false_iff_not, Int.not_lt]
          have e1 := cross_trans (a := a.1) (b := a.2) (c := p) (d := q) (e := -b.1) (f := -b.2) ha2 hq (by omega) (by rw [Int.mul_comm p]; exact s1) (by rw [Int.mul_comm p, Int.neg_mul, Int.neg_mul]; omega)
          exact e1
        rw [this]; simp
theorem sat_ch {l : List (Int × Int)} {r : Rc} (h : Ch l r) (hg : agB r = true) : ∃ p q, 0 < q ∧ Sat l p q := by
  unfold agB at hg
  rw [Bool.and_eq_true] at hg
  have hok := h.ok.1 hg.1
  have h8 := h.dlo
  have h9 := h.dhi
  by_cases h1 : r.lo.d = 0
  · by_cases h2 : r.hi.d = 0
    · refine ⟨0, 1, by omega, fun a ha => ?_⟩
      have := hok a ha (by have := h.lo0 h1 a ha; have := h.hi0 h2 a ha; omega)
      omega
    · refine ⟨r.hi.n, r.hi.d, by omega, fun a ha => ?_⟩
      have b1 := h.lo0 h1 a ha
      rcases Int.lt_or_eq_of_le b1 with b2 | b2
      · have := h.hi a ha b2
        rw [Int.mul_neg, Int.neg_mul, Int.mul_comm] at this; omega
      · have := hok a ha b2
        rw [b2, Int.zero_mul]
        have := Int.mul_le_mul_of_nonneg_right this h9
        omega
  · refine ⟨r.lo.n, r.lo.d, by omega, fun a ha => ?_⟩
    rcases Int.lt_trichotomy a.2 0 with b2 | b2 | b2
    · have h2 : r.hi.d ≠ 0 := fun h0 => by have := h.hi0 h0 a ha; omega
      have h3 := h.hi a ha b2
      have h4 : ¬ r.hi.n * r.lo.d < r.lo.n * r.hi.d := by
        have := hg.2
        rw [decide_eq_false h1, decide_eq_false h2, Bool.false_or, Bool.false_or, Bool.not_eq_true', frLess, decide_eq_false_iff_not] at this
        exact this
      have := cross_trans (a := r.lo.n) (b := r.lo.d) (c := r.hi.n) (d := r.hi.d) (e := -a.1) (f := -a.2) (by omega) (by omega) (by omega) (by omega) h3
      rw [Int.mul_neg, Int.neg_mul, Int.mul_comm r.lo.n] at this; omega
    · have := hok a ha b2
      rw [b2, Int.zero_mul]
      have := Int.mul_le_mul_of_nonneg_right this h8
      omega
    · have := h.lo a ha b2
      rw [Int.mul_comm a.2]; exact this
end Go.Proofs.Ytbcabckokmjelaa
