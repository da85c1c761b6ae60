/-
  Where transits agree some error lies in its reach: plain Lean.
-/
import Derived.Test.YtbcabckokmjelaaQ16b
namespace Go.Proofs.Ytbcabckokmjelaa
open Go.RowKit
set_option linter.unusedVariables false
set_option linter.unusedSimpArgs false
def azA (l : List Sp) : List (Int × Int) := l.flatMap fun s => l.flatMap fun t => [(1000 * (s.lo - t.hi), s.s - t.s)]
theorem azR_asks (l : List Sp) : azR l = asks r00 (azA l) := by
  unfold azR azA
  refine asks_flat _ _ (fun r s => ?_) l r00
  unfold azRow
  exact asks_flat (fun t => [(1000 * (s.lo - t.hi), s.s - t.s)]) (azStep s) (fun r t => rfl) l r
theorem azCh (l : List Sp) : Ch (azA l) (azR l) := by rw [azR_asks]; exact ch_all _
theorem mem_az {l : List Sp} {a : Int × Int} : a ∈ azA l ↔ ∃ s ∈ l, ∃ t ∈ l, a = (1000 * (s.lo - t.hi), s.s - t.s) := by
  unfold azA
  simp
theorem max_of {α : Type} (f : α → Int) : ∀ (l : List α), l ≠ [] → ∃ s ∈ l, ∀ t ∈ l, f t ≤ f s
  | [], h => absurd rfl h
  | [x], _ => ⟨x, by simp, fun t ht => by simp at ht; subst ht; exact Int.le_refl _⟩
  | x :: y :: l, _ => by
    obtain ⟨s, hs, h⟩ := max_of f (y :: l) (by simp)
    rcases Int.le_total (f x) (f s) with h1 | h1
    · exact ⟨s, List.mem_cons_of_mem _ hs, fun t ht => by rcases List.mem_cons.1 ht with rfl | ht; exact h1; exact h t ht⟩
    · exact ⟨x, by simp, fun t ht => by rcases List.mem_cons.1 ht with rfl | ht; exact Int.le_refl _; exact Int.le_trans (h t ht) h1⟩
/-- A clock's error e / (1000 q) and an azimuth p / q lie in all strips. -/
def InStrips (l : List Sp) (e p q : Int) : Prop := ∀ s ∈ l, s.lo * (1000 * q) ≤ e + s.s * p ∧ e + s.s * p ≤ s.hi * (1000 * q)
theorem strips_of_sat {l : List Sp} (hne : l ≠ []) {p q : Int} (hs : Sat (azA l) p q) : ∃ e, InStrips l e p q := by
  obtain ⟨s, hsl, hm⟩ := max_of (fun s : Sp => s.lo * (1000 * q) - s.s * p) l hne
  refine ⟨s.lo * (1000 * q) - s.s * p, fun t ht => ?_⟩
  have h1 := hm t ht
  have h2 := hs _ (mem_az.2 ⟨s, hsl, t, ht, rfl⟩)
  simp only at h1 h2
  rw [Int.sub_mul] at h2
  have e1 : 1000 * (s.lo - t.hi) * q = s.lo * (1000 * q) - t.hi * (1000 * q) := by
    rw [Int.mul_comm 1000, Int.mul_assoc, Int.sub_mul]
  rw [e1] at h2
  omega
theorem sat_of_strips {l : List Sp} {e p q : Int} (h : InStrips l e p q) : Sat (erA l) e (1000 * q) := by
  intro a ha
  rcases mem_er.1 ha with ⟨s, hs, h0, rfl | rfl⟩ | ⟨s, hs, t, ht, h1, h2, rfl⟩
  · have := (h s hs).1
    rw [h0, Int.zero_mul] at this
    simp only; omega
  · have := (h s hs).2
    rw [h0, Int.zero_mul] at this
    simp only; rw [Int.neg_mul]; omega
  · obtain ⟨s1, s2⟩ := h s hs
    obtain ⟨t1, t2⟩ := h t ht
    have A : lvOf s * sg s.s * (1000 * q) - sg s.s * e ≤ mg s.s * p := by
      unfold lvOf sg mg
      split
      · rw [Int.mul_neg, Int.mul_one, Int.neg_mul, Int.neg_mul, Int.neg_mul]; omega
      · rw [Int.mul_one, Int.one_mul]; omega
    have B : mg t.s * p ≤ uvOf t * sg t.s * (1000 * q) - sg t.s * e := by
      unfold uvOf sg mg
      split
      · rw [Int.mul_neg, Int.mul_one, Int.neg_mul, Int.neg_mul, Int.neg_mul]; omega
      · rw [Int.mul_one, Int.one_mul]; omega
    have ms : 0 ≤ mg s.s := by unfold mg; split <;> omega
    have mt : 0 ≤ mg t.s := by unfold mg; split <;> omega
    unfold prN prD
    simp only
    generalize lvOf s = lv at *
    generalize uvOf t = uv at *
    generalize sg s.s = f at *
    generalize sg t.s = g at *
    generalize mg s.s = sm at *
    generalize mg t.s = tm at *
    generalize 1000 * q = Q at *
    have C := Int.mul_le_mul_of_nonneg_left A mt
    have D := Int.mul_le_mul_of_nonneg_left B ms
    have e1 : tm * (sm * p) = sm * (tm * p) := by ac_rfl
    have e2 : tm * (lv * f * Q - f * e) = lv * f * tm * Q - f * tm * e := by rw [Int.mul_sub]; congr 1 <;> ac_rfl
    have e3 : sm * (uv * g * Q - g * e) = uv * g * sm * Q - g * sm * e := by rw [Int.mul_sub]; congr 1 <;> ac_rfl
    rw [Int.sub_mul, Int.sub_mul]
    rw [e2] at C
    rw [e3] at D
    omega
theorem er_ag {l : List Sp} (h : agB (azR l) = true) : agB (erR l) = true := by
  rcases Decidable.em (l = []) with rfl | hne
  · rfl
  · obtain ⟨p, q, hq, hs⟩ := sat_ch (azCh l) h
    obtain ⟨e, he⟩ := strips_of_sat hne hs
    exact ch_sat (erCh l) (by omega) (sat_of_strips he)
theorem er_tell {l : List Sp} (h : agB (azR l) = true) : tlR (erR l) = tl0 (erR l) := by unfold tlR; rw [if_pos (er_ag h)]
end Go.Proofs.Ytbcabckokmjelaa
