/-
  Beyond an end of a reach nothing suits: plain Lean.
-/
import Derived.Test.YtbcabckokmjelaaK7
import Derived.Test.YtbcabckokmjelaaSP2
namespace Go.Proofs.Ytbcabckokmjelaa
open Go.RowKit
set_option linter.unusedVariables false
set_option linter.unusedSimpArgs false
theorem low_cases (n d : Int) : (okRat (lowR n d).1 (lowR n d).2.1 = true ∧ (lowR n d).1 = redN n d ∧ (lowR n d).2.1 = redD n d) ∨ (lowR n d).2.2 ≠ 0 := by
  by_cases h : (lowR n d).2.2 = 0
  · obtain ⟨h1, h2, h3⟩ := low_ok h
    exact .inl ⟨by rw [h2, h3]; exact h1, h2, h3⟩
  · exact .inr h
theorem cmp_pos {a b c d : Int} (h : okRat a b = true) (k : okRat c d = true) (e : c * b < a * d) : 0 < cmpR a b c d := by
  unfold cmpR sgn
  rw [h, k]
  simp only [Bool.and_self, if_true]
  rw [if_neg (by omega), if_pos e]; decide
/-- a/b less 1/y lies below a/b. -/
theorem sub_less {a b y : Int} (h : okRat a b = true) (hy : 1 ≤ y ∧ y ≤ 1000) (k : (subR a b 1 y).2.2 = 0) :
    okRat (subR a b 1 y).1 (subR a b 1 y).2.1 = true ∧ 0 < cmpR a b (subR a b 1 y).1 (subR a b 1 y).2.1 := by
  have hb : 0 < b := by have := (okRat_true h).1; omega
  unfold subR at *
  split at k
  · rename_i hok
    rw [if_pos hok]
    have hby : 0 < b * y := Int.mul_pos hb (by omega)
    rcases low_cases (a * y - 1 * b) (b * y) with ⟨h1, h2, h3⟩ | h1
    · refine ⟨h1, cmp_pos h h1 ?_⟩
      rw [h2, h3]
      have c := red_cross (n := a * y - 1 * b) (d := b * y) (by omega)
      have p := (red_one (n := a * y - 1 * b) hby).2
      generalize redN (a * y - 1 * b) (b * y) = n at *
      generalize redD (a * y - 1 * b) (b * y) = d at *
      have hbd : 0 < b * d := Int.mul_pos hb p
      have e : n * b * y < a * d * y := by
        calc n * b * y = n * (b * y) := by ac_rfl
          _ = (a * y - 1 * b) * d := c
          _ = a * d * y - b * d := by rw [Int.sub_mul, Int.one_mul]; congr 1; ac_rfl
          _ < a * d * y := by omega
      exact Int.lt_of_mul_lt_mul_right e (by omega)
    · exact absurd k h1
  · simp at k
theorem add_more {a b y : Int} (h : okRat a b = true) (hy : 1 ≤ y ∧ y ≤ 1000) (k : (addR a b 1 y).2.2 = 0) :
    okRat (addR a b 1 y).1 (addR a b 1 y).2.1 = true ∧ 0 < cmpR (addR a b 1 y).1 (addR a b 1 y).2.1 a b := by
  have hb : 0 < b := by have := (okRat_true h).1; omega
  unfold addR at *
  split at k
  · rename_i hok
    rw [if_pos hok]
    have hby : 0 < b * y := Int.mul_pos hb (by omega)
    rcases low_cases (a * y + 1 * b) (b * y) with ⟨h1, h2, h3⟩ | h1
    · refine ⟨h1, cmp_pos h1 h ?_⟩
      rw [h2, h3]
      have c := red_cross (n := a * y + 1 * b) (d := b * y) (by omega)
      have p := (red_one (n := a * y + 1 * b) hby).2
      generalize redN (a * y + 1 * b) (b * y) = n at *
      generalize redD (a * y + 1 * b) (b * y) = d at *
      have hbd : 0 < b * d := Int.mul_pos hb p
      have e : a * d * y < n * b * y := by
        calc a * d * y < a * d * y + b * d := by omega
          _ = (a * y + 1 * b) * d := by rw [Int.add_mul, Int.one_mul]; congr 1; ac_rfl
          _ = n * (b * y) := c.symm
          _ = n * b * y := by ac_rfl
      exact Int.lt_of_mul_lt_mul_right e (by omega)
    · exact absurd k h1
  · simp at k
theorem tl0_ok {r : Rc} (h : (tl0 r).e = 0) : okRat (tl0 r).a (tl0 r).b = true ∧ okRat (tl0 r).c (tl0 r).d = true := by
  obtain ⟨h1, h2, h3, h4, h5⟩ := tl0_zero h
  rw [h5]
  obtain ⟨a1, a2, a3⟩ := low_ok h3
  obtain ⟨b1, b2, b3⟩ := low_ok h4
  simp only
  rw [a2, a3, b2, b3]
  exact ⟨a1, b1⟩
structure EndsR (x : Tb) (l : List Tr) (y : Int) : Prop where
  le : (reT x l).e = 0 → cmpR (reT x l).a (reT x l).b (reT x l).c (reT x l).d ≤ 0
  low : (reT x l).e = 0 → 1 ≤ y ∧ y ≤ 1000 → (subR (reT x l).a (reT x l).b 1 y).2.2 = 0 → ∀ an ad, okRat an ad = true → suE x l (subR (reT x l).a (reT x l).b 1 y).1 (subR (reT x l).a (reT x l).b 1 y).2.1 an ad = 0 ∧ suB x l (subR (reT x l).a (reT x l).b 1 y).1 (subR (reT x l).a (reT x l).b 1 y).2.1 an ad = false
  high : (reT x l).e = 0 → 1 ≤ y ∧ y ≤ 1000 → (addR (reT x l).c (reT x l).d 1 y).2.2 = 0 → ∀ an ad, okRat an ad = true → suE x l (addR (reT x l).c (reT x l).d 1 y).1 (addR (reT x l).c (reT x l).d 1 y).2.1 an ad = 0 ∧ suB x l (addR (reT x l).c (reT x l).d 1 y).1 (addR (reT x l).c (reT x l).d 1 y).2.1 an ad = false
  az : (azT x l).e = 0 → okRat (azT x l).a (azT x l).b = true ∧ okRat (azT x l).c (azT x l).d = true
theorem ends_r (x : Tb) (l : List Tr) (y : Int) : EndsR x l y := by
  have haz : (azT x l).e = 0 → okRat (azT x l).a (azT x l).b = true ∧ okRat (azT x l).c (azT x l).d = true := by
    intro h
    unfold azT at *
    split at h
    · rename_i h0
      rw [if_pos h0] at *
      unfold tlR at *
      split at h
      · rename_i h1
        rw [if_pos h1] at *
        exact tl0_ok h
      · simp at h
    · rename_i h0; simp only at h; exact absurd h h0
  by_cases hre : (reT x l).e = 0
  · obtain ⟨k0, k1, d1, d2, l1, l2, hr⟩ := re_zero hre
    have er : reT x l = tl0 (erR (wdL x l)) := by unfold reT; rw [if_pos k0, if_pos k1]
    have hok : okRat (reT x l).a (reT x l).b = true ∧ okRat (reT x l).c (reT x l).d = true := by
      rw [er] at hre ⊢; exact tl0_ok hre
    refine ⟨fun _ => ?_, fun _ hy h an ad ha => ?_, fun _ hy h an ad ha => ?_, haz⟩
    · have hg := er_ag k1
      have hc := erCh (wdL x l)
      have := hc.dlo; have := hc.dhi
      have e : (erR (wdL x l)).lo.n * (erR (wdL x l)).hi.d ≤ (erR (wdL x l)).hi.n * (erR (wdL x l)).lo.d := by
        unfold agB at hg
        rw [Bool.and_eq_true] at hg
        have := hg.2
        rw [decide_eq_false d1, decide_eq_false d2, Bool.false_or, Bool.false_or, Bool.not_eq_true', frLess, decide_eq_false_iff_not] at this
        omega
      rw [hr]
      exact cmp_le (by omega) (by omega) e l1 l2
    · obtain ⟨q1, q2⟩ := sub_less hok.1 hy h
      refine ⟨by unfold suE; rw [q1, ha]; exact k0, ?_⟩
      cases hs : suB x l (subR (reT x l).a (reT x l).b 1 y).1 (subR (reT x l).a (reT x l).b 1 y).2.1 an ad with
      | false => rfl
      | true => have := ((suit_r x l _ _ an ad).e1 hs hre).1; omega
    · obtain ⟨q1, q2⟩ := add_more hok.2 hy h
      refine ⟨by unfold suE; rw [q1, ha]; exact k0, ?_⟩
      cases hs : suB x l (addR (reT x l).c (reT x l).d 1 y).1 (addR (reT x l).c (reT x l).d 1 y).2.1 an ad with
      | false => rfl
      | true => have := ((suit_r x l _ _ an ad).e1 hs hre).2; omega
  · exact ⟨fun h => absurd h hre, fun h => absurd h hre, fun h => absurd h hre, haz⟩
end Go.Proofs.Ytbcabckokmjelaa
