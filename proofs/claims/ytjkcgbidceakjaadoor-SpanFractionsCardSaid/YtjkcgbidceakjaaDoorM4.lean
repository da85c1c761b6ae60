/-
  Plain law on the answers of Add, Sub, Mul and Compare: associative, distributive, an order. No program in sight.
-/
import Derived.Test.YtjkcgbidceakjaaDoorD20
namespace Go.Proofs.YtjkcgbidceakjaaDoor
set_option linter.unusedVariables false
theorem low_ok {n d p q z : Int} (hd : d ≠ 0) (h : lowR n d = (p, q, z)) : (z = 0 ∧ okRat p q = true ∧ p * d = n * q) ∨ (z = 4 ∧ p = 0 ∧ q = 0) := by
  unfold lowR at h
  cases ho : okRat (redN n d) (redD n d)
  · rw [ho] at h
    simp only [Bool.false_eq_true, if_false, Prod.mk.injEq] at h
    right; omega
  · rw [ho] at h
    simp only [if_true, Prod.mk.injEq] at h
    obtain ⟨rfl, rfl, rfl⟩ := h
    exact Or.inl ⟨rfl, ho, red_cross hd⟩
theorem ok_ne {n d : Int} (h : okRat n d = true) : d ≠ 0 ∧ 0 < d := by
  obtain ⟨h1, _⟩ := okRat_true h; omega
theorem add_ok {a b c d p q z : Int} (h1 : okRat a b = true) (h2 : okRat c d = true) (h : addR a b c d = (p, q, z)) : (z = 0 ∧ okRat p q = true ∧ p * (b * d) = (a * d + c * b) * q) ∨ (z = 4 ∧ p = 0 ∧ q = 0) := by
  unfold addR at h
  rw [h1, h2] at h
  exact low_ok (Int.mul_ne_zero (ok_ne h1).1 (ok_ne h2).1) h
theorem sub_ok {a b c d p q z : Int} (h1 : okRat a b = true) (h2 : okRat c d = true) (h : subR a b c d = (p, q, z)) : (z = 0 ∧ okRat p q = true ∧ p * (b * d) = (a * d - c * b) * q) ∨ (z = 4 ∧ p = 0 ∧ q = 0) := by
  unfold subR at h
  rw [h1, h2] at h
  exact low_ok (Int.mul_ne_zero (ok_ne h1).1 (ok_ne h2).1) h
theorem mul_ok {a b c d p q z : Int} (h1 : okRat a b = true) (h2 : okRat c d = true) (h : mulR a b c d = (p, q, z)) : (z = 0 ∧ okRat p q = true ∧ p * (b * d) = a * c * q) ∨ (z = 4 ∧ p = 0 ∧ q = 0) := by
  unfold mulR at h
  rw [h1, h2] at h
  exact low_ok (Int.mul_ne_zero (ok_ne h1).1 (ok_ne h2).1) h
theorem add_comm' (a b c d : Int) : addR c d a b = addR a b c d := by
  unfold addR
  rw [Bool.and_comm, Int.add_comm, Int.mul_comm d b]
theorem add_of {a b c d p q : Int} (h1 : okRat a b = true) (h2 : okRat c d = true) (h : addR a b c d = (p, q, 0)) : okRat p q = true ∧ p * (b * d) = (a * d + c * b) * q := by
  rcases add_ok h1 h2 h with ⟨_, h3, h4⟩ | ⟨h3, _⟩
  · exact ⟨h3, h4⟩
  · omega
theorem mul_of {a b c d p q : Int} (h1 : okRat a b = true) (h2 : okRat c d = true) (h : mulR a b c d = (p, q, 0)) : okRat p q = true ∧ p * (b * d) = a * c * q := by
  rcases mul_ok h1 h2 h with ⟨_, h3, h4⟩ | ⟨h3, _⟩
  · exact ⟨h3, h4⟩
  · omega
theorem assoc_law {a b c d e f p q r s x y u v : Int} (h1 : okRat a b = true) (h2 : okRat c d = true) (h3 : okRat e f = true) (k1 : addR a b c d = (p, q, 0)) (k2 : addR c d e f = (r, s, 0)) (k3 : addR p q e f = (x, y, 0)) (k4 : addR a b r s = (u, v, 0)) : x = u ∧ y = v := by
  obtain ⟨o1, e1⟩ := add_of h1 h2 k1
  obtain ⟨o2, e2⟩ := add_of h2 h3 k2
  obtain ⟨o3, e3⟩ := add_of o1 h3 k3
  obtain ⟨o4, e4⟩ := add_of h1 o2 k4
  exact okRat_unique o3 o4 (assoc3 (ok_ne o1).1 (ok_ne o2).1 (ok_ne h1).1 (ok_ne h2).1 (ok_ne h3).1 e1 e2 e3 e4)
theorem distr_law {a b c d e f p q r s t o x y u v : Int} (h1 : okRat a b = true) (h2 : okRat c d = true) (h3 : okRat e f = true) (k1 : addR a b c d = (p, q, 0)) (k2 : mulR a b e f = (r, s, 0)) (k3 : mulR c d e f = (t, o, 0)) (k4 : mulR p q e f = (x, y, 0)) (k5 : addR r s t o = (u, v, 0)) : x = u ∧ y = v := by
  obtain ⟨o1, e1⟩ := add_of h1 h2 k1
  obtain ⟨o2, e2⟩ := mul_of h1 h3 k2
  obtain ⟨o3, e3⟩ := mul_of h2 h3 k3
  obtain ⟨o4, e4⟩ := mul_of o1 h3 k4
  obtain ⟨o5, e5⟩ := add_of o2 o3 k5
  exact okRat_unique o4 o5 (distr (ok_ne o1).1 (ok_ne o2).1 (ok_ne o3).1 (ok_ne h1).1 (ok_ne h2).1 (ok_ne h3).1 e1 e2 e3 e4 e5)
theorem sgn_cases (x y : Int) : (sgn x y = -1 ∧ x < y) ∨ (sgn x y = 0 ∧ x = y) ∨ (sgn x y = 1 ∧ y < x) := by
  unfold sgn
  rcases Int.lt_trichotomy x y with h | h | h
  · rw [if_pos h]; exact Or.inl ⟨rfl, h⟩
  · rw [if_neg (by omega), if_neg (by omega)]; exact Or.inr (Or.inl ⟨rfl, h⟩)
  · rw [if_neg (by omega), if_pos h]; exact Or.inr (Or.inr ⟨rfl, h⟩)
theorem sgn_anti (x y : Int) : sgn y x = -sgn x y := by
  rcases sgn_cases x y with ⟨h1, h2⟩ | ⟨h1, h2⟩ | ⟨h1, h2⟩ <;> rcases sgn_cases y x with ⟨k1, k2⟩ | ⟨k1, k2⟩ | ⟨k1, k2⟩ <;> omega
theorem cmp_ok {a b c d : Int} (h1 : okRat a b = true) (h2 : okRat c d = true) : cmpR a b c d = sgn (a * d) (c * b) := by unfold cmpR; rw [h1, h2]; rfl
theorem cmp_eq {a b c d : Int} (h1 : okRat a b = true) (h2 : okRat c d = true) : cmpR a b c d = 0 ↔ a = c ∧ b = d := by
  rw [cmp_ok h1 h2]
  constructor
  · intro h
    rcases sgn_cases (a * d) (c * b) with ⟨k1, k2⟩ | ⟨k1, k2⟩ | ⟨k1, k2⟩
    · omega
    · exact okRat_unique h1 h2 k2
    · omega
  · rintro ⟨rfl, rfl⟩
    rcases sgn_cases (a * b) (a * b) with ⟨k1, k2⟩ | ⟨k1, k2⟩ | ⟨k1, k2⟩ <;> omega
theorem le_trans_frac {a b c d e f : Int} (hb : 0 < b) (hd : 0 < d) (hf : 0 < f) (h1 : a * d ≤ c * b) (h2 : c * f ≤ e * d) : a * f ≤ e * b := by
  have e1 : a * d * f ≤ c * b * f := Int.mul_le_mul_of_nonneg_right h1 (by omega)
  have e2 : c * f * b ≤ e * d * b := Int.mul_le_mul_of_nonneg_right h2 (by omega)
  have e3 : c * b * f = c * f * b := by grind
  have e4 : a * d * f = a * f * d := by grind
  have e5 : e * d * b = e * b * d := by grind
  rw [e3] at e1
  rw [e4] at e1
  rw [e5] at e2
  exact Int.le_of_mul_le_mul_right (Int.le_trans e1 e2) hd
theorem cmp_trans {a b c d e f : Int} (h1 : okRat a b = true) (h2 : okRat c d = true) (h3 : okRat e f = true) : (cmpR a b c d ≤ 0 → cmpR c d e f ≤ 0 → cmpR a b e f ≤ 0) ∧ (0 ≤ cmpR a b c d → 0 ≤ cmpR c d e f → 0 ≤ cmpR a b e f) := by
  rw [cmp_ok h1 h2, cmp_ok h2 h3, cmp_ok h1 h3]
  have p1 := (ok_ne h1).2
  have p2 := (ok_ne h2).2
  have p3 := (ok_ne h3).2
  constructor
  · intro k1 k2
    have g1 : a * d ≤ c * b := by rcases sgn_cases (a * d) (c * b) with ⟨x, y⟩ | ⟨x, y⟩ | ⟨x, y⟩ <;> omega
    have g2 : c * f ≤ e * d := by rcases sgn_cases (c * f) (e * d) with ⟨x, y⟩ | ⟨x, y⟩ | ⟨x, y⟩ <;> omega
    have g3 := le_trans_frac p1 p2 p3 g1 g2
    rcases sgn_cases (a * f) (e * b) with ⟨x, y⟩ | ⟨x, y⟩ | ⟨x, y⟩ <;> omega
  · intro k1 k2
    have g1 : c * b ≤ a * d := by rcases sgn_cases (a * d) (c * b) with ⟨x, y⟩ | ⟨x, y⟩ | ⟨x, y⟩ <;> omega
    have g2 : e * d ≤ c * f := by rcases sgn_cases (c * f) (e * d) with ⟨x, y⟩ | ⟨x, y⟩ | ⟨x, y⟩ <;> omega
    have g3 := le_trans_frac p3 p2 p1 g2 g1
    rcases sgn_cases (a * f) (e * b) with ⟨x, y⟩ | ⟨x, y⟩ | ⟨x, y⟩ <;> omega
theorem cmp_sub {a b c d p q : Int} (h1 : okRat a b = true) (h2 : okRat c d = true) (k : subR a b c d = (p, q, 0)) : cmpR p q 0 1 = cmpR a b c d := by
  obtain ⟨_, o, e⟩ : (0 : Int) = 0 ∧ okRat p q = true ∧ p * (b * d) = (a * d - c * b) * q := by
    rcases sub_ok h1 h2 k with h | ⟨h, _⟩
    · exact h
    · omega
  rw [cmp_ok o (by kernel_rfl), cmp_ok h1 h2, Int.mul_one, Int.zero_mul]
  have q0 := (ok_ne o).2
  have bd : 0 < b * d := Int.mul_pos (ok_ne h1).2 (ok_ne h2).2
  rcases sgn_cases (a * d) (c * b) with ⟨x, y⟩ | ⟨x, y⟩ | ⟨x, y⟩
  · have hl : (a * d - c * b) * q < 0 := Int.mul_neg_of_neg_of_pos (by omega) q0
    rw [← e] at hl
    have hp : p < 0 := by
      rcases Int.lt_or_le p 0 with g | g
      · exact g
      · have := Int.mul_nonneg g (Int.le_of_lt bd); omega
    rcases sgn_cases p 0 with ⟨x', y'⟩ | ⟨x', y'⟩ | ⟨x', y'⟩ <;> omega
  · have hl : (a * d - c * b) * q = 0 := by rw [y, Int.sub_self, Int.zero_mul]
    rw [← e] at hl
    have hp : p = 0 := by
      rcases Int.mul_eq_zero.1 hl with g | g
      · exact g
      · omega
    rcases sgn_cases p 0 with ⟨x', y'⟩ | ⟨x', y'⟩ | ⟨x', y'⟩ <;> omega
  · have hl : 0 < (a * d - c * b) * q := Int.mul_pos (by omega) q0
    rw [← e] at hl
    have hp : 0 < p := by
      rcases Int.lt_or_le 0 p with g | g
      · exact g
      · have := Int.mul_nonpos_of_nonpos_of_nonneg g (Int.le_of_lt bd); omega
    rcases sgn_cases p 0 with ⟨x', y'⟩ | ⟨x', y'⟩ | ⟨x', y'⟩ <;> omega
end Go.Proofs.YtjkcgbidceakjaaDoor
