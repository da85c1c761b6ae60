/-
  Plain law on fractions in lowest terms: greatest common divisors, reduced fractions are unique, sums and products are associative and distributive. No program in sight.
-/
namespace Go.Proofs.YtjkcgbidceakjaaDoor
set_option linter.unusedVariables false
def gcdI (a b : Int) : Int := (Int.gcd a b : Nat)
theorem gcdI_zero (a : Int) : gcdI a 0 = if a < 0 then -a else a := by
  unfold gcdI; rw [Int.gcd_zero]; split <;> omega
theorem gcdI_step (a b : Int) : gcdI b (a.tmod b) = gcdI a b := by
  unfold gcdI Int.gcd; rw [Int.natAbs_tmod, Nat.gcd_comm b.natAbs, ← Nat.gcd_rec, Nat.gcd_comm]
theorem tmod_bd (a b : Int) (hb : b ≠ 0) : -(b.natAbs : Int) < a.tmod b ∧ a.tmod b < b.natAbs := by
  have h := Int.natAbs_tmod a b
  have := Nat.mod_lt a.natAbs (show 0 < b.natAbs by omega)
  omega
theorem gcdI_pos {a b : Int} (h : b ≠ 0) : 0 < gcdI a b := by
  unfold gcdI; have := Int.gcd_pos_of_ne_zero_right a h; omega
theorem gcdI_le {a b : Int} (h : b ≠ 0) : gcdI a b ≤ b.natAbs := by
  unfold gcdI; have := Int.gcd_le_natAbs_right a h; omega
theorem gcd_dvd (a b : Int) : gcdI a b ∣ a ∧ gcdI a b ∣ b := ⟨Int.gcd_dvd_left .., Int.gcd_dvd_right ..⟩
def okRat (n d : Int) : Bool := decide (1 ≤ d) && (decide (d ≤ 1000000000) && (decide (-1000000000 ≤ n) && (decide (n ≤ 1000000000) && decide (gcdI n d = 1))))
theorem okRat_true {n d : Int} (h : okRat n d = true) : 1 ≤ d ∧ d ≤ 1000000000 ∧ -1000000000 ≤ n ∧ n ≤ 1000000000 ∧ gcdI n d = 1 := by
  simpa [okRat] using h
theorem okRat_unique {a b c d : Int} (h : okRat a b = true) (k : okRat c d = true) (e : a * d = c * b) : a = c ∧ b = d := by
  obtain ⟨h1, h2, h3, h4, h5⟩ := okRat_true h
  obtain ⟨k1, k2, k3, k4, k5⟩ := okRat_true k
  have g1 : Int.gcd a b = 1 := by unfold gcdI at h5; omega
  have g2 : Int.gcd c d = 1 := by unfold gcdI at k5; omega
  have d1 : b ∣ d := by
    have h := (Int.dvd_gcd_mul_iff_dvd_mul (k := b) (n := a) (m := d)).2 ⟨c, by rw [e, Int.mul_comm]⟩
    rw [Int.gcd_comm, g1] at h; simpa using h
  have d2 : d ∣ b := by
    have h := (Int.dvd_gcd_mul_iff_dvd_mul (k := d) (n := c) (m := b)).2 ⟨a, by rw [← e, Int.mul_comm]⟩
    rw [Int.gcd_comm, g2] at h; simpa using h
  have hbd : b = d := Int.le_antisymm (Int.le_of_dvd (by omega) d1) (Int.le_of_dvd (by omega) d2)
  subst hbd
  exact ⟨Int.eq_of_mul_eq_mul_right (by omega) e, rfl⟩
def redG (n d : Int) : Int := if d < 0 then -gcdI n d else gcdI n d
def redN (n d : Int) : Int := n.tdiv (redG n d)
def redD (n d : Int) : Int := d.tdiv (redG n d)
theorem redG_ne {n d : Int} (hd : d ≠ 0) : redG n d ≠ 0 := by
  have := gcdI_pos (a := n) hd
  unfold redG; split <;> omega
theorem redG_dvd (n d : Int) : redG n d ∣ n ∧ redG n d ∣ d := by
  have := gcd_dvd n d
  unfold redG; split
  · exact ⟨Int.neg_dvd.2 this.1, Int.neg_dvd.2 this.2⟩
  · exact this
theorem red_mul {n d : Int} (hd : d ≠ 0) : redN n d * redG n d = n ∧ redD n d * redG n d = d := by
  obtain ⟨h1, h2⟩ := redG_dvd n d
  exact ⟨Int.tdiv_mul_cancel h1, Int.tdiv_mul_cancel h2⟩
theorem red_cross {n d : Int} (hd : d ≠ 0) : redN n d * d = n * redD n d := by
  obtain ⟨h1, h2⟩ := red_mul (n := n) hd
  generalize redN n d = x at *
  generalize redD n d = y at *
  generalize redG n d = g at *
  subst h1; subst h2
  grind
theorem assoc3 {aN aD bN bD cN cD p q r s x y u v : Int} (hq : q ≠ 0) (hs : s ≠ 0) (ha : aD ≠ 0) (hb : bD ≠ 0) (hc : cD ≠ 0) (h1 : p * (aD * bD) = (aN * bD + bN * aD) * q) (h2 : r * (bD * cD) = (bN * cD + cN * bD) * s)
  (h3 : x * (q * cD) = (p * cD + cN * q) * y) (h4 : u * (aD * s) = (aN * s + r * aD) * v) : x * v = u * y := by
  have e1 : x * (aD * bD * cD) * q = ((aN * bD + bN * aD) * cD + cN * (aD * bD)) * y * q := by grind
  have e2 : u * (aD * bD * cD) * s = ((bN * cD + cN * bD) * aD + aN * (bD * cD)) * v * s := by grind
  have e1 := Int.eq_of_mul_eq_mul_right hq e1
  have e2 := Int.eq_of_mul_eq_mul_right hs e2
  have hm : aD * bD * cD ≠ 0 := Int.mul_ne_zero (Int.mul_ne_zero ha hb) hc
  apply Int.eq_of_mul_eq_mul_right hm
  grind
theorem distr {aN aD bN bD cN cD p q r s t o x y u v : Int} (hq : q ≠ 0) (hs : s ≠ 0) (ho : o ≠ 0) (ha : aD ≠ 0) (hb : bD ≠ 0) (hc : cD ≠ 0) (h1 : p * (aD * bD) = (aN * bD + bN * aD) * q) (h2 : r * (aD * cD) = (aN * cN) * s) (h5 : t * (bD * cD) = (bN * cN) * o)
  (h3 : x * (q * cD) = (p * cN) * y) (h4 : u * (s * o) = (r * o + t * s) * v) : x * v = u * y := by
  have e1 : x * (aD * bD * cD) * q = (aN * bD + bN * aD) * cN * y * q := by grind
  have e2 : u * (aD * bD * cD) * cD * (s * o) = (aN * bD + bN * aD) * cN * cD * v * (s * o) := by grind
  have e1 := Int.eq_of_mul_eq_mul_right hq e1
  have e2 := Int.eq_of_mul_eq_mul_right (Int.mul_ne_zero hs ho) e2
  have hm : aD * bD * cD * cD ≠ 0 := Int.mul_ne_zero (Int.mul_ne_zero (Int.mul_ne_zero ha hb) hc) hc
  apply Int.eq_of_mul_eq_mul_right hm
  grind
end Go.Proofs.YtjkcgbidceakjaaDoor
