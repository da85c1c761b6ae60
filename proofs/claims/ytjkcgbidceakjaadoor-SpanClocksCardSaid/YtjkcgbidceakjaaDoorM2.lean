/-
  Plain law on quotients rounded down, sidereal time and products of spans. No program in sight.
-/
namespace Go.Proofs.YtjkcgbidceakjaaDoor
set_option linter.unusedVariables false
theorem floor_lt {n d : Int} (hd : 0 < d) (h : n.tmod d < 0) : n / d = n.tdiv d - 1 := by
  have h1 := Int.mul_tdiv_add_tmod n d
  have h3 := Int.lt_tmod_of_pos n hd
  refine ((Int.ediv_emod_unique hd).2 ⟨?_, ?_, ?_⟩ : n / d = n.tdiv d - 1 ∧ n % d = n.tmod d + d).1
  · rw [Int.mul_sub]; omega
  · omega
  · omega
theorem floor_ge {n d : Int} (hd : 0 < d) (h : 0 ≤ n.tmod d) : n / d = n.tdiv d := by
  have h1 := Int.mul_tdiv_add_tmod n d
  have h3 := Int.tmod_lt_of_pos n hd
  refine ((Int.ediv_emod_unique hd).2 ⟨?_, ?_, ?_⟩ : n / d = n.tdiv d ∧ n % d = n.tmod d).1
  · omega
  · omega
  · omega
/-- t n / d in parts -/
theorem parts_eq (t n d : Int) (hd : 0 < d) : t / d * n + (t % d * n) / d = t * n / d := by
  have h := Int.mul_ediv_add_emod t d
  have e : t * n = t % d * n + t / d * n * d := by
    conv => lhs; rw [← h]
    grind
  rw [e, Int.add_mul_ediv_right _ _ (by omega), Int.add_comm]

theorem skies {t s : Int} (h0 : 0 ≤ t) (e : s = t * 3662422 / 3652422) : s * 3652422 / 3662422 = t ∨ s * 3652422 / 3662422 = t - 1 := by omega
theorem skies2 {t u : Int} (h0 : 0 ≤ t) (h : t < u) : t * 3662422 / 3652422 < u * 3662422 / 3652422 := by omega

def big (q n : Int) : Prop := 4000000000000 < q * n ∨ q * n < -4000000000000
def okSpan (lo hi : Int) : Bool := decide (-1000000000000 ≤ lo) && (decide (lo ≤ hi) && decide (hi ≤ 1000000000000))
/-- Is v the floor of t n / d, or far from all times where that is. -/
def Near (x v : Int) : Prop := v = x ∨ (1000000000000 < v ∧ 1000000000000 < x) ∨ (v < -1000000000000 ∧ x < -1000000000000)
theorem far_pos {t n d : Int} (hd : 0 < d) (hn1 : -1000000000 ≤ n) (hn2 : n ≤ 1000000000) (h : 4000000000000 < t / d * n) : 1000000000000 < t * n / d := by
  rw [← parts_eq t n d hd]
  have h1 := Int.emod_nonneg t (show d ≠ 0 by omega)
  have h2 := Int.emod_lt_of_pos t hd
  have h3 : -1000000000 ≤ t % d * n / d := by
    apply Int.le_ediv_of_mul_le hd
    have : -(d * 1000000000) ≤ t % d * n := by
      have a1 : t % d * (-1000000000) ≤ t % d * n := Int.mul_le_mul_of_nonneg_left hn1 h1
      have a2 : t % d * 1000000000 ≤ d * 1000000000 := Int.mul_le_mul_of_nonneg_right (by omega) (by omega)
      omega
    omega
  omega
theorem far_neg {t n d : Int} (hd : 0 < d) (hn1 : -1000000000 ≤ n) (hn2 : n ≤ 1000000000) (h : t / d * n < -4000000000000) : t * n / d < -1000000000000 := by
  rw [← parts_eq t n d hd]
  have h1 := Int.emod_nonneg t (show d ≠ 0 by omega)
  have h2 := Int.emod_lt_of_pos t hd
  have h3 : t % d * n / d ≤ 1000000000 := by
    apply Int.ediv_le_of_le_mul hd
    have a1 : t % d * n ≤ t % d * 1000000000 := Int.mul_le_mul_of_nonneg_left hn2 h1
    have a2 : t % d * 1000000000 ≤ d * 1000000000 := Int.mul_le_mul_of_nonneg_right (by omega) (by omega)
    omega
  omega
theorem okSpan_near {x y v u : Int} (hv : Near x v) (hu : Near y u) : okSpan v (-u) = okSpan x (-y) ∧ (okSpan x (-y) = true → v = x ∧ u = y) := by
  unfold Near at hv hu
  unfold okSpan
  constructor
  · rw [Bool.eq_iff_iff]; simp only [Bool.and_eq_true, decide_eq_true_eq]; omega
  · simp only [Bool.and_eq_true, decide_eq_true_eq]; omega
end Go.Proofs.YtjkcgbidceakjaaDoor
