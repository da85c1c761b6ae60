/-
  Plain laws of lags: farther is later, more wind widens, more speed is sooner, and a lag does not depend on which of two places the gun is. No program in sight.
-/
import Derived.Test.YtimbdnngeoccdaaDoorG5
namespace Go.Proofs.YtimbdnngeoccdaaDoor

theorem isq_mono {m n : Int} (h0 : 0 ≤ m) (h : m ≤ n) : isq m ≤ isq n := by
  obtain ⟨a1, a2, a3⟩ := isq_spec m h0
  obtain ⟨b1, b2, b3⟩ := isq_spec n (by omega)
  have := sq_lt (a := isq m) (b := isq n + 1) a1 (by omega) (by omega)
  omega
theorem dLo_mono {p q : Int} (h0 : 0 ≤ p) (h : p ≤ q) : dLo p ≤ dLo q := isq_mono (by omega) (by omega)
theorem dHi_spec {q : Int} (h0 : 0 ≤ q) : 0 ≤ dHi q ∧ q * 1000000 ≤ dHi q * dHi q ∧ (dHi q = 0 ∨ (dHi q - 1) * (dHi q - 1) < q * 1000000) := by
  obtain ⟨a1, a2, a3⟩ := isq_spec (q * 1000000) (by omega)
  unfold dHi
  by_cases hc : isq (q * 1000000) * isq (q * 1000000) = q * 1000000
  · rw [if_pos hc]
    refine ⟨a1, by omega, ?_⟩
    by_cases hz : isq (q * 1000000) = 0
    · exact Or.inl hz
    · right
      have : (isq (q * 1000000) - 1) * (isq (q * 1000000) - 1) < isq (q * 1000000) * isq (q * 1000000) := by
        have e : (isq (q * 1000000) - 1) * (isq (q * 1000000) - 1) = isq (q * 1000000) * isq (q * 1000000) - 2 * isq (q * 1000000) + 1 := by
          rw [Int.sub_mul, Int.mul_sub]; omega
        omega
      omega
  · rw [if_neg hc]
    refine ⟨by omega, by omega, Or.inr ?_⟩
    rw [show isq (q * 1000000) + 1 - 1 = isq (q * 1000000) by omega]
    omega
theorem dHi_mono {p q : Int} (h0 : 0 ≤ p) (h : p ≤ q) : dHi p ≤ dHi q := by
  obtain ⟨a1, a2, a3⟩ := dHi_spec h0
  obtain ⟨b1, b2, b3⟩ := dHi_spec (q := q) (by omega)
  rcases a3 with a3 | a3
  · omega
  · rcases Int.lt_or_le (dHi q) (dHi p) with hl | hl
    · have := sq_le_sq (a := dHi q) (b := dHi p - 1) (by omega) (by omega)
      omega
    · exact hl
theorem ovLo_mono {s v x y : Int} (hd : 0 < s + v) (h : x ≤ y) : ovLo s v x ≤ ovLo s v y := Int.ediv_le_ediv hd (by omega)
theorem ovHi_mono {s v x y : Int} (hd : 0 < s - v) (h : x ≤ y) : ovHi s v x ≤ ovHi s v y := Int.ediv_le_ediv hd (by omega)
theorem ediv_anti {a c d : Int} (ha : 0 ≤ a) (hc : 0 < c) (h : c ≤ d) : a / d ≤ a / c := by
  rw [Int.le_ediv_iff_mul_le hc]
  have h1 : 0 ≤ a / d := Int.ediv_nonneg ha (by omega)
  have h2 := Int.mul_le_mul_of_nonneg_left h h1
  have h3 := Int.ediv_mul_le a (b := d) (by omega)
  omega
theorem eceil_anti {a c d : Int} (ha : 0 ≤ a) (hc : 0 < c) (h : c ≤ d) : (a + d - 1) / d ≤ (a + c - 1) / c := by
  have h1 : 0 ≤ (a + c - 1) / c := Int.ediv_nonneg (by omega) (by omega)
  have h2 : a + c - 1 < ((a + c - 1) / c + 1) * c := Int.lt_ediv_add_one_mul_self _ hc
  rw [Int.add_mul] at h2
  have h3 := Int.mul_le_mul_of_nonneg_left h h1
  have h4 : (a + d - 1) / d < (a + c - 1) / c + 1 := by
    rw [Int.ediv_lt_iff_lt_mul (by omega), Int.add_mul]
    omega
  omega

theorem LLo_ok {s v a b c d : Int} (h : lagE s v a b c d = 0) : LLo s v a b c d = lagLo s v (dd a b c d) := by unfold LLo; rw [if_pos h]
theorem LHi_ok {s v a b c d : Int} (h : lagE s v a b c d = 0) : LHi s v a b c d = lagHi s v (dd a b c d) := by unfold LHi; rw [if_pos h]

/-- Farther is later. -/
theorem far_later {s v a b c d x y : Int} (h1 : lagE s v a b c d = 0) (h2 : lagE s v a b x y = 0) (hq : dd a b c d ≤ dd a b x y) : LLo s v a b c d ≤ LLo s v a b x y ∧ LHi s v a b c d ≤ LHi s v a b x y := by
  obtain ⟨g1, g2, g3⟩ := lagE_ok h1
  obtain ⟨⟨p1, p2⟩, p3, p4⟩ := validAir_true g1
  obtain ⟨q0, q1⟩ := dd_bd g2 g3
  rw [LLo_ok h1, LLo_ok h2, LHi_ok h1, LHi_ok h2]
  exact ⟨ovLo_mono (by omega) (dLo_mono q0 hq), ovHi_mono (by omega) (dHi_mono q0 hq)⟩
/-- More wind widens. -/
theorem wind_wider {s v v' a b c d : Int} (h1 : lagE s v a b c d = 0) (h2 : lagE s v' a b c d = 0) (hv : v ≤ v') : LLo s v' a b c d ≤ LLo s v a b c d ∧ LHi s v a b c d ≤ LHi s v' a b c d := by
  obtain ⟨g1, g2, g3⟩ := lagE_ok h1
  obtain ⟨⟨p1, p2⟩, p3, p4⟩ := validAir_true g1
  obtain ⟨⟨r1, r2⟩, r3, r4⟩ := validAir_true (lagE_ok h2).1
  obtain ⟨q0, q1⟩ := dd_bd g2 g3
  have l0 := dLo_bd q0 q1
  have l1 := dHi_bd q0 q1
  rw [LLo_ok h1, LLo_ok h2, LHi_ok h1, LHi_ok h2]
  unfold lagLo lagHi ovLo ovHi
  refine ⟨ediv_anti (by omega) (by omega) (by omega), ?_⟩
  have := eceil_anti (a := dHi (dd a b c d) * 1000) (c := s - v') (d := s - v) (by omega) (by omega) (by omega)
  exact this
/-- More speed is sooner. -/
theorem speed_sooner {s s' v a b c d : Int} (h1 : lagE s v a b c d = 0) (h2 : lagE s' v a b c d = 0) (hs : s ≤ s') : LLo s' v a b c d ≤ LLo s v a b c d ∧ LHi s' v a b c d ≤ LHi s v a b c d := by
  obtain ⟨g1, g2, g3⟩ := lagE_ok h1
  obtain ⟨⟨p1, p2⟩, p3, p4⟩ := validAir_true g1
  obtain ⟨⟨r1, r2⟩, r3, r4⟩ := validAir_true (lagE_ok h2).1
  obtain ⟨q0, q1⟩ := dd_bd g2 g3
  have l0 := dLo_bd q0 q1
  have l1 := dHi_bd q0 q1
  rw [LLo_ok h1, LLo_ok h2, LHi_ok h1, LHi_ok h2]
  unfold lagLo lagHi ovLo ovHi
  refine ⟨ediv_anti (by omega) (by omega) (by omega), ?_⟩
  have := eceil_anti (a := dHi (dd a b c d) * 1000) (c := s - v) (d := s' - v) (by omega) (by omega) (by omega)
  exact this
theorem lagE_comm (s v a b c d : Int) : lagE s v c d a b = lagE s v a b c d := by
  unfold lagE
  cases validAir s v <;> cases place a b <;> cases place c d <;> rfl
theorem LLo_comm (s v a b c d : Int) : LLo s v c d a b = LLo s v a b c d := by unfold LLo; rw [lagE_comm, dd_comm]
theorem LHi_comm (s v a b c d : Int) : LHi s v c d a b = LHi s v a b c d := by unfold LHi; rw [lagE_comm, dd_comm]
end Go.Proofs.YtimbdnngeoccdaaDoor
