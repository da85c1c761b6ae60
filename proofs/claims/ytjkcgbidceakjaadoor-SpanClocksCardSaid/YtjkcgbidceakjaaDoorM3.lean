/-
  Plain law on the calendar: the days before a year and a month, and that each day has just one date. No program in sight.
-/
namespace Go.Proofs.YtjkcgbidceakjaaDoor
set_option linter.unusedVariables false
def leapB (y : Int) : Bool := decide (1700 ≤ y) && (decide (y ≤ 2200) && (decide (y % 4 = 0) && (decide (y % 100 ≠ 0) || decide (y % 400 = 0))))
def ylen (y : Int) : Int := if leapB y then 366 else 365
def leaps (z : Int) : Int := z / 4 - z / 100 + z / 400
def before (y : Int) : Int := 365 * (y - 1700) + leaps (y - 1) - leaps 1699
theorem before_succ {y : Int} (h1 : 1700 ≤ y) (h2 : y ≤ 2200) : before (y + 1) = before y + ylen y := by
  unfold before ylen leaps
  by_cases h : leapB y = true
  · rw [if_pos h]
    simp [leapB] at h
    rcases h.2.2.2 with h3 | h3 <;> omega
  · rw [if_neg h]
    simp [leapB, h1, h2] at h
    by_cases h4 : y % 4 = 0
    · have := h h4; omega
    · omega
theorem ylen_bd (y : Int) : 365 ≤ ylen y ∧ ylen y ≤ 366 := by unfold ylen; split <;> omega
theorem before_lin {y : Int} (h1 : 1700 ≤ y) (h2 : y ≤ 2201) : 365 * (y - 1700) ≤ before y ∧ before y ≤ 366 * (y - 1700) := by
  obtain ⟨k, rfl⟩ : ∃ k : Nat, y = 1700 + k := ⟨(y - 1700).toNat, by omega⟩
  induction k with
  | zero => decide
  | succ k ih =>
    have := before_succ (y := 1700 + k) (by omega) (by omega)
    have e : (1700 : Int) + ((k + 1 : Nat) : Int) = 1700 + k + 1 := by omega
    rw [e, this]
    have := ylen_bd (1700 + k)
    have := ih (by omega) (by omega)
    omega
theorem before_mono {x y : Int} (h1 : 1700 ≤ x) (h : x ≤ y) (h2 : y ≤ 2201) : before x + 365 * (y - x) ≤ before y := by
  obtain ⟨k, rfl⟩ : ∃ k : Nat, y = x + k := ⟨(y - x).toNat, by omega⟩
  induction k with
  | zero => simp
  | succ k ih =>
    have := before_succ (y := x + k) (by omega) (by omega)
    have e : x + ((k + 1 : Nat) : Int) = x + k + 1 := by omega
    rw [e, this]
    have := ylen_bd (x + k)
    have := ih (by omega) (by omega)
    omega
def mlen (y m : Int) : Int := if m = 4 ∨ m = 6 ∨ m = 9 ∨ m = 11 then 30 else if m = 2 then (if leapB y then 29 else 28) else 31
theorem mlen_bd (y m : Int) : 28 ≤ mlen y m ∧ mlen y m ≤ 31 := by unfold mlen; repeat' split <;> omega
/-- The days before a month of a year. -/
def mbef (y : Int) : Nat → Int
  | 0 => 0
  | k + 1 => mbef y k + mlen y (k + 1)
theorem mbef_12 (y : Int) : mbef y 12 = ylen y := by
  simp [mbef, mlen, ylen]; split <;> rfl
theorem mbef_mono (y : Int) {j k : Nat} (h : j ≤ k) : mbef y j + 28 * (k - j) ≤ mbef y k := by
  obtain ⟨i, rfl⟩ : ∃ i, k = j + i := ⟨k - j, by omega⟩
  induction i with
  | zero => simp
  | succ i ih =>
    have := ih (by omega)
    have e : mbef y (j + (i + 1)) = mbef y (j + i) + mlen y ((j + i : Nat) + 1) := rfl
    have := mlen_bd y ((j + i : Nat) + 1)
    omega
def dayNo (y m d : Int) : Int := before y + mbef y (m - 1).toNat + d - 1
def okDate (y m d : Int) : Bool := decide (1700 ≤ y) && (decide (y ≤ 2200) && (decide (1 ≤ m) && (decide (m ≤ 12) && (decide (1 ≤ d) && decide (d ≤ mlen y m)))))
theorem okDate_true {y m d : Int} (h : okDate y m d = true) : 1700 ≤ y ∧ y ≤ 2200 ∧ 1 ≤ m ∧ m ≤ 12 ∧ 1 ≤ d ∧ d ≤ mlen y m := by simpa [okDate] using h
theorem mlen_in {y : Int} {k : Nat} (hk : k < 12) : mbef y k + mlen y (k + 1) ≤ ylen y := by
  have h := mbef_mono y (show k + 1 ≤ 12 by omega)
  rw [mbef_12] at h
  have e : mbef y (k + 1) = mbef y k + mlen y (k + 1) := rfl
  omega
theorem mbef_nonneg (y : Int) (k : Nat) : 0 ≤ mbef y k := by
  have := mbef_mono y (Nat.zero_le k); simp [mbef] at this; omega
theorem date_year {y m d : Int} (h : okDate y m d = true) : before y ≤ dayNo y m d ∧ dayNo y m d < before (y + 1) := by
  obtain ⟨h1, h2, h3, h4, h5, h6⟩ := okDate_true h
  obtain ⟨k, rfl⟩ : ∃ k : Nat, m = k + 1 := ⟨(m - 1).toNat, by omega⟩
  have := mbef_nonneg y k
  have := mlen_in (y := y) (k := k) (by omega)
  rw [before_succ h1 h2]
  unfold dayNo
  have e : ((k : Int) + 1 - 1).toNat = k := by omega
  rw [e]
  omega
theorem date_unique {y m d y' m' d' : Int} (h : okDate y m d = true) (k : okDate y' m' d' = true) (e : dayNo y m d = dayNo y' m' d') : y = y' ∧ m = m' ∧ d = d' := by
  obtain ⟨h1, h2, h3, h4, h5, h6⟩ := okDate_true h
  obtain ⟨k1, k2, k3, k4, k5, k6⟩ := okDate_true k
  obtain ⟨a1, a2⟩ := date_year h
  obtain ⟨b1, b2⟩ := date_year k
  have hy : y = y' := by
    rcases Int.lt_trichotomy y y' with g | g | g
    · have := before_mono (x := y + 1) (y := y') (by omega) (by omega) (by omega); omega
    · exact g
    · have := before_mono (x := y' + 1) (y := y) (by omega) (by omega) (by omega); omega
  subst hy
  obtain ⟨i, rfl⟩ : ∃ k : Nat, m = k + 1 := ⟨(m - 1).toNat, by omega⟩
  obtain ⟨j, rfl⟩ : ∃ k : Nat, m' = k + 1 := ⟨(m' - 1).toNat, by omega⟩
  unfold dayNo at e
  have e1 : ((i : Int) + 1 - 1).toNat = i := by omega
  have e2 : ((j : Int) + 1 - 1).toNat = j := by omega
  rw [e1, e2] at e
  have s1 : mbef y (i + 1) = mbef y i + mlen y (i + 1) := rfl
  have s2 : mbef y (j + 1) = mbef y j + mlen y (j + 1) := rfl
  have hij : i = j := by
    rcases Nat.lt_trichotomy i j with g | g | g
    · have := mbef_mono y (show i + 1 ≤ j by omega); omega
    · exact g
    · have := mbef_mono y (show j + 1 ≤ i by omega); omega
  subst hij
  omega
theorem dayNo_bd {y m d : Int} (h : okDate y m d = true) : 0 ≤ dayNo y m d ∧ dayNo y m d ≤ 182985 := by
  obtain ⟨h1, h2, _⟩ := okDate_true h
  obtain ⟨a1, a2⟩ := date_year h
  have := before_lin h1 (by omega)
  have := before_mono (x := y + 1) (y := 2201) (by omega) (by omega) (by omega)
  have e : before 2201 = 182986 := by decide
  omega

theorem exists_year {day : Int} (h0 : 0 ≤ day) : ∀ k : Nat, k ≤ 501 → day < before (1700 + k) → ∃ y : Int, 1700 ≤ y ∧ y < 1700 + k ∧ before y ≤ day ∧ day < before (y + 1)
  | 0, _, h => by have e : before (1700 + (0 : Nat)) = 0 := by decide
                  omega
  | k + 1, hk, h => by
    rcases Int.lt_or_le day (before (1700 + k)) with g | g
    · obtain ⟨y, a, b, c, d⟩ := exists_year h0 k (by omega) g
      exact ⟨y, a, by omega, c, d⟩
    · have e : (1700 : Int) + ((k + 1 : Nat) : Int) = 1700 + k + 1 := by omega
      rw [e] at h
      exact ⟨1700 + k, by omega, by omega, g, h⟩
theorem exists_month {y r : Int} (h0 : 0 ≤ r) : ∀ k : Nat, r < mbef y k → ∃ j : Nat, j < k ∧ mbef y j ≤ r ∧ r < mbef y (j + 1)
  | 0, h => by simp [mbef] at h; omega
  | k + 1, h => by
    rcases Int.lt_or_le r (mbef y k) with g | g
    · obtain ⟨j, a, b, c⟩ := exists_month h0 k g
      exact ⟨j, by omega, b, c⟩
    · exact ⟨k, by omega, g, h⟩
theorem exists_date {day : Int} (h0 : 0 ≤ day) (h1 : day ≤ 182985) : ∃ p : Int × Int × Int, okDate p.1 p.2.1 p.2.2 = true ∧ dayNo p.1 p.2.1 p.2.2 = day := by
  obtain ⟨y, a, b, c, d⟩ := exists_year h0 501 (by omega) (by have e : before (1700 + (501 : Nat)) = 182986 := by decide
                                                              omega)
  rw [before_succ a (by omega), ← mbef_12] at d
  obtain ⟨j, e, f, g⟩ := exists_month (y := y) (r := day - before y) (by omega) 12 (by omega)
  have s : mbef y (j + 1) = mbef y j + mlen y (j + 1) := rfl
  refine ⟨(y, (j : Int) + 1, day - before y - mbef y j + 1), ?_, ?_⟩
  · simp [okDate]; omega
  · have e1 : ((j : Int) + 1 - 1).toNat = j := by omega
    simp only [dayNo, e1]; omega
open Classical in
noncomputable def dateOf (day : Int) : Int × Int × Int := if h : ∃ p : Int × Int × Int, okDate p.1 p.2.1 p.2.2 = true ∧ dayNo p.1 p.2.1 p.2.2 = day then choose h else (0, 0, 0)
theorem dateOf_eq {y m d day : Int} (h : okDate y m d = true) (e : dayNo y m d = day) : dateOf day = (y, m, d) := by
  have hex : ∃ p : Int × Int × Int, okDate p.1 p.2.1 p.2.2 = true ∧ dayNo p.1 p.2.1 p.2.2 = day := ⟨(y, m, d), h, e⟩
  unfold dateOf
  rw [dif_pos hex]
  obtain ⟨a, b⟩ := Classical.choose_spec hex
  obtain ⟨e1, e2, e3⟩ := date_unique a h (b.trans e.symm)
  rw [← e1, ← e2, ← e3]
theorem dateOf_ok {day : Int} (h0 : 0 ≤ day) (h1 : day ≤ 182985) : okDate (dateOf day).1 (dateOf day).2.1 (dateOf day).2.2 = true ∧ dayNo (dateOf day).1 (dateOf day).2.1 (dateOf day).2.2 = day := by
  have hex := exists_date h0 h1
  unfold dateOf
  rw [dif_pos hex]
  exact Classical.choose_spec hex
theorem next_date {y m d : Int} (h : okDate y m d = true) (hl : dayNo y m d < 182985) :
    (d < mlen y m ∧ dateOf (dayNo y m d + 1) = (y, m, d + 1)) ∨ (d = mlen y m ∧ m < 12 ∧ dateOf (dayNo y m d + 1) = (y, m + 1, 1)) ∨ (m = 12 ∧ d = 31 ∧ dateOf (dayNo y m d + 1) = (y + 1, 1, 1)) := by
  obtain ⟨h1, h2, h3, h4, h5, h6⟩ := okDate_true h
  obtain ⟨i, rfl⟩ : ∃ k : Nat, m = k + 1 := ⟨(m - 1).toNat, by omega⟩
  have e1 : ((i : Int) + 1 - 1).toNat = i := by omega
  have e2 : ((i : Int) + 1 + 1 - 1).toNat = i + 1 := by omega
  have s : mbef y (i + 1) = mbef y i + mlen y (i + 1) := rfl
  by_cases hd : d < mlen y (i + 1)
  · refine Or.inl ⟨hd, dateOf_eq ?_ ?_⟩
    · simp [okDate]; omega
    · simp only [dayNo, e1]; omega
  by_cases hm : i < 11
  · refine Or.inr (Or.inl ⟨by omega, by omega, dateOf_eq ?_ ?_⟩)
    · have := mlen_bd y (i + 1 + 1)
      simp [okDate]; omega
    · simp only [dayNo, e1, e2]; omega
  · obtain rfl : i = 11 := by omega
    have e31 : mlen y ((11 : Nat) + 1) = 31 := by simp [mlen]
    have e12 := mbef_12 y
    have s' : mbef y 12 = mbef y 11 + mlen y ((11 : Nat) + 1) := rfl
    have e1' : (((11 : Nat) : Int) + 1 - 1).toNat = 11 := by decide
    have hy : y < 2200 := by
      rcases Int.lt_or_le y 2200 with g | g
      · exact g
      · obtain rfl : y = 2200 := by omega
        have : before 2200 = 182621 := by decide
        have : ylen 2200 = 365 := by decide
        simp only [dayNo, e1'] at hl
        omega
    refine Or.inr (Or.inr ⟨by omega, by omega, dateOf_eq ?_ ?_⟩)
    · simp [okDate, mlen]; omega
    · have := before_succ h1 h2
      have e3 : ((1 : Int) - 1).toNat = 0 := by decide
      have e4 : mbef (y + 1) 0 = 0 := rfl
      simp only [dayNo, e1', e3]; omega
end Go.Proofs.YtjkcgbidceakjaaDoor
