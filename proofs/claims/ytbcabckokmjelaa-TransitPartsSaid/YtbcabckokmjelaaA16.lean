/-
  3.4: the times of a wired transit, and that its crossing is the time or one less. Plain Lean.
-/
import Derived.Test.YtbcabckokmjelaaK2
import Derived.Test.YtbcabckokmjelaaTT
namespace Go.Proofs.Ytbcabckokmjelaa
open Go.RowKit
/-- The time at a wire. -/
def wiT (at' c n : Int) : Int := at' + n * c / 1000
def okDay (t : Int) : Bool := within t 0 86399999
def wiL (x : Tb) (s : St) (at' : Int) : List Int := x.xs.map (wiT at' s.c)
def wiV (x : Tb) (s : St) : Bool := okTube x.xs x.e && okStar s.nm s.a s.b s.c
def wiK (x : Tb) (s : St) (at' : Int) : Bool := wiV x s && (wiL x s at').all okDay
/-- What a call of Wired leaves. -/
def WiR (x : Tb) (s : St) (at' : Int) (r : Ending) (w' : World) : Prop :=
  (wiK x s at' = true ∧ ∃ u, r = .returned (.tuple #[.agg #[.string s.nm, .int .i64 s.a, .int .i64 s.b, .int .i64 s.c, u], .int .i64 0]) ∧ ∃ A c, u = .slice A (wiL x s at').length c ∧ RdL w' w'.heap.size inE 1 A (wiL x s at')) ∨
  (wiK x s at' = false ∧ r = .returned (.tuple #[.agg #[.string ⟨#[]⟩, .int .i64 0, .int .i64 0, .int .i64 0, .slice none 0 0], .int .i64 (if wiV x s = true then 7 else 1)]))
theorem okTube_true {xs : List Int} {e : Int} (h : okTube xs e = true) : (∀ j, j < xs.length → -100000 ≤ xs.getD j 0 ∧ xs.getD j 0 ≤ 100000) ∧ 1 ≤ xs.length ∧ xs.length ≤ 7 := by
  unfold okTube at h
  simp only [Bool.and_eq_true] at h
  obtain ⟨h1, h2, h3⟩ := h
  have q2 := within_true h2
  exact ⟨fun j hj => within_true (chkW_at h1 j (by omega) (by omega)), by omega, by omega⟩
theorem okStar_true {n : ByteArray} {a b c : Int} (h : okStar n a b c = true) : (0 ≤ a ∧ a ≤ 86399999) ∧ (-10000 ≤ b ∧ b ≤ 10000) ∧ 1000 ≤ c ∧ c ≤ 10000 := by
  unfold okStar at h
  simp only [Bool.and_eq_true] at h
  exact ⟨within_true h.2.1, within_true h.2.2.1, within_true h.2.2.2⟩
theorem wiT_bd {at' c n : Int} (h1 : -100000 ≤ n) (h2 : n ≤ 100000) (h3 : 1000 ≤ c) (h4 : c ≤ 10000) : (-1000000000 ≤ n * c ∧ n * c ≤ 1000000000) ∧ at' - 1000000 ≤ wiT at' c n ∧ wiT at' c n ≤ at' + 1000000 := by
  have hp := prod_bd h1 h2 h3 h4
  unfold wiT
  generalize n * c = p at *
  omega
theorem wi_get {x : Tb} {s : St} {at' : Int} {k : Nat} (h : k < x.xs.length) : (wiL x s at').getD k 0 = wiT at' s.c (x.xs.getD k 0) := by
  unfold wiL
  rw [List.getD_eq_getElem?_getD, List.getD_eq_getElem?_getD, List.getElem?_map, List.getElem?_eq_getElem h]; rfl
/-- A time far off is refused. -/
theorem wi_far {x : Tb} {s : St} {at' : Int} (h : wiV x s = true) (hf : at' < -86400000 ∨ 172800000 < at') : wiK x s at' = false := by
  cases hk : wiK x s at' with
  | false => rfl
  | true =>
    unfold wiK at hk
    unfold wiV at h
    rw [Bool.and_eq_true] at h hk
    obtain ⟨hx, h1, h7⟩ := okTube_true h.1
    obtain ⟨-, -, hc⟩ := okStar_true h.2
    have hb := (wiT_bd (at' := at') (hx 0 (by omega)).1 (hx 0 (by omega)).2 hc.1 hc.2).2
    have := List.all_eq_true.1 hk.2 ((wiL x s at').getD 0 0) (by
      rw [List.getD_eq_getElem?_getD, List.getElem?_eq_getElem (by unfold wiL; rw [List.length_map]; omega)]; exact List.getElem_mem _)
    rw [wi_get (by omega)] at this
    have := within_true this
    omega
/-- The transit that Wired makes, for the contracts. -/
def wiO (x : Tb) (s : St) (at' : Int) : Obs := ⟨x.xs, x.e, s.nm, s.a, s.b, s.c, wiL x s at'⟩
theorem wi_fits {x : Tb} {s : St} {at' : Int} (h : wiK x s at' = true) : fitsB (wiO x s at') = true := by
  unfold wiK wiV at h
  simp only [Bool.and_eq_true] at h
  obtain ⟨⟨h1, h2⟩, h3⟩ := h
  unfold fitsB wiO
  simp only [Bool.and_eq_true, decide_eq_true_eq]
  refine ⟨h1, h2, by simp [wiL], ?_⟩
  rw [List.all_eq_true] at h3 ⊢
  intro t ht
  have := within_true (h3 t ht)
  unfold okTime within
  simp only [Bool.and_eq_true, decide_eq_true_eq]
  omega
theorem wi_sum {x : Tb} {s : St} {at' : Int} (h : wiK x s at' = true) : ∀ k, k ≤ x.xs.length → crN (wiO x s at') k = k ∧ (k : Int) * (1000 * at' - 999) ≤ crS (wiO x s at') k ∧ crS (wiO x s at') k ≤ (k : Int) * (1000 * at')
  | 0, _ => by simp [crN, crS]
  | k + 1, hk => by
    obtain ⟨i1, i2, i3⟩ := wi_sum h k (by omega)
    have hk2 := h
    unfold wiK at hk2
    rw [Bool.and_eq_true] at hk2
    have hd : okDay ((wiL x s at').getD k 0) = true := List.all_eq_true.1 hk2.2 _ (by
      rw [List.getD_eq_getElem?_getD, List.getElem?_eq_getElem (by unfold wiL; rw [List.length_map]; omega)]; exact List.getElem_mem _)
    have h0 := (within_true hd).1
    have e : (wiO x s at').ts.getD k 0 = wiT at' s.c (x.xs.getD k 0) := wi_get (by omega)
    rw [wi_get (by omega)] at h0
    rw [crN, crS, e, if_pos h0, if_pos h0, i1]
    refine ⟨rfl, ?_, ?_⟩
    all_goals
      show _ ≤ _
      rw [show ((k + 1 : Nat) : Int) = (k : Int) + 1 from rfl, Int.add_mul, Int.one_mul]
      unfold wiT
      show _ ≤ _
      have : (wiO x s at').xs.getD k 0 = x.xs.getD k 0 := rfl
      have hc : (wiO x s at').c = s.c := rfl
      rw [this, hc]
      generalize x.xs.getD k 0 * s.c = p at *
      omega
theorem wi_cross {x : Tb} {s : St} {at' : Int} (h : wiK x s at' = true) : crE (wiO x s at') = 0 ∧ (crV (wiO x s at') = at' ∨ crV (wiO x s at') = at' - 1) := by
  have hf := wi_fits h
  have hlen : (wiO x s at').ts.length = x.xs.length := by show (wiL x s at').length = _; simp [wiL]
  have hx1 : 1 ≤ x.xs.length := (fits_at hf).n1
  obtain ⟨h1, h2, h3⟩ := wi_sum h x.xs.length (Nat.le_refl _)
  rw [← hlen] at h1 h2 h3
  have hN : crN (wiO x s at') (wiO x s at').ts.length ≠ 0 := by omega
  unfold crE crV crQ
  rw [if_pos hf, if_pos hf, if_neg hN, if_neg hN, h1]
  refine ⟨rfl, ?_⟩
  generalize (wiO x s at').ts.length = n at *
  generalize crS (wiO x s at') n = S at *
  have hn : 1 ≤ n := by omega
  have hpos : (0 : Int) < 1000 * (n : Int) := by omega
  have a1 : at' - 1 ≤ S / (1000 * (n : Int)) := by
    rw [Int.le_ediv_iff_mul_le hpos]
    have : (at' - 1) * (1000 * (n : Int)) = (n : Int) * (1000 * at' - 1000) := by rw [Int.sub_mul, Int.mul_sub, Int.one_mul]; congr 1 <;> first | (rw [Int.mul_comm, Int.mul_assoc, Int.mul_left_comm]) | omega
    have h4 : (n : Int) * (1000 * at' - 1000) ≤ (n : Int) * (1000 * at' - 999) := Int.mul_le_mul_of_nonneg_left (by omega) (by omega)
    omega
  have a2 : S / (1000 * (n : Int)) ≤ at' := by
    refine Int.le_of_lt_add_one ?_
    rw [Int.ediv_lt_iff_lt_mul hpos]
    have : (at' + 1) * (1000 * (n : Int)) = (n : Int) * (1000 * at') + 1000 * n := by rw [Int.add_mul, Int.one_mul]; congr 1; rw [Int.mul_comm, Int.mul_assoc, Int.mul_left_comm]
    omega
  omega
end Go.Proofs.Ytbcabckokmjelaa
