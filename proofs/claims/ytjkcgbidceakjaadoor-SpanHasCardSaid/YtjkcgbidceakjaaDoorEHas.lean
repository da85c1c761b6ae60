/-
  The walk of the law SpanHas: sums, opposites, meets, hulls and wider spans have what they must. No conditions.
-/
import Derived.Test.YtjkcgbidceakjaaDoorD9
import Derived.Test.YtjkcgbidceakjaaDoorD22
import Derived.Laws.StructEq
import Derived.Deep.DeepCutAuto
namespace Go.Proofs.YtjkcgbidceakjaaDoor
open Go.RowKit
set_option linter.unusedVariables false
set_option linter.unusedSimpArgs false
def hasB (lo hi n : Int) : Bool := decide (lo ≤ n) && decide (n ≤ hi)
theorem hasB_true {lo hi n : Int} (h : hasB lo hi n = true) : lo ≤ n ∧ n ≤ hi := by simpa [hasB] using h
theorem hasB_mk {lo hi n : Int} (h : lo ≤ n ∧ n ≤ hi) : hasB lo hi n = true := by simpa [hasB] using h
theorem hasB_not {lo hi n : Int} (h : ¬ (lo ≤ n ∧ n ≤ hi)) : hasB lo hi n = false := by
  unfold hasB; rw [Bool.and_eq_false_iff]; simp only [decide_eq_false_iff_not]; omega
theorem hasB_no {lo hi n : Int} (h : hasB lo hi n = false) : ¬ (lo ≤ n ∧ n ≤ hi) := fun k => by rw [hasB_mk k] at h; cases h
theorem has_c (lo hi n : Int) (w : World) : Calls Tryd.prog 47 #[.agg #[.int .i64 lo, .int .i64 hi], .int .i64 n] w fun e w' => e = .returned (.bool (hasB lo hi n)) ∧ Below w.heap.size w w' := by
  unfold hasB
  by_cases h1 : lo ≤ n
  · by_cases h2 : n ≤ hi
    · have g1 := decide_eq_true h1
      have g2 := decide_eq_true h2
      rw [g1, g2]
      go_enter Tryd.func47, Tryd.ntmps47
      go_wp2
      go_ret
      exact ⟨(by first | rfl | (simp; done) | (simp; omega) | (simp [*]; done)), by (repeat (first | (with_reducible exact Below.refl _ _) | (with_reducible assumption) | (with_reducible refine Below.drew ?_) | (with_reducible refine Below.allocS ?_ _) | (with_reducible refine Below.setCell ?_ ?_ _) | (with_reducible refine Below.step ?_ (by assumption)) | (with_reducible refine Below.drewN' ?_ _))); (try any_goals (first | (with_reducible assumption) | (simp; done) | (simp; omega) | omega))⟩
    · have g1 := decide_eq_true h1
      have g2 := decide_eq_false h2
      rw [g1, g2]
      go_enter Tryd.func47, Tryd.ntmps47
      go_wp2
      go_ret
      exact ⟨(by first | rfl | (simp; done) | (simp; omega) | (simp [*]; done)), by (repeat (first | (with_reducible exact Below.refl _ _) | (with_reducible assumption) | (with_reducible refine Below.drew ?_) | (with_reducible refine Below.allocS ?_ _) | (with_reducible refine Below.setCell ?_ ?_ _) | (with_reducible refine Below.step ?_ (by assumption)) | (with_reducible refine Below.drewN' ?_ _))); (try any_goals (first | (with_reducible assumption) | (simp; done) | (simp; omega) | omega))⟩
  · have g1 := decide_eq_false h1
    rw [g1, Bool.false_and]
    go_enter Tryd.func47, Tryd.ntmps47
    go_wp2
    go_ret
    exact ⟨(by first | rfl | (simp; done) | (simp; omega) | (simp [*]; done)), by (repeat (first | (with_reducible exact Below.refl _ _) | (with_reducible assumption) | (with_reducible refine Below.drew ?_) | (with_reducible refine Below.allocS ?_ _) | (with_reducible refine Below.setCell ?_ ?_ _) | (with_reducible refine Below.step ?_ (by assumption)) | (with_reducible refine Below.drewN' ?_ _))); (try any_goals (first | (with_reducible assumption) | (simp; done) | (simp; omega) | omega))⟩
set_option maxHeartbeats 2000000 in
set_option maxRecDepth 100000 in
theorem SpanHas_walk (a b c d n m : Int) (w0 : I64 a) (w1 : I64 b) (w2 : I64 c) (w3 : I64 d) (w4 : I64 n) (w5 : I64 m) (w : World) : Calls Tryd.prog 10 #[.agg #[.int .i64 a, .int .i64 b], .agg #[.int .i64 c, .int .i64 d], .agg #[.int .i64 n, .int .i64 m]] w fun e w' => e = .returned (.bool true) ∧ Below w.heap.size w w' := by
  have V1 := Lib.hid (fun W => rValidSpan_c a b W)
  have V2 := Lib.hid (fun W => rValidSpan_c c d W)
  clear w0 w1 w2 w3 w4 w5
  cases h1 : okSpan a b
  · rw [h1] at V1
    clear h1
    go_enter Tryd.func10, Tryd.ntmps10
    go_wp2_with fail
    refine (V1.out _).mono ?_
    rintro e w1 ⟨rfl, hb1⟩
    have x1_0_0 : w1.cell? ⟨w.heap.size, 0, none⟩ = some (.int .i64 a) := keep_cell hb1 (by simp [go_sem, *])
    have x1_0_1 : w1.cell? ⟨w.heap.size, 1, none⟩ = some (.int .i64 b) := keep_cell hb1 (by simp [go_sem, *])
    have y1_0 : w.heap.size < w1.heap.size := cell?_lt x1_0_0
    have x1_1_0 : w1.cell? ⟨w.heap.size + 1, 0, none⟩ = some (.int .i64 c) := keep_cell hb1 (by simp [go_sem, *])
    have x1_1_1 : w1.cell? ⟨w.heap.size + 1, 1, none⟩ = some (.int .i64 d) := keep_cell hb1 (by simp [go_sem, *])
    have y1_1 : w.heap.size + 1 < w1.heap.size := cell?_lt x1_1_0
    have x1_2_0 : w1.cell? ⟨w.heap.size + 1 + 1, 0, none⟩ = some (.int .i64 n) := keep_cell hb1 (by simp [go_sem, *])
    have x1_2_1 : w1.cell? ⟨w.heap.size + 1 + 1, 1, none⟩ = some (.int .i64 m) := keep_cell hb1 (by simp [go_sem, *])
    have y1_2 : w.heap.size + 1 + 1 < w1.heap.size := cell?_lt x1_2_0
    have g1 : Below w.heap.size w w1 := by (repeat (first | exact Below.refl _ _ | refine Below.drew ?_ | refine Below.allocS ?_ _ | refine Below.step ?_ (by assumption) | refine Below.setCell ?_ (by simp <;> omega) _ | refine Below.drewN' ?_ _))
    clear hb1
    go_wp2_with fail
    refine (awake_c _).mono ?_
    rintro e w2 ⟨rfl, hb2⟩
    have x2_0_0 : w2.cell? ⟨w.heap.size, 0, none⟩ = some (.int .i64 a) := keep_cell hb2 (by simp [go_sem, *])
    have x2_0_1 : w2.cell? ⟨w.heap.size, 1, none⟩ = some (.int .i64 b) := keep_cell hb2 (by simp [go_sem, *])
    have y2_0 : w.heap.size < w2.heap.size := cell?_lt x2_0_0
    have x2_1_0 : w2.cell? ⟨w.heap.size + 1, 0, none⟩ = some (.int .i64 c) := keep_cell hb2 (by simp [go_sem, *])
    have x2_1_1 : w2.cell? ⟨w.heap.size + 1, 1, none⟩ = some (.int .i64 d) := keep_cell hb2 (by simp [go_sem, *])
    have y2_1 : w.heap.size + 1 < w2.heap.size := cell?_lt x2_1_0
    have x2_2_0 : w2.cell? ⟨w.heap.size + 1 + 1, 0, none⟩ = some (.int .i64 n) := keep_cell hb2 (by simp [go_sem, *])
    have x2_2_1 : w2.cell? ⟨w.heap.size + 1 + 1, 1, none⟩ = some (.int .i64 m) := keep_cell hb2 (by simp [go_sem, *])
    have y2_2 : w.heap.size + 1 + 1 < w2.heap.size := cell?_lt x2_2_0
    have g2 : Below w.heap.size w w2 := by (repeat (first | exact Below.refl _ _ | refine Below.drew ?_ | refine Below.allocS ?_ _ | refine Below.step ?_ (by assumption) | refine Below.setCell ?_ (by simp <;> omega) _ | refine Below.drewN' ?_ _))
    clear hb2 g1 x1_0_0 x1_0_1 x1_1_0 x1_1_1 x1_2_0 x1_2_1 y1_0 y1_1 y1_2
    go_wp2
    go_ret
    exact ⟨(by first | rfl | (simp; done) | (simp; omega) | (simp [*]; done)), by (repeat (first | (with_reducible exact Below.refl _ _) | (with_reducible assumption) | (with_reducible refine Below.drew ?_) | (with_reducible refine Below.allocS ?_ _) | (with_reducible refine Below.setCell ?_ ?_ _) | (with_reducible refine Below.step ?_ (by assumption)) | (with_reducible refine Below.drewN' ?_ _))); (try any_goals (first | (with_reducible assumption) | (simp; done) | (simp; omega) | omega))⟩
  cases h2 : okSpan c d
  · rw [h1] at V1
    rw [h2] at V2
    clear h1 h2
    go_enter Tryd.func10, Tryd.ntmps10
    go_wp2_with fail
    refine (V1.out _).mono ?_
    rintro e w1 ⟨rfl, hb1⟩
    have x1_0_0 : w1.cell? ⟨w.heap.size, 0, none⟩ = some (.int .i64 a) := keep_cell hb1 (by simp [go_sem, *])
    have x1_0_1 : w1.cell? ⟨w.heap.size, 1, none⟩ = some (.int .i64 b) := keep_cell hb1 (by simp [go_sem, *])
    have y1_0 : w.heap.size < w1.heap.size := cell?_lt x1_0_0
    have x1_1_0 : w1.cell? ⟨w.heap.size + 1, 0, none⟩ = some (.int .i64 c) := keep_cell hb1 (by simp [go_sem, *])
    have x1_1_1 : w1.cell? ⟨w.heap.size + 1, 1, none⟩ = some (.int .i64 d) := keep_cell hb1 (by simp [go_sem, *])
    have y1_1 : w.heap.size + 1 < w1.heap.size := cell?_lt x1_1_0
    have x1_2_0 : w1.cell? ⟨w.heap.size + 1 + 1, 0, none⟩ = some (.int .i64 n) := keep_cell hb1 (by simp [go_sem, *])
    have x1_2_1 : w1.cell? ⟨w.heap.size + 1 + 1, 1, none⟩ = some (.int .i64 m) := keep_cell hb1 (by simp [go_sem, *])
    have y1_2 : w.heap.size + 1 + 1 < w1.heap.size := cell?_lt x1_2_0
    have g1 : Below w.heap.size w w1 := by (repeat (first | exact Below.refl _ _ | refine Below.drew ?_ | refine Below.allocS ?_ _ | refine Below.step ?_ (by assumption) | refine Below.setCell ?_ (by simp <;> omega) _ | refine Below.drewN' ?_ _))
    clear hb1
    go_wp2_with fail
    refine (V2.out _).mono ?_
    rintro e w2 ⟨rfl, hb2⟩
    have x2_0_0 : w2.cell? ⟨w.heap.size, 0, none⟩ = some (.int .i64 a) := keep_cell hb2 (by simp [go_sem, *])
    have x2_0_1 : w2.cell? ⟨w.heap.size, 1, none⟩ = some (.int .i64 b) := keep_cell hb2 (by simp [go_sem, *])
    have y2_0 : w.heap.size < w2.heap.size := cell?_lt x2_0_0
    have x2_1_0 : w2.cell? ⟨w.heap.size + 1, 0, none⟩ = some (.int .i64 c) := keep_cell hb2 (by simp [go_sem, *])
    have x2_1_1 : w2.cell? ⟨w.heap.size + 1, 1, none⟩ = some (.int .i64 d) := keep_cell hb2 (by simp [go_sem, *])
    have y2_1 : w.heap.size + 1 < w2.heap.size := cell?_lt x2_1_0
    have x2_2_0 : w2.cell? ⟨w.heap.size + 1 + 1, 0, none⟩ = some (.int .i64 n) := keep_cell hb2 (by simp [go_sem, *])
    have x2_2_1 : w2.cell? ⟨w.heap.size + 1 + 1, 1, none⟩ = some (.int .i64 m) := keep_cell hb2 (by simp [go_sem, *])
    have y2_2 : w.heap.size + 1 + 1 < w2.heap.size := cell?_lt x2_2_0
    have g2 : Below w.heap.size w w2 := by (repeat (first | exact Below.refl _ _ | refine Below.drew ?_ | refine Below.allocS ?_ _ | refine Below.step ?_ (by assumption) | refine Below.setCell ?_ (by simp <;> omega) _ | refine Below.drewN' ?_ _))
    clear hb2 g1 x1_0_0 x1_0_1 x1_1_0 x1_1_1 x1_2_0 x1_2_1 y1_0 y1_1 y1_2
    go_wp2_with fail
    refine (awake_c _).mono ?_
    rintro e w3 ⟨rfl, hb3⟩
    have x3_0_0 : w3.cell? ⟨w.heap.size, 0, none⟩ = some (.int .i64 a) := keep_cell hb3 (by simp [go_sem, *])
    have x3_0_1 : w3.cell? ⟨w.heap.size, 1, none⟩ = some (.int .i64 b) := keep_cell hb3 (by simp [go_sem, *])
    have y3_0 : w.heap.size < w3.heap.size := cell?_lt x3_0_0
    have x3_1_0 : w3.cell? ⟨w.heap.size + 1, 0, none⟩ = some (.int .i64 c) := keep_cell hb3 (by simp [go_sem, *])
    have x3_1_1 : w3.cell? ⟨w.heap.size + 1, 1, none⟩ = some (.int .i64 d) := keep_cell hb3 (by simp [go_sem, *])
    have y3_1 : w.heap.size + 1 < w3.heap.size := cell?_lt x3_1_0
    have x3_2_0 : w3.cell? ⟨w.heap.size + 1 + 1, 0, none⟩ = some (.int .i64 n) := keep_cell hb3 (by simp [go_sem, *])
    have x3_2_1 : w3.cell? ⟨w.heap.size + 1 + 1, 1, none⟩ = some (.int .i64 m) := keep_cell hb3 (by simp [go_sem, *])
    have y3_2 : w.heap.size + 1 + 1 < w3.heap.size := cell?_lt x3_2_0
    have g3 : Below w.heap.size w w3 := by (repeat (first | exact Below.refl _ _ | refine Below.drew ?_ | refine Below.allocS ?_ _ | refine Below.step ?_ (by assumption) | refine Below.setCell ?_ (by simp <;> omega) _ | refine Below.drewN' ?_ _))
    clear hb3 g2 x2_0_0 x2_0_1 x2_1_0 x2_1_1 x2_2_0 x2_2_1 y2_0 y2_1 y2_2
    go_wp2
    go_ret
    exact ⟨(by first | rfl | (simp; done) | (simp; omega) | (simp [*]; done)), by (repeat (first | (with_reducible exact Below.refl _ _) | (with_reducible assumption) | (with_reducible refine Below.drew ?_) | (with_reducible refine Below.allocS ?_ _) | (with_reducible refine Below.setCell ?_ ?_ _) | (with_reducible refine Below.step ?_ (by assumption)) | (with_reducible refine Below.drewN' ?_ _))); (try any_goals (first | (with_reducible assumption) | (simp; done) | (simp; omega) | omega))⟩
  rw [h1] at V1
  rw [h2] at V2
  obtain ⟨a0, ab, b0⟩ := okSpan_true h1
  obtain ⟨c0, cd, d0⟩ := okSpan_true h2
  have H1 := Lib.hid (fun W => Meet_c a b c d W)
  have H2 := Lib.hid (fun W => Hull_c a b c d W)
  have H3 := Lib.hid (fun W => Sum_c a b c d W)
  have H4 := Lib.hid (fun W => Opposite_c a b W)
  have H5 := Lib.hid (fun W => Wider_c a b 1 W)
  have HH := Lib.hid (fun lo hi x W => has_c lo hi x W)
  -- what Meet gives
  obtain ⟨p, q, z, hm⟩ : ∃ p q z, meetR a b c d = (p, q, z) := ⟨_, _, _, rfl⟩
  have KM : (z = 0 ∧ hasB p q n = (hasB a b n && hasB c d n)) ∨ (z = 8 ∧ (hasB a b n && hasB c d n) = false) := by
    unfold meetR at hm
    rw [h1, h2] at hm
    simp only [Bool.and_self, if_true] at hm
    by_cases hlt : min b d < max a c
    · rw [if_pos hlt] at hm
      simp only [Prod.mk.injEq] at hm
      refine Or.inr ⟨by omega, ?_⟩
      cases hx : hasB a b n
      · rfl
      · cases hy : hasB c d n
        · rfl
        · have := hasB_true hx
          have := hasB_true hy
          omega
    · rw [if_neg hlt] at hm
      simp only [Prod.mk.injEq] at hm
      obtain ⟨rfl, rfl, rfl⟩ := hm
      refine Or.inl ⟨rfl, ?_⟩
      unfold hasB
      rw [Bool.eq_iff_iff]
      simp only [Bool.and_eq_true, decide_eq_true_eq]
      omega
  rw [hm] at H1
  -- what Hull gives
  have hh : hullR a b c d = (min a c, max b d, 0) := by unfold hullR; rw [h1, h2]; rfl
  rw [hh] at H2
  obtain ⟨hl, hr, eh⟩ : ∃ l r, min a c = l ∧ max b d = r := ⟨_, _, rfl, rfl⟩
  obtain ⟨el, er⟩ := eh
  rw [el, er] at H2
  have KH : (hasB a b n = false ∧ hasB c d n = false) ∨ hasB hl hr n = true := by
    cases hx : hasB a b n
    · cases hy : hasB c d n
      · exact Or.inl ⟨rfl, rfl⟩
      · have := hasB_true hy
        exact Or.inr (hasB_mk (by omega))
    · have := hasB_true hx
      exact Or.inr (hasB_mk (by omega))
  -- what Sum gives
  have hs : sumR a b c d = tell (a + c) (b + d) := by unfold sumR; rw [h1, h2]; rfl
  rw [hs] at H3
  obtain ⟨sp, sq, sz, hst⟩ : ∃ p q z, tell (a + c) (b + d) = (p, q, z) := ⟨_, _, _, rfl⟩
  have KS : sz = 4 ∨ sz = 0 ∧ (hasB a b n = false ∨ hasB c d m = false ∨ hasB sp sq (n + m) = true) := by
    unfold tell at hst
    split at hst
    · simp only [Prod.mk.injEq] at hst
      obtain ⟨rfl, rfl, rfl⟩ := hst
      refine Or.inr ⟨rfl, ?_⟩
      cases hx : hasB a b n
      · exact Or.inl rfl
      · cases hy : hasB c d m
        · exact Or.inr (Or.inl rfl)
        · have := hasB_true hx
          have := hasB_true hy
          exact Or.inr (Or.inr (hasB_mk (by omega)))
    · simp only [Prod.mk.injEq] at hst
      left; omega
  have WS : hasB a b n = true → hasB c d m = true → IntKind.i64.wrap (n + m) = n + m := fun hx hy => IntWalk.i64_in _ (by have := hasB_true hx; have := hasB_true hy; omega)
  rw [hst] at H3
  -- what Opposite gives
  have ho : oppR a b = (-b, -a, 0) := by unfold oppR; rw [h1]; rfl
  rw [ho] at H4
  have KO : hasB a b n = true → hasB (-b) (-a) (-n) = true ∧ IntKind.i64.wrap (-n) = -n := fun hx => by
    have := hasB_true hx
    exact ⟨hasB_mk (by omega), IntWalk.i64_in _ (by omega)⟩
  -- what Wider gives
  have hw : widR a b 1 = tell (a - 1) (b + 1) := by unfold widR; rw [h1]; rfl
  rw [hw] at H5
  obtain ⟨wp, wq, wz, hwt⟩ : ∃ p q z, tell (a - 1) (b + 1) = (p, q, z) := ⟨_, _, _, rfl⟩
  have KW : wz = 4 ∨ wz = 0 ∧ (hasB a b n = false ∨ hasB a b n = true ∧ hasB wp wq n = true ∧ hasB wp wq (n - 1) = true ∧ hasB wp wq (n + 1) = true ∧ IntKind.i64.wrap (n - 1) = n - 1 ∧ IntKind.i64.wrap (n + 1) = n + 1) := by
    unfold tell at hwt
    split at hwt
    · simp only [Prod.mk.injEq] at hwt
      obtain ⟨rfl, rfl, rfl⟩ := hwt
      refine Or.inr ⟨rfl, ?_⟩
      cases hx : hasB a b n
      · exact Or.inl rfl
      · have := hasB_true hx
        exact Or.inr ⟨rfl, hasB_mk (by omega), hasB_mk (by omega), hasB_mk (by omega), IntWalk.i64_in _ (by omega), IntWalk.i64_in _ (by omega)⟩
    · simp only [Prod.mk.injEq] at hwt
      left; omega
  rw [hwt] at H5
  have KM := Lib.hid KM
  have KH := Lib.hid KH
  have KS := Lib.hid KS
  have WS := Lib.hid WS
  have KO := Lib.hid KO
  have KW := Lib.hid KW
  clear hm hh el er hs hst ho hw hwt h1 h2
  clear a0 ab b0 c0 cd d0
  unfold retV at *
  go_enter Tryd.func10, Tryd.ntmps10
  go_wp2_with fail
  refine (V1.out _).mono ?_
  rintro e w1 ⟨rfl, hb1⟩
  have x1_0_0 : w1.cell? ⟨w.heap.size, 0, none⟩ = some (.int .i64 a) := keep_cell hb1 (by simp [go_sem, *])
  have x1_0_1 : w1.cell? ⟨w.heap.size, 1, none⟩ = some (.int .i64 b) := keep_cell hb1 (by simp [go_sem, *])
  have y1_0 : w.heap.size < w1.heap.size := cell?_lt x1_0_0
  have x1_1_0 : w1.cell? ⟨w.heap.size + 1, 0, none⟩ = some (.int .i64 c) := keep_cell hb1 (by simp [go_sem, *])
  have x1_1_1 : w1.cell? ⟨w.heap.size + 1, 1, none⟩ = some (.int .i64 d) := keep_cell hb1 (by simp [go_sem, *])
  have y1_1 : w.heap.size + 1 < w1.heap.size := cell?_lt x1_1_0
  have x1_2_0 : w1.cell? ⟨w.heap.size + 1 + 1, 0, none⟩ = some (.int .i64 n) := keep_cell hb1 (by simp [go_sem, *])
  have x1_2_1 : w1.cell? ⟨w.heap.size + 1 + 1, 1, none⟩ = some (.int .i64 m) := keep_cell hb1 (by simp [go_sem, *])
  have y1_2 : w.heap.size + 1 + 1 < w1.heap.size := cell?_lt x1_2_0
  have g1 : Below w.heap.size w w1 := by (repeat (first | exact Below.refl _ _ | refine Below.drew ?_ | refine Below.allocS ?_ _ | refine Below.step ?_ (by assumption) | refine Below.setCell ?_ (by simp <;> omega) _ | refine Below.drewN' ?_ _))
  clear hb1
  go_wp2_with fail
  refine (V2.out _).mono ?_
  rintro e w2 ⟨rfl, hb2⟩
  have x2_0_0 : w2.cell? ⟨w.heap.size, 0, none⟩ = some (.int .i64 a) := keep_cell hb2 (by simp [go_sem, *])
  have x2_0_1 : w2.cell? ⟨w.heap.size, 1, none⟩ = some (.int .i64 b) := keep_cell hb2 (by simp [go_sem, *])
  have y2_0 : w.heap.size < w2.heap.size := cell?_lt x2_0_0
  have x2_1_0 : w2.cell? ⟨w.heap.size + 1, 0, none⟩ = some (.int .i64 c) := keep_cell hb2 (by simp [go_sem, *])
  have x2_1_1 : w2.cell? ⟨w.heap.size + 1, 1, none⟩ = some (.int .i64 d) := keep_cell hb2 (by simp [go_sem, *])
  have y2_1 : w.heap.size + 1 < w2.heap.size := cell?_lt x2_1_0
  have x2_2_0 : w2.cell? ⟨w.heap.size + 1 + 1, 0, none⟩ = some (.int .i64 n) := keep_cell hb2 (by simp [go_sem, *])
  have x2_2_1 : w2.cell? ⟨w.heap.size + 1 + 1, 1, none⟩ = some (.int .i64 m) := keep_cell hb2 (by simp [go_sem, *])
  have y2_2 : w.heap.size + 1 + 1 < w2.heap.size := cell?_lt x2_2_0
  have g2 : Below w.heap.size w w2 := by (repeat (first | exact Below.refl _ _ | refine Below.drew ?_ | refine Below.allocS ?_ _ | refine Below.step ?_ (by assumption) | refine Below.setCell ?_ (by simp <;> omega) _ | refine Below.drewN' ?_ _))
  clear hb2 g1 x1_0_0 x1_0_1 x1_1_0 x1_1_1 x1_2_0 x1_2_1 y1_0 y1_1 y1_2
  go_wp2_with fail
  refine region_below (by kernel_rfl) (by kernel_rfl) ?_
  (first | go_big_quiet_skip | (go_big_quiet_want; refine quiet_val (v := ?_) ?_ ?_; rotate_left 1; (· (intro Wq hWq; obtain ⟨hWc, hWf⟩ := bcell hWq; go_simp; (try with_reducible rfl))); go_big_quiet_on; (try simp only [Act.put, List.setIfInBounds_toArray, List.set_cons_zero, List.set_cons_succ])))
  (first | go_big_quiet_skip | (go_big_quiet_want; refine quiet_val (v := ?_) ?_ ?_; rotate_left 1; (· (intro Wq hWq; obtain ⟨hWc, hWf⟩ := bcell hWq; go_simp; (try with_reducible rfl))); go_big_quiet_on; (try simp only [Act.put, List.setIfInBounds_toArray, List.set_cons_zero, List.set_cons_succ])))
  (first | go_big_quiet_skip | (go_big_quiet_want; refine quiet_val (v := ?_) ?_ ?_; rotate_left 1; (· (intro Wq hWq; obtain ⟨hWc, hWf⟩ := bcell hWq; go_simp; (try with_reducible rfl))); go_big_quiet_on; (try simp only [Act.put, List.setIfInBounds_toArray, List.set_cons_zero, List.set_cons_succ])))
  (first | go_big_quiet_skip | (go_big_quiet_want; refine quiet_val (v := ?_) ?_ ?_; rotate_left 1; (· (intro Wq hWq; obtain ⟨hWc, hWf⟩ := bcell hWq; go_simp; (try with_reducible rfl))); go_big_quiet_on; (try simp only [Act.put, List.setIfInBounds_toArray, List.set_cons_zero, List.set_cons_succ])))
  (first | go_big_quiet_skip | (go_big_quiet_want; refine quiet_val (v := ?_) ?_ ?_; rotate_left 1; (· (intro Wq hWq; obtain ⟨hWc, hWf⟩ := bcell hWq; go_simp; (try with_reducible rfl))); go_big_quiet_on; (try simp only [Act.put, List.setIfInBounds_toArray, List.set_cons_zero, List.set_cons_succ])))
  (first | go_big_quiet_skip | (go_big_quiet_want; refine quiet_val (v := ?_) ?_ ?_; rotate_left 1; (· (intro Wq hWq; obtain ⟨hWc, hWf⟩ := bcell hWq; go_simp; (try with_reducible rfl))); go_big_quiet_on; (try simp only [Act.put, List.setIfInBounds_toArray, List.set_cons_zero, List.set_cons_succ])))
  refine wpQuiet_nil ?_; intro w3 hb3
  have x3_0_0 : w3.cell? ⟨w.heap.size, 0, none⟩ = some (.int .i64 a) := keep_cell hb3 (by simp [go_sem, *])
  have x3_0_1 : w3.cell? ⟨w.heap.size, 1, none⟩ = some (.int .i64 b) := keep_cell hb3 (by simp [go_sem, *])
  have y3_0 : w.heap.size < w3.heap.size := cell?_lt x3_0_0
  have x3_1_0 : w3.cell? ⟨w.heap.size + 1, 0, none⟩ = some (.int .i64 c) := keep_cell hb3 (by simp [go_sem, *])
  have x3_1_1 : w3.cell? ⟨w.heap.size + 1, 1, none⟩ = some (.int .i64 d) := keep_cell hb3 (by simp [go_sem, *])
  have y3_1 : w.heap.size + 1 < w3.heap.size := cell?_lt x3_1_0
  have x3_2_0 : w3.cell? ⟨w.heap.size + 1 + 1, 0, none⟩ = some (.int .i64 n) := keep_cell hb3 (by simp [go_sem, *])
  have x3_2_1 : w3.cell? ⟨w.heap.size + 1 + 1, 1, none⟩ = some (.int .i64 m) := keep_cell hb3 (by simp [go_sem, *])
  have y3_2 : w.heap.size + 1 + 1 < w3.heap.size := cell?_lt x3_2_0
  have g3 : Below w.heap.size w w3 := by (repeat (first | exact Below.refl _ _ | refine Below.drew ?_ | refine Below.allocS ?_ _ | refine Below.step ?_ (by assumption) | refine Below.setCell ?_ (by simp <;> omega) _ | refine Below.drewN' ?_ _))
  clear hb3 g2 x2_0_0 x2_0_1 x2_1_0 x2_1_1 x2_2_0 x2_2_1 y2_0 y2_1 y2_2
  go_wp2_with fail
  refine (H1.out _).mono ?_
  rintro e w4 ⟨rfl, hb4⟩
  have x4_0_0 : w4.cell? ⟨w.heap.size, 0, none⟩ = some (.int .i64 a) := keep_cell hb4 (by simp [go_sem, *])
  have x4_0_1 : w4.cell? ⟨w.heap.size, 1, none⟩ = some (.int .i64 b) := keep_cell hb4 (by simp [go_sem, *])
  have y4_0 : w.heap.size < w4.heap.size := cell?_lt x4_0_0
  have x4_1_0 : w4.cell? ⟨w.heap.size + 1, 0, none⟩ = some (.int .i64 c) := keep_cell hb4 (by simp [go_sem, *])
  have x4_1_1 : w4.cell? ⟨w.heap.size + 1, 1, none⟩ = some (.int .i64 d) := keep_cell hb4 (by simp [go_sem, *])
  have y4_1 : w.heap.size + 1 < w4.heap.size := cell?_lt x4_1_0
  have x4_2_0 : w4.cell? ⟨w.heap.size + 1 + 1, 0, none⟩ = some (.int .i64 n) := keep_cell hb4 (by simp [go_sem, *])
  have x4_2_1 : w4.cell? ⟨w.heap.size + 1 + 1, 1, none⟩ = some (.int .i64 m) := keep_cell hb4 (by simp [go_sem, *])
  have y4_2 : w.heap.size + 1 + 1 < w4.heap.size := cell?_lt x4_2_0
  have g4 : Below w.heap.size w w4 := by (repeat (first | exact Below.refl _ _ | refine Below.drew ?_ | refine Below.allocS ?_ _ | refine Below.step ?_ (by assumption) | refine Below.setCell ?_ (by simp <;> omega) _ | refine Below.drewN' ?_ _))
  clear hb4 g3 x3_0_0 x3_0_1 x3_1_0 x3_1_1 x3_2_0 x3_2_1 y3_0 y3_1 y3_2
  go_upto_region 5 with fail
  go_cut [67] (fun s67 w5 => (s67 = .bool false) ∧ w5.cell? ⟨w.heap.size, 0, none⟩ = some (.int .i64 a) ∧ w5.cell? ⟨w.heap.size, 1, none⟩ = some (.int .i64 b) ∧ w5.cell? ⟨w.heap.size + 1, 0, none⟩ = some (.int .i64 c) ∧ w5.cell? ⟨w.heap.size + 1, 1, none⟩ = some (.int .i64 d) ∧ w5.cell? ⟨w.heap.size + 1 + 1, 0, none⟩ = some (.int .i64 n) ∧ w5.cell? ⟨w.heap.size + 1 + 1, 1, none⟩ = some (.int .i64 m) ∧ w5.cell? ⟨w4.heap.size, 0, none⟩ = some (.int .i64 p) ∧ w5.cell? ⟨w4.heap.size, 1, none⟩ = some (.int .i64 q) ∧ Below w.heap.size w w5)
  case first =>
    rcases KM.out with ⟨kz, kh⟩ | ⟨kz, kh⟩
    · subst kz
      cases hA : hasB a b n
      · rw [hA, Bool.false_and] at kh
        refine region_below (by kernel_rfl) (by kernel_rfl) ?_
        (first | go_big_quiet_skip | (go_big_quiet_want; refine quiet_val (v := ?_) ?_ ?_; rotate_left 1; (· (intro Wq hWq; obtain ⟨hWc, hWf⟩ := bcell hWq; go_simp; (try with_reducible rfl))); go_big_quiet_on; (try simp only [Act.put, List.setIfInBounds_toArray, List.set_cons_zero, List.set_cons_succ])))
        (first | go_big_quiet_skip | (go_big_quiet_want; refine quiet_val (v := ?_) ?_ ?_; rotate_left 1; (· (intro Wq hWq; obtain ⟨hWc, hWf⟩ := bcell hWq; go_simp; (try with_reducible rfl))); go_big_quiet_on; (try simp only [Act.put, List.setIfInBounds_toArray, List.set_cons_zero, List.set_cons_succ])))
        (first | go_big_quiet_skip | (go_big_quiet_want; refine quiet_val (v := ?_) ?_ ?_; rotate_left 1; (· (intro Wq hWq; obtain ⟨hWc, hWf⟩ := bcell hWq; go_simp; (try with_reducible rfl))); go_big_quiet_on; (try simp only [Act.put, List.setIfInBounds_toArray, List.set_cons_zero, List.set_cons_succ])))
        (first | go_big_quiet_skip | (go_big_quiet_want; refine quiet_val (v := ?_) ?_ ?_; rotate_left 1; (· (intro Wq hWq; obtain ⟨hWc, hWf⟩ := bcell hWq; go_simp; (try with_reducible rfl))); go_big_quiet_on; (try simp only [Act.put, List.setIfInBounds_toArray, List.set_cons_zero, List.set_cons_succ])))
        (first | go_big_quiet_skip | (go_big_quiet_want; refine quiet_val (v := ?_) ?_ ?_; rotate_left 1; (· (intro Wq hWq; obtain ⟨hWc, hWf⟩ := bcell hWq; go_simp; (try with_reducible rfl))); go_big_quiet_on; (try simp only [Act.put, List.setIfInBounds_toArray, List.set_cons_zero, List.set_cons_succ])))
        go_big_quiet_want; refine quiet_callB (f := 47) (args := ?_) (v := ?_) ?_ ?_ ?_; rotate_left 2
        · (intro Wq hWq; obtain ⟨hWc, hWf⟩ := bcell hWq; go_simp; (first | with_reducible rfl | exact ⟨rfl, rfl⟩))
        · (intro Wq hWq; exact HH.out p q n _)
        go_big_quiet_on; (try simp only [Act.put, List.setIfInBounds_toArray, List.set_cons_zero, List.set_cons_succ])
        (first | go_big_quiet_skip | (go_big_quiet_want; refine quiet_val (v := ?_) ?_ ?_; rotate_left 1; (· (intro Wq hWq; obtain ⟨hWc, hWf⟩ := bcell hWq; go_simp; (try with_reducible rfl))); go_big_quiet_on; (try simp only [Act.put, List.setIfInBounds_toArray, List.set_cons_zero, List.set_cons_succ])))
        (first | go_big_quiet_skip | (go_big_quiet_want; refine quiet_val (v := ?_) ?_ ?_; rotate_left 1; (· (intro Wq hWq; obtain ⟨hWc, hWf⟩ := bcell hWq; go_simp; (try with_reducible rfl))); go_big_quiet_on; (try simp only [Act.put, List.setIfInBounds_toArray, List.set_cons_zero, List.set_cons_succ])))
        go_big_quiet_want; refine quiet_callB (f := 47) (args := ?_) (v := ?_) ?_ ?_ ?_; rotate_left 2
        · (intro Wq hWq; obtain ⟨hWc, hWf⟩ := bcell hWq; go_simp; (first | with_reducible rfl | exact ⟨rfl, rfl⟩))
        · (intro Wq hWq; exact HH.out a b n _)
        go_big_quiet_on; (try simp only [Act.put, List.setIfInBounds_toArray, List.set_cons_zero, List.set_cons_succ])
        (first | go_big_quiet_skip | (go_big_quiet_want; refine quiet_val (v := ?_) ?_ ?_; rotate_left 1; (· (intro Wq hWq; obtain ⟨hWc, hWf⟩ := bcell hWq; go_simp; (try with_reducible rfl))); go_big_quiet_on; (try simp only [Act.put, List.setIfInBounds_toArray, List.set_cons_zero, List.set_cons_succ])))
        (first | go_big_quiet_skip | (go_big_quiet_want; refine quiet_val (v := ?_) ?_ ?_; rotate_left 1; (· (intro Wq hWq; obtain ⟨hWc, hWf⟩ := bcell hWq; go_simp; (try with_reducible rfl))); go_big_quiet_on; (try simp only [Act.put, List.setIfInBounds_toArray, List.set_cons_zero, List.set_cons_succ])))
        (first | go_big_quiet_skip | (go_big_quiet_want; refine quiet_val (v := ?_) ?_ ?_; rotate_left 1; (· (intro Wq hWq; obtain ⟨hWc, hWf⟩ := bcell hWq; go_simp; (try with_reducible rfl))); go_big_quiet_on; (try simp only [Act.put, List.setIfInBounds_toArray, List.set_cons_zero, List.set_cons_succ])))
        (first | go_big_quiet_skip | (go_big_quiet_want; refine quiet_val (v := ?_) ?_ ?_; rotate_left 1; (· (intro Wq hWq; obtain ⟨hWc, hWf⟩ := bcell hWq; go_simp; (try with_reducible rfl))); go_big_quiet_on; (try simp only [Act.put, List.setIfInBounds_toArray, List.set_cons_zero, List.set_cons_succ])))
        (first | go_big_quiet_skip | (go_big_quiet_want; refine quiet_val (v := ?_) ?_ ?_; rotate_left 1; (· (intro Wq hWq; obtain ⟨hWc, hWf⟩ := bcell hWq; go_simp; (try with_reducible rfl))); go_big_quiet_on; (try simp only [Act.put, List.setIfInBounds_toArray, List.set_cons_zero, List.set_cons_succ])))
        (first | go_big_quiet_skip | (go_big_quiet_want; refine quiet_val (v := ?_) ?_ ?_; rotate_left 1; (· (intro Wq hWq; obtain ⟨hWc, hWf⟩ := bcell hWq; go_simp; (try with_reducible rfl))); go_big_quiet_on; (try simp only [Act.put, List.setIfInBounds_toArray, List.set_cons_zero, List.set_cons_succ])))
        (first | go_big_quiet_skip | (go_big_quiet_want; refine quiet_val (v := ?_) ?_ ?_; rotate_left 1; (· (intro Wq hWq; obtain ⟨hWc, hWf⟩ := bcell hWq; go_simp; (try with_reducible rfl))); go_big_quiet_on; (try simp only [Act.put, List.setIfInBounds_toArray, List.set_cons_zero, List.set_cons_succ])))
        (first | go_big_quiet_skip | (go_big_quiet_want; refine quiet_val (v := ?_) ?_ ?_; rotate_left 1; (· (intro Wq hWq; obtain ⟨hWc, hWf⟩ := bcell hWq; go_simp; (try with_reducible rfl))); go_big_quiet_on; (try simp only [Act.put, List.setIfInBounds_toArray, List.set_cons_zero, List.set_cons_succ])))
        (first | go_big_quiet_skip | (go_big_quiet_want; refine quiet_val (v := ?_) ?_ ?_; rotate_left 1; (· (intro Wq hWq; obtain ⟨hWc, hWf⟩ := bcell hWq; go_simp; (try with_reducible rfl))); go_big_quiet_on; (try simp only [Act.put, List.setIfInBounds_toArray, List.set_cons_zero, List.set_cons_succ])))
        (first | go_big_quiet_skip | (go_big_quiet_want; refine quiet_val (v := ?_) ?_ ?_; rotate_left 1; (· (intro Wq hWq; obtain ⟨hWc, hWf⟩ := bcell hWq; go_simp; (try with_reducible rfl))); go_big_quiet_on; (try simp only [Act.put, List.setIfInBounds_toArray, List.set_cons_zero, List.set_cons_succ])))
        (first | go_big_quiet_skip | (go_big_quiet_want; refine quiet_val (v := ?_) ?_ ?_; rotate_left 1; (· (intro Wq hWq; obtain ⟨hWc, hWf⟩ := bcell hWq; go_simp; (try with_reducible rfl))); go_big_quiet_on; (try simp only [Act.put, List.setIfInBounds_toArray, List.set_cons_zero, List.set_cons_succ])))
        (first | go_big_quiet_skip | (go_big_quiet_want; refine quiet_val (v := ?_) ?_ ?_; rotate_left 1; (· (intro Wq hWq; obtain ⟨hWc, hWf⟩ := bcell hWq; go_simp; (try with_reducible rfl))); go_big_quiet_on; (try simp only [Act.put, List.setIfInBounds_toArray, List.set_cons_zero, List.set_cons_succ])))
        (first | go_big_quiet_skip | (go_big_quiet_want; refine quiet_val (v := ?_) ?_ ?_; rotate_left 1; (· (intro Wq hWq; obtain ⟨hWc, hWf⟩ := bcell hWq; go_simp; (try with_reducible rfl))); go_big_quiet_on; (try simp only [Act.put, List.setIfInBounds_toArray, List.set_cons_zero, List.set_cons_succ])))
        (first | go_big_quiet_skip | (go_big_quiet_want; refine quiet_val (v := ?_) ?_ ?_; rotate_left 1; (· (intro Wq hWq; obtain ⟨hWc, hWf⟩ := bcell hWq; go_simp; (try with_reducible rfl))); go_big_quiet_on; (try simp only [Act.put, List.setIfInBounds_toArray, List.set_cons_zero, List.set_cons_succ])))
        (first | go_big_quiet_skip | (go_big_quiet_want; refine quiet_val (v := ?_) ?_ ?_; rotate_left 1; (· (intro Wq hWq; obtain ⟨hWc, hWf⟩ := bcell hWq; go_simp; (try with_reducible rfl))); go_big_quiet_on; (try simp only [Act.put, List.setIfInBounds_toArray, List.set_cons_zero, List.set_cons_succ])))
        (first | go_big_quiet_skip | (go_big_quiet_want; refine quiet_val (v := ?_) ?_ ?_; rotate_left 1; (· (intro Wq hWq; obtain ⟨hWc, hWf⟩ := bcell hWq; go_simp; (try with_reducible rfl))); go_big_quiet_on; (try simp only [Act.put, List.setIfInBounds_toArray, List.set_cons_zero, List.set_cons_succ])))
        (first | go_big_quiet_skip | (go_big_quiet_want; refine quiet_val (v := ?_) ?_ ?_; rotate_left 1; (· (intro Wq hWq; obtain ⟨hWc, hWf⟩ := bcell hWq; go_simp; (try with_reducible rfl))); go_big_quiet_on; (try simp only [Act.put, List.setIfInBounds_toArray, List.set_cons_zero, List.set_cons_succ])))
        (first | go_big_quiet_skip | (go_big_quiet_want; refine quiet_val (v := ?_) ?_ ?_; rotate_left 1; (· (intro Wq hWq; obtain ⟨hWc, hWf⟩ := bcell hWq; go_simp; (try with_reducible rfl))); go_big_quiet_on; (try simp only [Act.put, List.setIfInBounds_toArray, List.set_cons_zero, List.set_cons_succ])))
        (first | go_big_quiet_skip | (go_big_quiet_want; refine quiet_val (v := ?_) ?_ ?_; rotate_left 1; (· (intro Wq hWq; obtain ⟨hWc, hWf⟩ := bcell hWq; go_simp; (try with_reducible rfl))); go_big_quiet_on; (try simp only [Act.put, List.setIfInBounds_toArray, List.set_cons_zero, List.set_cons_succ])))
        (first | go_big_quiet_skip | (go_big_quiet_want; refine quiet_val (v := ?_) ?_ ?_; rotate_left 1; (· (intro Wq hWq; obtain ⟨hWc, hWf⟩ := bcell hWq; go_simp; (try with_reducible rfl))); go_big_quiet_on; (try simp only [Act.put, List.setIfInBounds_toArray, List.set_cons_zero, List.set_cons_succ])))
        (first | go_big_quiet_skip | (go_big_quiet_want; refine quiet_val (v := ?_) ?_ ?_; rotate_left 1; (· (intro Wq hWq; obtain ⟨hWc, hWf⟩ := bcell hWq; go_simp; (try with_reducible rfl))); go_big_quiet_on; (try simp only [Act.put, List.setIfInBounds_toArray, List.set_cons_zero, List.set_cons_succ])))
        refine wpQuiet_nil ?_; intro w5 hb5
        have q0_0 : w5.cell? ⟨w.heap.size, 0, none⟩ = some (.int .i64 a) := keep_cell hb5 (by simp [go_sem, *]); have q0_1 : w5.cell? ⟨w.heap.size, 1, none⟩ = some (.int .i64 b) := keep_cell hb5 (by simp [go_sem, *]); have p0 : w.heap.size < w5.heap.size := cell?_lt q0_0; have q1_0 : w5.cell? ⟨w.heap.size + 1, 0, none⟩ = some (.int .i64 c) := keep_cell hb5 (by simp [go_sem, *]); have q1_1 : w5.cell? ⟨w.heap.size + 1, 1, none⟩ = some (.int .i64 d) := keep_cell hb5 (by simp [go_sem, *]); have p1 : w.heap.size + 1 < w5.heap.size := cell?_lt q1_0; have q2_0 : w5.cell? ⟨w.heap.size + 1 + 1, 0, none⟩ = some (.int .i64 n) := keep_cell hb5 (by simp [go_sem, *]); have q2_1 : w5.cell? ⟨w.heap.size + 1 + 1, 1, none⟩ = some (.int .i64 m) := keep_cell hb5 (by simp [go_sem, *]); have p2 : w.heap.size + 1 + 1 < w5.heap.size := cell?_lt q2_0; have q3_0 : w5.cell? ⟨w4.heap.size, 0, none⟩ = some (.int .i64 p) := keep_cell hb5 (by simp [go_sem, *]); have q3_1 : w5.cell? ⟨w4.heap.size, 1, none⟩ = some (.int .i64 q) := keep_cell hb5 (by simp [go_sem, *]); have p3 : w4.heap.size < w5.heap.size := cell?_lt q3_0
        go_wp2_with fail
        go_meet; exact ⟨rfl, (by simp [go_sem, *]), (by simp [go_sem, *]), (by simp [go_sem, *]), (by simp [go_sem, *]), (by simp [go_sem, *]), (by simp [go_sem, *]), (by simp [go_sem, *]), (by simp [go_sem, *]), by (repeat (first | exact Below.refl _ _ | refine Below.drew ?_ | refine Below.allocS ?_ _ | refine Below.step ?_ (by assumption) | refine Below.setCell ?_ (by simp <;> omega) _ | refine Below.drewN' ?_ _))⟩
      · rw [hA, Bool.true_and] at kh
        refine region_below (by kernel_rfl) (by kernel_rfl) ?_
        (first | go_big_quiet_skip | (go_big_quiet_want; refine quiet_val (v := ?_) ?_ ?_; rotate_left 1; (· (intro Wq hWq; obtain ⟨hWc, hWf⟩ := bcell hWq; go_simp; (try with_reducible rfl))); go_big_quiet_on; (try simp only [Act.put, List.setIfInBounds_toArray, List.set_cons_zero, List.set_cons_succ])))
        (first | go_big_quiet_skip | (go_big_quiet_want; refine quiet_val (v := ?_) ?_ ?_; rotate_left 1; (· (intro Wq hWq; obtain ⟨hWc, hWf⟩ := bcell hWq; go_simp; (try with_reducible rfl))); go_big_quiet_on; (try simp only [Act.put, List.setIfInBounds_toArray, List.set_cons_zero, List.set_cons_succ])))
        (first | go_big_quiet_skip | (go_big_quiet_want; refine quiet_val (v := ?_) ?_ ?_; rotate_left 1; (· (intro Wq hWq; obtain ⟨hWc, hWf⟩ := bcell hWq; go_simp; (try with_reducible rfl))); go_big_quiet_on; (try simp only [Act.put, List.setIfInBounds_toArray, List.set_cons_zero, List.set_cons_succ])))
        (first | go_big_quiet_skip | (go_big_quiet_want; refine quiet_val (v := ?_) ?_ ?_; rotate_left 1; (· (intro Wq hWq; obtain ⟨hWc, hWf⟩ := bcell hWq; go_simp; (try with_reducible rfl))); go_big_quiet_on; (try simp only [Act.put, List.setIfInBounds_toArray, List.set_cons_zero, List.set_cons_succ])))
        (first | go_big_quiet_skip | (go_big_quiet_want; refine quiet_val (v := ?_) ?_ ?_; rotate_left 1; (· (intro Wq hWq; obtain ⟨hWc, hWf⟩ := bcell hWq; go_simp; (try with_reducible rfl))); go_big_quiet_on; (try simp only [Act.put, List.setIfInBounds_toArray, List.set_cons_zero, List.set_cons_succ])))
        go_big_quiet_want; refine quiet_callB (f := 47) (args := ?_) (v := ?_) ?_ ?_ ?_; rotate_left 2
        · (intro Wq hWq; obtain ⟨hWc, hWf⟩ := bcell hWq; go_simp; (first | with_reducible rfl | exact ⟨rfl, rfl⟩))
        · (intro Wq hWq; exact HH.out p q n _)
        go_big_quiet_on; (try simp only [Act.put, List.setIfInBounds_toArray, List.set_cons_zero, List.set_cons_succ])
        (first | go_big_quiet_skip | (go_big_quiet_want; refine quiet_val (v := ?_) ?_ ?_; rotate_left 1; (· (intro Wq hWq; obtain ⟨hWc, hWf⟩ := bcell hWq; go_simp; (try with_reducible rfl))); go_big_quiet_on; (try simp only [Act.put, List.setIfInBounds_toArray, List.set_cons_zero, List.set_cons_succ])))
        (first | go_big_quiet_skip | (go_big_quiet_want; refine quiet_val (v := ?_) ?_ ?_; rotate_left 1; (· (intro Wq hWq; obtain ⟨hWc, hWf⟩ := bcell hWq; go_simp; (try with_reducible rfl))); go_big_quiet_on; (try simp only [Act.put, List.setIfInBounds_toArray, List.set_cons_zero, List.set_cons_succ])))
        go_big_quiet_want; refine quiet_callB (f := 47) (args := ?_) (v := ?_) ?_ ?_ ?_; rotate_left 2
        · (intro Wq hWq; obtain ⟨hWc, hWf⟩ := bcell hWq; go_simp; (first | with_reducible rfl | exact ⟨rfl, rfl⟩))
        · (intro Wq hWq; exact HH.out a b n _)
        go_big_quiet_on; (try simp only [Act.put, List.setIfInBounds_toArray, List.set_cons_zero, List.set_cons_succ])
        (first | go_big_quiet_skip | (go_big_quiet_want; refine quiet_val (v := ?_) ?_ ?_; rotate_left 1; (· (intro Wq hWq; obtain ⟨hWc, hWf⟩ := bcell hWq; go_simp; (try with_reducible rfl))); go_big_quiet_on; (try simp only [Act.put, List.setIfInBounds_toArray, List.set_cons_zero, List.set_cons_succ])))
        (first | go_big_quiet_skip | (go_big_quiet_want; refine quiet_val (v := ?_) ?_ ?_; rotate_left 1; (· (intro Wq hWq; obtain ⟨hWc, hWf⟩ := bcell hWq; go_simp; (try with_reducible rfl))); go_big_quiet_on; (try simp only [Act.put, List.setIfInBounds_toArray, List.set_cons_zero, List.set_cons_succ])))
        (first | go_big_quiet_skip | (go_big_quiet_want; refine quiet_val (v := ?_) ?_ ?_; rotate_left 1; (· (intro Wq hWq; obtain ⟨hWc, hWf⟩ := bcell hWq; go_simp; (try with_reducible rfl))); go_big_quiet_on; (try simp only [Act.put, List.setIfInBounds_toArray, List.set_cons_zero, List.set_cons_succ])))
        go_big_quiet_want; refine quiet_callB (f := 47) (args := ?_) (v := ?_) ?_ ?_ ?_; rotate_left 2
        · (intro Wq hWq; obtain ⟨hWc, hWf⟩ := bcell hWq; go_simp; (first | with_reducible rfl | exact ⟨rfl, rfl⟩))
        · (intro Wq hWq; exact HH.out c d n _)
        go_big_quiet_on; (try simp only [Act.put, List.setIfInBounds_toArray, List.set_cons_zero, List.set_cons_succ])
        (first | go_big_quiet_skip | (go_big_quiet_want; refine quiet_val (v := ?_) ?_ ?_; rotate_left 1; (· (intro Wq hWq; obtain ⟨hWc, hWf⟩ := bcell hWq; go_simp; (try with_reducible rfl))); go_big_quiet_on; (try simp only [Act.put, List.setIfInBounds_toArray, List.set_cons_zero, List.set_cons_succ])))
        (first | go_big_quiet_skip | (go_big_quiet_want; refine quiet_val (v := ?_) ?_ ?_; rotate_left 1; (· (intro Wq hWq; obtain ⟨hWc, hWf⟩ := bcell hWq; go_simp; (try with_reducible rfl))); go_big_quiet_on; (try simp only [Act.put, List.setIfInBounds_toArray, List.set_cons_zero, List.set_cons_succ])))
        (first | go_big_quiet_skip | (go_big_quiet_want; refine quiet_val (v := ?_) ?_ ?_; rotate_left 1; (· (intro Wq hWq; obtain ⟨hWc, hWf⟩ := bcell hWq; go_simp; (try with_reducible rfl))); go_big_quiet_on; (try simp only [Act.put, List.setIfInBounds_toArray, List.set_cons_zero, List.set_cons_succ])))
        (first | go_big_quiet_skip | (go_big_quiet_want; refine quiet_val (v := ?_) ?_ ?_; rotate_left 1; (· (intro Wq hWq; obtain ⟨hWc, hWf⟩ := bcell hWq; go_simp; (try with_reducible rfl))); go_big_quiet_on; (try simp only [Act.put, List.setIfInBounds_toArray, List.set_cons_zero, List.set_cons_succ])))
        (first | go_big_quiet_skip | (go_big_quiet_want; refine quiet_val (v := ?_) ?_ ?_; rotate_left 1; (· (intro Wq hWq; obtain ⟨hWc, hWf⟩ := bcell hWq; go_simp; (try with_reducible rfl))); go_big_quiet_on; (try simp only [Act.put, List.setIfInBounds_toArray, List.set_cons_zero, List.set_cons_succ])))
        (first | go_big_quiet_skip | (go_big_quiet_want; refine quiet_val (v := ?_) ?_ ?_; rotate_left 1; (· (intro Wq hWq; obtain ⟨hWc, hWf⟩ := bcell hWq; go_simp; (try with_reducible rfl))); go_big_quiet_on; (try simp only [Act.put, List.setIfInBounds_toArray, List.set_cons_zero, List.set_cons_succ])))
        (first | go_big_quiet_skip | (go_big_quiet_want; refine quiet_val (v := ?_) ?_ ?_; rotate_left 1; (· (intro Wq hWq; obtain ⟨hWc, hWf⟩ := bcell hWq; go_simp; (try with_reducible rfl))); go_big_quiet_on; (try simp only [Act.put, List.setIfInBounds_toArray, List.set_cons_zero, List.set_cons_succ])))
        (first | go_big_quiet_skip | (go_big_quiet_want; refine quiet_val (v := ?_) ?_ ?_; rotate_left 1; (· (intro Wq hWq; obtain ⟨hWc, hWf⟩ := bcell hWq; go_simp; (try with_reducible rfl))); go_big_quiet_on; (try simp only [Act.put, List.setIfInBounds_toArray, List.set_cons_zero, List.set_cons_succ])))
        (first | go_big_quiet_skip | (go_big_quiet_want; refine quiet_val (v := ?_) ?_ ?_; rotate_left 1; (· (intro Wq hWq; obtain ⟨hWc, hWf⟩ := bcell hWq; go_simp; (try with_reducible rfl))); go_big_quiet_on; (try simp only [Act.put, List.setIfInBounds_toArray, List.set_cons_zero, List.set_cons_succ])))
        (first | go_big_quiet_skip | (go_big_quiet_want; refine quiet_val (v := ?_) ?_ ?_; rotate_left 1; (· (intro Wq hWq; obtain ⟨hWc, hWf⟩ := bcell hWq; go_simp; (try with_reducible rfl))); go_big_quiet_on; (try simp only [Act.put, List.setIfInBounds_toArray, List.set_cons_zero, List.set_cons_succ])))
        (first | go_big_quiet_skip | (go_big_quiet_want; refine quiet_val (v := ?_) ?_ ?_; rotate_left 1; (· (intro Wq hWq; obtain ⟨hWc, hWf⟩ := bcell hWq; go_simp; (try with_reducible rfl))); go_big_quiet_on; (try simp only [Act.put, List.setIfInBounds_toArray, List.set_cons_zero, List.set_cons_succ])))
        (first | go_big_quiet_skip | (go_big_quiet_want; refine quiet_val (v := ?_) ?_ ?_; rotate_left 1; (· (intro Wq hWq; obtain ⟨hWc, hWf⟩ := bcell hWq; go_simp; (try with_reducible rfl))); go_big_quiet_on; (try simp only [Act.put, List.setIfInBounds_toArray, List.set_cons_zero, List.set_cons_succ])))
        (first | go_big_quiet_skip | (go_big_quiet_want; refine quiet_val (v := ?_) ?_ ?_; rotate_left 1; (· (intro Wq hWq; obtain ⟨hWc, hWf⟩ := bcell hWq; go_simp; (try with_reducible rfl))); go_big_quiet_on; (try simp only [Act.put, List.setIfInBounds_toArray, List.set_cons_zero, List.set_cons_succ])))
        (first | go_big_quiet_skip | (go_big_quiet_want; refine quiet_val (v := ?_) ?_ ?_; rotate_left 1; (· (intro Wq hWq; obtain ⟨hWc, hWf⟩ := bcell hWq; go_simp; (try with_reducible rfl))); go_big_quiet_on; (try simp only [Act.put, List.setIfInBounds_toArray, List.set_cons_zero, List.set_cons_succ])))
        (first | go_big_quiet_skip | (go_big_quiet_want; refine quiet_val (v := ?_) ?_ ?_; rotate_left 1; (· (intro Wq hWq; obtain ⟨hWc, hWf⟩ := bcell hWq; go_simp; (try with_reducible rfl))); go_big_quiet_on; (try simp only [Act.put, List.setIfInBounds_toArray, List.set_cons_zero, List.set_cons_succ])))
        (first | go_big_quiet_skip | (go_big_quiet_want; refine quiet_val (v := ?_) ?_ ?_; rotate_left 1; (· (intro Wq hWq; obtain ⟨hWc, hWf⟩ := bcell hWq; go_simp; (try with_reducible rfl))); go_big_quiet_on; (try simp only [Act.put, List.setIfInBounds_toArray, List.set_cons_zero, List.set_cons_succ])))
        (first | go_big_quiet_skip | (go_big_quiet_want; refine quiet_val (v := ?_) ?_ ?_; rotate_left 1; (· (intro Wq hWq; obtain ⟨hWc, hWf⟩ := bcell hWq; go_simp; (try with_reducible rfl))); go_big_quiet_on; (try simp only [Act.put, List.setIfInBounds_toArray, List.set_cons_zero, List.set_cons_succ])))
        refine wpQuiet_nil ?_; intro w5 hb5
        have q0_0 : w5.cell? ⟨w.heap.size, 0, none⟩ = some (.int .i64 a) := keep_cell hb5 (by simp [go_sem, *]); have q0_1 : w5.cell? ⟨w.heap.size, 1, none⟩ = some (.int .i64 b) := keep_cell hb5 (by simp [go_sem, *]); have p0 : w.heap.size < w5.heap.size := cell?_lt q0_0; have q1_0 : w5.cell? ⟨w.heap.size + 1, 0, none⟩ = some (.int .i64 c) := keep_cell hb5 (by simp [go_sem, *]); have q1_1 : w5.cell? ⟨w.heap.size + 1, 1, none⟩ = some (.int .i64 d) := keep_cell hb5 (by simp [go_sem, *]); have p1 : w.heap.size + 1 < w5.heap.size := cell?_lt q1_0; have q2_0 : w5.cell? ⟨w.heap.size + 1 + 1, 0, none⟩ = some (.int .i64 n) := keep_cell hb5 (by simp [go_sem, *]); have q2_1 : w5.cell? ⟨w.heap.size + 1 + 1, 1, none⟩ = some (.int .i64 m) := keep_cell hb5 (by simp [go_sem, *]); have p2 : w.heap.size + 1 + 1 < w5.heap.size := cell?_lt q2_0; have q3_0 : w5.cell? ⟨w4.heap.size, 0, none⟩ = some (.int .i64 p) := keep_cell hb5 (by simp [go_sem, *]); have q3_1 : w5.cell? ⟨w4.heap.size, 1, none⟩ = some (.int .i64 q) := keep_cell hb5 (by simp [go_sem, *]); have p3 : w4.heap.size < w5.heap.size := cell?_lt q3_0
        go_wp2_with fail
        go_meet; exact ⟨rfl, (by simp [go_sem, *]), (by simp [go_sem, *]), (by simp [go_sem, *]), (by simp [go_sem, *]), (by simp [go_sem, *]), (by simp [go_sem, *]), (by simp [go_sem, *]), (by simp [go_sem, *]), by (repeat (first | exact Below.refl _ _ | refine Below.drew ?_ | refine Below.allocS ?_ _ | refine Below.step ?_ (by assumption) | refine Below.setCell ?_ (by simp <;> omega) _ | refine Below.drewN' ?_ _))⟩
    · subst kz
      cases hA : hasB a b n
      · refine region_below (by kernel_rfl) (by kernel_rfl) ?_
        (first | go_big_quiet_skip | (go_big_quiet_want; refine quiet_val (v := ?_) ?_ ?_; rotate_left 1; (· (intro Wq hWq; obtain ⟨hWc, hWf⟩ := bcell hWq; go_simp; (try with_reducible rfl))); go_big_quiet_on; (try simp only [Act.put, List.setIfInBounds_toArray, List.set_cons_zero, List.set_cons_succ])))
        (first | go_big_quiet_skip | (go_big_quiet_want; refine quiet_val (v := ?_) ?_ ?_; rotate_left 1; (· (intro Wq hWq; obtain ⟨hWc, hWf⟩ := bcell hWq; go_simp; (try with_reducible rfl))); go_big_quiet_on; (try simp only [Act.put, List.setIfInBounds_toArray, List.set_cons_zero, List.set_cons_succ])))
        (first | go_big_quiet_skip | (go_big_quiet_want; refine quiet_val (v := ?_) ?_ ?_; rotate_left 1; (· (intro Wq hWq; obtain ⟨hWc, hWf⟩ := bcell hWq; go_simp; (try with_reducible rfl))); go_big_quiet_on; (try simp only [Act.put, List.setIfInBounds_toArray, List.set_cons_zero, List.set_cons_succ])))
        (first | go_big_quiet_skip | (go_big_quiet_want; refine quiet_val (v := ?_) ?_ ?_; rotate_left 1; (· (intro Wq hWq; obtain ⟨hWc, hWf⟩ := bcell hWq; go_simp; (try with_reducible rfl))); go_big_quiet_on; (try simp only [Act.put, List.setIfInBounds_toArray, List.set_cons_zero, List.set_cons_succ])))
        (first | go_big_quiet_skip | (go_big_quiet_want; refine quiet_val (v := ?_) ?_ ?_; rotate_left 1; (· (intro Wq hWq; obtain ⟨hWc, hWf⟩ := bcell hWq; go_simp; (try with_reducible rfl))); go_big_quiet_on; (try simp only [Act.put, List.setIfInBounds_toArray, List.set_cons_zero, List.set_cons_succ])))
        (first | go_big_quiet_skip | (go_big_quiet_want; refine quiet_val (v := ?_) ?_ ?_; rotate_left 1; (· (intro Wq hWq; obtain ⟨hWc, hWf⟩ := bcell hWq; go_simp; (try with_reducible rfl))); go_big_quiet_on; (try simp only [Act.put, List.setIfInBounds_toArray, List.set_cons_zero, List.set_cons_succ])))
        (first | go_big_quiet_skip | (go_big_quiet_want; refine quiet_val (v := ?_) ?_ ?_; rotate_left 1; (· (intro Wq hWq; obtain ⟨hWc, hWf⟩ := bcell hWq; go_simp; (try with_reducible rfl))); go_big_quiet_on; (try simp only [Act.put, List.setIfInBounds_toArray, List.set_cons_zero, List.set_cons_succ])))
        (first | go_big_quiet_skip | (go_big_quiet_want; refine quiet_val (v := ?_) ?_ ?_; rotate_left 1; (· (intro Wq hWq; obtain ⟨hWc, hWf⟩ := bcell hWq; go_simp; (try with_reducible rfl))); go_big_quiet_on; (try simp only [Act.put, List.setIfInBounds_toArray, List.set_cons_zero, List.set_cons_succ])))
        (first | go_big_quiet_skip | (go_big_quiet_want; refine quiet_val (v := ?_) ?_ ?_; rotate_left 1; (· (intro Wq hWq; obtain ⟨hWc, hWf⟩ := bcell hWq; go_simp; (try with_reducible rfl))); go_big_quiet_on; (try simp only [Act.put, List.setIfInBounds_toArray, List.set_cons_zero, List.set_cons_succ])))
        (first | go_big_quiet_skip | (go_big_quiet_want; refine quiet_val (v := ?_) ?_ ?_; rotate_left 1; (· (intro Wq hWq; obtain ⟨hWc, hWf⟩ := bcell hWq; go_simp; (try with_reducible rfl))); go_big_quiet_on; (try simp only [Act.put, List.setIfInBounds_toArray, List.set_cons_zero, List.set_cons_succ])))
        (first | go_big_quiet_skip | (go_big_quiet_want; refine quiet_val (v := ?_) ?_ ?_; rotate_left 1; (· (intro Wq hWq; obtain ⟨hWc, hWf⟩ := bcell hWq; go_simp; (try with_reducible rfl))); go_big_quiet_on; (try simp only [Act.put, List.setIfInBounds_toArray, List.set_cons_zero, List.set_cons_succ])))
        (first | go_big_quiet_skip | (go_big_quiet_want; refine quiet_val (v := ?_) ?_ ?_; rotate_left 1; (· (intro Wq hWq; obtain ⟨hWc, hWf⟩ := bcell hWq; go_simp; (try with_reducible rfl))); go_big_quiet_on; (try simp only [Act.put, List.setIfInBounds_toArray, List.set_cons_zero, List.set_cons_succ])))
        (first | go_big_quiet_skip | (go_big_quiet_want; refine quiet_val (v := ?_) ?_ ?_; rotate_left 1; (· (intro Wq hWq; obtain ⟨hWc, hWf⟩ := bcell hWq; go_simp; (try with_reducible rfl))); go_big_quiet_on; (try simp only [Act.put, List.setIfInBounds_toArray, List.set_cons_zero, List.set_cons_succ])))
        (first | go_big_quiet_skip | (go_big_quiet_want; refine quiet_val (v := ?_) ?_ ?_; rotate_left 1; (· (intro Wq hWq; obtain ⟨hWc, hWf⟩ := bcell hWq; go_simp; (try with_reducible rfl))); go_big_quiet_on; (try simp only [Act.put, List.setIfInBounds_toArray, List.set_cons_zero, List.set_cons_succ])))
        (first | go_big_quiet_skip | (go_big_quiet_want; refine quiet_val (v := ?_) ?_ ?_; rotate_left 1; (· (intro Wq hWq; obtain ⟨hWc, hWf⟩ := bcell hWq; go_simp; (try with_reducible rfl))); go_big_quiet_on; (try simp only [Act.put, List.setIfInBounds_toArray, List.set_cons_zero, List.set_cons_succ])))
        (first | go_big_quiet_skip | (go_big_quiet_want; refine quiet_val (v := ?_) ?_ ?_; rotate_left 1; (· (intro Wq hWq; obtain ⟨hWc, hWf⟩ := bcell hWq; go_simp; (try with_reducible rfl))); go_big_quiet_on; (try simp only [Act.put, List.setIfInBounds_toArray, List.set_cons_zero, List.set_cons_succ])))
        (first | go_big_quiet_skip | (go_big_quiet_want; refine quiet_val (v := ?_) ?_ ?_; rotate_left 1; (· (intro Wq hWq; obtain ⟨hWc, hWf⟩ := bcell hWq; go_simp; (try with_reducible rfl))); go_big_quiet_on; (try simp only [Act.put, List.setIfInBounds_toArray, List.set_cons_zero, List.set_cons_succ])))
        (first | go_big_quiet_skip | (go_big_quiet_want; refine quiet_val (v := ?_) ?_ ?_; rotate_left 1; (· (intro Wq hWq; obtain ⟨hWc, hWf⟩ := bcell hWq; go_simp; (try with_reducible rfl))); go_big_quiet_on; (try simp only [Act.put, List.setIfInBounds_toArray, List.set_cons_zero, List.set_cons_succ])))
        (first | go_big_quiet_skip | (go_big_quiet_want; refine quiet_val (v := ?_) ?_ ?_; rotate_left 1; (· (intro Wq hWq; obtain ⟨hWc, hWf⟩ := bcell hWq; go_simp; (try with_reducible rfl))); go_big_quiet_on; (try simp only [Act.put, List.setIfInBounds_toArray, List.set_cons_zero, List.set_cons_succ])))
        (first | go_big_quiet_skip | (go_big_quiet_want; refine quiet_val (v := ?_) ?_ ?_; rotate_left 1; (· (intro Wq hWq; obtain ⟨hWc, hWf⟩ := bcell hWq; go_simp; (try with_reducible rfl))); go_big_quiet_on; (try simp only [Act.put, List.setIfInBounds_toArray, List.set_cons_zero, List.set_cons_succ])))
        (first | go_big_quiet_skip | (go_big_quiet_want; refine quiet_val (v := ?_) ?_ ?_; rotate_left 1; (· (intro Wq hWq; obtain ⟨hWc, hWf⟩ := bcell hWq; go_simp; (try with_reducible rfl))); go_big_quiet_on; (try simp only [Act.put, List.setIfInBounds_toArray, List.set_cons_zero, List.set_cons_succ])))
        (first | go_big_quiet_skip | (go_big_quiet_want; refine quiet_val (v := ?_) ?_ ?_; rotate_left 1; (· (intro Wq hWq; obtain ⟨hWc, hWf⟩ := bcell hWq; go_simp; (try with_reducible rfl))); go_big_quiet_on; (try simp only [Act.put, List.setIfInBounds_toArray, List.set_cons_zero, List.set_cons_succ])))
        go_big_quiet_want; refine quiet_callB (f := 47) (args := ?_) (v := ?_) ?_ ?_ ?_; rotate_left 2
        · (intro Wq hWq; obtain ⟨hWc, hWf⟩ := bcell hWq; go_simp; (first | with_reducible rfl | exact ⟨rfl, rfl⟩))
        · (intro Wq hWq; exact HH.out a b n _)
        go_big_quiet_on; (try simp only [Act.put, List.setIfInBounds_toArray, List.set_cons_zero, List.set_cons_succ])
        (first | go_big_quiet_skip | (go_big_quiet_want; refine quiet_val (v := ?_) ?_ ?_; rotate_left 1; (· (intro Wq hWq; obtain ⟨hWc, hWf⟩ := bcell hWq; go_simp; (try with_reducible rfl))); go_big_quiet_on; (try simp only [Act.put, List.setIfInBounds_toArray, List.set_cons_zero, List.set_cons_succ])))
        (first | go_big_quiet_skip | (go_big_quiet_want; refine quiet_val (v := ?_) ?_ ?_; rotate_left 1; (· (intro Wq hWq; obtain ⟨hWc, hWf⟩ := bcell hWq; go_simp; (try with_reducible rfl))); go_big_quiet_on; (try simp only [Act.put, List.setIfInBounds_toArray, List.set_cons_zero, List.set_cons_succ])))
        (first | go_big_quiet_skip | (go_big_quiet_want; refine quiet_val (v := ?_) ?_ ?_; rotate_left 1; (· (intro Wq hWq; obtain ⟨hWc, hWf⟩ := bcell hWq; go_simp; (try with_reducible rfl))); go_big_quiet_on; (try simp only [Act.put, List.setIfInBounds_toArray, List.set_cons_zero, List.set_cons_succ])))
        (first | go_big_quiet_skip | (go_big_quiet_want; refine quiet_val (v := ?_) ?_ ?_; rotate_left 1; (· (intro Wq hWq; obtain ⟨hWc, hWf⟩ := bcell hWq; go_simp; (try with_reducible rfl))); go_big_quiet_on; (try simp only [Act.put, List.setIfInBounds_toArray, List.set_cons_zero, List.set_cons_succ])))
        (first | go_big_quiet_skip | (go_big_quiet_want; refine quiet_val (v := ?_) ?_ ?_; rotate_left 1; (· (intro Wq hWq; obtain ⟨hWc, hWf⟩ := bcell hWq; go_simp; (try with_reducible rfl))); go_big_quiet_on; (try simp only [Act.put, List.setIfInBounds_toArray, List.set_cons_zero, List.set_cons_succ])))
        (first | go_big_quiet_skip | (go_big_quiet_want; refine quiet_val (v := ?_) ?_ ?_; rotate_left 1; (· (intro Wq hWq; obtain ⟨hWc, hWf⟩ := bcell hWq; go_simp; (try with_reducible rfl))); go_big_quiet_on; (try simp only [Act.put, List.setIfInBounds_toArray, List.set_cons_zero, List.set_cons_succ])))
        (first | go_big_quiet_skip | (go_big_quiet_want; refine quiet_val (v := ?_) ?_ ?_; rotate_left 1; (· (intro Wq hWq; obtain ⟨hWc, hWf⟩ := bcell hWq; go_simp; (try with_reducible rfl))); go_big_quiet_on; (try simp only [Act.put, List.setIfInBounds_toArray, List.set_cons_zero, List.set_cons_succ])))
        refine wpQuiet_nil ?_; intro w5 hb5
        have q0_0 : w5.cell? ⟨w.heap.size, 0, none⟩ = some (.int .i64 a) := keep_cell hb5 (by simp [go_sem, *]); have q0_1 : w5.cell? ⟨w.heap.size, 1, none⟩ = some (.int .i64 b) := keep_cell hb5 (by simp [go_sem, *]); have p0 : w.heap.size < w5.heap.size := cell?_lt q0_0; have q1_0 : w5.cell? ⟨w.heap.size + 1, 0, none⟩ = some (.int .i64 c) := keep_cell hb5 (by simp [go_sem, *]); have q1_1 : w5.cell? ⟨w.heap.size + 1, 1, none⟩ = some (.int .i64 d) := keep_cell hb5 (by simp [go_sem, *]); have p1 : w.heap.size + 1 < w5.heap.size := cell?_lt q1_0; have q2_0 : w5.cell? ⟨w.heap.size + 1 + 1, 0, none⟩ = some (.int .i64 n) := keep_cell hb5 (by simp [go_sem, *]); have q2_1 : w5.cell? ⟨w.heap.size + 1 + 1, 1, none⟩ = some (.int .i64 m) := keep_cell hb5 (by simp [go_sem, *]); have p2 : w.heap.size + 1 + 1 < w5.heap.size := cell?_lt q2_0; have q3_0 : w5.cell? ⟨w4.heap.size, 0, none⟩ = some (.int .i64 p) := keep_cell hb5 (by simp [go_sem, *]); have q3_1 : w5.cell? ⟨w4.heap.size, 1, none⟩ = some (.int .i64 q) := keep_cell hb5 (by simp [go_sem, *]); have p3 : w4.heap.size < w5.heap.size := cell?_lt q3_0
        go_wp2_with fail
        go_meet; exact ⟨rfl, (by simp [go_sem, *]), (by simp [go_sem, *]), (by simp [go_sem, *]), (by simp [go_sem, *]), (by simp [go_sem, *]), (by simp [go_sem, *]), (by simp [go_sem, *]), (by simp [go_sem, *]), by (repeat (first | exact Below.refl _ _ | refine Below.drew ?_ | refine Below.allocS ?_ _ | refine Below.step ?_ (by assumption) | refine Below.setCell ?_ (by simp <;> omega) _ | refine Below.drewN' ?_ _))⟩
      · rw [hA, Bool.true_and] at kh
        refine region_below (by kernel_rfl) (by kernel_rfl) ?_
        (first | go_big_quiet_skip | (go_big_quiet_want; refine quiet_val (v := ?_) ?_ ?_; rotate_left 1; (· (intro Wq hWq; obtain ⟨hWc, hWf⟩ := bcell hWq; go_simp; (try with_reducible rfl))); go_big_quiet_on; (try simp only [Act.put, List.setIfInBounds_toArray, List.set_cons_zero, List.set_cons_succ])))
        (first | go_big_quiet_skip | (go_big_quiet_want; refine quiet_val (v := ?_) ?_ ?_; rotate_left 1; (· (intro Wq hWq; obtain ⟨hWc, hWf⟩ := bcell hWq; go_simp; (try with_reducible rfl))); go_big_quiet_on; (try simp only [Act.put, List.setIfInBounds_toArray, List.set_cons_zero, List.set_cons_succ])))
        (first | go_big_quiet_skip | (go_big_quiet_want; refine quiet_val (v := ?_) ?_ ?_; rotate_left 1; (· (intro Wq hWq; obtain ⟨hWc, hWf⟩ := bcell hWq; go_simp; (try with_reducible rfl))); go_big_quiet_on; (try simp only [Act.put, List.setIfInBounds_toArray, List.set_cons_zero, List.set_cons_succ])))
        (first | go_big_quiet_skip | (go_big_quiet_want; refine quiet_val (v := ?_) ?_ ?_; rotate_left 1; (· (intro Wq hWq; obtain ⟨hWc, hWf⟩ := bcell hWq; go_simp; (try with_reducible rfl))); go_big_quiet_on; (try simp only [Act.put, List.setIfInBounds_toArray, List.set_cons_zero, List.set_cons_succ])))
        (first | go_big_quiet_skip | (go_big_quiet_want; refine quiet_val (v := ?_) ?_ ?_; rotate_left 1; (· (intro Wq hWq; obtain ⟨hWc, hWf⟩ := bcell hWq; go_simp; (try with_reducible rfl))); go_big_quiet_on; (try simp only [Act.put, List.setIfInBounds_toArray, List.set_cons_zero, List.set_cons_succ])))
        (first | go_big_quiet_skip | (go_big_quiet_want; refine quiet_val (v := ?_) ?_ ?_; rotate_left 1; (· (intro Wq hWq; obtain ⟨hWc, hWf⟩ := bcell hWq; go_simp; (try with_reducible rfl))); go_big_quiet_on; (try simp only [Act.put, List.setIfInBounds_toArray, List.set_cons_zero, List.set_cons_succ])))
        (first | go_big_quiet_skip | (go_big_quiet_want; refine quiet_val (v := ?_) ?_ ?_; rotate_left 1; (· (intro Wq hWq; obtain ⟨hWc, hWf⟩ := bcell hWq; go_simp; (try with_reducible rfl))); go_big_quiet_on; (try simp only [Act.put, List.setIfInBounds_toArray, List.set_cons_zero, List.set_cons_succ])))
        (first | go_big_quiet_skip | (go_big_quiet_want; refine quiet_val (v := ?_) ?_ ?_; rotate_left 1; (· (intro Wq hWq; obtain ⟨hWc, hWf⟩ := bcell hWq; go_simp; (try with_reducible rfl))); go_big_quiet_on; (try simp only [Act.put, List.setIfInBounds_toArray, List.set_cons_zero, List.set_cons_succ])))
        (first | go_big_quiet_skip | (go_big_quiet_want; refine quiet_val (v := ?_) ?_ ?_; rotate_left 1; (· (intro Wq hWq; obtain ⟨hWc, hWf⟩ := bcell hWq; go_simp; (try with_reducible rfl))); go_big_quiet_on; (try simp only [Act.put, List.setIfInBounds_toArray, List.set_cons_zero, List.set_cons_succ])))
        (first | go_big_quiet_skip | (go_big_quiet_want; refine quiet_val (v := ?_) ?_ ?_; rotate_left 1; (· (intro Wq hWq; obtain ⟨hWc, hWf⟩ := bcell hWq; go_simp; (try with_reducible rfl))); go_big_quiet_on; (try simp only [Act.put, List.setIfInBounds_toArray, List.set_cons_zero, List.set_cons_succ])))
        (first | go_big_quiet_skip | (go_big_quiet_want; refine quiet_val (v := ?_) ?_ ?_; rotate_left 1; (· (intro Wq hWq; obtain ⟨hWc, hWf⟩ := bcell hWq; go_simp; (try with_reducible rfl))); go_big_quiet_on; (try simp only [Act.put, List.setIfInBounds_toArray, List.set_cons_zero, List.set_cons_succ])))
        (first | go_big_quiet_skip | (go_big_quiet_want; refine quiet_val (v := ?_) ?_ ?_; rotate_left 1; (· (intro Wq hWq; obtain ⟨hWc, hWf⟩ := bcell hWq; go_simp; (try with_reducible rfl))); go_big_quiet_on; (try simp only [Act.put, List.setIfInBounds_toArray, List.set_cons_zero, List.set_cons_succ])))
        (first | go_big_quiet_skip | (go_big_quiet_want; refine quiet_val (v := ?_) ?_ ?_; rotate_left 1; (· (intro Wq hWq; obtain ⟨hWc, hWf⟩ := bcell hWq; go_simp; (try with_reducible rfl))); go_big_quiet_on; (try simp only [Act.put, List.setIfInBounds_toArray, List.set_cons_zero, List.set_cons_succ])))
        (first | go_big_quiet_skip | (go_big_quiet_want; refine quiet_val (v := ?_) ?_ ?_; rotate_left 1; (· (intro Wq hWq; obtain ⟨hWc, hWf⟩ := bcell hWq; go_simp; (try with_reducible rfl))); go_big_quiet_on; (try simp only [Act.put, List.setIfInBounds_toArray, List.set_cons_zero, List.set_cons_succ])))
        (first | go_big_quiet_skip | (go_big_quiet_want; refine quiet_val (v := ?_) ?_ ?_; rotate_left 1; (· (intro Wq hWq; obtain ⟨hWc, hWf⟩ := bcell hWq; go_simp; (try with_reducible rfl))); go_big_quiet_on; (try simp only [Act.put, List.setIfInBounds_toArray, List.set_cons_zero, List.set_cons_succ])))
        (first | go_big_quiet_skip | (go_big_quiet_want; refine quiet_val (v := ?_) ?_ ?_; rotate_left 1; (· (intro Wq hWq; obtain ⟨hWc, hWf⟩ := bcell hWq; go_simp; (try with_reducible rfl))); go_big_quiet_on; (try simp only [Act.put, List.setIfInBounds_toArray, List.set_cons_zero, List.set_cons_succ])))
        (first | go_big_quiet_skip | (go_big_quiet_want; refine quiet_val (v := ?_) ?_ ?_; rotate_left 1; (· (intro Wq hWq; obtain ⟨hWc, hWf⟩ := bcell hWq; go_simp; (try with_reducible rfl))); go_big_quiet_on; (try simp only [Act.put, List.setIfInBounds_toArray, List.set_cons_zero, List.set_cons_succ])))
        (first | go_big_quiet_skip | (go_big_quiet_want; refine quiet_val (v := ?_) ?_ ?_; rotate_left 1; (· (intro Wq hWq; obtain ⟨hWc, hWf⟩ := bcell hWq; go_simp; (try with_reducible rfl))); go_big_quiet_on; (try simp only [Act.put, List.setIfInBounds_toArray, List.set_cons_zero, List.set_cons_succ])))
        (first | go_big_quiet_skip | (go_big_quiet_want; refine quiet_val (v := ?_) ?_ ?_; rotate_left 1; (· (intro Wq hWq; obtain ⟨hWc, hWf⟩ := bcell hWq; go_simp; (try with_reducible rfl))); go_big_quiet_on; (try simp only [Act.put, List.setIfInBounds_toArray, List.set_cons_zero, List.set_cons_succ])))
        (first | go_big_quiet_skip | (go_big_quiet_want; refine quiet_val (v := ?_) ?_ ?_; rotate_left 1; (· (intro Wq hWq; obtain ⟨hWc, hWf⟩ := bcell hWq; go_simp; (try with_reducible rfl))); go_big_quiet_on; (try simp only [Act.put, List.setIfInBounds_toArray, List.set_cons_zero, List.set_cons_succ])))
        (first | go_big_quiet_skip | (go_big_quiet_want; refine quiet_val (v := ?_) ?_ ?_; rotate_left 1; (· (intro Wq hWq; obtain ⟨hWc, hWf⟩ := bcell hWq; go_simp; (try with_reducible rfl))); go_big_quiet_on; (try simp only [Act.put, List.setIfInBounds_toArray, List.set_cons_zero, List.set_cons_succ])))
        (first | go_big_quiet_skip | (go_big_quiet_want; refine quiet_val (v := ?_) ?_ ?_; rotate_left 1; (· (intro Wq hWq; obtain ⟨hWc, hWf⟩ := bcell hWq; go_simp; (try with_reducible rfl))); go_big_quiet_on; (try simp only [Act.put, List.setIfInBounds_toArray, List.set_cons_zero, List.set_cons_succ])))
        go_big_quiet_want; refine quiet_callB (f := 47) (args := ?_) (v := ?_) ?_ ?_ ?_; rotate_left 2
        · (intro Wq hWq; obtain ⟨hWc, hWf⟩ := bcell hWq; go_simp; (first | with_reducible rfl | exact ⟨rfl, rfl⟩))
        · (intro Wq hWq; exact HH.out a b n _)
        go_big_quiet_on; (try simp only [Act.put, List.setIfInBounds_toArray, List.set_cons_zero, List.set_cons_succ])
        (first | go_big_quiet_skip | (go_big_quiet_want; refine quiet_val (v := ?_) ?_ ?_; rotate_left 1; (· (intro Wq hWq; obtain ⟨hWc, hWf⟩ := bcell hWq; go_simp; (try with_reducible rfl))); go_big_quiet_on; (try simp only [Act.put, List.setIfInBounds_toArray, List.set_cons_zero, List.set_cons_succ])))
        (first | go_big_quiet_skip | (go_big_quiet_want; refine quiet_val (v := ?_) ?_ ?_; rotate_left 1; (· (intro Wq hWq; obtain ⟨hWc, hWf⟩ := bcell hWq; go_simp; (try with_reducible rfl))); go_big_quiet_on; (try simp only [Act.put, List.setIfInBounds_toArray, List.set_cons_zero, List.set_cons_succ])))
        (first | go_big_quiet_skip | (go_big_quiet_want; refine quiet_val (v := ?_) ?_ ?_; rotate_left 1; (· (intro Wq hWq; obtain ⟨hWc, hWf⟩ := bcell hWq; go_simp; (try with_reducible rfl))); go_big_quiet_on; (try simp only [Act.put, List.setIfInBounds_toArray, List.set_cons_zero, List.set_cons_succ])))
        (first | go_big_quiet_skip | (go_big_quiet_want; refine quiet_val (v := ?_) ?_ ?_; rotate_left 1; (· (intro Wq hWq; obtain ⟨hWc, hWf⟩ := bcell hWq; go_simp; (try with_reducible rfl))); go_big_quiet_on; (try simp only [Act.put, List.setIfInBounds_toArray, List.set_cons_zero, List.set_cons_succ])))
        go_big_quiet_want; refine quiet_callB (f := 47) (args := ?_) (v := ?_) ?_ ?_ ?_; rotate_left 2
        · (intro Wq hWq; obtain ⟨hWc, hWf⟩ := bcell hWq; go_simp; (first | with_reducible rfl | exact ⟨rfl, rfl⟩))
        · (intro Wq hWq; exact HH.out c d n _)
        go_big_quiet_on; (try simp only [Act.put, List.setIfInBounds_toArray, List.set_cons_zero, List.set_cons_succ])
        (first | go_big_quiet_skip | (go_big_quiet_want; refine quiet_val (v := ?_) ?_ ?_; rotate_left 1; (· (intro Wq hWq; obtain ⟨hWc, hWf⟩ := bcell hWq; go_simp; (try with_reducible rfl))); go_big_quiet_on; (try simp only [Act.put, List.setIfInBounds_toArray, List.set_cons_zero, List.set_cons_succ])))
        (first | go_big_quiet_skip | (go_big_quiet_want; refine quiet_val (v := ?_) ?_ ?_; rotate_left 1; (· (intro Wq hWq; obtain ⟨hWc, hWf⟩ := bcell hWq; go_simp; (try with_reducible rfl))); go_big_quiet_on; (try simp only [Act.put, List.setIfInBounds_toArray, List.set_cons_zero, List.set_cons_succ])))
        refine wpQuiet_nil ?_; intro w5 hb5
        have q0_0 : w5.cell? ⟨w.heap.size, 0, none⟩ = some (.int .i64 a) := keep_cell hb5 (by simp [go_sem, *]); have q0_1 : w5.cell? ⟨w.heap.size, 1, none⟩ = some (.int .i64 b) := keep_cell hb5 (by simp [go_sem, *]); have p0 : w.heap.size < w5.heap.size := cell?_lt q0_0; have q1_0 : w5.cell? ⟨w.heap.size + 1, 0, none⟩ = some (.int .i64 c) := keep_cell hb5 (by simp [go_sem, *]); have q1_1 : w5.cell? ⟨w.heap.size + 1, 1, none⟩ = some (.int .i64 d) := keep_cell hb5 (by simp [go_sem, *]); have p1 : w.heap.size + 1 < w5.heap.size := cell?_lt q1_0; have q2_0 : w5.cell? ⟨w.heap.size + 1 + 1, 0, none⟩ = some (.int .i64 n) := keep_cell hb5 (by simp [go_sem, *]); have q2_1 : w5.cell? ⟨w.heap.size + 1 + 1, 1, none⟩ = some (.int .i64 m) := keep_cell hb5 (by simp [go_sem, *]); have p2 : w.heap.size + 1 + 1 < w5.heap.size := cell?_lt q2_0; have q3_0 : w5.cell? ⟨w4.heap.size, 0, none⟩ = some (.int .i64 p) := keep_cell hb5 (by simp [go_sem, *]); have q3_1 : w5.cell? ⟨w4.heap.size, 1, none⟩ = some (.int .i64 q) := keep_cell hb5 (by simp [go_sem, *]); have p3 : w4.heap.size < w5.heap.size := cell?_lt q3_0
        go_wp2_with fail
        go_meet; exact ⟨rfl, (by simp [go_sem, *]), (by simp [go_sem, *]), (by simp [go_sem, *]), (by simp [go_sem, *]), (by simp [go_sem, *]), (by simp [go_sem, *]), (by simp [go_sem, *]), (by simp [go_sem, *]), by (repeat (first | exact Below.refl _ _ | refine Below.drew ?_ | refine Below.allocS ?_ _ | refine Below.step ?_ (by assumption) | refine Below.setCell ?_ (by simp <;> omega) _ | refine Below.drewN' ?_ _))⟩
  case rest =>
    clear g4 x4_0_0 x4_0_1 x4_1_0 x4_1_1 x4_2_0 x4_2_1 y4_0 y4_1 y4_2
    obtain ⟨c5, x5_0_0, x5_0_1, x5_1_0, x5_1_1, x5_2_0, x5_2_1, x5_3_0, x5_3_1, g5⟩ := hcut
    have y5_0 : w.heap.size < wc.heap.size := cell?_lt x5_0_0
    have y5_1 : w.heap.size + 1 < wc.heap.size := cell?_lt x5_1_0
    have y5_2 : w.heap.size + 1 + 1 < wc.heap.size := cell?_lt x5_2_0
    have y5_3 : w4.heap.size < wc.heap.size := cell?_lt x5_3_0
    subst c5
    go_wp2_with fail
    refine (H2.out _).mono ?_
    rintro e w6 ⟨rfl, hb6⟩
    have x6_0_0 : w6.cell? ⟨w.heap.size, 0, none⟩ = some (.int .i64 a) := keep_cell hb6 (by simp [go_sem, *])
    have x6_0_1 : w6.cell? ⟨w.heap.size, 1, none⟩ = some (.int .i64 b) := keep_cell hb6 (by simp [go_sem, *])
    have y6_0 : w.heap.size < w6.heap.size := cell?_lt x6_0_0
    have x6_1_0 : w6.cell? ⟨w.heap.size + 1, 0, none⟩ = some (.int .i64 c) := keep_cell hb6 (by simp [go_sem, *])
    have x6_1_1 : w6.cell? ⟨w.heap.size + 1, 1, none⟩ = some (.int .i64 d) := keep_cell hb6 (by simp [go_sem, *])
    have y6_1 : w.heap.size + 1 < w6.heap.size := cell?_lt x6_1_0
    have x6_2_0 : w6.cell? ⟨w.heap.size + 1 + 1, 0, none⟩ = some (.int .i64 n) := keep_cell hb6 (by simp [go_sem, *])
    have x6_2_1 : w6.cell? ⟨w.heap.size + 1 + 1, 1, none⟩ = some (.int .i64 m) := keep_cell hb6 (by simp [go_sem, *])
    have y6_2 : w.heap.size + 1 + 1 < w6.heap.size := cell?_lt x6_2_0
    have x6_3_0 : w6.cell? ⟨w4.heap.size, 0, none⟩ = some (.int .i64 p) := keep_cell hb6 (by simp [go_sem, *])
    have x6_3_1 : w6.cell? ⟨w4.heap.size, 1, none⟩ = some (.int .i64 q) := keep_cell hb6 (by simp [go_sem, *])
    have y6_3 : w4.heap.size < w6.heap.size := cell?_lt x6_3_0
    have g6 : Below w.heap.size w w6 := by (repeat (first | exact Below.refl _ _ | refine Below.drew ?_ | refine Below.allocS ?_ _ | refine Below.step ?_ (by assumption) | refine Below.setCell ?_ (by simp <;> omega) _ | refine Below.drewN' ?_ _))
    clear hb6 g5 x5_0_0 x5_0_1 x5_1_0 x5_1_1 x5_2_0 x5_2_1 x5_3_0 x5_3_1 y5_0 y5_1 y5_2 y5_3
    go_upto_region 8 with fail
    go_cut [91] (fun s91 w7 => (s91 = .bool false) ∧ w7.cell? ⟨w.heap.size, 0, none⟩ = some (.int .i64 a) ∧ w7.cell? ⟨w.heap.size, 1, none⟩ = some (.int .i64 b) ∧ w7.cell? ⟨w.heap.size + 1, 0, none⟩ = some (.int .i64 c) ∧ w7.cell? ⟨w.heap.size + 1, 1, none⟩ = some (.int .i64 d) ∧ w7.cell? ⟨w.heap.size + 1 + 1, 0, none⟩ = some (.int .i64 n) ∧ w7.cell? ⟨w.heap.size + 1 + 1, 1, none⟩ = some (.int .i64 m) ∧ w7.cell? ⟨w4.heap.size, 0, none⟩ = some (.int .i64 p) ∧ w7.cell? ⟨w4.heap.size, 1, none⟩ = some (.int .i64 q) ∧ w7.cell? ⟨w6.heap.size, 0, none⟩ = some (.int .i64 hl) ∧ w7.cell? ⟨w6.heap.size, 1, none⟩ = some (.int .i64 hr) ∧ Below w.heap.size w w7)
    case first =>
      rcases KH.out with ⟨k1, k2⟩ | k1
      · have tk : True := trivial
        go_wp2_with fail
        refine (HH.out a b n _).mono ?_
        rintro e w71 ⟨rfl, hb71⟩
        have x71_0_0 : w71.cell? ⟨w.heap.size, 0, none⟩ = some (.int .i64 a) := keep_cell hb71 (by simp [go_sem, *])
        have x71_0_1 : w71.cell? ⟨w.heap.size, 1, none⟩ = some (.int .i64 b) := keep_cell hb71 (by simp [go_sem, *])
        have y71_0 : w.heap.size < w71.heap.size := cell?_lt x71_0_0
        have x71_1_0 : w71.cell? ⟨w.heap.size + 1, 0, none⟩ = some (.int .i64 c) := keep_cell hb71 (by simp [go_sem, *])
        have x71_1_1 : w71.cell? ⟨w.heap.size + 1, 1, none⟩ = some (.int .i64 d) := keep_cell hb71 (by simp [go_sem, *])
        have y71_1 : w.heap.size + 1 < w71.heap.size := cell?_lt x71_1_0
        have x71_2_0 : w71.cell? ⟨w.heap.size + 1 + 1, 0, none⟩ = some (.int .i64 n) := keep_cell hb71 (by simp [go_sem, *])
        have x71_2_1 : w71.cell? ⟨w.heap.size + 1 + 1, 1, none⟩ = some (.int .i64 m) := keep_cell hb71 (by simp [go_sem, *])
        have y71_2 : w.heap.size + 1 + 1 < w71.heap.size := cell?_lt x71_2_0
        have x71_3_0 : w71.cell? ⟨w4.heap.size, 0, none⟩ = some (.int .i64 p) := keep_cell hb71 (by simp [go_sem, *])
        have x71_3_1 : w71.cell? ⟨w4.heap.size, 1, none⟩ = some (.int .i64 q) := keep_cell hb71 (by simp [go_sem, *])
        have y71_3 : w4.heap.size < w71.heap.size := cell?_lt x71_3_0
        have x71_4_0 : w71.cell? ⟨w6.heap.size, 0, none⟩ = some (.int .i64 hl) := keep_cell hb71 (by simp [go_sem, *])
        have x71_4_1 : w71.cell? ⟨w6.heap.size, 1, none⟩ = some (.int .i64 hr) := keep_cell hb71 (by simp [go_sem, *])
        have y71_4 : w6.heap.size < w71.heap.size := cell?_lt x71_4_0
        have g71 : Below w.heap.size w w71 := by (repeat (first | exact Below.refl _ _ | refine Below.drew ?_ | refine Below.allocS ?_ _ | refine Below.step ?_ (by assumption) | refine Below.setCell ?_ (by simp <;> omega) _ | refine Below.drewN' ?_ _))
        clear hb71 g6 x6_0_0 x6_0_1 x6_1_0 x6_1_1 x6_2_0 x6_2_1 x6_3_0 x6_3_1 y6_0 y6_1 y6_2 y6_3
        rw [k1]
        go_wp2_with fail
        refine (HH.out c d n _).mono ?_
        rintro e w72 ⟨rfl, hb72⟩
        have x72_0_0 : w72.cell? ⟨w.heap.size, 0, none⟩ = some (.int .i64 a) := keep_cell hb72 (by simp [go_sem, *])
        have x72_0_1 : w72.cell? ⟨w.heap.size, 1, none⟩ = some (.int .i64 b) := keep_cell hb72 (by simp [go_sem, *])
        have y72_0 : w.heap.size < w72.heap.size := cell?_lt x72_0_0
        have x72_1_0 : w72.cell? ⟨w.heap.size + 1, 0, none⟩ = some (.int .i64 c) := keep_cell hb72 (by simp [go_sem, *])
        have x72_1_1 : w72.cell? ⟨w.heap.size + 1, 1, none⟩ = some (.int .i64 d) := keep_cell hb72 (by simp [go_sem, *])
        have y72_1 : w.heap.size + 1 < w72.heap.size := cell?_lt x72_1_0
        have x72_2_0 : w72.cell? ⟨w.heap.size + 1 + 1, 0, none⟩ = some (.int .i64 n) := keep_cell hb72 (by simp [go_sem, *])
        have x72_2_1 : w72.cell? ⟨w.heap.size + 1 + 1, 1, none⟩ = some (.int .i64 m) := keep_cell hb72 (by simp [go_sem, *])
        have y72_2 : w.heap.size + 1 + 1 < w72.heap.size := cell?_lt x72_2_0
        have x72_3_0 : w72.cell? ⟨w4.heap.size, 0, none⟩ = some (.int .i64 p) := keep_cell hb72 (by simp [go_sem, *])
        have x72_3_1 : w72.cell? ⟨w4.heap.size, 1, none⟩ = some (.int .i64 q) := keep_cell hb72 (by simp [go_sem, *])
        have y72_3 : w4.heap.size < w72.heap.size := cell?_lt x72_3_0
        have x72_4_0 : w72.cell? ⟨w6.heap.size, 0, none⟩ = some (.int .i64 hl) := keep_cell hb72 (by simp [go_sem, *])
        have x72_4_1 : w72.cell? ⟨w6.heap.size, 1, none⟩ = some (.int .i64 hr) := keep_cell hb72 (by simp [go_sem, *])
        have y72_4 : w6.heap.size < w72.heap.size := cell?_lt x72_4_0
        have g72 : Below w.heap.size w w72 := by (repeat (first | exact Below.refl _ _ | refine Below.drew ?_ | refine Below.allocS ?_ _ | refine Below.step ?_ (by assumption) | refine Below.setCell ?_ (by simp <;> omega) _ | refine Below.drewN' ?_ _))
        clear hb72 g71 x71_0_0 x71_0_1 x71_1_0 x71_1_1 x71_2_0 x71_2_1 x71_3_0 x71_3_1 x71_4_0 x71_4_1 y71_0 y71_1 y71_2 y71_3 y71_4
        rw [k2]
        go_wp2_with fail
        go_meet; exact ⟨rfl, (by simp [go_sem, *]), (by simp [go_sem, *]), (by simp [go_sem, *]), (by simp [go_sem, *]), (by simp [go_sem, *]), (by simp [go_sem, *]), (by simp [go_sem, *]), (by simp [go_sem, *]), (by simp [go_sem, *]), (by simp [go_sem, *]), by (repeat (first | exact Below.refl _ _ | refine Below.drew ?_ | refine Below.allocS ?_ _ | refine Below.step ?_ (by assumption) | refine Below.setCell ?_ (by simp <;> omega) _ | refine Below.drewN' ?_ _))⟩
      · cases k2 : hasB a b n
        · cases k3 : hasB c d n
          · have tk : True := trivial
            go_wp2_with fail
            refine (HH.out a b n _).mono ?_
            rintro e w71 ⟨rfl, hb71⟩
            have x71_0_0 : w71.cell? ⟨w.heap.size, 0, none⟩ = some (.int .i64 a) := keep_cell hb71 (by simp [go_sem, *])
            have x71_0_1 : w71.cell? ⟨w.heap.size, 1, none⟩ = some (.int .i64 b) := keep_cell hb71 (by simp [go_sem, *])
            have y71_0 : w.heap.size < w71.heap.size := cell?_lt x71_0_0
            have x71_1_0 : w71.cell? ⟨w.heap.size + 1, 0, none⟩ = some (.int .i64 c) := keep_cell hb71 (by simp [go_sem, *])
            have x71_1_1 : w71.cell? ⟨w.heap.size + 1, 1, none⟩ = some (.int .i64 d) := keep_cell hb71 (by simp [go_sem, *])
            have y71_1 : w.heap.size + 1 < w71.heap.size := cell?_lt x71_1_0
            have x71_2_0 : w71.cell? ⟨w.heap.size + 1 + 1, 0, none⟩ = some (.int .i64 n) := keep_cell hb71 (by simp [go_sem, *])
            have x71_2_1 : w71.cell? ⟨w.heap.size + 1 + 1, 1, none⟩ = some (.int .i64 m) := keep_cell hb71 (by simp [go_sem, *])
            have y71_2 : w.heap.size + 1 + 1 < w71.heap.size := cell?_lt x71_2_0
            have x71_3_0 : w71.cell? ⟨w4.heap.size, 0, none⟩ = some (.int .i64 p) := keep_cell hb71 (by simp [go_sem, *])
            have x71_3_1 : w71.cell? ⟨w4.heap.size, 1, none⟩ = some (.int .i64 q) := keep_cell hb71 (by simp [go_sem, *])
            have y71_3 : w4.heap.size < w71.heap.size := cell?_lt x71_3_0
            have x71_4_0 : w71.cell? ⟨w6.heap.size, 0, none⟩ = some (.int .i64 hl) := keep_cell hb71 (by simp [go_sem, *])
            have x71_4_1 : w71.cell? ⟨w6.heap.size, 1, none⟩ = some (.int .i64 hr) := keep_cell hb71 (by simp [go_sem, *])
            have y71_4 : w6.heap.size < w71.heap.size := cell?_lt x71_4_0
            have g71 : Below w.heap.size w w71 := by (repeat (first | exact Below.refl _ _ | refine Below.drew ?_ | refine Below.allocS ?_ _ | refine Below.step ?_ (by assumption) | refine Below.setCell ?_ (by simp <;> omega) _ | refine Below.drewN' ?_ _))
            clear hb71 g6 x6_0_0 x6_0_1 x6_1_0 x6_1_1 x6_2_0 x6_2_1 x6_3_0 x6_3_1 y6_0 y6_1 y6_2 y6_3
            rw [k2]
            go_wp2_with fail
            refine (HH.out c d n _).mono ?_
            rintro e w72 ⟨rfl, hb72⟩
            have x72_0_0 : w72.cell? ⟨w.heap.size, 0, none⟩ = some (.int .i64 a) := keep_cell hb72 (by simp [go_sem, *])
            have x72_0_1 : w72.cell? ⟨w.heap.size, 1, none⟩ = some (.int .i64 b) := keep_cell hb72 (by simp [go_sem, *])
            have y72_0 : w.heap.size < w72.heap.size := cell?_lt x72_0_0
            have x72_1_0 : w72.cell? ⟨w.heap.size + 1, 0, none⟩ = some (.int .i64 c) := keep_cell hb72 (by simp [go_sem, *])
            have x72_1_1 : w72.cell? ⟨w.heap.size + 1, 1, none⟩ = some (.int .i64 d) := keep_cell hb72 (by simp [go_sem, *])
            have y72_1 : w.heap.size + 1 < w72.heap.size := cell?_lt x72_1_0
            have x72_2_0 : w72.cell? ⟨w.heap.size + 1 + 1, 0, none⟩ = some (.int .i64 n) := keep_cell hb72 (by simp [go_sem, *])
            have x72_2_1 : w72.cell? ⟨w.heap.size + 1 + 1, 1, none⟩ = some (.int .i64 m) := keep_cell hb72 (by simp [go_sem, *])
            have y72_2 : w.heap.size + 1 + 1 < w72.heap.size := cell?_lt x72_2_0
            have x72_3_0 : w72.cell? ⟨w4.heap.size, 0, none⟩ = some (.int .i64 p) := keep_cell hb72 (by simp [go_sem, *])
            have x72_3_1 : w72.cell? ⟨w4.heap.size, 1, none⟩ = some (.int .i64 q) := keep_cell hb72 (by simp [go_sem, *])
            have y72_3 : w4.heap.size < w72.heap.size := cell?_lt x72_3_0
            have x72_4_0 : w72.cell? ⟨w6.heap.size, 0, none⟩ = some (.int .i64 hl) := keep_cell hb72 (by simp [go_sem, *])
            have x72_4_1 : w72.cell? ⟨w6.heap.size, 1, none⟩ = some (.int .i64 hr) := keep_cell hb72 (by simp [go_sem, *])
            have y72_4 : w6.heap.size < w72.heap.size := cell?_lt x72_4_0
            have g72 : Below w.heap.size w w72 := by (repeat (first | exact Below.refl _ _ | refine Below.drew ?_ | refine Below.allocS ?_ _ | refine Below.step ?_ (by assumption) | refine Below.setCell ?_ (by simp <;> omega) _ | refine Below.drewN' ?_ _))
            clear hb72 g71 x71_0_0 x71_0_1 x71_1_0 x71_1_1 x71_2_0 x71_2_1 x71_3_0 x71_3_1 x71_4_0 x71_4_1 y71_0 y71_1 y71_2 y71_3 y71_4
            rw [k3]
            go_wp2_with fail
            go_meet; exact ⟨rfl, (by simp [go_sem, *]), (by simp [go_sem, *]), (by simp [go_sem, *]), (by simp [go_sem, *]), (by simp [go_sem, *]), (by simp [go_sem, *]), (by simp [go_sem, *]), (by simp [go_sem, *]), (by simp [go_sem, *]), (by simp [go_sem, *]), by (repeat (first | exact Below.refl _ _ | refine Below.drew ?_ | refine Below.allocS ?_ _ | refine Below.step ?_ (by assumption) | refine Below.setCell ?_ (by simp <;> omega) _ | refine Below.drewN' ?_ _))⟩
          · have tk : True := trivial
            go_wp2_with fail
            refine (HH.out a b n _).mono ?_
            rintro e w71 ⟨rfl, hb71⟩
            have x71_0_0 : w71.cell? ⟨w.heap.size, 0, none⟩ = some (.int .i64 a) := keep_cell hb71 (by simp [go_sem, *])
            have x71_0_1 : w71.cell? ⟨w.heap.size, 1, none⟩ = some (.int .i64 b) := keep_cell hb71 (by simp [go_sem, *])
            have y71_0 : w.heap.size < w71.heap.size := cell?_lt x71_0_0
            have x71_1_0 : w71.cell? ⟨w.heap.size + 1, 0, none⟩ = some (.int .i64 c) := keep_cell hb71 (by simp [go_sem, *])
            have x71_1_1 : w71.cell? ⟨w.heap.size + 1, 1, none⟩ = some (.int .i64 d) := keep_cell hb71 (by simp [go_sem, *])
            have y71_1 : w.heap.size + 1 < w71.heap.size := cell?_lt x71_1_0
            have x71_2_0 : w71.cell? ⟨w.heap.size + 1 + 1, 0, none⟩ = some (.int .i64 n) := keep_cell hb71 (by simp [go_sem, *])
            have x71_2_1 : w71.cell? ⟨w.heap.size + 1 + 1, 1, none⟩ = some (.int .i64 m) := keep_cell hb71 (by simp [go_sem, *])
            have y71_2 : w.heap.size + 1 + 1 < w71.heap.size := cell?_lt x71_2_0
            have x71_3_0 : w71.cell? ⟨w4.heap.size, 0, none⟩ = some (.int .i64 p) := keep_cell hb71 (by simp [go_sem, *])
            have x71_3_1 : w71.cell? ⟨w4.heap.size, 1, none⟩ = some (.int .i64 q) := keep_cell hb71 (by simp [go_sem, *])
            have y71_3 : w4.heap.size < w71.heap.size := cell?_lt x71_3_0
            have x71_4_0 : w71.cell? ⟨w6.heap.size, 0, none⟩ = some (.int .i64 hl) := keep_cell hb71 (by simp [go_sem, *])
            have x71_4_1 : w71.cell? ⟨w6.heap.size, 1, none⟩ = some (.int .i64 hr) := keep_cell hb71 (by simp [go_sem, *])
            have y71_4 : w6.heap.size < w71.heap.size := cell?_lt x71_4_0
            have g71 : Below w.heap.size w w71 := by (repeat (first | exact Below.refl _ _ | refine Below.drew ?_ | refine Below.allocS ?_ _ | refine Below.step ?_ (by assumption) | refine Below.setCell ?_ (by simp <;> omega) _ | refine Below.drewN' ?_ _))
            clear hb71 g6 x6_0_0 x6_0_1 x6_1_0 x6_1_1 x6_2_0 x6_2_1 x6_3_0 x6_3_1 y6_0 y6_1 y6_2 y6_3
            rw [k2]
            go_wp2_with fail
            refine (HH.out c d n _).mono ?_
            rintro e w72 ⟨rfl, hb72⟩
            have x72_0_0 : w72.cell? ⟨w.heap.size, 0, none⟩ = some (.int .i64 a) := keep_cell hb72 (by simp [go_sem, *])
            have x72_0_1 : w72.cell? ⟨w.heap.size, 1, none⟩ = some (.int .i64 b) := keep_cell hb72 (by simp [go_sem, *])
            have y72_0 : w.heap.size < w72.heap.size := cell?_lt x72_0_0
            have x72_1_0 : w72.cell? ⟨w.heap.size + 1, 0, none⟩ = some (.int .i64 c) := keep_cell hb72 (by simp [go_sem, *])
            have x72_1_1 : w72.cell? ⟨w.heap.size + 1, 1, none⟩ = some (.int .i64 d) := keep_cell hb72 (by simp [go_sem, *])
            have y72_1 : w.heap.size + 1 < w72.heap.size := cell?_lt x72_1_0
            have x72_2_0 : w72.cell? ⟨w.heap.size + 1 + 1, 0, none⟩ = some (.int .i64 n) := keep_cell hb72 (by simp [go_sem, *])
            have x72_2_1 : w72.cell? ⟨w.heap.size + 1 + 1, 1, none⟩ = some (.int .i64 m) := keep_cell hb72 (by simp [go_sem, *])
            have y72_2 : w.heap.size + 1 + 1 < w72.heap.size := cell?_lt x72_2_0
            have x72_3_0 : w72.cell? ⟨w4.heap.size, 0, none⟩ = some (.int .i64 p) := keep_cell hb72 (by simp [go_sem, *])
            have x72_3_1 : w72.cell? ⟨w4.heap.size, 1, none⟩ = some (.int .i64 q) := keep_cell hb72 (by simp [go_sem, *])
            have y72_3 : w4.heap.size < w72.heap.size := cell?_lt x72_3_0
            have x72_4_0 : w72.cell? ⟨w6.heap.size, 0, none⟩ = some (.int .i64 hl) := keep_cell hb72 (by simp [go_sem, *])
            have x72_4_1 : w72.cell? ⟨w6.heap.size, 1, none⟩ = some (.int .i64 hr) := keep_cell hb72 (by simp [go_sem, *])
            have y72_4 : w6.heap.size < w72.heap.size := cell?_lt x72_4_0
            have g72 : Below w.heap.size w w72 := by (repeat (first | exact Below.refl _ _ | refine Below.drew ?_ | refine Below.allocS ?_ _ | refine Below.step ?_ (by assumption) | refine Below.setCell ?_ (by simp <;> omega) _ | refine Below.drewN' ?_ _))
            clear hb72 g71 x71_0_0 x71_0_1 x71_1_0 x71_1_1 x71_2_0 x71_2_1 x71_3_0 x71_3_1 x71_4_0 x71_4_1 y71_0 y71_1 y71_2 y71_3 y71_4
            rw [k3]
            go_wp2_with fail
            refine (HH.out hl hr n _).mono ?_
            rintro e w73 ⟨rfl, hb73⟩
            have x73_0_0 : w73.cell? ⟨w.heap.size, 0, none⟩ = some (.int .i64 a) := keep_cell hb73 (by simp [go_sem, *])
            have x73_0_1 : w73.cell? ⟨w.heap.size, 1, none⟩ = some (.int .i64 b) := keep_cell hb73 (by simp [go_sem, *])
            have y73_0 : w.heap.size < w73.heap.size := cell?_lt x73_0_0
            have x73_1_0 : w73.cell? ⟨w.heap.size + 1, 0, none⟩ = some (.int .i64 c) := keep_cell hb73 (by simp [go_sem, *])
            have x73_1_1 : w73.cell? ⟨w.heap.size + 1, 1, none⟩ = some (.int .i64 d) := keep_cell hb73 (by simp [go_sem, *])
            have y73_1 : w.heap.size + 1 < w73.heap.size := cell?_lt x73_1_0
            have x73_2_0 : w73.cell? ⟨w.heap.size + 1 + 1, 0, none⟩ = some (.int .i64 n) := keep_cell hb73 (by simp [go_sem, *])
            have x73_2_1 : w73.cell? ⟨w.heap.size + 1 + 1, 1, none⟩ = some (.int .i64 m) := keep_cell hb73 (by simp [go_sem, *])
            have y73_2 : w.heap.size + 1 + 1 < w73.heap.size := cell?_lt x73_2_0
            have x73_3_0 : w73.cell? ⟨w4.heap.size, 0, none⟩ = some (.int .i64 p) := keep_cell hb73 (by simp [go_sem, *])
            have x73_3_1 : w73.cell? ⟨w4.heap.size, 1, none⟩ = some (.int .i64 q) := keep_cell hb73 (by simp [go_sem, *])
            have y73_3 : w4.heap.size < w73.heap.size := cell?_lt x73_3_0
            have x73_4_0 : w73.cell? ⟨w6.heap.size, 0, none⟩ = some (.int .i64 hl) := keep_cell hb73 (by simp [go_sem, *])
            have x73_4_1 : w73.cell? ⟨w6.heap.size, 1, none⟩ = some (.int .i64 hr) := keep_cell hb73 (by simp [go_sem, *])
            have y73_4 : w6.heap.size < w73.heap.size := cell?_lt x73_4_0
            have g73 : Below w.heap.size w w73 := by (repeat (first | exact Below.refl _ _ | refine Below.drew ?_ | refine Below.allocS ?_ _ | refine Below.step ?_ (by assumption) | refine Below.setCell ?_ (by simp <;> omega) _ | refine Below.drewN' ?_ _))
            clear hb73 g72 x72_0_0 x72_0_1 x72_1_0 x72_1_1 x72_2_0 x72_2_1 x72_3_0 x72_3_1 x72_4_0 x72_4_1 y72_0 y72_1 y72_2 y72_3 y72_4
            rw [k1]
            go_wp2_with fail
            go_meet; exact ⟨rfl, (by simp [go_sem, *]), (by simp [go_sem, *]), (by simp [go_sem, *]), (by simp [go_sem, *]), (by simp [go_sem, *]), (by simp [go_sem, *]), (by simp [go_sem, *]), (by simp [go_sem, *]), (by simp [go_sem, *]), (by simp [go_sem, *]), by (repeat (first | exact Below.refl _ _ | refine Below.drew ?_ | refine Below.allocS ?_ _ | refine Below.step ?_ (by assumption) | refine Below.setCell ?_ (by simp <;> omega) _ | refine Below.drewN' ?_ _))⟩
        · have tk : True := trivial
          go_wp2_with fail
          refine (HH.out a b n _).mono ?_
          rintro e w71 ⟨rfl, hb71⟩
          have x71_0_0 : w71.cell? ⟨w.heap.size, 0, none⟩ = some (.int .i64 a) := keep_cell hb71 (by simp [go_sem, *])
          have x71_0_1 : w71.cell? ⟨w.heap.size, 1, none⟩ = some (.int .i64 b) := keep_cell hb71 (by simp [go_sem, *])
          have y71_0 : w.heap.size < w71.heap.size := cell?_lt x71_0_0
          have x71_1_0 : w71.cell? ⟨w.heap.size + 1, 0, none⟩ = some (.int .i64 c) := keep_cell hb71 (by simp [go_sem, *])
          have x71_1_1 : w71.cell? ⟨w.heap.size + 1, 1, none⟩ = some (.int .i64 d) := keep_cell hb71 (by simp [go_sem, *])
          have y71_1 : w.heap.size + 1 < w71.heap.size := cell?_lt x71_1_0
          have x71_2_0 : w71.cell? ⟨w.heap.size + 1 + 1, 0, none⟩ = some (.int .i64 n) := keep_cell hb71 (by simp [go_sem, *])
          have x71_2_1 : w71.cell? ⟨w.heap.size + 1 + 1, 1, none⟩ = some (.int .i64 m) := keep_cell hb71 (by simp [go_sem, *])
          have y71_2 : w.heap.size + 1 + 1 < w71.heap.size := cell?_lt x71_2_0
          have x71_3_0 : w71.cell? ⟨w4.heap.size, 0, none⟩ = some (.int .i64 p) := keep_cell hb71 (by simp [go_sem, *])
          have x71_3_1 : w71.cell? ⟨w4.heap.size, 1, none⟩ = some (.int .i64 q) := keep_cell hb71 (by simp [go_sem, *])
          have y71_3 : w4.heap.size < w71.heap.size := cell?_lt x71_3_0
          have x71_4_0 : w71.cell? ⟨w6.heap.size, 0, none⟩ = some (.int .i64 hl) := keep_cell hb71 (by simp [go_sem, *])
          have x71_4_1 : w71.cell? ⟨w6.heap.size, 1, none⟩ = some (.int .i64 hr) := keep_cell hb71 (by simp [go_sem, *])
          have y71_4 : w6.heap.size < w71.heap.size := cell?_lt x71_4_0
          have g71 : Below w.heap.size w w71 := by (repeat (first | exact Below.refl _ _ | refine Below.drew ?_ | refine Below.allocS ?_ _ | refine Below.step ?_ (by assumption) | refine Below.setCell ?_ (by simp <;> omega) _ | refine Below.drewN' ?_ _))
          clear hb71 g6 x6_0_0 x6_0_1 x6_1_0 x6_1_1 x6_2_0 x6_2_1 x6_3_0 x6_3_1 y6_0 y6_1 y6_2 y6_3
          rw [k2]
          go_wp2_with fail
          refine (HH.out hl hr n _).mono ?_
          rintro e w72 ⟨rfl, hb72⟩
          have x72_0_0 : w72.cell? ⟨w.heap.size, 0, none⟩ = some (.int .i64 a) := keep_cell hb72 (by simp [go_sem, *])
          have x72_0_1 : w72.cell? ⟨w.heap.size, 1, none⟩ = some (.int .i64 b) := keep_cell hb72 (by simp [go_sem, *])
          have y72_0 : w.heap.size < w72.heap.size := cell?_lt x72_0_0
          have x72_1_0 : w72.cell? ⟨w.heap.size + 1, 0, none⟩ = some (.int .i64 c) := keep_cell hb72 (by simp [go_sem, *])
          have x72_1_1 : w72.cell? ⟨w.heap.size + 1, 1, none⟩ = some (.int .i64 d) := keep_cell hb72 (by simp [go_sem, *])
          have y72_1 : w.heap.size + 1 < w72.heap.size := cell?_lt x72_1_0
          have x72_2_0 : w72.cell? ⟨w.heap.size + 1 + 1, 0, none⟩ = some (.int .i64 n) := keep_cell hb72 (by simp [go_sem, *])
          have x72_2_1 : w72.cell? ⟨w.heap.size + 1 + 1, 1, none⟩ = some (.int .i64 m) := keep_cell hb72 (by simp [go_sem, *])
          have y72_2 : w.heap.size + 1 + 1 < w72.heap.size := cell?_lt x72_2_0
          have x72_3_0 : w72.cell? ⟨w4.heap.size, 0, none⟩ = some (.int .i64 p) := keep_cell hb72 (by simp [go_sem, *])
          have x72_3_1 : w72.cell? ⟨w4.heap.size, 1, none⟩ = some (.int .i64 q) := keep_cell hb72 (by simp [go_sem, *])
          have y72_3 : w4.heap.size < w72.heap.size := cell?_lt x72_3_0
          have x72_4_0 : w72.cell? ⟨w6.heap.size, 0, none⟩ = some (.int .i64 hl) := keep_cell hb72 (by simp [go_sem, *])
          have x72_4_1 : w72.cell? ⟨w6.heap.size, 1, none⟩ = some (.int .i64 hr) := keep_cell hb72 (by simp [go_sem, *])
          have y72_4 : w6.heap.size < w72.heap.size := cell?_lt x72_4_0
          have g72 : Below w.heap.size w w72 := by (repeat (first | exact Below.refl _ _ | refine Below.drew ?_ | refine Below.allocS ?_ _ | refine Below.step ?_ (by assumption) | refine Below.setCell ?_ (by simp <;> omega) _ | refine Below.drewN' ?_ _))
          clear hb72 g71 x71_0_0 x71_0_1 x71_1_0 x71_1_1 x71_2_0 x71_2_1 x71_3_0 x71_3_1 x71_4_0 x71_4_1 y71_0 y71_1 y71_2 y71_3 y71_4
          rw [k1]
          go_wp2_with fail
          go_meet; exact ⟨rfl, (by simp [go_sem, *]), (by simp [go_sem, *]), (by simp [go_sem, *]), (by simp [go_sem, *]), (by simp [go_sem, *]), (by simp [go_sem, *]), (by simp [go_sem, *]), (by simp [go_sem, *]), (by simp [go_sem, *]), (by simp [go_sem, *]), by (repeat (first | exact Below.refl _ _ | refine Below.drew ?_ | refine Below.allocS ?_ _ | refine Below.step ?_ (by assumption) | refine Below.setCell ?_ (by simp <;> omega) _ | refine Below.drewN' ?_ _))⟩
    case rest =>
      clear g6 x6_0_0 x6_0_1 x6_1_0 x6_1_1 x6_2_0 x6_2_1 x6_3_0 x6_3_1 y6_0 y6_1 y6_2 y6_3
      obtain ⟨c7, x7_0_0, x7_0_1, x7_1_0, x7_1_1, x7_2_0, x7_2_1, x7_3_0, x7_3_1, x7_4_0, x7_4_1, g7⟩ := hcut
      have y7_0 : w.heap.size < wc.heap.size := cell?_lt x7_0_0
      have y7_1 : w.heap.size + 1 < wc.heap.size := cell?_lt x7_1_0
      have y7_2 : w.heap.size + 1 + 1 < wc.heap.size := cell?_lt x7_2_0
      have y7_3 : w4.heap.size < wc.heap.size := cell?_lt x7_3_0
      have y7_4 : w6.heap.size < wc.heap.size := cell?_lt x7_4_0
      subst c7
      go_wp2_with fail
      refine (H3.out _).mono ?_
      rintro e w8 ⟨rfl, hb8⟩
      have x8_0_0 : w8.cell? ⟨w.heap.size, 0, none⟩ = some (.int .i64 a) := keep_cell hb8 (by simp [go_sem, *])
      have x8_0_1 : w8.cell? ⟨w.heap.size, 1, none⟩ = some (.int .i64 b) := keep_cell hb8 (by simp [go_sem, *])
      have y8_0 : w.heap.size < w8.heap.size := cell?_lt x8_0_0
      have x8_1_0 : w8.cell? ⟨w.heap.size + 1, 0, none⟩ = some (.int .i64 c) := keep_cell hb8 (by simp [go_sem, *])
      have x8_1_1 : w8.cell? ⟨w.heap.size + 1, 1, none⟩ = some (.int .i64 d) := keep_cell hb8 (by simp [go_sem, *])
      have y8_1 : w.heap.size + 1 < w8.heap.size := cell?_lt x8_1_0
      have x8_2_0 : w8.cell? ⟨w.heap.size + 1 + 1, 0, none⟩ = some (.int .i64 n) := keep_cell hb8 (by simp [go_sem, *])
      have x8_2_1 : w8.cell? ⟨w.heap.size + 1 + 1, 1, none⟩ = some (.int .i64 m) := keep_cell hb8 (by simp [go_sem, *])
      have y8_2 : w.heap.size + 1 + 1 < w8.heap.size := cell?_lt x8_2_0
      have x8_3_0 : w8.cell? ⟨w4.heap.size, 0, none⟩ = some (.int .i64 p) := keep_cell hb8 (by simp [go_sem, *])
      have x8_3_1 : w8.cell? ⟨w4.heap.size, 1, none⟩ = some (.int .i64 q) := keep_cell hb8 (by simp [go_sem, *])
      have y8_3 : w4.heap.size < w8.heap.size := cell?_lt x8_3_0
      have x8_4_0 : w8.cell? ⟨w6.heap.size, 0, none⟩ = some (.int .i64 hl) := keep_cell hb8 (by simp [go_sem, *])
      have x8_4_1 : w8.cell? ⟨w6.heap.size, 1, none⟩ = some (.int .i64 hr) := keep_cell hb8 (by simp [go_sem, *])
      have y8_4 : w6.heap.size < w8.heap.size := cell?_lt x8_4_0
      have g8 : Below w.heap.size w w8 := by (repeat (first | exact Below.refl _ _ | refine Below.drew ?_ | refine Below.allocS ?_ _ | refine Below.step ?_ (by assumption) | refine Below.setCell ?_ (by simp <;> omega) _ | refine Below.drewN' ?_ _))
      clear hb8 g7 x7_0_0 x7_0_1 x7_1_0 x7_1_1 x7_2_0 x7_2_1 x7_3_0 x7_3_1 x7_4_0 x7_4_1 y7_0 y7_1 y7_2 y7_3 y7_4
      go_upto_region 11 with fail
      go_cut [117] (fun s117 w9 => (s117 = .bool false) ∧ w9.cell? ⟨w.heap.size, 0, none⟩ = some (.int .i64 a) ∧ w9.cell? ⟨w.heap.size, 1, none⟩ = some (.int .i64 b) ∧ w9.cell? ⟨w.heap.size + 1, 0, none⟩ = some (.int .i64 c) ∧ w9.cell? ⟨w.heap.size + 1, 1, none⟩ = some (.int .i64 d) ∧ w9.cell? ⟨w.heap.size + 1 + 1, 0, none⟩ = some (.int .i64 n) ∧ w9.cell? ⟨w.heap.size + 1 + 1, 1, none⟩ = some (.int .i64 m) ∧ w9.cell? ⟨w4.heap.size, 0, none⟩ = some (.int .i64 p) ∧ w9.cell? ⟨w4.heap.size, 1, none⟩ = some (.int .i64 q) ∧ w9.cell? ⟨w6.heap.size, 0, none⟩ = some (.int .i64 hl) ∧ w9.cell? ⟨w6.heap.size, 1, none⟩ = some (.int .i64 hr) ∧ w9.cell? ⟨w8.heap.size, 0, none⟩ = some (.int .i64 sp) ∧ w9.cell? ⟨w8.heap.size, 1, none⟩ = some (.int .i64 sq) ∧ Below w.heap.size w w9)
      case first =>
        rcases KS.out with rfl | ⟨rfl, hk⟩
        · go_wp2_with fail
          go_meet; exact ⟨rfl, (by simp [go_sem, *]), (by simp [go_sem, *]), (by simp [go_sem, *]), (by simp [go_sem, *]), (by simp [go_sem, *]), (by simp [go_sem, *]), (by simp [go_sem, *]), (by simp [go_sem, *]), (by simp [go_sem, *]), (by simp [go_sem, *]), (by simp [go_sem, *]), (by simp [go_sem, *]), by (repeat (first | exact Below.refl _ _ | refine Below.drew ?_ | refine Below.allocS ?_ _ | refine Below.step ?_ (by assumption) | refine Below.setCell ?_ (by simp <;> omega) _ | refine Below.drewN' ?_ _))⟩
        · cases k1 : hasB a b n
          · have tk : True := trivial
            go_wp2_with fail
            refine (HH.out a b n _).mono ?_
            rintro e w91 ⟨rfl, hb91⟩
            have x91_0_0 : w91.cell? ⟨w.heap.size, 0, none⟩ = some (.int .i64 a) := keep_cell hb91 (by simp [go_sem, *])
            have x91_0_1 : w91.cell? ⟨w.heap.size, 1, none⟩ = some (.int .i64 b) := keep_cell hb91 (by simp [go_sem, *])
            have y91_0 : w.heap.size < w91.heap.size := cell?_lt x91_0_0
            have x91_1_0 : w91.cell? ⟨w.heap.size + 1, 0, none⟩ = some (.int .i64 c) := keep_cell hb91 (by simp [go_sem, *])
            have x91_1_1 : w91.cell? ⟨w.heap.size + 1, 1, none⟩ = some (.int .i64 d) := keep_cell hb91 (by simp [go_sem, *])
            have y91_1 : w.heap.size + 1 < w91.heap.size := cell?_lt x91_1_0
            have x91_2_0 : w91.cell? ⟨w.heap.size + 1 + 1, 0, none⟩ = some (.int .i64 n) := keep_cell hb91 (by simp [go_sem, *])
            have x91_2_1 : w91.cell? ⟨w.heap.size + 1 + 1, 1, none⟩ = some (.int .i64 m) := keep_cell hb91 (by simp [go_sem, *])
            have y91_2 : w.heap.size + 1 + 1 < w91.heap.size := cell?_lt x91_2_0
            have x91_3_0 : w91.cell? ⟨w4.heap.size, 0, none⟩ = some (.int .i64 p) := keep_cell hb91 (by simp [go_sem, *])
            have x91_3_1 : w91.cell? ⟨w4.heap.size, 1, none⟩ = some (.int .i64 q) := keep_cell hb91 (by simp [go_sem, *])
            have y91_3 : w4.heap.size < w91.heap.size := cell?_lt x91_3_0
            have x91_4_0 : w91.cell? ⟨w6.heap.size, 0, none⟩ = some (.int .i64 hl) := keep_cell hb91 (by simp [go_sem, *])
            have x91_4_1 : w91.cell? ⟨w6.heap.size, 1, none⟩ = some (.int .i64 hr) := keep_cell hb91 (by simp [go_sem, *])
            have y91_4 : w6.heap.size < w91.heap.size := cell?_lt x91_4_0
            have x91_5_0 : w91.cell? ⟨w8.heap.size, 0, none⟩ = some (.int .i64 sp) := keep_cell hb91 (by simp [go_sem, *])
            have x91_5_1 : w91.cell? ⟨w8.heap.size, 1, none⟩ = some (.int .i64 sq) := keep_cell hb91 (by simp [go_sem, *])
            have y91_5 : w8.heap.size < w91.heap.size := cell?_lt x91_5_0
            have g91 : Below w.heap.size w w91 := by (repeat (first | exact Below.refl _ _ | refine Below.drew ?_ | refine Below.allocS ?_ _ | refine Below.step ?_ (by assumption) | refine Below.setCell ?_ (by simp <;> omega) _ | refine Below.drewN' ?_ _))
            clear hb91 g8 x8_0_0 x8_0_1 x8_1_0 x8_1_1 x8_2_0 x8_2_1 x8_3_0 x8_3_1 x8_4_0 x8_4_1 y8_0 y8_1 y8_2 y8_3 y8_4
            rw [k1]
            go_wp2_with fail
            go_meet; exact ⟨rfl, (by simp [go_sem, *]), (by simp [go_sem, *]), (by simp [go_sem, *]), (by simp [go_sem, *]), (by simp [go_sem, *]), (by simp [go_sem, *]), (by simp [go_sem, *]), (by simp [go_sem, *]), (by simp [go_sem, *]), (by simp [go_sem, *]), (by simp [go_sem, *]), (by simp [go_sem, *]), by (repeat (first | exact Below.refl _ _ | refine Below.drew ?_ | refine Below.allocS ?_ _ | refine Below.step ?_ (by assumption) | refine Below.setCell ?_ (by simp <;> omega) _ | refine Below.drewN' ?_ _))⟩
          · cases k2 : hasB c d m
            · have tk : True := trivial
              go_wp2_with fail
              refine (HH.out a b n _).mono ?_
              rintro e w91 ⟨rfl, hb91⟩
              have x91_0_0 : w91.cell? ⟨w.heap.size, 0, none⟩ = some (.int .i64 a) := keep_cell hb91 (by simp [go_sem, *])
              have x91_0_1 : w91.cell? ⟨w.heap.size, 1, none⟩ = some (.int .i64 b) := keep_cell hb91 (by simp [go_sem, *])
              have y91_0 : w.heap.size < w91.heap.size := cell?_lt x91_0_0
              have x91_1_0 : w91.cell? ⟨w.heap.size + 1, 0, none⟩ = some (.int .i64 c) := keep_cell hb91 (by simp [go_sem, *])
              have x91_1_1 : w91.cell? ⟨w.heap.size + 1, 1, none⟩ = some (.int .i64 d) := keep_cell hb91 (by simp [go_sem, *])
              have y91_1 : w.heap.size + 1 < w91.heap.size := cell?_lt x91_1_0
              have x91_2_0 : w91.cell? ⟨w.heap.size + 1 + 1, 0, none⟩ = some (.int .i64 n) := keep_cell hb91 (by simp [go_sem, *])
              have x91_2_1 : w91.cell? ⟨w.heap.size + 1 + 1, 1, none⟩ = some (.int .i64 m) := keep_cell hb91 (by simp [go_sem, *])
              have y91_2 : w.heap.size + 1 + 1 < w91.heap.size := cell?_lt x91_2_0
              have x91_3_0 : w91.cell? ⟨w4.heap.size, 0, none⟩ = some (.int .i64 p) := keep_cell hb91 (by simp [go_sem, *])
              have x91_3_1 : w91.cell? ⟨w4.heap.size, 1, none⟩ = some (.int .i64 q) := keep_cell hb91 (by simp [go_sem, *])
              have y91_3 : w4.heap.size < w91.heap.size := cell?_lt x91_3_0
              have x91_4_0 : w91.cell? ⟨w6.heap.size, 0, none⟩ = some (.int .i64 hl) := keep_cell hb91 (by simp [go_sem, *])
              have x91_4_1 : w91.cell? ⟨w6.heap.size, 1, none⟩ = some (.int .i64 hr) := keep_cell hb91 (by simp [go_sem, *])
              have y91_4 : w6.heap.size < w91.heap.size := cell?_lt x91_4_0
              have x91_5_0 : w91.cell? ⟨w8.heap.size, 0, none⟩ = some (.int .i64 sp) := keep_cell hb91 (by simp [go_sem, *])
              have x91_5_1 : w91.cell? ⟨w8.heap.size, 1, none⟩ = some (.int .i64 sq) := keep_cell hb91 (by simp [go_sem, *])
              have y91_5 : w8.heap.size < w91.heap.size := cell?_lt x91_5_0
              have g91 : Below w.heap.size w w91 := by (repeat (first | exact Below.refl _ _ | refine Below.drew ?_ | refine Below.allocS ?_ _ | refine Below.step ?_ (by assumption) | refine Below.setCell ?_ (by simp <;> omega) _ | refine Below.drewN' ?_ _))
              clear hb91 g8 x8_0_0 x8_0_1 x8_1_0 x8_1_1 x8_2_0 x8_2_1 x8_3_0 x8_3_1 x8_4_0 x8_4_1 y8_0 y8_1 y8_2 y8_3 y8_4
              rw [k1]
              go_wp2_with fail
              refine (HH.out c d m _).mono ?_
              rintro e w92 ⟨rfl, hb92⟩
              have x92_0_0 : w92.cell? ⟨w.heap.size, 0, none⟩ = some (.int .i64 a) := keep_cell hb92 (by simp [go_sem, *])
              have x92_0_1 : w92.cell? ⟨w.heap.size, 1, none⟩ = some (.int .i64 b) := keep_cell hb92 (by simp [go_sem, *])
              have y92_0 : w.heap.size < w92.heap.size := cell?_lt x92_0_0
              have x92_1_0 : w92.cell? ⟨w.heap.size + 1, 0, none⟩ = some (.int .i64 c) := keep_cell hb92 (by simp [go_sem, *])
              have x92_1_1 : w92.cell? ⟨w.heap.size + 1, 1, none⟩ = some (.int .i64 d) := keep_cell hb92 (by simp [go_sem, *])
              have y92_1 : w.heap.size + 1 < w92.heap.size := cell?_lt x92_1_0
              have x92_2_0 : w92.cell? ⟨w.heap.size + 1 + 1, 0, none⟩ = some (.int .i64 n) := keep_cell hb92 (by simp [go_sem, *])
              have x92_2_1 : w92.cell? ⟨w.heap.size + 1 + 1, 1, none⟩ = some (.int .i64 m) := keep_cell hb92 (by simp [go_sem, *])
              have y92_2 : w.heap.size + 1 + 1 < w92.heap.size := cell?_lt x92_2_0
              have x92_3_0 : w92.cell? ⟨w4.heap.size, 0, none⟩ = some (.int .i64 p) := keep_cell hb92 (by simp [go_sem, *])
              have x92_3_1 : w92.cell? ⟨w4.heap.size, 1, none⟩ = some (.int .i64 q) := keep_cell hb92 (by simp [go_sem, *])
              have y92_3 : w4.heap.size < w92.heap.size := cell?_lt x92_3_0
              have x92_4_0 : w92.cell? ⟨w6.heap.size, 0, none⟩ = some (.int .i64 hl) := keep_cell hb92 (by simp [go_sem, *])
              have x92_4_1 : w92.cell? ⟨w6.heap.size, 1, none⟩ = some (.int .i64 hr) := keep_cell hb92 (by simp [go_sem, *])
              have y92_4 : w6.heap.size < w92.heap.size := cell?_lt x92_4_0
              have x92_5_0 : w92.cell? ⟨w8.heap.size, 0, none⟩ = some (.int .i64 sp) := keep_cell hb92 (by simp [go_sem, *])
              have x92_5_1 : w92.cell? ⟨w8.heap.size, 1, none⟩ = some (.int .i64 sq) := keep_cell hb92 (by simp [go_sem, *])
              have y92_5 : w8.heap.size < w92.heap.size := cell?_lt x92_5_0
              have g92 : Below w.heap.size w w92 := by (repeat (first | exact Below.refl _ _ | refine Below.drew ?_ | refine Below.allocS ?_ _ | refine Below.step ?_ (by assumption) | refine Below.setCell ?_ (by simp <;> omega) _ | refine Below.drewN' ?_ _))
              clear hb92 g91 x91_0_0 x91_0_1 x91_1_0 x91_1_1 x91_2_0 x91_2_1 x91_3_0 x91_3_1 x91_4_0 x91_4_1 x91_5_0 x91_5_1 y91_0 y91_1 y91_2 y91_3 y91_4 y91_5
              rw [k2]
              go_wp2_with fail
              go_meet; exact ⟨rfl, (by simp [go_sem, *]), (by simp [go_sem, *]), (by simp [go_sem, *]), (by simp [go_sem, *]), (by simp [go_sem, *]), (by simp [go_sem, *]), (by simp [go_sem, *]), (by simp [go_sem, *]), (by simp [go_sem, *]), (by simp [go_sem, *]), (by simp [go_sem, *]), (by simp [go_sem, *]), by (repeat (first | exact Below.refl _ _ | refine Below.drew ?_ | refine Below.allocS ?_ _ | refine Below.step ?_ (by assumption) | refine Below.setCell ?_ (by simp <;> omega) _ | refine Below.drewN' ?_ _))⟩
            · have k3 : hasB sp sq (n + m) = true := by
                rcases hk with h | h | h
                · rw [k1] at h; cases h
                · rw [k2] at h; cases h
                · exact h
              have ws := WS.out k1 k2
              clear hk
              go_wp2_with fail
              refine (HH.out a b n _).mono ?_
              rintro e w91 ⟨rfl, hb91⟩
              have x91_0_0 : w91.cell? ⟨w.heap.size, 0, none⟩ = some (.int .i64 a) := keep_cell hb91 (by simp [go_sem, *])
              have x91_0_1 : w91.cell? ⟨w.heap.size, 1, none⟩ = some (.int .i64 b) := keep_cell hb91 (by simp [go_sem, *])
              have y91_0 : w.heap.size < w91.heap.size := cell?_lt x91_0_0
              have x91_1_0 : w91.cell? ⟨w.heap.size + 1, 0, none⟩ = some (.int .i64 c) := keep_cell hb91 (by simp [go_sem, *])
              have x91_1_1 : w91.cell? ⟨w.heap.size + 1, 1, none⟩ = some (.int .i64 d) := keep_cell hb91 (by simp [go_sem, *])
              have y91_1 : w.heap.size + 1 < w91.heap.size := cell?_lt x91_1_0
              have x91_2_0 : w91.cell? ⟨w.heap.size + 1 + 1, 0, none⟩ = some (.int .i64 n) := keep_cell hb91 (by simp [go_sem, *])
              have x91_2_1 : w91.cell? ⟨w.heap.size + 1 + 1, 1, none⟩ = some (.int .i64 m) := keep_cell hb91 (by simp [go_sem, *])
              have y91_2 : w.heap.size + 1 + 1 < w91.heap.size := cell?_lt x91_2_0
              have x91_3_0 : w91.cell? ⟨w4.heap.size, 0, none⟩ = some (.int .i64 p) := keep_cell hb91 (by simp [go_sem, *])
              have x91_3_1 : w91.cell? ⟨w4.heap.size, 1, none⟩ = some (.int .i64 q) := keep_cell hb91 (by simp [go_sem, *])
              have y91_3 : w4.heap.size < w91.heap.size := cell?_lt x91_3_0
              have x91_4_0 : w91.cell? ⟨w6.heap.size, 0, none⟩ = some (.int .i64 hl) := keep_cell hb91 (by simp [go_sem, *])
              have x91_4_1 : w91.cell? ⟨w6.heap.size, 1, none⟩ = some (.int .i64 hr) := keep_cell hb91 (by simp [go_sem, *])
              have y91_4 : w6.heap.size < w91.heap.size := cell?_lt x91_4_0
              have x91_5_0 : w91.cell? ⟨w8.heap.size, 0, none⟩ = some (.int .i64 sp) := keep_cell hb91 (by simp [go_sem, *])
              have x91_5_1 : w91.cell? ⟨w8.heap.size, 1, none⟩ = some (.int .i64 sq) := keep_cell hb91 (by simp [go_sem, *])
              have y91_5 : w8.heap.size < w91.heap.size := cell?_lt x91_5_0
              have g91 : Below w.heap.size w w91 := by (repeat (first | exact Below.refl _ _ | refine Below.drew ?_ | refine Below.allocS ?_ _ | refine Below.step ?_ (by assumption) | refine Below.setCell ?_ (by simp <;> omega) _ | refine Below.drewN' ?_ _))
              clear hb91 g8 x8_0_0 x8_0_1 x8_1_0 x8_1_1 x8_2_0 x8_2_1 x8_3_0 x8_3_1 x8_4_0 x8_4_1 y8_0 y8_1 y8_2 y8_3 y8_4
              rw [k1]
              go_wp2_with fail
              refine (HH.out c d m _).mono ?_
              rintro e w92 ⟨rfl, hb92⟩
              have x92_0_0 : w92.cell? ⟨w.heap.size, 0, none⟩ = some (.int .i64 a) := keep_cell hb92 (by simp [go_sem, *])
              have x92_0_1 : w92.cell? ⟨w.heap.size, 1, none⟩ = some (.int .i64 b) := keep_cell hb92 (by simp [go_sem, *])
              have y92_0 : w.heap.size < w92.heap.size := cell?_lt x92_0_0
              have x92_1_0 : w92.cell? ⟨w.heap.size + 1, 0, none⟩ = some (.int .i64 c) := keep_cell hb92 (by simp [go_sem, *])
              have x92_1_1 : w92.cell? ⟨w.heap.size + 1, 1, none⟩ = some (.int .i64 d) := keep_cell hb92 (by simp [go_sem, *])
              have y92_1 : w.heap.size + 1 < w92.heap.size := cell?_lt x92_1_0
              have x92_2_0 : w92.cell? ⟨w.heap.size + 1 + 1, 0, none⟩ = some (.int .i64 n) := keep_cell hb92 (by simp [go_sem, *])
              have x92_2_1 : w92.cell? ⟨w.heap.size + 1 + 1, 1, none⟩ = some (.int .i64 m) := keep_cell hb92 (by simp [go_sem, *])
              have y92_2 : w.heap.size + 1 + 1 < w92.heap.size := cell?_lt x92_2_0
              have x92_3_0 : w92.cell? ⟨w4.heap.size, 0, none⟩ = some (.int .i64 p) := keep_cell hb92 (by simp [go_sem, *])
              have x92_3_1 : w92.cell? ⟨w4.heap.size, 1, none⟩ = some (.int .i64 q) := keep_cell hb92 (by simp [go_sem, *])
              have y92_3 : w4.heap.size < w92.heap.size := cell?_lt x92_3_0
              have x92_4_0 : w92.cell? ⟨w6.heap.size, 0, none⟩ = some (.int .i64 hl) := keep_cell hb92 (by simp [go_sem, *])
              have x92_4_1 : w92.cell? ⟨w6.heap.size, 1, none⟩ = some (.int .i64 hr) := keep_cell hb92 (by simp [go_sem, *])
              have y92_4 : w6.heap.size < w92.heap.size := cell?_lt x92_4_0
              have x92_5_0 : w92.cell? ⟨w8.heap.size, 0, none⟩ = some (.int .i64 sp) := keep_cell hb92 (by simp [go_sem, *])
              have x92_5_1 : w92.cell? ⟨w8.heap.size, 1, none⟩ = some (.int .i64 sq) := keep_cell hb92 (by simp [go_sem, *])
              have y92_5 : w8.heap.size < w92.heap.size := cell?_lt x92_5_0
              have g92 : Below w.heap.size w w92 := by (repeat (first | exact Below.refl _ _ | refine Below.drew ?_ | refine Below.allocS ?_ _ | refine Below.step ?_ (by assumption) | refine Below.setCell ?_ (by simp <;> omega) _ | refine Below.drewN' ?_ _))
              clear hb92 g91 x91_0_0 x91_0_1 x91_1_0 x91_1_1 x91_2_0 x91_2_1 x91_3_0 x91_3_1 x91_4_0 x91_4_1 x91_5_0 x91_5_1 y91_0 y91_1 y91_2 y91_3 y91_4 y91_5
              rw [k2]
              go_wp2_with fail
              refine (HH.out sp sq (n + m) _).mono ?_
              rintro e w93 ⟨rfl, hb93⟩
              have x93_0_0 : w93.cell? ⟨w.heap.size, 0, none⟩ = some (.int .i64 a) := keep_cell hb93 (by simp [go_sem, *])
              have x93_0_1 : w93.cell? ⟨w.heap.size, 1, none⟩ = some (.int .i64 b) := keep_cell hb93 (by simp [go_sem, *])
              have y93_0 : w.heap.size < w93.heap.size := cell?_lt x93_0_0
              have x93_1_0 : w93.cell? ⟨w.heap.size + 1, 0, none⟩ = some (.int .i64 c) := keep_cell hb93 (by simp [go_sem, *])
              have x93_1_1 : w93.cell? ⟨w.heap.size + 1, 1, none⟩ = some (.int .i64 d) := keep_cell hb93 (by simp [go_sem, *])
              have y93_1 : w.heap.size + 1 < w93.heap.size := cell?_lt x93_1_0
              have x93_2_0 : w93.cell? ⟨w.heap.size + 1 + 1, 0, none⟩ = some (.int .i64 n) := keep_cell hb93 (by simp [go_sem, *])
              have x93_2_1 : w93.cell? ⟨w.heap.size + 1 + 1, 1, none⟩ = some (.int .i64 m) := keep_cell hb93 (by simp [go_sem, *])
              have y93_2 : w.heap.size + 1 + 1 < w93.heap.size := cell?_lt x93_2_0
              have x93_3_0 : w93.cell? ⟨w4.heap.size, 0, none⟩ = some (.int .i64 p) := keep_cell hb93 (by simp [go_sem, *])
              have x93_3_1 : w93.cell? ⟨w4.heap.size, 1, none⟩ = some (.int .i64 q) := keep_cell hb93 (by simp [go_sem, *])
              have y93_3 : w4.heap.size < w93.heap.size := cell?_lt x93_3_0
              have x93_4_0 : w93.cell? ⟨w6.heap.size, 0, none⟩ = some (.int .i64 hl) := keep_cell hb93 (by simp [go_sem, *])
              have x93_4_1 : w93.cell? ⟨w6.heap.size, 1, none⟩ = some (.int .i64 hr) := keep_cell hb93 (by simp [go_sem, *])
              have y93_4 : w6.heap.size < w93.heap.size := cell?_lt x93_4_0
              have x93_5_0 : w93.cell? ⟨w8.heap.size, 0, none⟩ = some (.int .i64 sp) := keep_cell hb93 (by simp [go_sem, *])
              have x93_5_1 : w93.cell? ⟨w8.heap.size, 1, none⟩ = some (.int .i64 sq) := keep_cell hb93 (by simp [go_sem, *])
              have y93_5 : w8.heap.size < w93.heap.size := cell?_lt x93_5_0
              have g93 : Below w.heap.size w w93 := by (repeat (first | exact Below.refl _ _ | refine Below.drew ?_ | refine Below.allocS ?_ _ | refine Below.step ?_ (by assumption) | refine Below.setCell ?_ (by simp <;> omega) _ | refine Below.drewN' ?_ _))
              clear hb93 g92 x92_0_0 x92_0_1 x92_1_0 x92_1_1 x92_2_0 x92_2_1 x92_3_0 x92_3_1 x92_4_0 x92_4_1 x92_5_0 x92_5_1 y92_0 y92_1 y92_2 y92_3 y92_4 y92_5
              rw [k3]
              go_wp2_with fail
              go_meet; exact ⟨rfl, (by simp [go_sem, *]), (by simp [go_sem, *]), (by simp [go_sem, *]), (by simp [go_sem, *]), (by simp [go_sem, *]), (by simp [go_sem, *]), (by simp [go_sem, *]), (by simp [go_sem, *]), (by simp [go_sem, *]), (by simp [go_sem, *]), (by simp [go_sem, *]), (by simp [go_sem, *]), by (repeat (first | exact Below.refl _ _ | refine Below.drew ?_ | refine Below.allocS ?_ _ | refine Below.step ?_ (by assumption) | refine Below.setCell ?_ (by simp <;> omega) _ | refine Below.drewN' ?_ _))⟩
      case rest =>
        clear g8 x8_0_0 x8_0_1 x8_1_0 x8_1_1 x8_2_0 x8_2_1 x8_3_0 x8_3_1 x8_4_0 x8_4_1 y8_0 y8_1 y8_2 y8_3 y8_4
        obtain ⟨c9, x9_0_0, x9_0_1, x9_1_0, x9_1_1, x9_2_0, x9_2_1, x9_3_0, x9_3_1, x9_4_0, x9_4_1, x9_5_0, x9_5_1, g9⟩ := hcut
        have y9_0 : w.heap.size < wc.heap.size := cell?_lt x9_0_0
        have y9_1 : w.heap.size + 1 < wc.heap.size := cell?_lt x9_1_0
        have y9_2 : w.heap.size + 1 + 1 < wc.heap.size := cell?_lt x9_2_0
        have y9_3 : w4.heap.size < wc.heap.size := cell?_lt x9_3_0
        have y9_4 : w6.heap.size < wc.heap.size := cell?_lt x9_4_0
        have y9_5 : w8.heap.size < wc.heap.size := cell?_lt x9_5_0
        subst c9
        go_wp2_with fail
        refine (H4.out _).mono ?_
        rintro e w10 ⟨rfl, hb10⟩
        have x10_0_0 : w10.cell? ⟨w.heap.size, 0, none⟩ = some (.int .i64 a) := keep_cell hb10 (by simp [go_sem, *])
        have x10_0_1 : w10.cell? ⟨w.heap.size, 1, none⟩ = some (.int .i64 b) := keep_cell hb10 (by simp [go_sem, *])
        have y10_0 : w.heap.size < w10.heap.size := cell?_lt x10_0_0
        have x10_1_0 : w10.cell? ⟨w.heap.size + 1, 0, none⟩ = some (.int .i64 c) := keep_cell hb10 (by simp [go_sem, *])
        have x10_1_1 : w10.cell? ⟨w.heap.size + 1, 1, none⟩ = some (.int .i64 d) := keep_cell hb10 (by simp [go_sem, *])
        have y10_1 : w.heap.size + 1 < w10.heap.size := cell?_lt x10_1_0
        have x10_2_0 : w10.cell? ⟨w.heap.size + 1 + 1, 0, none⟩ = some (.int .i64 n) := keep_cell hb10 (by simp [go_sem, *])
        have x10_2_1 : w10.cell? ⟨w.heap.size + 1 + 1, 1, none⟩ = some (.int .i64 m) := keep_cell hb10 (by simp [go_sem, *])
        have y10_2 : w.heap.size + 1 + 1 < w10.heap.size := cell?_lt x10_2_0
        have x10_3_0 : w10.cell? ⟨w4.heap.size, 0, none⟩ = some (.int .i64 p) := keep_cell hb10 (by simp [go_sem, *])
        have x10_3_1 : w10.cell? ⟨w4.heap.size, 1, none⟩ = some (.int .i64 q) := keep_cell hb10 (by simp [go_sem, *])
        have y10_3 : w4.heap.size < w10.heap.size := cell?_lt x10_3_0
        have x10_4_0 : w10.cell? ⟨w6.heap.size, 0, none⟩ = some (.int .i64 hl) := keep_cell hb10 (by simp [go_sem, *])
        have x10_4_1 : w10.cell? ⟨w6.heap.size, 1, none⟩ = some (.int .i64 hr) := keep_cell hb10 (by simp [go_sem, *])
        have y10_4 : w6.heap.size < w10.heap.size := cell?_lt x10_4_0
        have x10_5_0 : w10.cell? ⟨w8.heap.size, 0, none⟩ = some (.int .i64 sp) := keep_cell hb10 (by simp [go_sem, *])
        have x10_5_1 : w10.cell? ⟨w8.heap.size, 1, none⟩ = some (.int .i64 sq) := keep_cell hb10 (by simp [go_sem, *])
        have y10_5 : w8.heap.size < w10.heap.size := cell?_lt x10_5_0
        have g10 : Below w.heap.size w w10 := by (repeat (first | exact Below.refl _ _ | refine Below.drew ?_ | refine Below.allocS ?_ _ | refine Below.step ?_ (by assumption) | refine Below.setCell ?_ (by simp <;> omega) _ | refine Below.drewN' ?_ _))
        clear hb10 g9 x9_0_0 x9_0_1 x9_1_0 x9_1_1 x9_2_0 x9_2_1 x9_3_0 x9_3_1 x9_4_0 x9_4_1 x9_5_0 x9_5_1 y9_0 y9_1 y9_2 y9_3 y9_4 y9_5
        go_upto_region 14 with fail
        go_cut [136] (fun s136 w11 => (s136 = .bool false) ∧ w11.cell? ⟨w.heap.size, 0, none⟩ = some (.int .i64 a) ∧ w11.cell? ⟨w.heap.size, 1, none⟩ = some (.int .i64 b) ∧ w11.cell? ⟨w.heap.size + 1, 0, none⟩ = some (.int .i64 c) ∧ w11.cell? ⟨w.heap.size + 1, 1, none⟩ = some (.int .i64 d) ∧ w11.cell? ⟨w.heap.size + 1 + 1, 0, none⟩ = some (.int .i64 n) ∧ w11.cell? ⟨w.heap.size + 1 + 1, 1, none⟩ = some (.int .i64 m) ∧ w11.cell? ⟨w4.heap.size, 0, none⟩ = some (.int .i64 p) ∧ w11.cell? ⟨w4.heap.size, 1, none⟩ = some (.int .i64 q) ∧ w11.cell? ⟨w6.heap.size, 0, none⟩ = some (.int .i64 hl) ∧ w11.cell? ⟨w6.heap.size, 1, none⟩ = some (.int .i64 hr) ∧ w11.cell? ⟨w8.heap.size, 0, none⟩ = some (.int .i64 sp) ∧ w11.cell? ⟨w8.heap.size, 1, none⟩ = some (.int .i64 sq) ∧ w11.cell? ⟨w10.heap.size, 0, none⟩ = some (.int .i64 (-b)) ∧ w11.cell? ⟨w10.heap.size, 1, none⟩ = some (.int .i64 (-a)) ∧ Below w.heap.size w w11)
        case first =>
          cases k1 : hasB a b n
          · have tk : True := trivial
            go_wp2_with fail
            refine (HH.out a b n _).mono ?_
            rintro e w111 ⟨rfl, hb111⟩
            have x111_0_0 : w111.cell? ⟨w.heap.size, 0, none⟩ = some (.int .i64 a) := keep_cell hb111 (by simp [go_sem, *])
            have x111_0_1 : w111.cell? ⟨w.heap.size, 1, none⟩ = some (.int .i64 b) := keep_cell hb111 (by simp [go_sem, *])
            have y111_0 : w.heap.size < w111.heap.size := cell?_lt x111_0_0
            have x111_1_0 : w111.cell? ⟨w.heap.size + 1, 0, none⟩ = some (.int .i64 c) := keep_cell hb111 (by simp [go_sem, *])
            have x111_1_1 : w111.cell? ⟨w.heap.size + 1, 1, none⟩ = some (.int .i64 d) := keep_cell hb111 (by simp [go_sem, *])
            have y111_1 : w.heap.size + 1 < w111.heap.size := cell?_lt x111_1_0
            have x111_2_0 : w111.cell? ⟨w.heap.size + 1 + 1, 0, none⟩ = some (.int .i64 n) := keep_cell hb111 (by simp [go_sem, *])
            have x111_2_1 : w111.cell? ⟨w.heap.size + 1 + 1, 1, none⟩ = some (.int .i64 m) := keep_cell hb111 (by simp [go_sem, *])
            have y111_2 : w.heap.size + 1 + 1 < w111.heap.size := cell?_lt x111_2_0
            have x111_3_0 : w111.cell? ⟨w4.heap.size, 0, none⟩ = some (.int .i64 p) := keep_cell hb111 (by simp [go_sem, *])
            have x111_3_1 : w111.cell? ⟨w4.heap.size, 1, none⟩ = some (.int .i64 q) := keep_cell hb111 (by simp [go_sem, *])
            have y111_3 : w4.heap.size < w111.heap.size := cell?_lt x111_3_0
            have x111_4_0 : w111.cell? ⟨w6.heap.size, 0, none⟩ = some (.int .i64 hl) := keep_cell hb111 (by simp [go_sem, *])
            have x111_4_1 : w111.cell? ⟨w6.heap.size, 1, none⟩ = some (.int .i64 hr) := keep_cell hb111 (by simp [go_sem, *])
            have y111_4 : w6.heap.size < w111.heap.size := cell?_lt x111_4_0
            have x111_5_0 : w111.cell? ⟨w8.heap.size, 0, none⟩ = some (.int .i64 sp) := keep_cell hb111 (by simp [go_sem, *])
            have x111_5_1 : w111.cell? ⟨w8.heap.size, 1, none⟩ = some (.int .i64 sq) := keep_cell hb111 (by simp [go_sem, *])
            have y111_5 : w8.heap.size < w111.heap.size := cell?_lt x111_5_0
            have x111_6_0 : w111.cell? ⟨w10.heap.size, 0, none⟩ = some (.int .i64 (-b)) := keep_cell hb111 (by simp [go_sem, *])
            have x111_6_1 : w111.cell? ⟨w10.heap.size, 1, none⟩ = some (.int .i64 (-a)) := keep_cell hb111 (by simp [go_sem, *])
            have y111_6 : w10.heap.size < w111.heap.size := cell?_lt x111_6_0
            have g111 : Below w.heap.size w w111 := by (repeat (first | exact Below.refl _ _ | refine Below.drew ?_ | refine Below.allocS ?_ _ | refine Below.step ?_ (by assumption) | refine Below.setCell ?_ (by simp <;> omega) _ | refine Below.drewN' ?_ _))
            clear hb111 g10 x10_0_0 x10_0_1 x10_1_0 x10_1_1 x10_2_0 x10_2_1 x10_3_0 x10_3_1 x10_4_0 x10_4_1 x10_5_0 x10_5_1 y10_0 y10_1 y10_2 y10_3 y10_4 y10_5
            rw [k1]
            go_wp2_with fail
            go_meet; exact ⟨rfl, (by simp [go_sem, *]), (by simp [go_sem, *]), (by simp [go_sem, *]), (by simp [go_sem, *]), (by simp [go_sem, *]), (by simp [go_sem, *]), (by simp [go_sem, *]), (by simp [go_sem, *]), (by simp [go_sem, *]), (by simp [go_sem, *]), (by simp [go_sem, *]), (by simp [go_sem, *]), (by simp [go_sem, *]), (by simp [go_sem, *]), by (repeat (first | exact Below.refl _ _ | refine Below.drew ?_ | refine Below.allocS ?_ _ | refine Below.step ?_ (by assumption) | refine Below.setCell ?_ (by simp <;> omega) _ | refine Below.drewN' ?_ _))⟩
          · obtain ⟨k2, ws⟩ := KO.out k1
            go_wp2_with fail
            refine (HH.out a b n _).mono ?_
            rintro e w111 ⟨rfl, hb111⟩
            have x111_0_0 : w111.cell? ⟨w.heap.size, 0, none⟩ = some (.int .i64 a) := keep_cell hb111 (by simp [go_sem, *])
            have x111_0_1 : w111.cell? ⟨w.heap.size, 1, none⟩ = some (.int .i64 b) := keep_cell hb111 (by simp [go_sem, *])
            have y111_0 : w.heap.size < w111.heap.size := cell?_lt x111_0_0
            have x111_1_0 : w111.cell? ⟨w.heap.size + 1, 0, none⟩ = some (.int .i64 c) := keep_cell hb111 (by simp [go_sem, *])
            have x111_1_1 : w111.cell? ⟨w.heap.size + 1, 1, none⟩ = some (.int .i64 d) := keep_cell hb111 (by simp [go_sem, *])
            have y111_1 : w.heap.size + 1 < w111.heap.size := cell?_lt x111_1_0
            have x111_2_0 : w111.cell? ⟨w.heap.size + 1 + 1, 0, none⟩ = some (.int .i64 n) := keep_cell hb111 (by simp [go_sem, *])
            have x111_2_1 : w111.cell? ⟨w.heap.size + 1 + 1, 1, none⟩ = some (.int .i64 m) := keep_cell hb111 (by simp [go_sem, *])
            have y111_2 : w.heap.size + 1 + 1 < w111.heap.size := cell?_lt x111_2_0
            have x111_3_0 : w111.cell? ⟨w4.heap.size, 0, none⟩ = some (.int .i64 p) := keep_cell hb111 (by simp [go_sem, *])
            have x111_3_1 : w111.cell? ⟨w4.heap.size, 1, none⟩ = some (.int .i64 q) := keep_cell hb111 (by simp [go_sem, *])
            have y111_3 : w4.heap.size < w111.heap.size := cell?_lt x111_3_0
            have x111_4_0 : w111.cell? ⟨w6.heap.size, 0, none⟩ = some (.int .i64 hl) := keep_cell hb111 (by simp [go_sem, *])
            have x111_4_1 : w111.cell? ⟨w6.heap.size, 1, none⟩ = some (.int .i64 hr) := keep_cell hb111 (by simp [go_sem, *])
            have y111_4 : w6.heap.size < w111.heap.size := cell?_lt x111_4_0
            have x111_5_0 : w111.cell? ⟨w8.heap.size, 0, none⟩ = some (.int .i64 sp) := keep_cell hb111 (by simp [go_sem, *])
            have x111_5_1 : w111.cell? ⟨w8.heap.size, 1, none⟩ = some (.int .i64 sq) := keep_cell hb111 (by simp [go_sem, *])
            have y111_5 : w8.heap.size < w111.heap.size := cell?_lt x111_5_0
            have x111_6_0 : w111.cell? ⟨w10.heap.size, 0, none⟩ = some (.int .i64 (-b)) := keep_cell hb111 (by simp [go_sem, *])
            have x111_6_1 : w111.cell? ⟨w10.heap.size, 1, none⟩ = some (.int .i64 (-a)) := keep_cell hb111 (by simp [go_sem, *])
            have y111_6 : w10.heap.size < w111.heap.size := cell?_lt x111_6_0
            have g111 : Below w.heap.size w w111 := by (repeat (first | exact Below.refl _ _ | refine Below.drew ?_ | refine Below.allocS ?_ _ | refine Below.step ?_ (by assumption) | refine Below.setCell ?_ (by simp <;> omega) _ | refine Below.drewN' ?_ _))
            clear hb111 g10 x10_0_0 x10_0_1 x10_1_0 x10_1_1 x10_2_0 x10_2_1 x10_3_0 x10_3_1 x10_4_0 x10_4_1 x10_5_0 x10_5_1 y10_0 y10_1 y10_2 y10_3 y10_4 y10_5
            rw [k1]
            go_wp2_with fail
            refine (HH.out (-b) (-a) (-n) _).mono ?_
            rintro e w112 ⟨rfl, hb112⟩
            have x112_0_0 : w112.cell? ⟨w.heap.size, 0, none⟩ = some (.int .i64 a) := keep_cell hb112 (by simp [go_sem, *])
            have x112_0_1 : w112.cell? ⟨w.heap.size, 1, none⟩ = some (.int .i64 b) := keep_cell hb112 (by simp [go_sem, *])
            have y112_0 : w.heap.size < w112.heap.size := cell?_lt x112_0_0
            have x112_1_0 : w112.cell? ⟨w.heap.size + 1, 0, none⟩ = some (.int .i64 c) := keep_cell hb112 (by simp [go_sem, *])
            have x112_1_1 : w112.cell? ⟨w.heap.size + 1, 1, none⟩ = some (.int .i64 d) := keep_cell hb112 (by simp [go_sem, *])
            have y112_1 : w.heap.size + 1 < w112.heap.size := cell?_lt x112_1_0
            have x112_2_0 : w112.cell? ⟨w.heap.size + 1 + 1, 0, none⟩ = some (.int .i64 n) := keep_cell hb112 (by simp [go_sem, *])
            have x112_2_1 : w112.cell? ⟨w.heap.size + 1 + 1, 1, none⟩ = some (.int .i64 m) := keep_cell hb112 (by simp [go_sem, *])
            have y112_2 : w.heap.size + 1 + 1 < w112.heap.size := cell?_lt x112_2_0
            have x112_3_0 : w112.cell? ⟨w4.heap.size, 0, none⟩ = some (.int .i64 p) := keep_cell hb112 (by simp [go_sem, *])
            have x112_3_1 : w112.cell? ⟨w4.heap.size, 1, none⟩ = some (.int .i64 q) := keep_cell hb112 (by simp [go_sem, *])
            have y112_3 : w4.heap.size < w112.heap.size := cell?_lt x112_3_0
            have x112_4_0 : w112.cell? ⟨w6.heap.size, 0, none⟩ = some (.int .i64 hl) := keep_cell hb112 (by simp [go_sem, *])
            have x112_4_1 : w112.cell? ⟨w6.heap.size, 1, none⟩ = some (.int .i64 hr) := keep_cell hb112 (by simp [go_sem, *])
            have y112_4 : w6.heap.size < w112.heap.size := cell?_lt x112_4_0
            have x112_5_0 : w112.cell? ⟨w8.heap.size, 0, none⟩ = some (.int .i64 sp) := keep_cell hb112 (by simp [go_sem, *])
            have x112_5_1 : w112.cell? ⟨w8.heap.size, 1, none⟩ = some (.int .i64 sq) := keep_cell hb112 (by simp [go_sem, *])
            have y112_5 : w8.heap.size < w112.heap.size := cell?_lt x112_5_0
            have x112_6_0 : w112.cell? ⟨w10.heap.size, 0, none⟩ = some (.int .i64 (-b)) := keep_cell hb112 (by simp [go_sem, *])
            have x112_6_1 : w112.cell? ⟨w10.heap.size, 1, none⟩ = some (.int .i64 (-a)) := keep_cell hb112 (by simp [go_sem, *])
            have y112_6 : w10.heap.size < w112.heap.size := cell?_lt x112_6_0
            have g112 : Below w.heap.size w w112 := by (repeat (first | exact Below.refl _ _ | refine Below.drew ?_ | refine Below.allocS ?_ _ | refine Below.step ?_ (by assumption) | refine Below.setCell ?_ (by simp <;> omega) _ | refine Below.drewN' ?_ _))
            clear hb112 g111 x111_0_0 x111_0_1 x111_1_0 x111_1_1 x111_2_0 x111_2_1 x111_3_0 x111_3_1 x111_4_0 x111_4_1 x111_5_0 x111_5_1 x111_6_0 x111_6_1 y111_0 y111_1 y111_2 y111_3 y111_4 y111_5 y111_6
            rw [k2]
            go_wp2_with fail
            go_meet; exact ⟨rfl, (by simp [go_sem, *]), (by simp [go_sem, *]), (by simp [go_sem, *]), (by simp [go_sem, *]), (by simp [go_sem, *]), (by simp [go_sem, *]), (by simp [go_sem, *]), (by simp [go_sem, *]), (by simp [go_sem, *]), (by simp [go_sem, *]), (by simp [go_sem, *]), (by simp [go_sem, *]), (by simp [go_sem, *]), (by simp [go_sem, *]), by (repeat (first | exact Below.refl _ _ | refine Below.drew ?_ | refine Below.allocS ?_ _ | refine Below.step ?_ (by assumption) | refine Below.setCell ?_ (by simp <;> omega) _ | refine Below.drewN' ?_ _))⟩
        case rest =>
          clear g10 x10_0_0 x10_0_1 x10_1_0 x10_1_1 x10_2_0 x10_2_1 x10_3_0 x10_3_1 x10_4_0 x10_4_1 x10_5_0 x10_5_1 y10_0 y10_1 y10_2 y10_3 y10_4 y10_5
          obtain ⟨c11, x11_0_0, x11_0_1, x11_1_0, x11_1_1, x11_2_0, x11_2_1, x11_3_0, x11_3_1, x11_4_0, x11_4_1, x11_5_0, x11_5_1, x11_6_0, x11_6_1, g11⟩ := hcut
          have y11_0 : w.heap.size < wc.heap.size := cell?_lt x11_0_0
          have y11_1 : w.heap.size + 1 < wc.heap.size := cell?_lt x11_1_0
          have y11_2 : w.heap.size + 1 + 1 < wc.heap.size := cell?_lt x11_2_0
          have y11_3 : w4.heap.size < wc.heap.size := cell?_lt x11_3_0
          have y11_4 : w6.heap.size < wc.heap.size := cell?_lt x11_4_0
          have y11_5 : w8.heap.size < wc.heap.size := cell?_lt x11_5_0
          have y11_6 : w10.heap.size < wc.heap.size := cell?_lt x11_6_0
          subst c11
          go_wp2_with fail
          refine (H5.out _).mono ?_
          rintro e w12 ⟨rfl, hb12⟩
          have x12_0_0 : w12.cell? ⟨w.heap.size, 0, none⟩ = some (.int .i64 a) := keep_cell hb12 (by simp [go_sem, *])
          have x12_0_1 : w12.cell? ⟨w.heap.size, 1, none⟩ = some (.int .i64 b) := keep_cell hb12 (by simp [go_sem, *])
          have y12_0 : w.heap.size < w12.heap.size := cell?_lt x12_0_0
          have x12_1_0 : w12.cell? ⟨w.heap.size + 1, 0, none⟩ = some (.int .i64 c) := keep_cell hb12 (by simp [go_sem, *])
          have x12_1_1 : w12.cell? ⟨w.heap.size + 1, 1, none⟩ = some (.int .i64 d) := keep_cell hb12 (by simp [go_sem, *])
          have y12_1 : w.heap.size + 1 < w12.heap.size := cell?_lt x12_1_0
          have x12_2_0 : w12.cell? ⟨w.heap.size + 1 + 1, 0, none⟩ = some (.int .i64 n) := keep_cell hb12 (by simp [go_sem, *])
          have x12_2_1 : w12.cell? ⟨w.heap.size + 1 + 1, 1, none⟩ = some (.int .i64 m) := keep_cell hb12 (by simp [go_sem, *])
          have y12_2 : w.heap.size + 1 + 1 < w12.heap.size := cell?_lt x12_2_0
          have x12_3_0 : w12.cell? ⟨w4.heap.size, 0, none⟩ = some (.int .i64 p) := keep_cell hb12 (by simp [go_sem, *])
          have x12_3_1 : w12.cell? ⟨w4.heap.size, 1, none⟩ = some (.int .i64 q) := keep_cell hb12 (by simp [go_sem, *])
          have y12_3 : w4.heap.size < w12.heap.size := cell?_lt x12_3_0
          have x12_4_0 : w12.cell? ⟨w6.heap.size, 0, none⟩ = some (.int .i64 hl) := keep_cell hb12 (by simp [go_sem, *])
          have x12_4_1 : w12.cell? ⟨w6.heap.size, 1, none⟩ = some (.int .i64 hr) := keep_cell hb12 (by simp [go_sem, *])
          have y12_4 : w6.heap.size < w12.heap.size := cell?_lt x12_4_0
          have x12_5_0 : w12.cell? ⟨w8.heap.size, 0, none⟩ = some (.int .i64 sp) := keep_cell hb12 (by simp [go_sem, *])
          have x12_5_1 : w12.cell? ⟨w8.heap.size, 1, none⟩ = some (.int .i64 sq) := keep_cell hb12 (by simp [go_sem, *])
          have y12_5 : w8.heap.size < w12.heap.size := cell?_lt x12_5_0
          have x12_6_0 : w12.cell? ⟨w10.heap.size, 0, none⟩ = some (.int .i64 (-b)) := keep_cell hb12 (by simp [go_sem, *])
          have x12_6_1 : w12.cell? ⟨w10.heap.size, 1, none⟩ = some (.int .i64 (-a)) := keep_cell hb12 (by simp [go_sem, *])
          have y12_6 : w10.heap.size < w12.heap.size := cell?_lt x12_6_0
          have g12 : Below w.heap.size w w12 := by (repeat (first | exact Below.refl _ _ | refine Below.drew ?_ | refine Below.allocS ?_ _ | refine Below.step ?_ (by assumption) | refine Below.setCell ?_ (by simp <;> omega) _ | refine Below.drewN' ?_ _))
          clear hb12 g11 x11_0_0 x11_0_1 x11_1_0 x11_1_1 x11_2_0 x11_2_1 x11_3_0 x11_3_1 x11_4_0 x11_4_1 x11_5_0 x11_5_1 x11_6_0 x11_6_1 y11_0 y11_1 y11_2 y11_3 y11_4 y11_5 y11_6
          rcases KW.out with rfl | ⟨rfl, k1 | ⟨k1, k2, k3, k4, ws1, ws2⟩⟩
          · have tk : True := trivial
            go_wp2_with fail
            refine (awake_c _).mono ?_
            rintro e w13 ⟨rfl, hb13⟩
            have x13_0_0 : w13.cell? ⟨w.heap.size, 0, none⟩ = some (.int .i64 a) := keep_cell hb13 (by simp [go_sem, *])
            have x13_0_1 : w13.cell? ⟨w.heap.size, 1, none⟩ = some (.int .i64 b) := keep_cell hb13 (by simp [go_sem, *])
            have y13_0 : w.heap.size < w13.heap.size := cell?_lt x13_0_0
            have x13_1_0 : w13.cell? ⟨w.heap.size + 1, 0, none⟩ = some (.int .i64 c) := keep_cell hb13 (by simp [go_sem, *])
            have x13_1_1 : w13.cell? ⟨w.heap.size + 1, 1, none⟩ = some (.int .i64 d) := keep_cell hb13 (by simp [go_sem, *])
            have y13_1 : w.heap.size + 1 < w13.heap.size := cell?_lt x13_1_0
            have x13_2_0 : w13.cell? ⟨w.heap.size + 1 + 1, 0, none⟩ = some (.int .i64 n) := keep_cell hb13 (by simp [go_sem, *])
            have x13_2_1 : w13.cell? ⟨w.heap.size + 1 + 1, 1, none⟩ = some (.int .i64 m) := keep_cell hb13 (by simp [go_sem, *])
            have y13_2 : w.heap.size + 1 + 1 < w13.heap.size := cell?_lt x13_2_0
            have x13_3_0 : w13.cell? ⟨w4.heap.size, 0, none⟩ = some (.int .i64 p) := keep_cell hb13 (by simp [go_sem, *])
            have x13_3_1 : w13.cell? ⟨w4.heap.size, 1, none⟩ = some (.int .i64 q) := keep_cell hb13 (by simp [go_sem, *])
            have y13_3 : w4.heap.size < w13.heap.size := cell?_lt x13_3_0
            have x13_4_0 : w13.cell? ⟨w6.heap.size, 0, none⟩ = some (.int .i64 hl) := keep_cell hb13 (by simp [go_sem, *])
            have x13_4_1 : w13.cell? ⟨w6.heap.size, 1, none⟩ = some (.int .i64 hr) := keep_cell hb13 (by simp [go_sem, *])
            have y13_4 : w6.heap.size < w13.heap.size := cell?_lt x13_4_0
            have x13_5_0 : w13.cell? ⟨w8.heap.size, 0, none⟩ = some (.int .i64 sp) := keep_cell hb13 (by simp [go_sem, *])
            have x13_5_1 : w13.cell? ⟨w8.heap.size, 1, none⟩ = some (.int .i64 sq) := keep_cell hb13 (by simp [go_sem, *])
            have y13_5 : w8.heap.size < w13.heap.size := cell?_lt x13_5_0
            have x13_6_0 : w13.cell? ⟨w10.heap.size, 0, none⟩ = some (.int .i64 (-b)) := keep_cell hb13 (by simp [go_sem, *])
            have x13_6_1 : w13.cell? ⟨w10.heap.size, 1, none⟩ = some (.int .i64 (-a)) := keep_cell hb13 (by simp [go_sem, *])
            have y13_6 : w10.heap.size < w13.heap.size := cell?_lt x13_6_0
            have x13_7_0 : w13.cell? ⟨w12.heap.size, 0, none⟩ = some (.int .i64 wp) := keep_cell hb13 (by simp [go_sem, *])
            have x13_7_1 : w13.cell? ⟨w12.heap.size, 1, none⟩ = some (.int .i64 wq) := keep_cell hb13 (by simp [go_sem, *])
            have y13_7 : w12.heap.size < w13.heap.size := cell?_lt x13_7_0
            have g13 : Below w.heap.size w w13 := by (repeat (first | exact Below.refl _ _ | refine Below.drew ?_ | refine Below.allocS ?_ _ | refine Below.step ?_ (by assumption) | refine Below.setCell ?_ (by simp <;> omega) _ | refine Below.drewN' ?_ _))
            clear hb13 g12 x12_0_0 x12_0_1 x12_1_0 x12_1_1 x12_2_0 x12_2_1 x12_3_0 x12_3_1 x12_4_0 x12_4_1 x12_5_0 x12_5_1 x12_6_0 x12_6_1 y12_0 y12_1 y12_2 y12_3 y12_4 y12_5 y12_6
            go_wp2
            go_ret
            exact ⟨(by first | rfl | (simp; done) | (simp; omega) | (simp [*]; done)), by (repeat (first | (with_reducible exact Below.refl _ _) | (with_reducible assumption) | (with_reducible refine Below.drew ?_) | (with_reducible refine Below.allocS ?_ _) | (with_reducible refine Below.setCell ?_ ?_ _) | (with_reducible refine Below.step ?_ (by assumption)) | (with_reducible refine Below.drewN' ?_ _))); (try any_goals (first | (with_reducible assumption) | (simp; done) | (simp; omega) | omega))⟩
          · have tk : True := trivial
            go_wp2_with fail
            refine (HH.out a b n _).mono ?_
            rintro e w13 ⟨rfl, hb13⟩
            have x13_0_0 : w13.cell? ⟨w.heap.size, 0, none⟩ = some (.int .i64 a) := keep_cell hb13 (by simp [go_sem, *])
            have x13_0_1 : w13.cell? ⟨w.heap.size, 1, none⟩ = some (.int .i64 b) := keep_cell hb13 (by simp [go_sem, *])
            have y13_0 : w.heap.size < w13.heap.size := cell?_lt x13_0_0
            have x13_1_0 : w13.cell? ⟨w.heap.size + 1, 0, none⟩ = some (.int .i64 c) := keep_cell hb13 (by simp [go_sem, *])
            have x13_1_1 : w13.cell? ⟨w.heap.size + 1, 1, none⟩ = some (.int .i64 d) := keep_cell hb13 (by simp [go_sem, *])
            have y13_1 : w.heap.size + 1 < w13.heap.size := cell?_lt x13_1_0
            have x13_2_0 : w13.cell? ⟨w.heap.size + 1 + 1, 0, none⟩ = some (.int .i64 n) := keep_cell hb13 (by simp [go_sem, *])
            have x13_2_1 : w13.cell? ⟨w.heap.size + 1 + 1, 1, none⟩ = some (.int .i64 m) := keep_cell hb13 (by simp [go_sem, *])
            have y13_2 : w.heap.size + 1 + 1 < w13.heap.size := cell?_lt x13_2_0
            have x13_3_0 : w13.cell? ⟨w4.heap.size, 0, none⟩ = some (.int .i64 p) := keep_cell hb13 (by simp [go_sem, *])
            have x13_3_1 : w13.cell? ⟨w4.heap.size, 1, none⟩ = some (.int .i64 q) := keep_cell hb13 (by simp [go_sem, *])
            have y13_3 : w4.heap.size < w13.heap.size := cell?_lt x13_3_0
            have x13_4_0 : w13.cell? ⟨w6.heap.size, 0, none⟩ = some (.int .i64 hl) := keep_cell hb13 (by simp [go_sem, *])
            have x13_4_1 : w13.cell? ⟨w6.heap.size, 1, none⟩ = some (.int .i64 hr) := keep_cell hb13 (by simp [go_sem, *])
            have y13_4 : w6.heap.size < w13.heap.size := cell?_lt x13_4_0
            have x13_5_0 : w13.cell? ⟨w8.heap.size, 0, none⟩ = some (.int .i64 sp) := keep_cell hb13 (by simp [go_sem, *])
            have x13_5_1 : w13.cell? ⟨w8.heap.size, 1, none⟩ = some (.int .i64 sq) := keep_cell hb13 (by simp [go_sem, *])
            have y13_5 : w8.heap.size < w13.heap.size := cell?_lt x13_5_0
            have x13_6_0 : w13.cell? ⟨w10.heap.size, 0, none⟩ = some (.int .i64 (-b)) := keep_cell hb13 (by simp [go_sem, *])
            have x13_6_1 : w13.cell? ⟨w10.heap.size, 1, none⟩ = some (.int .i64 (-a)) := keep_cell hb13 (by simp [go_sem, *])
            have y13_6 : w10.heap.size < w13.heap.size := cell?_lt x13_6_0
            have x13_7_0 : w13.cell? ⟨w12.heap.size, 0, none⟩ = some (.int .i64 wp) := keep_cell hb13 (by simp [go_sem, *])
            have x13_7_1 : w13.cell? ⟨w12.heap.size, 1, none⟩ = some (.int .i64 wq) := keep_cell hb13 (by simp [go_sem, *])
            have y13_7 : w12.heap.size < w13.heap.size := cell?_lt x13_7_0
            have g13 : Below w.heap.size w w13 := by (repeat (first | exact Below.refl _ _ | refine Below.drew ?_ | refine Below.allocS ?_ _ | refine Below.step ?_ (by assumption) | refine Below.setCell ?_ (by simp <;> omega) _ | refine Below.drewN' ?_ _))
            clear hb13 g12 x12_0_0 x12_0_1 x12_1_0 x12_1_1 x12_2_0 x12_2_1 x12_3_0 x12_3_1 x12_4_0 x12_4_1 x12_5_0 x12_5_1 x12_6_0 x12_6_1 y12_0 y12_1 y12_2 y12_3 y12_4 y12_5 y12_6
            rw [k1]
            go_wp2_with fail
            refine (awake_c _).mono ?_
            rintro e w14 ⟨rfl, hb14⟩
            have x14_0_0 : w14.cell? ⟨w.heap.size, 0, none⟩ = some (.int .i64 a) := keep_cell hb14 (by simp [go_sem, *])
            have x14_0_1 : w14.cell? ⟨w.heap.size, 1, none⟩ = some (.int .i64 b) := keep_cell hb14 (by simp [go_sem, *])
            have y14_0 : w.heap.size < w14.heap.size := cell?_lt x14_0_0
            have x14_1_0 : w14.cell? ⟨w.heap.size + 1, 0, none⟩ = some (.int .i64 c) := keep_cell hb14 (by simp [go_sem, *])
            have x14_1_1 : w14.cell? ⟨w.heap.size + 1, 1, none⟩ = some (.int .i64 d) := keep_cell hb14 (by simp [go_sem, *])
            have y14_1 : w.heap.size + 1 < w14.heap.size := cell?_lt x14_1_0
            have x14_2_0 : w14.cell? ⟨w.heap.size + 1 + 1, 0, none⟩ = some (.int .i64 n) := keep_cell hb14 (by simp [go_sem, *])
            have x14_2_1 : w14.cell? ⟨w.heap.size + 1 + 1, 1, none⟩ = some (.int .i64 m) := keep_cell hb14 (by simp [go_sem, *])
            have y14_2 : w.heap.size + 1 + 1 < w14.heap.size := cell?_lt x14_2_0
            have x14_3_0 : w14.cell? ⟨w4.heap.size, 0, none⟩ = some (.int .i64 p) := keep_cell hb14 (by simp [go_sem, *])
            have x14_3_1 : w14.cell? ⟨w4.heap.size, 1, none⟩ = some (.int .i64 q) := keep_cell hb14 (by simp [go_sem, *])
            have y14_3 : w4.heap.size < w14.heap.size := cell?_lt x14_3_0
            have x14_4_0 : w14.cell? ⟨w6.heap.size, 0, none⟩ = some (.int .i64 hl) := keep_cell hb14 (by simp [go_sem, *])
            have x14_4_1 : w14.cell? ⟨w6.heap.size, 1, none⟩ = some (.int .i64 hr) := keep_cell hb14 (by simp [go_sem, *])
            have y14_4 : w6.heap.size < w14.heap.size := cell?_lt x14_4_0
            have x14_5_0 : w14.cell? ⟨w8.heap.size, 0, none⟩ = some (.int .i64 sp) := keep_cell hb14 (by simp [go_sem, *])
            have x14_5_1 : w14.cell? ⟨w8.heap.size, 1, none⟩ = some (.int .i64 sq) := keep_cell hb14 (by simp [go_sem, *])
            have y14_5 : w8.heap.size < w14.heap.size := cell?_lt x14_5_0
            have x14_6_0 : w14.cell? ⟨w10.heap.size, 0, none⟩ = some (.int .i64 (-b)) := keep_cell hb14 (by simp [go_sem, *])
            have x14_6_1 : w14.cell? ⟨w10.heap.size, 1, none⟩ = some (.int .i64 (-a)) := keep_cell hb14 (by simp [go_sem, *])
            have y14_6 : w10.heap.size < w14.heap.size := cell?_lt x14_6_0
            have x14_7_0 : w14.cell? ⟨w12.heap.size, 0, none⟩ = some (.int .i64 wp) := keep_cell hb14 (by simp [go_sem, *])
            have x14_7_1 : w14.cell? ⟨w12.heap.size, 1, none⟩ = some (.int .i64 wq) := keep_cell hb14 (by simp [go_sem, *])
            have y14_7 : w12.heap.size < w14.heap.size := cell?_lt x14_7_0
            have g14 : Below w.heap.size w w14 := by (repeat (first | exact Below.refl _ _ | refine Below.drew ?_ | refine Below.allocS ?_ _ | refine Below.step ?_ (by assumption) | refine Below.setCell ?_ (by simp <;> omega) _ | refine Below.drewN' ?_ _))
            clear hb14 g13 x13_0_0 x13_0_1 x13_1_0 x13_1_1 x13_2_0 x13_2_1 x13_3_0 x13_3_1 x13_4_0 x13_4_1 x13_5_0 x13_5_1 x13_6_0 x13_6_1 x13_7_0 x13_7_1 y13_0 y13_1 y13_2 y13_3 y13_4 y13_5 y13_6 y13_7
            go_wp2
            go_ret
            exact ⟨(by first | rfl | (simp; done) | (simp; omega) | (simp [*]; done)), by (repeat (first | (with_reducible exact Below.refl _ _) | (with_reducible assumption) | (with_reducible refine Below.drew ?_) | (with_reducible refine Below.allocS ?_ _) | (with_reducible refine Below.setCell ?_ ?_ _) | (with_reducible refine Below.step ?_ (by assumption)) | (with_reducible refine Below.drewN' ?_ _))); (try any_goals (first | (with_reducible assumption) | (simp; done) | (simp; omega) | omega))⟩
          · have tk : True := trivial
            go_wp2_with fail
            refine (HH.out a b n _).mono ?_
            rintro e w13 ⟨rfl, hb13⟩
            have x13_0_0 : w13.cell? ⟨w.heap.size, 0, none⟩ = some (.int .i64 a) := keep_cell hb13 (by simp [go_sem, *])
            have x13_0_1 : w13.cell? ⟨w.heap.size, 1, none⟩ = some (.int .i64 b) := keep_cell hb13 (by simp [go_sem, *])
            have y13_0 : w.heap.size < w13.heap.size := cell?_lt x13_0_0
            have x13_1_0 : w13.cell? ⟨w.heap.size + 1, 0, none⟩ = some (.int .i64 c) := keep_cell hb13 (by simp [go_sem, *])
            have x13_1_1 : w13.cell? ⟨w.heap.size + 1, 1, none⟩ = some (.int .i64 d) := keep_cell hb13 (by simp [go_sem, *])
            have y13_1 : w.heap.size + 1 < w13.heap.size := cell?_lt x13_1_0
            have x13_2_0 : w13.cell? ⟨w.heap.size + 1 + 1, 0, none⟩ = some (.int .i64 n) := keep_cell hb13 (by simp [go_sem, *])
            have x13_2_1 : w13.cell? ⟨w.heap.size + 1 + 1, 1, none⟩ = some (.int .i64 m) := keep_cell hb13 (by simp [go_sem, *])
            have y13_2 : w.heap.size + 1 + 1 < w13.heap.size := cell?_lt x13_2_0
            have x13_3_0 : w13.cell? ⟨w4.heap.size, 0, none⟩ = some (.int .i64 p) := keep_cell hb13 (by simp [go_sem, *])
            have x13_3_1 : w13.cell? ⟨w4.heap.size, 1, none⟩ = some (.int .i64 q) := keep_cell hb13 (by simp [go_sem, *])
            have y13_3 : w4.heap.size < w13.heap.size := cell?_lt x13_3_0
            have x13_4_0 : w13.cell? ⟨w6.heap.size, 0, none⟩ = some (.int .i64 hl) := keep_cell hb13 (by simp [go_sem, *])
            have x13_4_1 : w13.cell? ⟨w6.heap.size, 1, none⟩ = some (.int .i64 hr) := keep_cell hb13 (by simp [go_sem, *])
            have y13_4 : w6.heap.size < w13.heap.size := cell?_lt x13_4_0
            have x13_5_0 : w13.cell? ⟨w8.heap.size, 0, none⟩ = some (.int .i64 sp) := keep_cell hb13 (by simp [go_sem, *])
            have x13_5_1 : w13.cell? ⟨w8.heap.size, 1, none⟩ = some (.int .i64 sq) := keep_cell hb13 (by simp [go_sem, *])
            have y13_5 : w8.heap.size < w13.heap.size := cell?_lt x13_5_0
            have x13_6_0 : w13.cell? ⟨w10.heap.size, 0, none⟩ = some (.int .i64 (-b)) := keep_cell hb13 (by simp [go_sem, *])
            have x13_6_1 : w13.cell? ⟨w10.heap.size, 1, none⟩ = some (.int .i64 (-a)) := keep_cell hb13 (by simp [go_sem, *])
            have y13_6 : w10.heap.size < w13.heap.size := cell?_lt x13_6_0
            have x13_7_0 : w13.cell? ⟨w12.heap.size, 0, none⟩ = some (.int .i64 wp) := keep_cell hb13 (by simp [go_sem, *])
            have x13_7_1 : w13.cell? ⟨w12.heap.size, 1, none⟩ = some (.int .i64 wq) := keep_cell hb13 (by simp [go_sem, *])
            have y13_7 : w12.heap.size < w13.heap.size := cell?_lt x13_7_0
            have g13 : Below w.heap.size w w13 := by (repeat (first | exact Below.refl _ _ | refine Below.drew ?_ | refine Below.allocS ?_ _ | refine Below.step ?_ (by assumption) | refine Below.setCell ?_ (by simp <;> omega) _ | refine Below.drewN' ?_ _))
            clear hb13 g12 x12_0_0 x12_0_1 x12_1_0 x12_1_1 x12_2_0 x12_2_1 x12_3_0 x12_3_1 x12_4_0 x12_4_1 x12_5_0 x12_5_1 x12_6_0 x12_6_1 y12_0 y12_1 y12_2 y12_3 y12_4 y12_5 y12_6
            rw [k1]
            go_wp2_with fail
            refine (HH.out wp wq n _).mono ?_
            rintro e w14 ⟨rfl, hb14⟩
            have x14_0_0 : w14.cell? ⟨w.heap.size, 0, none⟩ = some (.int .i64 a) := keep_cell hb14 (by simp [go_sem, *])
            have x14_0_1 : w14.cell? ⟨w.heap.size, 1, none⟩ = some (.int .i64 b) := keep_cell hb14 (by simp [go_sem, *])
            have y14_0 : w.heap.size < w14.heap.size := cell?_lt x14_0_0
            have x14_1_0 : w14.cell? ⟨w.heap.size + 1, 0, none⟩ = some (.int .i64 c) := keep_cell hb14 (by simp [go_sem, *])
            have x14_1_1 : w14.cell? ⟨w.heap.size + 1, 1, none⟩ = some (.int .i64 d) := keep_cell hb14 (by simp [go_sem, *])
            have y14_1 : w.heap.size + 1 < w14.heap.size := cell?_lt x14_1_0
            have x14_2_0 : w14.cell? ⟨w.heap.size + 1 + 1, 0, none⟩ = some (.int .i64 n) := keep_cell hb14 (by simp [go_sem, *])
            have x14_2_1 : w14.cell? ⟨w.heap.size + 1 + 1, 1, none⟩ = some (.int .i64 m) := keep_cell hb14 (by simp [go_sem, *])
            have y14_2 : w.heap.size + 1 + 1 < w14.heap.size := cell?_lt x14_2_0
            have x14_3_0 : w14.cell? ⟨w4.heap.size, 0, none⟩ = some (.int .i64 p) := keep_cell hb14 (by simp [go_sem, *])
            have x14_3_1 : w14.cell? ⟨w4.heap.size, 1, none⟩ = some (.int .i64 q) := keep_cell hb14 (by simp [go_sem, *])
            have y14_3 : w4.heap.size < w14.heap.size := cell?_lt x14_3_0
            have x14_4_0 : w14.cell? ⟨w6.heap.size, 0, none⟩ = some (.int .i64 hl) := keep_cell hb14 (by simp [go_sem, *])
            have x14_4_1 : w14.cell? ⟨w6.heap.size, 1, none⟩ = some (.int .i64 hr) := keep_cell hb14 (by simp [go_sem, *])
            have y14_4 : w6.heap.size < w14.heap.size := cell?_lt x14_4_0
            have x14_5_0 : w14.cell? ⟨w8.heap.size, 0, none⟩ = some (.int .i64 sp) := keep_cell hb14 (by simp [go_sem, *])
            have x14_5_1 : w14.cell? ⟨w8.heap.size, 1, none⟩ = some (.int .i64 sq) := keep_cell hb14 (by simp [go_sem, *])
            have y14_5 : w8.heap.size < w14.heap.size := cell?_lt x14_5_0
            have x14_6_0 : w14.cell? ⟨w10.heap.size, 0, none⟩ = some (.int .i64 (-b)) := keep_cell hb14 (by simp [go_sem, *])
            have x14_6_1 : w14.cell? ⟨w10.heap.size, 1, none⟩ = some (.int .i64 (-a)) := keep_cell hb14 (by simp [go_sem, *])
            have y14_6 : w10.heap.size < w14.heap.size := cell?_lt x14_6_0
            have x14_7_0 : w14.cell? ⟨w12.heap.size, 0, none⟩ = some (.int .i64 wp) := keep_cell hb14 (by simp [go_sem, *])
            have x14_7_1 : w14.cell? ⟨w12.heap.size, 1, none⟩ = some (.int .i64 wq) := keep_cell hb14 (by simp [go_sem, *])
            have y14_7 : w12.heap.size < w14.heap.size := cell?_lt x14_7_0
            have g14 : Below w.heap.size w w14 := by (repeat (first | exact Below.refl _ _ | refine Below.drew ?_ | refine Below.allocS ?_ _ | refine Below.step ?_ (by assumption) | refine Below.setCell ?_ (by simp <;> omega) _ | refine Below.drewN' ?_ _))
            clear hb14 g13 x13_0_0 x13_0_1 x13_1_0 x13_1_1 x13_2_0 x13_2_1 x13_3_0 x13_3_1 x13_4_0 x13_4_1 x13_5_0 x13_5_1 x13_6_0 x13_6_1 x13_7_0 x13_7_1 y13_0 y13_1 y13_2 y13_3 y13_4 y13_5 y13_6 y13_7
            rw [k2]
            go_wp2_with fail
            refine (HH.out wp wq (n - 1) _).mono ?_
            rintro e w15 ⟨rfl, hb15⟩
            have x15_0_0 : w15.cell? ⟨w.heap.size, 0, none⟩ = some (.int .i64 a) := keep_cell hb15 (by simp [go_sem, *])
            have x15_0_1 : w15.cell? ⟨w.heap.size, 1, none⟩ = some (.int .i64 b) := keep_cell hb15 (by simp [go_sem, *])
            have y15_0 : w.heap.size < w15.heap.size := cell?_lt x15_0_0
            have x15_1_0 : w15.cell? ⟨w.heap.size + 1, 0, none⟩ = some (.int .i64 c) := keep_cell hb15 (by simp [go_sem, *])
            have x15_1_1 : w15.cell? ⟨w.heap.size + 1, 1, none⟩ = some (.int .i64 d) := keep_cell hb15 (by simp [go_sem, *])
            have y15_1 : w.heap.size + 1 < w15.heap.size := cell?_lt x15_1_0
            have x15_2_0 : w15.cell? ⟨w.heap.size + 1 + 1, 0, none⟩ = some (.int .i64 n) := keep_cell hb15 (by simp [go_sem, *])
            have x15_2_1 : w15.cell? ⟨w.heap.size + 1 + 1, 1, none⟩ = some (.int .i64 m) := keep_cell hb15 (by simp [go_sem, *])
            have y15_2 : w.heap.size + 1 + 1 < w15.heap.size := cell?_lt x15_2_0
            have x15_3_0 : w15.cell? ⟨w4.heap.size, 0, none⟩ = some (.int .i64 p) := keep_cell hb15 (by simp [go_sem, *])
            have x15_3_1 : w15.cell? ⟨w4.heap.size, 1, none⟩ = some (.int .i64 q) := keep_cell hb15 (by simp [go_sem, *])
            have y15_3 : w4.heap.size < w15.heap.size := cell?_lt x15_3_0
            have x15_4_0 : w15.cell? ⟨w6.heap.size, 0, none⟩ = some (.int .i64 hl) := keep_cell hb15 (by simp [go_sem, *])
            have x15_4_1 : w15.cell? ⟨w6.heap.size, 1, none⟩ = some (.int .i64 hr) := keep_cell hb15 (by simp [go_sem, *])
            have y15_4 : w6.heap.size < w15.heap.size := cell?_lt x15_4_0
            have x15_5_0 : w15.cell? ⟨w8.heap.size, 0, none⟩ = some (.int .i64 sp) := keep_cell hb15 (by simp [go_sem, *])
            have x15_5_1 : w15.cell? ⟨w8.heap.size, 1, none⟩ = some (.int .i64 sq) := keep_cell hb15 (by simp [go_sem, *])
            have y15_5 : w8.heap.size < w15.heap.size := cell?_lt x15_5_0
            have x15_6_0 : w15.cell? ⟨w10.heap.size, 0, none⟩ = some (.int .i64 (-b)) := keep_cell hb15 (by simp [go_sem, *])
            have x15_6_1 : w15.cell? ⟨w10.heap.size, 1, none⟩ = some (.int .i64 (-a)) := keep_cell hb15 (by simp [go_sem, *])
            have y15_6 : w10.heap.size < w15.heap.size := cell?_lt x15_6_0
            have x15_7_0 : w15.cell? ⟨w12.heap.size, 0, none⟩ = some (.int .i64 wp) := keep_cell hb15 (by simp [go_sem, *])
            have x15_7_1 : w15.cell? ⟨w12.heap.size, 1, none⟩ = some (.int .i64 wq) := keep_cell hb15 (by simp [go_sem, *])
            have y15_7 : w12.heap.size < w15.heap.size := cell?_lt x15_7_0
            have g15 : Below w.heap.size w w15 := by (repeat (first | exact Below.refl _ _ | refine Below.drew ?_ | refine Below.allocS ?_ _ | refine Below.step ?_ (by assumption) | refine Below.setCell ?_ (by simp <;> omega) _ | refine Below.drewN' ?_ _))
            clear hb15 g14 x14_0_0 x14_0_1 x14_1_0 x14_1_1 x14_2_0 x14_2_1 x14_3_0 x14_3_1 x14_4_0 x14_4_1 x14_5_0 x14_5_1 x14_6_0 x14_6_1 x14_7_0 x14_7_1 y14_0 y14_1 y14_2 y14_3 y14_4 y14_5 y14_6 y14_7
            rw [k3]
            go_wp2_with fail
            refine (HH.out wp wq (n + 1) _).mono ?_
            rintro e w16 ⟨rfl, hb16⟩
            have x16_0_0 : w16.cell? ⟨w.heap.size, 0, none⟩ = some (.int .i64 a) := keep_cell hb16 (by simp [go_sem, *])
            have x16_0_1 : w16.cell? ⟨w.heap.size, 1, none⟩ = some (.int .i64 b) := keep_cell hb16 (by simp [go_sem, *])
            have y16_0 : w.heap.size < w16.heap.size := cell?_lt x16_0_0
            have x16_1_0 : w16.cell? ⟨w.heap.size + 1, 0, none⟩ = some (.int .i64 c) := keep_cell hb16 (by simp [go_sem, *])
            have x16_1_1 : w16.cell? ⟨w.heap.size + 1, 1, none⟩ = some (.int .i64 d) := keep_cell hb16 (by simp [go_sem, *])
            have y16_1 : w.heap.size + 1 < w16.heap.size := cell?_lt x16_1_0
            have x16_2_0 : w16.cell? ⟨w.heap.size + 1 + 1, 0, none⟩ = some (.int .i64 n) := keep_cell hb16 (by simp [go_sem, *])
            have x16_2_1 : w16.cell? ⟨w.heap.size + 1 + 1, 1, none⟩ = some (.int .i64 m) := keep_cell hb16 (by simp [go_sem, *])
            have y16_2 : w.heap.size + 1 + 1 < w16.heap.size := cell?_lt x16_2_0
            have x16_3_0 : w16.cell? ⟨w4.heap.size, 0, none⟩ = some (.int .i64 p) := keep_cell hb16 (by simp [go_sem, *])
            have x16_3_1 : w16.cell? ⟨w4.heap.size, 1, none⟩ = some (.int .i64 q) := keep_cell hb16 (by simp [go_sem, *])
            have y16_3 : w4.heap.size < w16.heap.size := cell?_lt x16_3_0
            have x16_4_0 : w16.cell? ⟨w6.heap.size, 0, none⟩ = some (.int .i64 hl) := keep_cell hb16 (by simp [go_sem, *])
            have x16_4_1 : w16.cell? ⟨w6.heap.size, 1, none⟩ = some (.int .i64 hr) := keep_cell hb16 (by simp [go_sem, *])
            have y16_4 : w6.heap.size < w16.heap.size := cell?_lt x16_4_0
            have x16_5_0 : w16.cell? ⟨w8.heap.size, 0, none⟩ = some (.int .i64 sp) := keep_cell hb16 (by simp [go_sem, *])
            have x16_5_1 : w16.cell? ⟨w8.heap.size, 1, none⟩ = some (.int .i64 sq) := keep_cell hb16 (by simp [go_sem, *])
            have y16_5 : w8.heap.size < w16.heap.size := cell?_lt x16_5_0
            have x16_6_0 : w16.cell? ⟨w10.heap.size, 0, none⟩ = some (.int .i64 (-b)) := keep_cell hb16 (by simp [go_sem, *])
            have x16_6_1 : w16.cell? ⟨w10.heap.size, 1, none⟩ = some (.int .i64 (-a)) := keep_cell hb16 (by simp [go_sem, *])
            have y16_6 : w10.heap.size < w16.heap.size := cell?_lt x16_6_0
            have x16_7_0 : w16.cell? ⟨w12.heap.size, 0, none⟩ = some (.int .i64 wp) := keep_cell hb16 (by simp [go_sem, *])
            have x16_7_1 : w16.cell? ⟨w12.heap.size, 1, none⟩ = some (.int .i64 wq) := keep_cell hb16 (by simp [go_sem, *])
            have y16_7 : w12.heap.size < w16.heap.size := cell?_lt x16_7_0
            have g16 : Below w.heap.size w w16 := by (repeat (first | exact Below.refl _ _ | refine Below.drew ?_ | refine Below.allocS ?_ _ | refine Below.step ?_ (by assumption) | refine Below.setCell ?_ (by simp <;> omega) _ | refine Below.drewN' ?_ _))
            clear hb16 g15 x15_0_0 x15_0_1 x15_1_0 x15_1_1 x15_2_0 x15_2_1 x15_3_0 x15_3_1 x15_4_0 x15_4_1 x15_5_0 x15_5_1 x15_6_0 x15_6_1 x15_7_0 x15_7_1 y15_0 y15_1 y15_2 y15_3 y15_4 y15_5 y15_6 y15_7
            rw [k4]
            go_wp2_with fail
            refine (awake_c _).mono ?_
            rintro e w17 ⟨rfl, hb17⟩
            have x17_0_0 : w17.cell? ⟨w.heap.size, 0, none⟩ = some (.int .i64 a) := keep_cell hb17 (by simp [go_sem, *])
            have x17_0_1 : w17.cell? ⟨w.heap.size, 1, none⟩ = some (.int .i64 b) := keep_cell hb17 (by simp [go_sem, *])
            have y17_0 : w.heap.size < w17.heap.size := cell?_lt x17_0_0
            have x17_1_0 : w17.cell? ⟨w.heap.size + 1, 0, none⟩ = some (.int .i64 c) := keep_cell hb17 (by simp [go_sem, *])
            have x17_1_1 : w17.cell? ⟨w.heap.size + 1, 1, none⟩ = some (.int .i64 d) := keep_cell hb17 (by simp [go_sem, *])
            have y17_1 : w.heap.size + 1 < w17.heap.size := cell?_lt x17_1_0
            have x17_2_0 : w17.cell? ⟨w.heap.size + 1 + 1, 0, none⟩ = some (.int .i64 n) := keep_cell hb17 (by simp [go_sem, *])
            have x17_2_1 : w17.cell? ⟨w.heap.size + 1 + 1, 1, none⟩ = some (.int .i64 m) := keep_cell hb17 (by simp [go_sem, *])
            have y17_2 : w.heap.size + 1 + 1 < w17.heap.size := cell?_lt x17_2_0
            have x17_3_0 : w17.cell? ⟨w4.heap.size, 0, none⟩ = some (.int .i64 p) := keep_cell hb17 (by simp [go_sem, *])
            have x17_3_1 : w17.cell? ⟨w4.heap.size, 1, none⟩ = some (.int .i64 q) := keep_cell hb17 (by simp [go_sem, *])
            have y17_3 : w4.heap.size < w17.heap.size := cell?_lt x17_3_0
            have x17_4_0 : w17.cell? ⟨w6.heap.size, 0, none⟩ = some (.int .i64 hl) := keep_cell hb17 (by simp [go_sem, *])
            have x17_4_1 : w17.cell? ⟨w6.heap.size, 1, none⟩ = some (.int .i64 hr) := keep_cell hb17 (by simp [go_sem, *])
            have y17_4 : w6.heap.size < w17.heap.size := cell?_lt x17_4_0
            have x17_5_0 : w17.cell? ⟨w8.heap.size, 0, none⟩ = some (.int .i64 sp) := keep_cell hb17 (by simp [go_sem, *])
            have x17_5_1 : w17.cell? ⟨w8.heap.size, 1, none⟩ = some (.int .i64 sq) := keep_cell hb17 (by simp [go_sem, *])
            have y17_5 : w8.heap.size < w17.heap.size := cell?_lt x17_5_0
            have x17_6_0 : w17.cell? ⟨w10.heap.size, 0, none⟩ = some (.int .i64 (-b)) := keep_cell hb17 (by simp [go_sem, *])
            have x17_6_1 : w17.cell? ⟨w10.heap.size, 1, none⟩ = some (.int .i64 (-a)) := keep_cell hb17 (by simp [go_sem, *])
            have y17_6 : w10.heap.size < w17.heap.size := cell?_lt x17_6_0
            have x17_7_0 : w17.cell? ⟨w12.heap.size, 0, none⟩ = some (.int .i64 wp) := keep_cell hb17 (by simp [go_sem, *])
            have x17_7_1 : w17.cell? ⟨w12.heap.size, 1, none⟩ = some (.int .i64 wq) := keep_cell hb17 (by simp [go_sem, *])
            have y17_7 : w12.heap.size < w17.heap.size := cell?_lt x17_7_0
            have g17 : Below w.heap.size w w17 := by (repeat (first | exact Below.refl _ _ | refine Below.drew ?_ | refine Below.allocS ?_ _ | refine Below.step ?_ (by assumption) | refine Below.setCell ?_ (by simp <;> omega) _ | refine Below.drewN' ?_ _))
            clear hb17 g16 x16_0_0 x16_0_1 x16_1_0 x16_1_1 x16_2_0 x16_2_1 x16_3_0 x16_3_1 x16_4_0 x16_4_1 x16_5_0 x16_5_1 x16_6_0 x16_6_1 x16_7_0 x16_7_1 y16_0 y16_1 y16_2 y16_3 y16_4 y16_5 y16_6 y16_7
            go_wp2
            go_ret
            exact ⟨(by first | rfl | (simp; done) | (simp; omega) | (simp [*]; done)), by (repeat (first | (with_reducible exact Below.refl _ _) | (with_reducible assumption) | (with_reducible refine Below.drew ?_) | (with_reducible refine Below.allocS ?_ _) | (with_reducible refine Below.setCell ?_ ?_ _) | (with_reducible refine Below.step ?_ (by assumption)) | (with_reducible refine Below.drewN' ?_ _))); (try any_goals (first | (with_reducible assumption) | (simp; done) | (simp; omega) | omega))⟩
end Go.Proofs.YtjkcgbidceakjaaDoor
