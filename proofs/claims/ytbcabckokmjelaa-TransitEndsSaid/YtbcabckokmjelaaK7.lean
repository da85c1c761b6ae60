/-
  Bundle K7: Q24, Q25, Q26. Printed by bundle.py.
-/
import Derived.Test.YtbcabckokmjelaaK6
import Derived.Test.YtbcabckokmjelaaQ19
import Derived.Test.YtbcabckokmjelaaK5
namespace Go.Proofs.Ytbcabckokmjelaa
open Go.RowKit
set_option linter.unusedVariables false
set_option linter.unusedSimpArgs false
theorem rdownB_c (n d : Int) (hd : 0 < d) (hd2 : d ≤ 4000000000000000000) (h0 : -4000000000000000000 ≤ n) (h1 : n ≤ 4000000000000000000) (w : World) :
    Calls Try.prog 51 #[.int .i64 n, .int .i64 d] w fun e w' => e = .returned (.int .i64 (n / d)) ∧ w' = w := by
  obtain ⟨f1, f2⟩ := tdiv_floor n d hd
  obtain ⟨b1, b2⟩ := tdiv_small n d hd h0 h1
  have r1 : n.tmod d < d := Int.tmod_lt_of_pos n hd
  have r2 : -d < n.tmod d := by
    have := Int.tmod_lt_of_pos (-n) hd
    rw [Int.neg_tmod] at this
    omega
  have hdz : d ≠ 0 := by omega
  have w1 : IntKind.i64.wrap (n.tdiv d) = n.tdiv d := IntWalk.i64_in _ (by omega)
  have w2 : IntKind.i64.wrap (n.tmod d) = n.tmod d := IntWalk.i64_in _ (by omega)
  have w3 : IntKind.i64.wrap (n.tdiv d - 1) = n.tdiv d - 1 := IntWalk.i64_in _ (by omega)
  by_cases h : n.tmod d < 0
  · rw [f2 h]
    clear f1 f2 r1 r2
    go_enter Try.func51, Try.ntmps51
    go_wp2
    go_ret
    exact ⟨rfl, rfl⟩
  · rw [f1 (by omega)]
    clear f1 f2 r1 r2
    go_enter Try.func51, Try.ntmps51
    go_wp2
    go_ret
    exact ⟨rfl, rfl⟩
theorem sgn_lt {x y : Int} (h : x < y) : sgn x y = -1 := by unfold sgn; rw [if_pos h]
theorem sgn_gt {x y : Int} (h : y < x) : sgn x y = 1 := by unfold sgn; rw [if_neg (by omega), if_pos h]
theorem sgn_eq {x : Int} : sgn x x = 0 := by unfold sgn; rw [if_neg (by omega), if_neg (by omega)]
theorem sgn_flip (x y : Int) : sgn x y = -sgn y x := by unfold sgn; split <;> split <;> (try split) <;> omega
/-- One round of the comparison. -/
structure CmpR (n d m e : Int) : Prop where
  lt : n / d < m / e → sgn (n * e) (m * d) = -1
  gt : m / e < n / d → sgn (n * e) (m * d) = 1
  eq : n / d = m / e → sgn (n * e) (m * d) = sgn ((n - n / d * d) * e) ((m - m / e * e) * d)
theorem cmp_round {n d m e : Int} (hd : 0 < d) (he : 0 < e) : CmpR n d m e := by
  have a1 : n / d * d ≤ n := Int.ediv_mul_le n (by omega)
  have a2 : n < (n / d + 1) * d := Int.lt_ediv_add_one_mul_self n hd
  have b1 : m / e * e ≤ m := Int.ediv_mul_le m (by omega)
  have b2 : m < (m / e + 1) * e := Int.lt_ediv_add_one_mul_self m he
  refine ⟨fun h => sgn_lt ?_, fun h => sgn_gt ?_, fun h => ?_⟩
  · calc n * e < (n / d + 1) * d * e := Int.mul_lt_mul_of_pos_right a2 he
      _ ≤ m / e * d * e := Int.mul_le_mul_of_nonneg_right (Int.mul_le_mul_of_nonneg_right (by omega) (by omega)) (by omega)
      _ = m / e * e * d := by ac_rfl
      _ ≤ m * d := Int.mul_le_mul_of_nonneg_right b1 (by omega)
  · calc m * d < (m / e + 1) * e * d := Int.mul_lt_mul_of_pos_right b2 hd
      _ ≤ n / d * e * d := Int.mul_le_mul_of_nonneg_right (Int.mul_le_mul_of_nonneg_right (by omega) (by omega)) (by omega)
      _ = n / d * d * e := by ac_rfl
      _ ≤ n * e := Int.mul_le_mul_of_nonneg_right a1 (by omega)
  · rw [Int.sub_mul, Int.sub_mul, h]
    have e1 : m / e * d * e = m / e * e * d := by ac_rfl
    rw [e1]
    unfold sgn
    generalize n * e = x at *
    generalize m * d = y at *
    generalize m / e * e * d = z at *
    by_cases h1 : x < y
    · rw [if_pos h1, if_pos (by omega)]
    · by_cases h2 : y < x
      · rw [if_neg h1, if_pos h2, if_neg (by omega), if_pos (by omega)]
      · rw [if_neg h1, if_neg h2, if_neg (by omega), if_neg (by omega)]
def F18 (a : Int) : Prop := -2000000000000000000 ≤ a ∧ a ≤ 2000000000000000000
theorem rCompare_c (n0 d0 m0 e0 : Int) (hn : F18 n0) (hm : F18 m0) (hd : 0 < d0) (hd2 : F18 d0) (he : 0 < e0) (he2 : F18 e0) (w : World) :
    Calls Try.prog 85 #[.int .i64 n0, .int .i64 d0, .int .i64 m0, .int .i64 e0] w fun e w' => e = .returned (.int .i64 (sgn (n0 * e0) (m0 * d0))) ∧ Below w.heap.size w w' := by
  obtain ⟨T, hT⟩ : ∃ T, T = sgn (n0 * e0) (m0 * d0) := ⟨_, rfl⟩
  rw [← hT]
  have HT := Lib.hid hT
  have HI := Lib.hid (show F18 n0 ∧ F18 m0 ∧ 0 < d0 ∧ F18 d0 ∧ 0 < e0 ∧ F18 e0 from ⟨hn, hm, hd, hd2, he, he2⟩)
  clear hT hn hm hd hd2 he he2
  go_enter Try.func85, Try.ntmps85
  go_wp2
  go_loopw [0, 1, 2, 3, 9] (fun n d m e up wr => ∃ (n' d' m' e' up' : Int), n = .int .i64 n' ∧ d = .int .i64 d' ∧ m = .int .i64 m' ∧ e = .int .i64 e' ∧ up = .int .i64 up' ∧ (F18 n' ∧ F18 m' ∧ 0 < d' ∧ F18 d' ∧ 0 < e' ∧ F18 e') ∧ (up' = 1 ∨ up' = -1) ∧ up' * sgn (n' * e') (m' * d') = T ∧ Below w.heap.size w wr) (fun _ d _ _ _ _ => (intOf d).toNat)
  case atStart => exact ⟨_, _, _, _, _, rfl, rfl, rfl, rfl, rfl, HI.out, .inl rfl, by rw [HT.out]; omega, Below.refl _ _⟩
  case round =>
    obtain ⟨n, d, m, e, up, rfl, rfl, rfl, rfl, rfl, hI, hup, hTT, hbw⟩ := hrel
    clear HI HT
    obtain ⟨hn, hm, hd, hd2, he, he2⟩ := hI
    unfold F18 at hn hm hd2 he2
    have hR := cmp_round (n := n) (m := m) hd he
    have H1 := Lib.hid (fun W => rdownB_c n d hd (by omega) (by omega) (by omega) W)
    have H2 := Lib.hid (fun W => rdownB_c m e he (by omega) (by omega) (by omega) W)
    have a1 : n / d * d ≤ n := Int.ediv_mul_le n (by omega)
    have a2 := Int.emod_nonneg n (show d ≠ 0 by omega)
    have a3 := Int.emod_lt_of_pos n hd
    have a4 : n / d * d = n - n % d := by have := Int.emod_add_mul_ediv n d; rw [Int.mul_comm] at this; omega
    have b1 : m / e * e ≤ m := Int.ediv_mul_le m (by omega)
    have b2 := Int.emod_nonneg m (show e ≠ 0 by omega)
    have b3 := Int.emod_lt_of_pos m he
    have b4 : m / e * e = m - m % e := by have := Int.emod_add_mul_ediv m e; rw [Int.mul_comm] at this; omega
    have w1 : IntKind.i64.wrap (n / d * d) = n / d * d := IntWalk.i64_in _ (by omega)
    have w2 : IntKind.i64.wrap (m / e * e) = m / e * e := IntWalk.i64_in _ (by omega)
    obtain ⟨r, hr⟩ : ∃ r, n - n / d * d = r := ⟨_, rfl⟩
    obtain ⟨s, hs⟩ : ∃ s, m - m / e * e = s := ⟨_, rfl⟩
    have r1 : 0 ≤ r ∧ r < d := by omega
    have s1 : 0 ≤ s ∧ s < e := by omega
    have w3 : IntKind.i64.wrap (n - n / d * d) = r := by rw [hr]; exact IntWalk.i64_in _ (by omega)
    have w4 : IntKind.i64.wrap (m - m / e * e) = s := by rw [hs]; exact IntWalk.i64_in _ (by omega)
    have w5 : IntKind.i64.wrap (-up) = -up := IntWalk.i64_in _ (by omega)
    obtain ⟨R1, R2, R3⟩ := hR
    rw [hr, hs] at R3
    clear hr hs a1 a2 a3 a4 b1 b2 b3 b4
    generalize n / d = p at *
    generalize m / e = q at *
    generalize sgn (n * e) (m * d) = G at *
    rcases Int.lt_trichotomy p q with h | h | h
    · have hG := R1 h
      have HF := Lib.hid (show -up = T by rw [← hTT, hG]; omega)
      clear R1 R2 R3 hTT hG
      go_wp2_with (first | (go_at_call 51; (with_reducible refine (H1.out _).mono ?_); rintro e w' ⟨rfl, rfl⟩) | (go_at_call 51; (with_reducible refine (H2.out _).mono ?_); rintro e w' ⟨rfl, rfl⟩))
      go_ret
      exact ⟨by rw [← HF.out]; rfl, hbw⟩
    · have hG := R3 h
      subst h
      have hpp : decide (p < p) = false := decide_eq_false (by omega)
      clear R1 R2 R3
      by_cases hr0 : r = 0
      · by_cases hs0 : s = 0
        · subst hr0 hs0
          have HF := Lib.hid (show 0 = T by rw [← hTT, hG, Int.zero_mul, Int.zero_mul, sgn_eq]; omega)
          clear hTT hG
          go_wp2_with (first | (go_at_call 51; (with_reducible refine (H1.out _).mono ?_); rintro e w' ⟨rfl, rfl⟩) | (go_at_call 51; (with_reducible refine (H2.out _).mono ?_); rintro e w' ⟨rfl, rfl⟩))
          go_ret
          exact ⟨by rw [← HF.out]; rfl, hbw⟩
        · subst hr0
          have HF := Lib.hid (show -up = T by
            have := Int.mul_pos (show 0 < s by omega) hd
            rw [← hTT, hG, Int.zero_mul, sgn_lt this]; omega)
          clear hTT hG
          go_wp2_with (first | (go_at_call 51; (with_reducible refine (H1.out _).mono ?_); rintro e w' ⟨rfl, rfl⟩) | (go_at_call 51; (with_reducible refine (H2.out _).mono ?_); rintro e w' ⟨rfl, rfl⟩))
          go_ret
          exact ⟨by rw [← HF.out]; rfl, hbw⟩
      · by_cases hs0 : s = 0
        · subst hs0
          have HF := Lib.hid (show up = T by
            have := Int.mul_pos (show 0 < r by omega) he
            rw [← hTT, hG, Int.zero_mul, sgn_gt this]; omega)
          clear hTT hG
          go_wp2_with (first | (go_at_call 51; (with_reducible refine (H1.out _).mono ?_); rintro e w' ⟨rfl, rfl⟩) | (go_at_call 51; (with_reducible refine (H2.out _).mono ?_); rintro e w' ⟨rfl, rfl⟩))
          go_ret
          exact ⟨by rw [← HF.out]; rfl, hbw⟩
        · have HF := Lib.hid (show -up * sgn (d * s) (e * r) = T by
            rw [← hTT, hG, sgn_flip (r * e), Int.mul_comm s d, Int.mul_comm r e, Int.neg_mul, Int.mul_neg])
          clear hTT hG
          go_wp2_with (first | (go_at_call 51; (with_reducible refine (H1.out _).mono ?_); rintro e w' ⟨rfl, rfl⟩) | (go_at_call 51; (with_reducible refine (H2.out _).mono ?_); rintro e w' ⟨rfl, rfl⟩))
          go_roundw
          case rel => exact ⟨d, r, e, s, -up, rfl, rfl, rfl, rfl, rfl, ⟨by unfold F18; omega, by unfold F18; omega, by omega, by unfold F18; omega, by omega, by unfold F18; omega⟩, by omega, HF.out, hbw⟩
          case measure => simp [intOf]; omega
    · have hG := R2 h
      have HF := Lib.hid (show up = T by rw [← hTT, hG]; omega)
      have hpq : decide (p < q) = false := decide_eq_false (by omega)
      clear R1 R2 R3 hTT hG
      go_wp2_with (first | (go_at_call 51; (with_reducible refine (H1.out _).mono ?_); rintro e w' ⟨rfl, rfl⟩) | (go_at_call 51; (with_reducible refine (H2.out _).mono ?_); rintro e w' ⟨rfl, rfl⟩))
      go_ret
      exact ⟨by rw [← HF.out]; rfl, hbw⟩
end Go.Proofs.Ytbcabckokmjelaa
namespace Go.Proofs.Ytbcabckokmjelaa
open Go.RowKit
set_option linter.unusedVariables false
set_option linter.unusedSimpArgs false
/-- What the reference asks of one difference, by what the code asks. -/
theorem has_ref {t : Sn} {xe en ed an ad : Int} : let S := hasB (snSp xe t) en ed an ad
    let c1 := sgn (t.s * an * ed) (((t.d - xe) * ed - en) * (1000 * ad))
    let c2 := sgn (t.s * an * ed) (((t.d + xe) * ed - en) * (1000 * ad))
    (S = true ∧ 0 ≤ c1 ∧ c2 ≤ 0) ∨ (S = false ∧ (c1 < 0 ∨ 0 ≤ c1 ∧ 0 < c2)) := by
  intro S c1 c2
  have hS : S = true ↔ _ := hasB_iff
  have e1 : ((t.d - xe) * ed - en) * (1000 * ad) = 1000 * (t.d - xe) * (ed * ad) - 1000 * en * ad := by
    rw [Int.sub_mul]
    congr 1 <;> ac_rfl
  have e2 : ((t.d + xe) * ed - en) * (1000 * ad) = 1000 * (t.d + xe) * (ed * ad) - 1000 * en * ad := by
    rw [Int.sub_mul]
    congr 1 <;> ac_rfl
  have f1 : c1 = sgn (t.s * an * ed) (1000 * (t.d - xe) * (ed * ad) - 1000 * en * ad) := by rw [← e1]
  have f2 : c2 = sgn (t.s * an * ed) (1000 * (t.d + xe) * (ed * ad) - 1000 * en * ad) := by rw [← e2]
  simp only [snSp] at hS
  clear_value S c1 c2
  unfold sgn at f1 f2
  generalize t.s * an * ed = a at *
  generalize 1000 * (t.d - xe) * (ed * ad) = b at *
  generalize 1000 * (t.d + xe) * (ed * ad) = c at *
  generalize 1000 * en * ad = g at *
  cases S
  · right
    refine ⟨rfl, ?_⟩
    have h : ¬ (b ≤ g + a ∧ g + a ≤ c) := fun h => by have := hS.2 h; cases this
    split at f1 <;> split at f2 <;> (try split at f1) <;> (try split at f2) <;> omega
  · left
    refine ⟨rfl, ?_⟩
    have h := hS.1 rfl
    split at f1 <;> split at f2 <;> (try split at f1) <;> (try split at f2) <;> omega
theorem wd_sn (x : Tb) (l : List Tr) (en ed an ad : Int) : ((wdL x l).all fun s => hasB s en ed an ad) = (snL x l).all fun t => hasB (snSp x.e t) en ed an ad := by
  unfold wdL
  rw [← snL_wid, List.all_map]
  rfl
set_option maxHeartbeats 4000000 in
set_option maxRecDepth 100000 in
theorem rSuits_c (x : Tb) (l : List Tr) (en ed an ad : Int) (A : Option Addr) (cap : Nat) (w : World) (hx : TbAt w x) (hl : l.length ≤ cap) (hm : cap ≤ maxLen) (hr : RdL w w.heap.size trE 5 A l) (ht : ∀ t ∈ l, TrAt w t) :
    Calls Try.prog 47 #[.agg #[.slice x.A x.xs.length x.ca, .int .i64 x.e], .slice A l.length cap, .agg #[.int .i64 en, .int .i64 ed], .agg #[.int .i64 an, .int .i64 ad]] w fun e w' => e = .returned (.tuple #[.bool (suB x l en ed an ad), .int .i64 (suE x l en ed an ad)]) ∧ Below w.heap.size w w' := by
  have H1 := Lib.hid (fun W (hb : Below w.heap.size w W) => differences_c x l A cap W (hx.step hb) hl hm (hr.step hb) (fun t h => (ht t h).step hb))
  have V1 := Lib.hid (fun W => rValidRatio_c en ed W)
  have V2 := Lib.hid (fun W => rValidRatio_c an ad W)
  clear hx hl hm hr ht
  unfold suB suE
  cases he : okRat en ed
  · rw [he] at V1
    simp only [Bool.false_and]
    clear he H1
    go_enter Try.func47, Try.ntmps47
    go_wp2_with fail
    refine (V1.out _).mono ?_
    rintro e w1 ⟨rfl, hb1⟩
    have x1_0_0 : w1.cell? ⟨w.heap.size, 0, none⟩ = some (.slice x.A x.xs.length x.ca) := keep_cell hb1 (by simp [go_sem, *])
    have x1_0_1 : w1.cell? ⟨w.heap.size, 1, none⟩ = some (.int .i64 x.e) := keep_cell hb1 (by simp [go_sem, *])
    have y1_0 : w.heap.size < w1.heap.size := cell?_lt x1_0_0
    have x1_1_0 : w1.cell? ⟨w.heap.size + 1, 0, none⟩ = some (.int .i64 en) := keep_cell hb1 (by simp [go_sem, *])
    have x1_1_1 : w1.cell? ⟨w.heap.size + 1, 1, none⟩ = some (.int .i64 ed) := keep_cell hb1 (by simp [go_sem, *])
    have y1_1 : w.heap.size + 1 < w1.heap.size := cell?_lt x1_1_0
    have x1_2_0 : w1.cell? ⟨w.heap.size + 1 + 1, 0, none⟩ = some (.int .i64 an) := keep_cell hb1 (by simp [go_sem, *])
    have x1_2_1 : w1.cell? ⟨w.heap.size + 1 + 1, 1, none⟩ = some (.int .i64 ad) := keep_cell hb1 (by simp [go_sem, *])
    have y1_2 : w.heap.size + 1 + 1 < w1.heap.size := cell?_lt x1_2_0
    have g1 : Below w.heap.size w w1 := by (repeat (first | exact Below.refl _ _ | refine Below.drew ?_ | refine Below.allocS ?_ _ | refine Below.step ?_ (by assumption) | refine Below.setCell ?_ (by simp <;> omega) _ | refine Below.drewN' ?_ _))
    clear hb1
    go_wp2
    go_ret2
    exact ⟨rfl, by (repeat (first | exact Below.refl _ _ | refine Below.drew ?_ | refine Below.allocS ?_ _ | refine Below.step ?_ (by assumption) | refine Below.setCell ?_ (by simp <;> omega) _ | refine Below.drewN' ?_ _))⟩
  cases ha : okRat an ad
  · rw [he] at V1
    rw [ha] at V2
    simp only [Bool.and_false, Bool.false_and]
    clear he ha H1
    go_enter Try.func47, Try.ntmps47
    go_wp2_with fail
    refine (V1.out _).mono ?_
    rintro e w1 ⟨rfl, hb1⟩
    have x1_0_0 : w1.cell? ⟨w.heap.size, 0, none⟩ = some (.slice x.A x.xs.length x.ca) := keep_cell hb1 (by simp [go_sem, *])
    have x1_0_1 : w1.cell? ⟨w.heap.size, 1, none⟩ = some (.int .i64 x.e) := keep_cell hb1 (by simp [go_sem, *])
    have y1_0 : w.heap.size < w1.heap.size := cell?_lt x1_0_0
    have x1_1_0 : w1.cell? ⟨w.heap.size + 1, 0, none⟩ = some (.int .i64 en) := keep_cell hb1 (by simp [go_sem, *])
    have x1_1_1 : w1.cell? ⟨w.heap.size + 1, 1, none⟩ = some (.int .i64 ed) := keep_cell hb1 (by simp [go_sem, *])
    have y1_1 : w.heap.size + 1 < w1.heap.size := cell?_lt x1_1_0
    have x1_2_0 : w1.cell? ⟨w.heap.size + 1 + 1, 0, none⟩ = some (.int .i64 an) := keep_cell hb1 (by simp [go_sem, *])
    have x1_2_1 : w1.cell? ⟨w.heap.size + 1 + 1, 1, none⟩ = some (.int .i64 ad) := keep_cell hb1 (by simp [go_sem, *])
    have y1_2 : w.heap.size + 1 + 1 < w1.heap.size := cell?_lt x1_2_0
    have g1 : Below w.heap.size w w1 := by (repeat (first | exact Below.refl _ _ | refine Below.drew ?_ | refine Below.allocS ?_ _ | refine Below.step ?_ (by assumption) | refine Below.setCell ?_ (by simp <;> omega) _ | refine Below.drewN' ?_ _))
    clear hb1
    go_wp2_with fail
    refine (V2.out _).mono ?_
    rintro e w2 ⟨rfl, hb2⟩
    have x2_0_0 : w2.cell? ⟨w.heap.size, 0, none⟩ = some (.slice x.A x.xs.length x.ca) := keep_cell hb2 (by simp [go_sem, *])
    have x2_0_1 : w2.cell? ⟨w.heap.size, 1, none⟩ = some (.int .i64 x.e) := keep_cell hb2 (by simp [go_sem, *])
    have y2_0 : w.heap.size < w2.heap.size := cell?_lt x2_0_0
    have x2_1_0 : w2.cell? ⟨w.heap.size + 1, 0, none⟩ = some (.int .i64 en) := keep_cell hb2 (by simp [go_sem, *])
    have x2_1_1 : w2.cell? ⟨w.heap.size + 1, 1, none⟩ = some (.int .i64 ed) := keep_cell hb2 (by simp [go_sem, *])
    have y2_1 : w.heap.size + 1 < w2.heap.size := cell?_lt x2_1_0
    have x2_2_0 : w2.cell? ⟨w.heap.size + 1 + 1, 0, none⟩ = some (.int .i64 an) := keep_cell hb2 (by simp [go_sem, *])
    have x2_2_1 : w2.cell? ⟨w.heap.size + 1 + 1, 1, none⟩ = some (.int .i64 ad) := keep_cell hb2 (by simp [go_sem, *])
    have y2_2 : w.heap.size + 1 + 1 < w2.heap.size := cell?_lt x2_2_0
    have g2 : Below w.heap.size w w2 := by (repeat (first | exact Below.refl _ _ | refine Below.drew ?_ | refine Below.allocS ?_ _ | refine Below.step ?_ (by assumption) | refine Below.setCell ?_ (by simp <;> omega) _ | refine Below.drewN' ?_ _))
    clear hb2 g1 x1_0_0 x1_0_1 x1_1_0 x1_1_1 x1_2_0 x1_2_1 y1_0 y1_1 y1_2
    go_wp2
    go_ret2
    exact ⟨rfl, by (repeat (first | exact Below.refl _ _ | refine Below.drew ?_ | refine Below.allocS ?_ _ | refine Below.step ?_ (by assumption) | refine Below.setCell ?_ (by simp <;> omega) _ | refine Below.drewN' ?_ _))⟩
  have HE := Lib.hid he
  have HA := Lib.hid ha
  rw [he] at V1
  rw [ha] at V2
  simp only [Bool.true_and, if_true]
  clear he ha
  by_cases h0 : stErr x l = 0
  · have H1' : Hid (∀ W, Below w.heap.size w W → Calls Try.prog 66 #[.agg #[.slice x.A x.xs.length x.ca, .int .i64 x.e], .slice A l.length cap] W fun e w' => ∃ A' c', e = .returned (.tuple #[.slice A' l.length c', .int .i64 0]) ∧ RdL w' w'.heap.size snE 2 A' (snL x l) ∧ Below W.heap.size W w') :=
      Lib.hid (fun W hb => (H1.out W hb).mono (by
        rintro e w' ⟨h | h, hb'⟩
        · obtain ⟨-, A', c', h1, h2⟩ := h; exact ⟨A', c', h1, h2, hb'⟩
        · exact absurd h0 h.1))
    have hok := (stErr_ok h0).1
    have hO := okAll_ok hok
    have hln : (snL x l).length = l.length := by unfold snL; rw [List.length_map]
    have hl12 : l.length ≤ 12 := by have := hO.n; omega
    have hsn := snL_ok hok
    have hxe := hO.e
    rw [h0, decide_eq_true rfl, Bool.true_and, wd_sn]
    have HSN := Lib.hid hsn
    have HLN := Lib.hid hln
    clear H1 h0 hok hO hsn hln
    generalize snL x l = sn at *
    obtain ⟨n, hn⟩ : ∃ n, n = l.length := ⟨_, rfl⟩
    rw [← hn] at HLN hl12
    have HH1 : Hid (∀ W, Below w.heap.size w W → Calls Try.prog 66 #[.agg #[.slice x.A x.xs.length x.ca, .int .i64 x.e], .slice A l.length cap] W fun e w' => ∃ A' c', e = .returned (.tuple #[.slice A' n c', .int .i64 0]) ∧ RdL w' w'.heap.size snE 2 A' sn ∧ Below W.heap.size W w') := by rw [hn]; exact H1'
    clear H1' hn
    generalize x.e = xe at *
    go_enter Try.func47, Try.ntmps47
    go_wp2_with fail
    refine (V1.out _).mono ?_
    rintro e w1 ⟨rfl, hb1⟩
    have x1_0_0 : w1.cell? ⟨w.heap.size, 0, none⟩ = some (.slice x.A x.xs.length x.ca) := keep_cell hb1 (by simp [go_sem, *])
    have x1_0_1 : w1.cell? ⟨w.heap.size, 1, none⟩ = some (.int .i64 xe) := keep_cell hb1 (by simp [go_sem, *])
    have y1_0 : w.heap.size < w1.heap.size := cell?_lt x1_0_0
    have x1_1_0 : w1.cell? ⟨w.heap.size + 1, 0, none⟩ = some (.int .i64 en) := keep_cell hb1 (by simp [go_sem, *])
    have x1_1_1 : w1.cell? ⟨w.heap.size + 1, 1, none⟩ = some (.int .i64 ed) := keep_cell hb1 (by simp [go_sem, *])
    have y1_1 : w.heap.size + 1 < w1.heap.size := cell?_lt x1_1_0
    have x1_2_0 : w1.cell? ⟨w.heap.size + 1 + 1, 0, none⟩ = some (.int .i64 an) := keep_cell hb1 (by simp [go_sem, *])
    have x1_2_1 : w1.cell? ⟨w.heap.size + 1 + 1, 1, none⟩ = some (.int .i64 ad) := keep_cell hb1 (by simp [go_sem, *])
    have y1_2 : w.heap.size + 1 + 1 < w1.heap.size := cell?_lt x1_2_0
    have g1 : Below w.heap.size w w1 := by (repeat (first | exact Below.refl _ _ | refine Below.drew ?_ | refine Below.allocS ?_ _ | refine Below.step ?_ (by assumption) | refine Below.setCell ?_ (by simp <;> omega) _ | refine Below.drewN' ?_ _))
    clear hb1
    go_wp2_with fail
    refine (V2.out _).mono ?_
    rintro e w2 ⟨rfl, hb2⟩
    have x2_0_0 : w2.cell? ⟨w.heap.size, 0, none⟩ = some (.slice x.A x.xs.length x.ca) := keep_cell hb2 (by simp [go_sem, *])
    have x2_0_1 : w2.cell? ⟨w.heap.size, 1, none⟩ = some (.int .i64 xe) := keep_cell hb2 (by simp [go_sem, *])
    have y2_0 : w.heap.size < w2.heap.size := cell?_lt x2_0_0
    have x2_1_0 : w2.cell? ⟨w.heap.size + 1, 0, none⟩ = some (.int .i64 en) := keep_cell hb2 (by simp [go_sem, *])
    have x2_1_1 : w2.cell? ⟨w.heap.size + 1, 1, none⟩ = some (.int .i64 ed) := keep_cell hb2 (by simp [go_sem, *])
    have y2_1 : w.heap.size + 1 < w2.heap.size := cell?_lt x2_1_0
    have x2_2_0 : w2.cell? ⟨w.heap.size + 1 + 1, 0, none⟩ = some (.int .i64 an) := keep_cell hb2 (by simp [go_sem, *])
    have x2_2_1 : w2.cell? ⟨w.heap.size + 1 + 1, 1, none⟩ = some (.int .i64 ad) := keep_cell hb2 (by simp [go_sem, *])
    have y2_2 : w.heap.size + 1 + 1 < w2.heap.size := cell?_lt x2_2_0
    have g2 : Below w.heap.size w w2 := by (repeat (first | exact Below.refl _ _ | refine Below.drew ?_ | refine Below.allocS ?_ _ | refine Below.step ?_ (by assumption) | refine Below.setCell ?_ (by simp <;> omega) _ | refine Below.drewN' ?_ _))
    clear hb2 g1 x1_0_0 x1_0_1 x1_1_0 x1_1_1 x1_2_0 x1_2_1 y1_0 y1_1 y1_2
    go_wp2_with fail
    refine (HH1.out _ (by (repeat (first | exact Below.refl _ _ | refine Below.drew ?_ | refine Below.allocS ?_ _ | refine Below.step ?_ (by assumption) | refine Below.setCell ?_ (by simp <;> omega) _ | refine Below.drewN' ?_ _)))).mono ?_
    rintro e w3 ⟨A1, c1, rfl, r1, hb3⟩
    have x3_0_0 : w3.cell? ⟨w.heap.size, 0, none⟩ = some (.slice x.A x.xs.length x.ca) := keep_cell hb3 (by simp [go_sem, *])
    have x3_0_1 : w3.cell? ⟨w.heap.size, 1, none⟩ = some (.int .i64 xe) := keep_cell hb3 (by simp [go_sem, *])
    have y3_0 : w.heap.size < w3.heap.size := cell?_lt x3_0_0
    have x3_1_0 : w3.cell? ⟨w.heap.size + 1, 0, none⟩ = some (.int .i64 en) := keep_cell hb3 (by simp [go_sem, *])
    have x3_1_1 : w3.cell? ⟨w.heap.size + 1, 1, none⟩ = some (.int .i64 ed) := keep_cell hb3 (by simp [go_sem, *])
    have y3_1 : w.heap.size + 1 < w3.heap.size := cell?_lt x3_1_0
    have x3_2_0 : w3.cell? ⟨w.heap.size + 1 + 1, 0, none⟩ = some (.int .i64 an) := keep_cell hb3 (by simp [go_sem, *])
    have x3_2_1 : w3.cell? ⟨w.heap.size + 1 + 1, 1, none⟩ = some (.int .i64 ad) := keep_cell hb3 (by simp [go_sem, *])
    have y3_2 : w.heap.size + 1 + 1 < w3.heap.size := cell?_lt x3_2_0
    have g3 : Below w.heap.size w w3 := by (repeat (first | exact Below.refl _ _ | refine Below.drew ?_ | refine Below.allocS ?_ _ | refine Below.step ?_ (by assumption) | refine Below.setCell ?_ (by simp <;> omega) _ | refine Below.drewN' ?_ _))
    clear hb3 g2 x2_0_0 x2_0_1 x2_1_0 x2_1_1 x2_2_0 x2_2_1 y2_0 y2_1 y2_2
    have HR := Lib.hid r1
    clear r1 HH1 V1 V2
    go_wp2
    go_loopw [35] (fun i wr => ∃ k : Nat, k ≤ n ∧ i = .int .i64 k ∧ Below w3.heap.size w3 wr ∧ ((sn.take k).all fun t => hasB (snSp xe t) en ed an ad) = true) (fun i _ => n - (intOf i).toNat)
    case atStart => exact ⟨0, Nat.zero_le _, rfl, Below.refl _ _, rfl⟩
    case round =>
      rename World => V
      obtain ⟨k, hk, rfl, hbw, hfa⟩ := hrel
      have HFA := Lib.hid hfa
      clear hfa
      have m0 : V.cell? ⟨w.heap.size, 1, none⟩ = some (.int .i64 xe) := keep_cell hbw x3_0_1
      have m1 : V.cell? ⟨w.heap.size + 1, 0, none⟩ = some (.int .i64 en) := keep_cell hbw x3_1_0
      have m2 : V.cell? ⟨w.heap.size + 1, 1, none⟩ = some (.int .i64 ed) := keep_cell hbw x3_1_1
      have m3 : V.cell? ⟨w.heap.size + 1 + 1, 0, none⟩ = some (.int .i64 an) := keep_cell hbw x3_2_0
      have m4 : V.cell? ⟨w.heap.size + 1 + 1, 1, none⟩ = some (.int .i64 ad) := keep_cell hbw x3_2_1
      have n0 : w.heap.size < V.heap.size := cell?_lt m0
      have n1 : w.heap.size + 1 < V.heap.size := cell?_lt m1
      have n2 : w.heap.size + 1 + 1 < V.heap.size := cell?_lt m3
      have gV : Below w.heap.size w V := Below.step g3 hbw
      by_cases hlt : k < n
      · have hltl : k < sn.length := by rw [HLN.out]; exact hlt
        obtain ⟨b, off, rfl, hb0, hc⟩ := HR.out (by omega)
        have c0 := (hbw.cell (p := ⟨b, _, none⟩) hb0).trans (hc k hltl 0 _ rfl)
        have c1 := (hbw.cell (p := ⟨b, _, none⟩) hb0).trans (hc k hltl 1 _ rfl)
        clear hc
        simp at c0
        have y0 : b < V.heap.size := cell?_lt c0
        have hmem := HSN.out _ (List.getElem_mem hltl)
        have hTa : ((sn.take (k + 1)).all fun t => hasB (snSp xe t) en ed an ad) = (hasB (snSp xe sn[k]) en ed an ad) := by
          rw [List.take_succ_eq_append_getElem hltl, List.all_append, HFA.out]; simp
        have hAl : hasB (snSp xe sn[k]) en ed an ad = false → (sn.all fun t => hasB (snSp xe t) en ed an ad) = false := fun h => by
          rw [List.all_eq_false]
          exact ⟨sn[k], List.getElem_mem hltl, by rw [h]; simp⟩
        have hcs := has_ref (t := sn[k]) (xe := xe) (en := en) (ed := ed) (an := an) (ad := ad)
        obtain ⟨e1, e2, e3, e4, -⟩ := okRat_true HE.out
        obtain ⟨a1, a2, a3, a4, -⟩ := okRat_true HA.out
        have hs1 := hmem.s
        have hd1 := hmem.d
        have HAL := Lib.hid hAl
        have HTA := Lib.hid hTa
        clear hmem hAl hTa HFA
        generalize hasB (snSp xe sn[k]) en ed an ad = S at *
        generalize sn[k].s = s at *
        generalize sn[k].d = d at *
        have b0 := mul_in (A := 10000) (B := 1000000000) (by decide) (by decide) (show -10000 ≤ s ∧ s ≤ 10000 from hs1) (show -1000000000 ≤ an ∧ an ≤ 1000000000 from ⟨a3, a4⟩)
        have b1 := mul_in (A := 100000000) (B := 1000000000) (by decide) (by decide) (show -100000000 ≤ d - xe ∧ d - xe ≤ 100000000 by omega) (show -1000000000 ≤ ed ∧ ed ≤ 1000000000 by omega)
        have b2 := mul_in (A := 100000000) (B := 1000000000) (by decide) (by decide) (show -100000000 ≤ d + xe ∧ d + xe ≤ 100000000 by omega) (show -1000000000 ≤ ed ∧ ed ≤ 1000000000 by omega)
        have C1 := Lib.hid (fun W => rCompare_c (s * an) (1000 * ad) ((d - xe) * ed - en) ed (by unfold F18; omega) (by unfold F18; omega) (by omega) (by unfold F18; omega) (by omega) (by unfold F18; omega) W)
        have C2 := Lib.hid (fun W => rCompare_c (s * an) (1000 * ad) ((d + xe) * ed - en) ed (by unfold F18; omega) (by unfold F18; omega) (by omega) (by unfold F18; omega) (by omega) (by unfold F18; omega) W)
        have v1 : IntKind.i64.wrap (s * an) = s * an := IntWalk.i64_in _ (by omega)
        have v2 : IntKind.i64.wrap (1000 * ad) = 1000 * ad := IntWalk.i64_in _ (by omega)
        have v3 : IntKind.i64.wrap (d - xe) = d - xe := IntWalk.i64_in _ (by omega)
        have v4 : IntKind.i64.wrap ((d - xe) * ed) = (d - xe) * ed := IntWalk.i64_in _ (by omega)
        have v5 : IntKind.i64.wrap ((d - xe) * ed - en) = (d - xe) * ed - en := IntWalk.i64_in _ (by omega)
        have v6 : IntKind.i64.wrap (d + xe) = d + xe := IntWalk.i64_in _ (by omega)
        have v7 : IntKind.i64.wrap ((d + xe) * ed) = (d + xe) * ed := IntWalk.i64_in _ (by omega)
        have v8 : IntKind.i64.wrap ((d + xe) * ed - en) = (d + xe) * ed - en := IntWalk.i64_in _ (by omega)
        simp only at hcs
        generalize sgn (s * an * ed) (((d - xe) * ed - en) * (1000 * ad)) = q1 at *
        generalize sgn (s * an * ed) (((d + xe) * ed - en) * (1000 * ad)) = q2 at *
        clear b0 b1 b2 hs1 hd1 e1 e2 e3 e4 a1 a2 a3 a4 HE HA
        have hcs' : (S = true ∧ decide (q1 < 0) = false ∧ decide (0 < q2) = false) ∨ (S = false ∧ decide (q1 < 0) = true) ∨ (S = false ∧ decide (q1 < 0) = false ∧ decide (0 < q2) = true) := by
          rcases hcs with ⟨h1, h2, h3⟩ | ⟨h1, h2 | ⟨h2, h3⟩⟩
          · exact .inl ⟨h1, decide_eq_false (by omega), decide_eq_false (by omega)⟩
          · exact .inr (.inl ⟨h1, decide_eq_true h2⟩)
          · exact .inr (.inr ⟨h1, decide_eq_false (by omega), decide_eq_true h3⟩)
        clear hcs
        rcases hcs' with ⟨rfl, t1, t2⟩ | ⟨rfl, t1⟩ | ⟨rfl, t1, t2⟩
        · go_wp2_with fail
          go_quiet (fail)
          go_wp2_with fail
          refine (C1.out _).mono ?_
          rintro e w4 ⟨rfl, hb4⟩
          have j0 : w4.cell? ⟨V.heap.size, 0, none⟩ = some (.int .i64 d) := keep_cell hb4 (by simp [go_sem])
          have j1 : w4.cell? ⟨w.heap.size, 1, none⟩ = some (.int .i64 xe) := keep_cell hb4 (by simp [go_sem, *])
          have j2 : w4.cell? ⟨w.heap.size + 1, 0, none⟩ = some (.int .i64 en) := keep_cell hb4 (by simp [go_sem, *])
          have j3 : w4.cell? ⟨w.heap.size + 1, 1, none⟩ = some (.int .i64 ed) := keep_cell hb4 (by simp [go_sem, *])
          have gB : Below V.heap.size V w4 := by (repeat (first | exact Below.refl _ _ | refine Below.drew ?_ | refine Below.allocS ?_ _ | refine Below.step ?_ (by assumption) | refine Below.setCell ?_ (by simp <;> omega) _ | refine Below.drewN' ?_ _))
          clear hb4
          go_wp2_with fail
          refine (C2.out _).mono ?_
          rintro e w5 ⟨rfl, hb5⟩
          have gC : Below V.heap.size V w5 := by (repeat (first | exact Below.refl _ _ | refine Below.drew ?_ | refine Below.allocS ?_ _ | refine Below.step ?_ (by assumption) | refine Below.setCell ?_ (by simp <;> omega) _ | refine Below.drewN' ?_ _))
          clear hb5
          go_wp2
          go_roundw
          case rel => exact ⟨k + 1, by omega, by go_num, Below.step hbw gC, by rw [HTA.out]⟩
          case measure => simp [intOf]; omega
        · go_wp2_with fail
          go_quiet (fail)
          go_wp2_with fail
          refine (C1.out _).mono ?_
          rintro e w4 ⟨rfl, hb4⟩
          have j0 : w4.cell? ⟨V.heap.size, 0, none⟩ = some (.int .i64 d) := keep_cell hb4 (by simp [go_sem])
          have j1 : w4.cell? ⟨w.heap.size, 1, none⟩ = some (.int .i64 xe) := keep_cell hb4 (by simp [go_sem, *])
          have j2 : w4.cell? ⟨w.heap.size + 1, 0, none⟩ = some (.int .i64 en) := keep_cell hb4 (by simp [go_sem, *])
          have j3 : w4.cell? ⟨w.heap.size + 1, 1, none⟩ = some (.int .i64 ed) := keep_cell hb4 (by simp [go_sem, *])
          have gB : Below V.heap.size V w4 := by (repeat (first | exact Below.refl _ _ | refine Below.drew ?_ | refine Below.allocS ?_ _ | refine Below.step ?_ (by assumption) | refine Below.setCell ?_ (by simp <;> omega) _ | refine Below.drewN' ?_ _))
          clear hb4
          go_wp2
          go_ret2
          exact ⟨by rw [HAL.out trivial]; rfl, Below.step gV gB⟩
        · go_wp2_with fail
          go_quiet (fail)
          go_wp2_with fail
          refine (C1.out _).mono ?_
          rintro e w4 ⟨rfl, hb4⟩
          have j0 : w4.cell? ⟨V.heap.size, 0, none⟩ = some (.int .i64 d) := keep_cell hb4 (by simp [go_sem])
          have j1 : w4.cell? ⟨w.heap.size, 1, none⟩ = some (.int .i64 xe) := keep_cell hb4 (by simp [go_sem, *])
          have j2 : w4.cell? ⟨w.heap.size + 1, 0, none⟩ = some (.int .i64 en) := keep_cell hb4 (by simp [go_sem, *])
          have j3 : w4.cell? ⟨w.heap.size + 1, 1, none⟩ = some (.int .i64 ed) := keep_cell hb4 (by simp [go_sem, *])
          have gB : Below V.heap.size V w4 := by (repeat (first | exact Below.refl _ _ | refine Below.drew ?_ | refine Below.allocS ?_ _ | refine Below.step ?_ (by assumption) | refine Below.setCell ?_ (by simp <;> omega) _ | refine Below.drewN' ?_ _))
          clear hb4
          go_wp2_with fail
          refine (C2.out _).mono ?_
          rintro e w5 ⟨rfl, hb5⟩
          have gC : Below V.heap.size V w5 := by (repeat (first | exact Below.refl _ _ | refine Below.drew ?_ | refine Below.allocS ?_ _ | refine Below.step ?_ (by assumption) | refine Below.setCell ?_ (by simp <;> omega) _ | refine Below.drewN' ?_ _))
          clear hb5
          go_wp2
          go_ret2
          exact ⟨by rw [HAL.out trivial]; rfl, Below.step gV gC⟩
      · obtain rfl : k = n := by omega
        have hall : (sn.all fun t => hasB (snSp xe t) en ed an ad) = true := by
          have := HFA.out
          rwa [List.take_of_length_le (by rw [HLN.out]; exact Nat.le_refl _)] at this
        have HALL := Lib.hid hall
        clear hall HFA
        go_wp2
        go_ret2
        exact ⟨by rw [HALL.out]; rfl, gV⟩
  · have H1' : Hid (∀ W, Below w.heap.size w W → Calls Try.prog 66 #[.agg #[.slice x.A x.xs.length x.ca, .int .i64 x.e], .slice A l.length cap] W fun e w' => e = .returned (.tuple #[.slice none 0 0, .int .i64 (stErr x l)]) ∧ Below W.heap.size W w') :=
      Lib.hid (fun W hb => (H1.out W hb).mono (by
        rintro e w' ⟨h | h, hb'⟩
        · exact absurd h.1 h0
        · exact ⟨h.2, hb'⟩))
    have hc := stErr_cases x l
    rw [decide_eq_false h0, Bool.false_and]
    clear H1 HE HA
    generalize stErr x l = E at *
    rcases hc with rfl | rfl | rfl
    · exact absurd rfl h0
    all_goals
      clear h0
      go_enter Try.func47, Try.ntmps47
      go_wp2_with fail
      refine (V1.out _).mono ?_
      rintro e w1 ⟨rfl, hb1⟩
      have x1_0_0 : w1.cell? ⟨w.heap.size, 0, none⟩ = some (.slice x.A x.xs.length x.ca) := keep_cell hb1 (by simp [go_sem, *])
      have x1_0_1 : w1.cell? ⟨w.heap.size, 1, none⟩ = some (.int .i64 x.e) := keep_cell hb1 (by simp [go_sem, *])
      have y1_0 : w.heap.size < w1.heap.size := cell?_lt x1_0_0
      have x1_1_0 : w1.cell? ⟨w.heap.size + 1, 0, none⟩ = some (.int .i64 en) := keep_cell hb1 (by simp [go_sem, *])
      have x1_1_1 : w1.cell? ⟨w.heap.size + 1, 1, none⟩ = some (.int .i64 ed) := keep_cell hb1 (by simp [go_sem, *])
      have y1_1 : w.heap.size + 1 < w1.heap.size := cell?_lt x1_1_0
      have x1_2_0 : w1.cell? ⟨w.heap.size + 1 + 1, 0, none⟩ = some (.int .i64 an) := keep_cell hb1 (by simp [go_sem, *])
      have x1_2_1 : w1.cell? ⟨w.heap.size + 1 + 1, 1, none⟩ = some (.int .i64 ad) := keep_cell hb1 (by simp [go_sem, *])
      have y1_2 : w.heap.size + 1 + 1 < w1.heap.size := cell?_lt x1_2_0
      have g1 : Below w.heap.size w w1 := by (repeat (first | exact Below.refl _ _ | refine Below.drew ?_ | refine Below.allocS ?_ _ | refine Below.step ?_ (by assumption) | refine Below.setCell ?_ (by simp <;> omega) _ | refine Below.drewN' ?_ _))
      clear hb1
      go_wp2_with fail
      refine (V2.out _).mono ?_
      rintro e w2 ⟨rfl, hb2⟩
      have x2_0_0 : w2.cell? ⟨w.heap.size, 0, none⟩ = some (.slice x.A x.xs.length x.ca) := keep_cell hb2 (by simp [go_sem, *])
      have x2_0_1 : w2.cell? ⟨w.heap.size, 1, none⟩ = some (.int .i64 x.e) := keep_cell hb2 (by simp [go_sem, *])
      have y2_0 : w.heap.size < w2.heap.size := cell?_lt x2_0_0
      have x2_1_0 : w2.cell? ⟨w.heap.size + 1, 0, none⟩ = some (.int .i64 en) := keep_cell hb2 (by simp [go_sem, *])
      have x2_1_1 : w2.cell? ⟨w.heap.size + 1, 1, none⟩ = some (.int .i64 ed) := keep_cell hb2 (by simp [go_sem, *])
      have y2_1 : w.heap.size + 1 < w2.heap.size := cell?_lt x2_1_0
      have x2_2_0 : w2.cell? ⟨w.heap.size + 1 + 1, 0, none⟩ = some (.int .i64 an) := keep_cell hb2 (by simp [go_sem, *])
      have x2_2_1 : w2.cell? ⟨w.heap.size + 1 + 1, 1, none⟩ = some (.int .i64 ad) := keep_cell hb2 (by simp [go_sem, *])
      have y2_2 : w.heap.size + 1 + 1 < w2.heap.size := cell?_lt x2_2_0
      have g2 : Below w.heap.size w w2 := by (repeat (first | exact Below.refl _ _ | refine Below.drew ?_ | refine Below.allocS ?_ _ | refine Below.step ?_ (by assumption) | refine Below.setCell ?_ (by simp <;> omega) _ | refine Below.drewN' ?_ _))
      clear hb2 g1 x1_0_0 x1_0_1 x1_1_0 x1_1_1 x1_2_0 x1_2_1 y1_0 y1_1 y1_2
      go_wp2_with fail
      refine (H1'.out _ (by (repeat (first | exact Below.refl _ _ | refine Below.drew ?_ | refine Below.allocS ?_ _ | refine Below.step ?_ (by assumption) | refine Below.setCell ?_ (by simp <;> omega) _ | refine Below.drewN' ?_ _)))).mono ?_
      rintro e w3 ⟨rfl, hb3⟩
      have x3_0_0 : w3.cell? ⟨w.heap.size, 0, none⟩ = some (.slice x.A x.xs.length x.ca) := keep_cell hb3 (by simp [go_sem, *])
      have x3_0_1 : w3.cell? ⟨w.heap.size, 1, none⟩ = some (.int .i64 x.e) := keep_cell hb3 (by simp [go_sem, *])
      have y3_0 : w.heap.size < w3.heap.size := cell?_lt x3_0_0
      have x3_1_0 : w3.cell? ⟨w.heap.size + 1, 0, none⟩ = some (.int .i64 en) := keep_cell hb3 (by simp [go_sem, *])
      have x3_1_1 : w3.cell? ⟨w.heap.size + 1, 1, none⟩ = some (.int .i64 ed) := keep_cell hb3 (by simp [go_sem, *])
      have y3_1 : w.heap.size + 1 < w3.heap.size := cell?_lt x3_1_0
      have x3_2_0 : w3.cell? ⟨w.heap.size + 1 + 1, 0, none⟩ = some (.int .i64 an) := keep_cell hb3 (by simp [go_sem, *])
      have x3_2_1 : w3.cell? ⟨w.heap.size + 1 + 1, 1, none⟩ = some (.int .i64 ad) := keep_cell hb3 (by simp [go_sem, *])
      have y3_2 : w.heap.size + 1 + 1 < w3.heap.size := cell?_lt x3_2_0
      have g3 : Below w.heap.size w w3 := by (repeat (first | exact Below.refl _ _ | refine Below.drew ?_ | refine Below.allocS ?_ _ | refine Below.step ?_ (by assumption) | refine Below.setCell ?_ (by simp <;> omega) _ | refine Below.drewN' ?_ _))
      clear hb3 g2 x2_0_0 x2_0_1 x2_1_0 x2_1_1 x2_2_0 x2_2_1 y2_0 y2_1 y2_2
      go_wp2
      go_ret2
      exact ⟨rfl, by (repeat (first | exact Below.refl _ _ | refine Below.drew ?_ | refine Below.allocS ?_ _ | refine Below.step ?_ (by assumption) | refine Below.setCell ?_ (by simp <;> omega) _ | refine Below.drewN' ?_ _))⟩
end Go.Proofs.Ytbcabckokmjelaa
namespace Go.Proofs.Ytbcabckokmjelaa
open Go.RowKit
set_option linter.unusedVariables false
set_option linter.unusedSimpArgs false
theorem tl0_zero {r : Rc} (h : (tl0 r).e = 0) : r.lo.d ≠ 0 ∧ r.hi.d ≠ 0 ∧ (lowR r.lo.n r.lo.d).2.2 = 0 ∧ (lowR r.hi.n r.hi.d).2.2 = 0 ∧
    tl0 r = ⟨(lowR r.lo.n r.lo.d).1, (lowR r.lo.n r.lo.d).2.1, (lowR r.hi.n r.hi.d).1, (lowR r.hi.n r.hi.d).2.1, 0⟩ := by
  unfold tl0 at *
  by_cases h2 : r.lo.d = 0 ∨ r.hi.d = 0
  · rw [if_pos h2] at h; simp at h
  · rw [if_neg h2] at *
    by_cases h3 : (lowR r.lo.n r.lo.d).2.2 ≠ 0 ∨ (lowR r.hi.n r.hi.d).2.2 ≠ 0
    · rw [if_pos h3] at h; simp at h
    · rw [if_neg h3] at *
      exact ⟨by omega, by omega, by omega, by omega, rfl⟩
theorem low_self {n d : Int} (h : okRat n d = true) : lowR n d = (n, d, 0) := by
  obtain ⟨h1, h2, h3, h4, h5⟩ := okRat_true h
  have e : redG n d = 1 := by unfold redG; rw [if_neg (by omega), h5]
  have e1 : redN n d = n := by unfold redN; rw [e, Int.tdiv_one]
  have e2 : redD n d = d := by unfold redD; rw [e, Int.tdiv_one]
  unfold lowR
  rw [e1, e2, if_pos h]
theorem tl0_in {m : List (Int × Int)} {r : Rc} (hc : Ch m r) {n d : Int} (ok : okRat n d = true) {p q : Int} (hq : 0 < q) (hs : Sat m p q) (e : n * q = p * d) (h : (tl0 r).e = 0) :
    cmpR (tl0 r).a (tl0 r).b n d ≤ 0 ∧ cmpR n d (tl0 r).c (tl0 r).d ≤ 0 := by
  obtain ⟨h1, h2, h3, h4, h5⟩ := tl0_zero h
  have hd : 0 < d := by have := (okRat_true ok).1; omega
  have hls := low_self ok
  have := hc.dlo
  have := hc.dhi
  rw [h5]
  constructor
  · obtain ⟨a, ha, ha2, ea⟩ := hc.loM h1
    have k1 : r.lo.n * d ≤ n * r.lo.d := by
      rw [ea]
      exact cross_trans (a := a.1) (b := a.2) (c := p) (d := q) (e := n) (f := d) ha2 hq hd (by rw [Int.mul_comm p]; exact hs a ha) (by omega)
    have := cmp_le (n1 := r.lo.n) (d1 := r.lo.d) (n2 := n) (d2 := d) (by omega) hd k1 h3 (by rw [hls])
    rw [hls] at this
    exact this
  · obtain ⟨b, hb, hb2, eb⟩ := hc.hiM h2
    have k1 : n * r.hi.d ≤ r.hi.n * d := by
      rw [eb]
      have := hs b hb
      exact cross_trans (a := n) (b := d) (c := p) (d := q) (e := -b.1) (f := -b.2) hd hq (by omega) (by omega) (by rw [Int.mul_neg, Int.neg_mul, Int.mul_comm p]; omega)
    have := cmp_le (n1 := n) (d1 := d) (n2 := r.hi.n) (d2 := r.hi.d) hd (by omega) k1 (by rw [hls]) h4
    rw [hls] at this
    exact this
theorem strips_of_has {l : List Sp} {en ed an ad : Int} (h : ∀ s ∈ l, hasB s en ed an ad = true) : InStrips l (1000 * en * ad) (an * ed) (ed * ad) := by
  intro s hs
  have := hasB_iff.1 (h s hs)
  have e1 : s.lo * (1000 * (ed * ad)) = 1000 * s.lo * (ed * ad) := by ac_rfl
  have e2 : s.hi * (1000 * (ed * ad)) = 1000 * s.hi * (ed * ad) := by ac_rfl
  have e3 : s.s * (an * ed) = s.s * an * ed := by ac_rfl
  rw [e1, e2, e3]
  exact this
theorem az_of_strips {l : List Sp} {e p q : Int} (h : InStrips l e p q) : Sat (azA l) p q := by
  intro a ha
  obtain ⟨s, hs, t, ht, rfl⟩ := mem_az.1 ha
  obtain ⟨s1, s2⟩ := h s hs
  obtain ⟨t1, t2⟩ := h t ht
  have e1 : 1000 * (s.lo - t.hi) * q = s.lo * (1000 * q) - t.hi * (1000 * q) := by
    rw [Int.mul_comm 1000, Int.mul_assoc, Int.sub_mul]
  simp only
  rw [e1, Int.sub_mul]
  omega
structure SuitR (x : Tb) (l : List Tr) (en ed an ad : Int) : Prop where
  ag : suB x l en ed an ad = true → agE x l = true ∧ stErr x l = 0
  e1 : suB x l en ed an ad = true → (reT x l).e = 0 → cmpR (reT x l).a (reT x l).b en ed ≤ 0 ∧ cmpR en ed (reT x l).c (reT x l).d ≤ 0
  e2 : suB x l en ed an ad = true → (azT x l).e = 0 → cmpR (azT x l).a (azT x l).b an ad ≤ 0 ∧ cmpR an ad (azT x l).c (azT x l).d ≤ 0
theorem suit_r (x : Tb) (l : List Tr) (en ed an ad : Int) : SuitR x l en ed an ad := by
  by_cases hsu : suB x l en ed an ad = true
  · have hsu' := hsu
    unfold suB at hsu'
    simp only [Bool.and_eq_true, decide_eq_true_eq] at hsu'
    obtain ⟨⟨k1, k2⟩, k3, k4⟩ := hsu'
    have hS := strips_of_has (l := wdL x l) fun s hs => List.all_eq_true.1 k4 s hs
    have hed : 0 < ed := by have := (okRat_true k1).1; omega
    have had : 0 < ad := by have := (okRat_true k2).1; omega
    have hq : 0 < ed * ad := Int.mul_pos hed had
    have hA := az_of_strips hS
    have hE := sat_of_strips hS
    have hag : agB (azR (wdL x l)) = true := ch_sat (azCh _) hq hA
    refine ⟨fun _ => ⟨?_, k3⟩, fun _ h => ?_, fun _ h => ?_⟩
    · unfold agE; rw [k3, hag]; rfl
    · have er : reT x l = tl0 (erR (wdL x l)) := by unfold reT; rw [if_pos k3, if_pos hag]
      rw [er] at h ⊢
      exact tl0_in (erCh _) k1 (by omega) hE (by ac_rfl) h
    · have er : azT x l = tl0 (azR (wdL x l)) := by unfold azT tlR; rw [if_pos k3, if_pos hag]
      rw [er] at h ⊢
      exact tl0_in (azCh _) k2 hq hA (by ac_rfl) h
  · exact ⟨fun h => absurd h hsu, fun h => absurd h hsu, fun h => absurd h hsu⟩
end Go.Proofs.Ytbcabckokmjelaa
