/-
  Crossing of transit.
-/
import Derived.Test.YtimbdnngeoccdaaDoorA10
import Derived.Test.YtimbdnngeoccdaaDoorQt
namespace Go.Proofs.YtimbdnngeoccdaaDoor
open Go.RowKit
set_option linter.unusedVariables false
set_option linter.unusedSimpArgs false
theorem chkW_at {xs : List Int} : ∀ {n k : Nat}, chkW xs n k = true → ∀ j, k ≤ j → j < k + n → within (xs.getD j 0) (-100000) 100000 = true
  | 0, k, _, j, h1, h2 => by omega
  | n + 1, k, h, j, h1, h2 => by
    rw [chkW, Bool.and_eq_true] at h
    rcases Nat.lt_or_ge k j with hj | hj
    · exact chkW_at h.2 j (by omega) (by omega)
    · obtain rfl : j = k := by omega
      have := h.1
      unfold okW at this
      rw [Bool.and_eq_true] at this
      exact this.1
/-- What a transit that fits gives. -/
structure FitsAt (o : Obs) : Prop where
  len : o.ts.length = o.xs.length
  n1 : 1 ≤ o.xs.length
  n7 : o.xs.length ≤ 7
  x : ∀ j, j < o.xs.length → -100000 ≤ o.xs.getD j 0 ∧ o.xs.getD j 0 ≤ 100000
  t : ∀ j, j < o.ts.length → -1 ≤ o.ts.getD j 0 ∧ o.ts.getD j 0 ≤ 86399999
  c : 1000 ≤ o.c ∧ o.c ≤ 10000
  a : 0 ≤ o.a ∧ o.a ≤ 86399999
  b : -10000 ≤ o.b ∧ o.b ≤ 10000
  e : 0 ≤ o.e ∧ o.e ≤ 10000
theorem fits_at {o : Obs} (h : fitsB o = true) : FitsAt o := by
  unfold fitsB okTube okStar at h
  simp only [Bool.and_eq_true, decide_eq_true_eq] at h
  obtain ⟨⟨h1, h2, h3⟩, ⟨h4, h5, h6, h7⟩, h8, h9⟩ := h
  have q2 := within_true h2
  refine ⟨h8, by omega, by omega, fun j hj => within_true (chkW_at h1 j (by omega) (by omega)), fun j hj => ?_, within_true h7, within_true h5, within_true h6, within_true h3⟩
  have := List.all_eq_true.1 h9 (o.ts.getD j 0) (by rw [List.getD_eq_getElem?_getD, List.getElem?_eq_getElem hj]; exact List.getElem_mem hj)
  exact within_true this
/-- What has been added up behind some wires, and how many were not missed. -/
def crS (o : Obs) : Nat → Int
  | 0 => 0
  | k + 1 => if 0 ≤ o.ts.getD k 0 then crS o k + 1000 * o.ts.getD k 0 - o.xs.getD k 0 * o.c else crS o k
def crN (o : Obs) : Nat → Nat
  | 0 => 0
  | k + 1 => if 0 ≤ o.ts.getD k 0 then crN o k + 1 else crN o k
theorem crN_le (o : Obs) : ∀ k, crN o k ≤ k
  | 0 => Nat.le_refl _
  | k + 1 => by have := crN_le o k; rw [crN]; split <;> omega
theorem prod_bd {x c : Int} (h1 : -100000 ≤ x) (h2 : x ≤ 100000) (h3 : 1000 ≤ c) (h4 : c ≤ 10000) : -1000000000 ≤ x * c ∧ x * c ≤ 1000000000 := by
  have a1 : x * c ≤ 100000 * c := Int.mul_le_mul_of_nonneg_right h2 (by omega)
  have a2 : (-100000) * c ≤ x * c := Int.mul_le_mul_of_nonneg_right h1 (by omega)
  omega
theorem crS_bd {o : Obs} (h : FitsAt o) : ∀ k, k ≤ o.ts.length → -(k : Int) * 100000000000 ≤ crS o k ∧ crS o k ≤ (k : Int) * 100000000000
  | 0, _ => by simp [crS]
  | k + 1, hk => by
    have ih := crS_bd h k (by omega)
    have ht := h.t k (by omega)
    have hx := h.x k (by have := h.len; omega)
    have hp := prod_bd hx.1 hx.2 h.c.1 h.c.2
    rw [crS]
    split <;> omega
theorem crossing_c (o : Obs) (A T : Option Addr) (ca ct : Nat) (w : World) (h : ObsAt o A T w) (hf : FitsAt o) :
    Calls Tryd.prog 44 #[.agg #[.slice A o.xs.length ca, .int .i64 o.e], .agg #[.string o.nm, .int .i64 o.a, .int .i64 o.b, .int .i64 o.c, .slice T o.ts.length ct]] w fun r w' => r = .returned (.tuple #[.int .i64 (if crN o o.ts.length = 0 then 0 else crS o o.ts.length / (1000 * (crN o o.ts.length : Int))), .bool (decide (crN o o.ts.length ≠ 0))]) ∧ Below w.heap.size w w' := by
  obtain ⟨hn, hx, ht, rx, rt⟩ := h
  have HX := Lib.hid rx
  have HT := Lib.hid rt
  have HF := Lib.hid hf
  clear rx rt hf
  obtain ⟨V, hV⟩ : ∃ V, V = (if crN o o.ts.length = 0 then 0 else crS o o.ts.length / (1000 * (crN o o.ts.length : Int))) := ⟨_, rfl⟩
  obtain ⟨B, hB⟩ : ∃ B, B = decide (crN o o.ts.length ≠ 0) := ⟨_, rfl⟩
  rw [← hV, ← hB]
  have HV := Lib.hid hV
  have HB := Lib.hid hB
  clear hV hB
  go_enter Tryd.func44, Tryd.ntmps44
  go_wp2
  obtain ⟨W0, hW0⟩ : ∃ W, W = (w.alloc (.cells #[.slice A o.xs.length ca, .int .i64 o.e] 41)).alloc (.cells #[.string o.nm, .int .i64 o.a, .int .i64 o.b, .int .i64 o.c, .slice T o.ts.length ct] 45) := ⟨_, rfl⟩
  have z0 : W0.cell? ⟨w.heap.size, 0, none⟩ = some (.slice A o.xs.length ca) := by rw [hW0]; simp [go_sem]
  have z1 : W0.cell? ⟨w.heap.size + 1, 3, none⟩ = some (.int .i64 o.c) := by rw [hW0]; simp [go_sem]
  have g0 : Below w.heap.size w W0 := by rw [hW0]; (repeat (first | exact Below.refl _ _ | refine Below.drew ?_ | refine Below.allocS ?_ _ | refine Below.step ?_ (by assumption) | refine Below.setCell ?_ (by simp <;> omega) _ | refine Below.drewN' ?_ _))
  rw [← hW0]
  clear hW0
  go_loopw [6, 7, 13] (fun u v i wr => ∃ k : Nat, k ≤ o.ts.length ∧ i = .int .i64 k ∧ u = .int .i64 (crS o k) ∧ v = .int .i64 ((crN o k : Nat) : Int) ∧ Below W0.heap.size W0 wr) (fun _ _ i _ => o.ts.length - (intOf i).toNat)
  case atStart => exact ⟨0, Nat.zero_le _, rfl, rfl, rfl, Below.refl _ _⟩
  case round =>
    obtain ⟨k, hk, rfl, rfl, rfl, hbw⟩ := hrel
    have h7 : o.ts.length ≤ 7 := by rw [HF.out.len]; exact HF.out.n7
    have d0 := keep_cell hbw z0
    have d1 := keep_cell hbw z1
    have gw := Below.step g0 hbw
    have hnl := crN_le o k
    have hsb := crS_bd HF.out k hk
    by_cases hlt : k < o.ts.length
    · obtain ⟨b, off, rfl, hb0, hc⟩ := HT.out (by omega)
      have c0 := (gw.cell (p := ⟨b, _, none⟩) hb0).trans (hc k hlt 0 _ rfl)
      simp at c0
      clear hc
      obtain ⟨b2, off2, rfl, hb2, hc⟩ := HX.out (by have := HF.out.len; omega)
      have c1 := (gw.cell (p := ⟨b2, _, none⟩) hb2).trans (hc k (by have := HF.out.len; omega) 0 _ rfl)
      simp at c1
      clear hc
      have e0 : o.ts[k] = o.ts.getD k 0 := by rw [List.getD_eq_getElem?_getD, List.getElem?_eq_getElem hlt]; rfl
      have e1 : o.xs[k]'(by have := HF.out.len; omega) = o.xs.getD k 0 := by rw [List.getD_eq_getElem?_getD, List.getElem?_eq_getElem (by have := HF.out.len; omega)]; rfl
      rw [e0] at c0
      rw [e1] at c1
      clear e0 e1
      have hkx : k < o.xs.length := by have := HF.out.len; omega
      have ht' := HF.out.t k hlt
      have hx' := HF.out.x k (by have := HF.out.len; omega)
      have hp := prod_bd hx'.1 hx'.2 HF.out.c.1 HF.out.c.2
      have HS := Lib.hid (show crS o (k + 1) = if 0 ≤ o.ts.getD k 0 then crS o k + 1000 * o.ts.getD k 0 - o.xs.getD k 0 * o.c else crS o k from rfl)
      have HN := Lib.hid (show crN o (k + 1) = if 0 ≤ o.ts.getD k 0 then crN o k + 1 else crN o k from rfl)
      have y0 : b < wr.heap.size := cell?_lt c0
      have y1 : b2 < wr.heap.size := cell?_lt c1
      have y2 : w.heap.size < wr.heap.size := cell?_lt d0
      have y3 : w.heap.size + 1 < wr.heap.size := cell?_lt d1
      generalize o.ts.getD k 0 = t at *
      generalize o.xs.getD k 0 = x at *
      generalize crS o k = S at *
      generalize crN o k = N at *
      by_cases h0 : 0 ≤ t
      · have w1 : IntKind.i64.wrap (1000 * t) = 1000 * t := IntWalk.i64_in _ (by omega)
        have w2 : IntKind.i64.wrap (S + 1000 * t) = S + 1000 * t := IntWalk.i64_in _ (by omega)
        have w3 : IntKind.i64.wrap (x * o.c) = x * o.c := IntWalk.i64_in _ (by omega)
        have w4 : IntKind.i64.wrap (S + 1000 * t - x * o.c) = S + 1000 * t - x * o.c := IntWalk.i64_in _ (by omega)
        have w6 : IntKind.i64.wrap ((N : Int) + 1) = (N : Int) + 1 := IntWalk.i64_in _ (by omega)
        go_wp2_with fail
        refine region_below (by kernel_rfl) (by kernel_rfl) ?_
        (first | go_big_quiet_skip | (go_big_quiet_want; refine quiet_val (v := ?_) ?_ ?_; rotate_left 1; (· (intro Wq hWq; obtain ⟨hWc, hWf⟩ := bcell hWq; go_simp; (try with_reducible rfl))); go_big_quiet_on; (try simp only [Act.put, List.setIfInBounds_toArray, List.set_cons_zero, List.set_cons_succ])))
        (first | go_big_quiet_skip | (go_big_quiet_want; refine quiet_val (v := ?_) ?_ ?_; rotate_left 1; (· (intro Wq hWq; obtain ⟨hWc, hWf⟩ := bcell hWq; go_simp; (try with_reducible rfl))); go_big_quiet_on; (try simp only [Act.put, List.setIfInBounds_toArray, List.set_cons_zero, List.set_cons_succ])))
        (first | go_big_quiet_skip | (go_big_quiet_want; refine quiet_val (v := ?_) ?_ ?_; rotate_left 1; (· (intro Wq hWq; obtain ⟨hWc, hWf⟩ := bcell hWq; go_simp; (try with_reducible rfl))); go_big_quiet_on; (try simp only [Act.put, List.setIfInBounds_toArray, List.set_cons_zero, List.set_cons_succ])))
        (first | go_big_quiet_skip | (go_big_quiet_want; refine quiet_val (v := ?_) ?_ ?_; rotate_left 1; (· (intro Wq hWq; obtain ⟨hWc, hWf⟩ := bcell hWq; go_simp; (try with_reducible rfl))); go_big_quiet_on; (try simp only [Act.put, List.setIfInBounds_toArray, List.set_cons_zero, List.set_cons_succ])))
        (first | go_big_quiet_skip | (go_big_quiet_want; refine quiet_val (v := ?_) ?_ ?_; rotate_left 1; (· (intro Wq hWq; obtain ⟨hWc, hWf⟩ := bcell hWq; go_simp; (try with_reducible rfl))); go_big_quiet_on; (try simp only [Act.put, List.setIfInBounds_toArray, List.set_cons_zero, List.set_cons_succ])))
        (first | go_big_quiet_skip | (go_big_quiet_want; refine quiet_val (v := ?_) ?_ ?_; rotate_left 1; (· (intro Wq hWq; obtain ⟨hWc, hWf⟩ := bcell hWq; go_simp; (try with_reducible rfl))); go_big_quiet_on; (try simp only [Act.put, List.setIfInBounds_toArray, List.set_cons_zero, List.set_cons_succ])))
        (first | go_big_quiet_skip | (go_big_quiet_want; refine quiet_val (v := ?_) ?_ ?_; rotate_left 1; (· (intro Wq hWq; obtain ⟨hWc, hWf⟩ := bcell hWq; go_simp; (try with_reducible rfl))); go_big_quiet_on; (try simp only [Act.put, List.setIfInBounds_toArray, List.set_cons_zero, List.set_cons_succ])))
        (first | go_big_quiet_skip | (go_big_quiet_want; refine quiet_val (v := ?_) ?_ ?_; rotate_left 1; (· (intro Wq hWq; obtain ⟨hWc, hWf⟩ := bcell hWq; go_simp; (try with_reducible rfl))); go_big_quiet_on; (try simp only [Act.put, List.setIfInBounds_toArray, List.set_cons_zero, List.set_cons_succ])))
        (first | go_big_quiet_skip | (go_big_quiet_want; refine quiet_val (v := ?_) ?_ ?_; rotate_left 1; (· (intro Wq hWq; obtain ⟨hWc, hWf⟩ := bcell hWq; go_simp; (try with_reducible rfl))); go_big_quiet_on; (try simp only [Act.put, List.setIfInBounds_toArray, List.set_cons_zero, List.set_cons_succ])))
        (first | go_big_quiet_skip | (go_big_quiet_want; refine quiet_val (v := ?_) ?_ ?_; rotate_left 1; (· (intro Wq hWq; obtain ⟨hWc, hWf⟩ := bcell hWq; go_simp; (try with_reducible rfl))); go_big_quiet_on; (try simp only [Act.put, List.setIfInBounds_toArray, List.set_cons_zero, List.set_cons_succ])))
        (first | go_big_quiet_skip | (go_big_quiet_want; refine quiet_val (v := ?_) ?_ ?_; rotate_left 1; (· (intro Wq hWq; obtain ⟨hWc, hWf⟩ := bcell hWq; go_simp; (try with_reducible rfl))); go_big_quiet_on; (try simp only [Act.put, List.setIfInBounds_toArray, List.set_cons_zero, List.set_cons_succ])))
        (first | go_big_quiet_skip | (go_big_quiet_want; refine quiet_val (v := ?_) ?_ ?_; rotate_left 1; (· (intro Wq hWq; obtain ⟨hWc, hWf⟩ := bcell hWq; go_simp; (try with_reducible rfl))); go_big_quiet_on; (try simp only [Act.put, List.setIfInBounds_toArray, List.set_cons_zero, List.set_cons_succ])))
        (first | go_big_quiet_skip | (go_big_quiet_want; refine quiet_val (v := ?_) ?_ ?_; rotate_left 1; (· (intro Wq hWq; obtain ⟨hWc, hWf⟩ := bcell hWq; go_simp; (try with_reducible rfl))); go_big_quiet_on; (try simp only [Act.put, List.setIfInBounds_toArray, List.set_cons_zero, List.set_cons_succ])))
        (first | go_big_quiet_skip | (go_big_quiet_want; refine quiet_val (v := ?_) ?_ ?_; rotate_left 1; (· (intro Wq hWq; obtain ⟨hWc, hWf⟩ := bcell hWq; go_simp; (try with_reducible rfl))); go_big_quiet_on; (try simp only [Act.put, List.setIfInBounds_toArray, List.set_cons_zero, List.set_cons_succ])))
        (first | go_big_quiet_skip | (go_big_quiet_want; refine quiet_val (v := ?_) ?_ ?_; rotate_left 1; (· (intro Wq hWq; obtain ⟨hWc, hWf⟩ := bcell hWq; go_simp; (try with_reducible rfl))); go_big_quiet_on; (try simp only [Act.put, List.setIfInBounds_toArray, List.set_cons_zero, List.set_cons_succ])))
        (first | go_big_quiet_skip | (go_big_quiet_want; refine quiet_val (v := ?_) ?_ ?_; rotate_left 1; (· (intro Wq hWq; obtain ⟨hWc, hWf⟩ := bcell hWq; go_simp; (try with_reducible rfl))); go_big_quiet_on; (try simp only [Act.put, List.setIfInBounds_toArray, List.set_cons_zero, List.set_cons_succ])))
        (first | go_big_quiet_skip | (go_big_quiet_want; refine quiet_val (v := ?_) ?_ ?_; rotate_left 1; (· (intro Wq hWq; obtain ⟨hWc, hWf⟩ := bcell hWq; go_simp; (try with_reducible rfl))); go_big_quiet_on; (try simp only [Act.put, List.setIfInBounds_toArray, List.set_cons_zero, List.set_cons_succ])))
        (first | go_big_quiet_skip | (go_big_quiet_want; refine quiet_val (v := ?_) ?_ ?_; rotate_left 1; (· (intro Wq hWq; obtain ⟨hWc, hWf⟩ := bcell hWq; go_simp; (try with_reducible rfl))); go_big_quiet_on; (try simp only [Act.put, List.setIfInBounds_toArray, List.set_cons_zero, List.set_cons_succ])))
        refine wpQuiet_nil ?_; intro w5 hb5
        go_wp2
        go_roundw
        case rel => exact ⟨k + 1, by omega, by go_num, by rw [HS.out, if_pos h0], by rw [HN.out, if_pos h0]; rfl, Below.step hbw hb5⟩
        case measure => simp [intOf]; omega
      · go_wp2
        go_roundw
        case rel => exact ⟨k + 1, by omega, by go_num, by rw [HS.out, if_neg h0], by rw [HN.out, if_neg h0], hbw⟩
        case measure => simp [intOf]; omega
    · obtain rfl : k = o.ts.length := by omega
      have qv := HV.out
      have qb := HB.out
      clear HV HB
      generalize crS o o.ts.length = S at *
      generalize crN o o.ts.length = N at *
      by_cases hN : N = 0
      · subst hN
        rw [if_pos rfl] at qv
        obtain rfl : B = false := by rw [qb]; rfl
        clear qb
        subst qv
        go_wp2
        go_ret2
        exact ⟨rfl, gw⟩
      · have HD := Lib.hid (fun W => down_c S (1000 * (N : Int)) (by omega) (by omega) (by omega) (by omega) W)
        have w1 : IntKind.i64.wrap (1000 * (N : Int)) = 1000 * (N : Int) := IntWalk.i64_in _ (by omega)
        rw [if_neg hN] at qv
        obtain rfl : B = true := by rw [qb]; exact decide_eq_true hN
        clear qb
        subst qv
        go_wp2_with fail
        refine (HD.out _).mono ?_
        rintro e w' ⟨rfl, rfl⟩
        go_wp2
        go_ret2
        exact ⟨rfl, gw⟩
end Go.Proofs.YtimbdnngeoccdaaDoor
