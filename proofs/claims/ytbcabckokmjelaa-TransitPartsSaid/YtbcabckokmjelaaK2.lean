/-
  Bundle K2: A11, A12, A13, A14, A15. Printed by bundle.py.
-/
import Derived.Test.YtbcabckokmjelaaK1
import Derived.Test.YtbcabckokmjelaaQt
import Derived.Test.YtbcabckokmjelaaTT
namespace Go.Proofs.Ytbcabckokmjelaa
open Go.RowKit
set_option linter.unusedVariables false
set_option linter.unusedSimpArgs false
theorem chkW_at {xs : List Int} : ∀ {n k : Nat}, chkW xs n k = true → ∀ j, k ≤ j → j < k + n → within (xs.getD j 0) (-100000) 100000 = true
  | 0, k, _, j, h1, h2 => by omega
  | n + 1, k, h, j, h1, h2 => by
    rw [chkW, Bool.and_eq_true] at h
    rcases Nat.lt_or_ge k j with hj | hj
    · exact chkW_at h.2 j (by omega) (by omega)
    · obtain rfl : j = k := by omega
      have := h.1
      unfold okW at this
      rw [Bool.and_eq_true] at this
      exact this.1
/-- What a transit that fits gives. -/
structure FitsAt (o : Obs) : Prop where
  len : o.ts.length = o.xs.length
  n1 : 1 ≤ o.xs.length
  n7 : o.xs.length ≤ 7
  x : ∀ j, j < o.xs.length → -100000 ≤ o.xs.getD j 0 ∧ o.xs.getD j 0 ≤ 100000
  t : ∀ j, j < o.ts.length → -1 ≤ o.ts.getD j 0 ∧ o.ts.getD j 0 ≤ 86399999
  c : 1000 ≤ o.c ∧ o.c ≤ 10000
  a : 0 ≤ o.a ∧ o.a ≤ 86399999
  b : -10000 ≤ o.b ∧ o.b ≤ 10000
  e : 0 ≤ o.e ∧ o.e ≤ 10000
theorem fits_at {o : Obs} (h : fitsB o = true) : FitsAt o := by
  unfold fitsB okTube okStar at h
  simp only [Bool.and_eq_true, decide_eq_true_eq] at h
  obtain ⟨⟨h1, h2, h3⟩, ⟨h4, h5, h6, h7⟩, h8, h9⟩ := h
  have q2 := within_true h2
  refine ⟨h8, by omega, by omega, fun j hj => within_true (chkW_at h1 j (by omega) (by omega)), fun j hj => ?_, within_true h7, within_true h5, within_true h6, within_true h3⟩
  have := List.all_eq_true.1 h9 (o.ts.getD j 0) (by rw [List.getD_eq_getElem?_getD, List.getElem?_eq_getElem hj]; exact List.getElem_mem hj)
  exact within_true this
/-- What has been added up behind some wires, and how many were not missed. -/
def crS (o : Obs) : Nat → Int
  | 0 => 0
  | k + 1 => if 0 ≤ o.ts.getD k 0 then crS o k + 1000 * o.ts.getD k 0 - o.xs.getD k 0 * o.c else crS o k
def crN (o : Obs) : Nat → Nat
  | 0 => 0
  | k + 1 => if 0 ≤ o.ts.getD k 0 then crN o k + 1 else crN o k
theorem crN_le (o : Obs) : ∀ k, crN o k ≤ k
  | 0 => Nat.le_refl _
  | k + 1 => by have := crN_le o k; rw [crN]; split <;> omega
theorem prod_bd {x c : Int} (h1 : -100000 ≤ x) (h2 : x ≤ 100000) (h3 : 1000 ≤ c) (h4 : c ≤ 10000) : -1000000000 ≤ x * c ∧ x * c ≤ 1000000000 := by
  have a1 : x * c ≤ 100000 * c := Int.mul_le_mul_of_nonneg_right h2 (by omega)
  have a2 : (-100000) * c ≤ x * c := Int.mul_le_mul_of_nonneg_right h1 (by omega)
  omega
theorem crS_bd {o : Obs} (h : FitsAt o) : ∀ k, k ≤ o.ts.length → -(k : Int) * 100000000000 ≤ crS o k ∧ crS o k ≤ (k : Int) * 100000000000
  | 0, _ => by simp [crS]
  | k + 1, hk => by
    have ih := crS_bd h k (by omega)
    have ht := h.t k (by omega)
    have hx := h.x k (by have := h.len; omega)
    have hp := prod_bd hx.1 hx.2 h.c.1 h.c.2
    rw [crS]
    split <;> omega
theorem crossing_c (o : Obs) (A T : Option Addr) (ca ct : Nat) (w : World) (h : ObsAt o A T w) (hf : FitsAt o) :
    Calls Try.prog 50 #[.agg #[.slice A o.xs.length ca, .int .i64 o.e], .agg #[.string o.nm, .int .i64 o.a, .int .i64 o.b, .int .i64 o.c, .slice T o.ts.length ct]] w fun r w' => r = .returned (.tuple #[.int .i64 (if crN o o.ts.length = 0 then 0 else crS o o.ts.length / (1000 * (crN o o.ts.length : Int))), .bool (decide (crN o o.ts.length ≠ 0))]) ∧ Below w.heap.size w w' := by
  obtain ⟨hn, hx, ht, rx, rt⟩ := h
  have HX := Lib.hid rx
  have HT := Lib.hid rt
  have HF := Lib.hid hf
  clear rx rt hf
  obtain ⟨V, hV⟩ : ∃ V, V = (if crN o o.ts.length = 0 then 0 else crS o o.ts.length / (1000 * (crN o o.ts.length : Int))) := ⟨_, rfl⟩
  obtain ⟨B, hB⟩ : ∃ B, B = decide (crN o o.ts.length ≠ 0) := ⟨_, rfl⟩
  rw [← hV, ← hB]
  have HV := Lib.hid hV
  have HB := Lib.hid hB
  clear hV hB
  go_enter Try.func50, Try.ntmps50
  go_wp2
  obtain ⟨W0, hW0⟩ : ∃ W, W = (w.alloc (.cells #[.slice A o.xs.length ca, .int .i64 o.e] 24)).alloc (.cells #[.string o.nm, .int .i64 o.a, .int .i64 o.b, .int .i64 o.c, .slice T o.ts.length ct] 28) := ⟨_, rfl⟩
  have z0 : W0.cell? ⟨w.heap.size, 0, none⟩ = some (.slice A o.xs.length ca) := by rw [hW0]; simp [go_sem]
  have z1 : W0.cell? ⟨w.heap.size + 1, 3, none⟩ = some (.int .i64 o.c) := by rw [hW0]; simp [go_sem]
  have g0 : Below w.heap.size w W0 := by rw [hW0]; (repeat (first | exact Below.refl _ _ | refine Below.drew ?_ | refine Below.allocS ?_ _ | refine Below.step ?_ (by assumption) | refine Below.setCell ?_ (by simp <;> omega) _ | refine Below.drewN' ?_ _))
  rw [← hW0]
  clear hW0
  go_loopw [6, 7, 13] (fun u v i wr => ∃ k : Nat, k ≤ o.ts.length ∧ i = .int .i64 k ∧ u = .int .i64 (crS o k) ∧ v = .int .i64 ((crN o k : Nat) : Int) ∧ Below W0.heap.size W0 wr) (fun _ _ i _ => o.ts.length - (intOf i).toNat)
  case atStart => exact ⟨0, Nat.zero_le _, rfl, rfl, rfl, Below.refl _ _⟩
  case round =>
    obtain ⟨k, hk, rfl, rfl, rfl, hbw⟩ := hrel
    have h7 : o.ts.length ≤ 7 := by rw [HF.out.len]; exact HF.out.n7
    have d0 := keep_cell hbw z0
    have d1 := keep_cell hbw z1
    have gw := Below.step g0 hbw
    have hnl := crN_le o k
    have hsb := crS_bd HF.out k hk
    by_cases hlt : k < o.ts.length
    · obtain ⟨b, off, rfl, hb0, hc⟩ := HT.out (by omega)
      have c0 := (gw.cell (p := ⟨b, _, none⟩) hb0).trans (hc k hlt 0 _ rfl)
      simp at c0
      clear hc
      obtain ⟨b2, off2, rfl, hb2, hc⟩ := HX.out (by have := HF.out.len; omega)
      have c1 := (gw.cell (p := ⟨b2, _, none⟩) hb2).trans (hc k (by have := HF.out.len; omega) 0 _ rfl)
      simp at c1
      clear hc
      have e0 : o.ts[k] = o.ts.getD k 0 := by rw [List.getD_eq_getElem?_getD, List.getElem?_eq_getElem hlt]; rfl
      have e1 : o.xs[k]'(by have := HF.out.len; omega) = o.xs.getD k 0 := by rw [List.getD_eq_getElem?_getD, List.getElem?_eq_getElem (by have := HF.out.len; omega)]; rfl
      rw [e0] at c0
      rw [e1] at c1
      clear e0 e1
      have hkx : k < o.xs.length := by have := HF.out.len; omega
      have ht' := HF.out.t k hlt
      have hx' := HF.out.x k (by have := HF.out.len; omega)
      have hp := prod_bd hx'.1 hx'.2 HF.out.c.1 HF.out.c.2
      have HS := Lib.hid (show crS o (k + 1) = if 0 ≤ o.ts.getD k 0 then crS o k + 1000 * o.ts.getD k 0 - o.xs.getD k 0 * o.c else crS o k from rfl)
      have HN := Lib.hid (show crN o (k + 1) = if 0 ≤ o.ts.getD k 0 then crN o k + 1 else crN o k from rfl)
      have y0 : b < wr.heap.size := cell?_lt c0
      have y1 : b2 < wr.heap.size := cell?_lt c1
      have y2 : w.heap.size < wr.heap.size := cell?_lt d0
      have y3 : w.heap.size + 1 < wr.heap.size := cell?_lt d1
      generalize o.ts.getD k 0 = t at *
      generalize o.xs.getD k 0 = x at *
      generalize crS o k = S at *
      generalize crN o k = N at *
      by_cases h0 : 0 ≤ t
      · have w1 : IntKind.i64.wrap (1000 * t) = 1000 * t := IntWalk.i64_in _ (by omega)
        have w2 : IntKind.i64.wrap (S + 1000 * t) = S + 1000 * t := IntWalk.i64_in _ (by omega)
        have w3 : IntKind.i64.wrap (x * o.c) = x * o.c := IntWalk.i64_in _ (by omega)
        have w4 : IntKind.i64.wrap (S + 1000 * t - x * o.c) = S + 1000 * t - x * o.c := IntWalk.i64_in _ (by omega)
        have w6 : IntKind.i64.wrap ((N : Int) + 1) = (N : Int) + 1 := IntWalk.i64_in _ (by omega)
        go_wp2_with fail
        refine region_below (by kernel_rfl) (by kernel_rfl) ?_
        (first | go_big_quiet_skip | (go_big_quiet_want; refine quiet_val (v := ?_) ?_ ?_; rotate_left 1; (· (intro Wq hWq; obtain ⟨hWc, hWf⟩ := bcell hWq; go_simp; (try with_reducible rfl))); go_big_quiet_on; (try simp only [Act.put, List.setIfInBounds_toArray, List.set_cons_zero, List.set_cons_succ])))
        (first | go_big_quiet_skip | (go_big_quiet_want; refine quiet_val (v := ?_) ?_ ?_; rotate_left 1; (· (intro Wq hWq; obtain ⟨hWc, hWf⟩ := bcell hWq; go_simp; (try with_reducible rfl))); go_big_quiet_on; (try simp only [Act.put, List.setIfInBounds_toArray, List.set_cons_zero, List.set_cons_succ])))
        (first | go_big_quiet_skip | (go_big_quiet_want; refine quiet_val (v := ?_) ?_ ?_; rotate_left 1; (· (intro Wq hWq; obtain ⟨hWc, hWf⟩ := bcell hWq; go_simp; (try with_reducible rfl))); go_big_quiet_on; (try simp only [Act.put, List.setIfInBounds_toArray, List.set_cons_zero, List.set_cons_succ])))
        (first | go_big_quiet_skip | (go_big_quiet_want; refine quiet_val (v := ?_) ?_ ?_; rotate_left 1; (· (intro Wq hWq; obtain ⟨hWc, hWf⟩ := bcell hWq; go_simp; (try with_reducible rfl))); go_big_quiet_on; (try simp only [Act.put, List.setIfInBounds_toArray, List.set_cons_zero, List.set_cons_succ])))
        (first | go_big_quiet_skip | (go_big_quiet_want; refine quiet_val (v := ?_) ?_ ?_; rotate_left 1; (· (intro Wq hWq; obtain ⟨hWc, hWf⟩ := bcell hWq; go_simp; (try with_reducible rfl))); go_big_quiet_on; (try simp only [Act.put, List.setIfInBounds_toArray, List.set_cons_zero, List.set_cons_succ])))
        (first | go_big_quiet_skip | (go_big_quiet_want; refine quiet_val (v := ?_) ?_ ?_; rotate_left 1; (· (intro Wq hWq; obtain ⟨hWc, hWf⟩ := bcell hWq; go_simp; (try with_reducible rfl))); go_big_quiet_on; (try simp only [Act.put, List.setIfInBounds_toArray, List.set_cons_zero, List.set_cons_succ])))
        (first | go_big_quiet_skip | (go_big_quiet_want; refine quiet_val (v := ?_) ?_ ?_; rotate_left 1; (· (intro Wq hWq; obtain ⟨hWc, hWf⟩ := bcell hWq; go_simp; (try with_reducible rfl))); go_big_quiet_on; (try simp only [Act.put, List.setIfInBounds_toArray, List.set_cons_zero, List.set_cons_succ])))
        (first | go_big_quiet_skip | (go_big_quiet_want; refine quiet_val (v := ?_) ?_ ?_; rotate_left 1; (· (intro Wq hWq; obtain ⟨hWc, hWf⟩ := bcell hWq; go_simp; (try with_reducible rfl))); go_big_quiet_on; (try simp only [Act.put, List.setIfInBounds_toArray, List.set_cons_zero, List.set_cons_succ])))
        (first | go_big_quiet_skip | (go_big_quiet_want; refine quiet_val (v := ?_) ?_ ?_; rotate_left 1; (· (intro Wq hWq; obtain ⟨hWc, hWf⟩ := bcell hWq; go_simp; (try with_reducible rfl))); go_big_quiet_on; (try simp only [Act.put, List.setIfInBounds_toArray, List.set_cons_zero, List.set_cons_succ])))
        (first | go_big_quiet_skip | (go_big_quiet_want; refine quiet_val (v := ?_) ?_ ?_; rotate_left 1; (· (intro Wq hWq; obtain ⟨hWc, hWf⟩ := bcell hWq; go_simp; (try with_reducible rfl))); go_big_quiet_on; (try simp only [Act.put, List.setIfInBounds_toArray, List.set_cons_zero, List.set_cons_succ])))
        (first | go_big_quiet_skip | (go_big_quiet_want; refine quiet_val (v := ?_) ?_ ?_; rotate_left 1; (· (intro Wq hWq; obtain ⟨hWc, hWf⟩ := bcell hWq; go_simp; (try with_reducible rfl))); go_big_quiet_on; (try simp only [Act.put, List.setIfInBounds_toArray, List.set_cons_zero, List.set_cons_succ])))
        (first | go_big_quiet_skip | (go_big_quiet_want; refine quiet_val (v := ?_) ?_ ?_; rotate_left 1; (· (intro Wq hWq; obtain ⟨hWc, hWf⟩ := bcell hWq; go_simp; (try with_reducible rfl))); go_big_quiet_on; (try simp only [Act.put, List.setIfInBounds_toArray, List.set_cons_zero, List.set_cons_succ])))
        (first | go_big_quiet_skip | (go_big_quiet_want; refine quiet_val (v := ?_) ?_ ?_; rotate_left 1; (· (intro Wq hWq; obtain ⟨hWc, hWf⟩ := bcell hWq; go_simp; (try with_reducible rfl))); go_big_quiet_on; (try simp only [Act.put, List.setIfInBounds_toArray, List.set_cons_zero, List.set_cons_succ])))
        (first | go_big_quiet_skip | (go_big_quiet_want; refine quiet_val (v := ?_) ?_ ?_; rotate_left 1; (· (intro Wq hWq; obtain ⟨hWc, hWf⟩ := bcell hWq; go_simp; (try with_reducible rfl))); go_big_quiet_on; (try simp only [Act.put, List.setIfInBounds_toArray, List.set_cons_zero, List.set_cons_succ])))
        (first | go_big_quiet_skip | (go_big_quiet_want; refine quiet_val (v := ?_) ?_ ?_; rotate_left 1; (· (intro Wq hWq; obtain ⟨hWc, hWf⟩ := bcell hWq; go_simp; (try with_reducible rfl))); go_big_quiet_on; (try simp only [Act.put, List.setIfInBounds_toArray, List.set_cons_zero, List.set_cons_succ])))
        (first | go_big_quiet_skip | (go_big_quiet_want; refine quiet_val (v := ?_) ?_ ?_; rotate_left 1; (· (intro Wq hWq; obtain ⟨hWc, hWf⟩ := bcell hWq; go_simp; (try with_reducible rfl))); go_big_quiet_on; (try simp only [Act.put, List.setIfInBounds_toArray, List.set_cons_zero, List.set_cons_succ])))
        (first | go_big_quiet_skip | (go_big_quiet_want; refine quiet_val (v := ?_) ?_ ?_; rotate_left 1; (· (intro Wq hWq; obtain ⟨hWc, hWf⟩ := bcell hWq; go_simp; (try with_reducible rfl))); go_big_quiet_on; (try simp only [Act.put, List.setIfInBounds_toArray, List.set_cons_zero, List.set_cons_succ])))
        (first | go_big_quiet_skip | (go_big_quiet_want; refine quiet_val (v := ?_) ?_ ?_; rotate_left 1; (· (intro Wq hWq; obtain ⟨hWc, hWf⟩ := bcell hWq; go_simp; (try with_reducible rfl))); go_big_quiet_on; (try simp only [Act.put, List.setIfInBounds_toArray, List.set_cons_zero, List.set_cons_succ])))
        refine wpQuiet_nil ?_; intro w5 hb5
        go_wp2
        go_roundw
        case rel => exact ⟨k + 1, by omega, by go_num, by rw [HS.out, if_pos h0], by rw [HN.out, if_pos h0]; rfl, Below.step hbw hb5⟩
        case measure => simp [intOf]; omega
      · go_wp2
        go_roundw
        case rel => exact ⟨k + 1, by omega, by go_num, by rw [HS.out, if_neg h0], by rw [HN.out, if_neg h0], hbw⟩
        case measure => simp [intOf]; omega
    · obtain rfl : k = o.ts.length := by omega
      have qv := HV.out
      have qb := HB.out
      clear HV HB
      generalize crS o o.ts.length = S at *
      generalize crN o o.ts.length = N at *
      by_cases hN : N = 0
      · subst hN
        rw [if_pos rfl] at qv
        obtain rfl : B = false := by rw [qb]; rfl
        clear qb
        subst qv
        go_wp2
        go_ret2
        exact ⟨rfl, gw⟩
      · have HD := Lib.hid (fun W => down_c S (1000 * (N : Int)) (by omega) (by omega) (by omega) (by omega) W)
        have w1 : IntKind.i64.wrap (1000 * (N : Int)) = 1000 * (N : Int) := IntWalk.i64_in _ (by omega)
        rw [if_neg hN] at qv
        obtain rfl : B = true := by rw [qb]; exact decide_eq_true hN
        clear qb
        subst qv
        go_wp2_with fail
        refine (HD.out _).mono ?_
        rintro e w' ⟨rfl, rfl⟩
        go_wp2
        go_ret2
        exact ⟨rfl, gw⟩
end Go.Proofs.Ytbcabckokmjelaa
namespace Go.Proofs.Ytbcabckokmjelaa
open Go.RowKit
set_option linter.unusedVariables false
set_option linter.unusedSimpArgs false
/-- The crossing of a transit that fits, some wire not missed. -/
def crQ (o : Obs) : Int := crS o o.ts.length / (1000 * (crN o o.ts.length : Int))
def crV (o : Obs) : Int := if fitsB o = true then (if crN o o.ts.length = 0 then 0 else crQ o) else 0
def crE (o : Obs) : Int := if fitsB o = true then (if crN o o.ts.length = 0 then 8 else 0) else 1
theorem Crossing_c (o : Obs) (A T : Option Addr) (ca ct : Nat) (w : World) (h : ObsAt o A T w) :
    Calls Try.prog 14 #[.agg #[.slice A o.xs.length ca, .int .i64 o.e], .agg #[.string o.nm, .int .i64 o.a, .int .i64 o.b, .int .i64 o.c, .slice T o.ts.length ct]] w fun r w' => r = .returned (.tuple #[.int .i64 (crV o), .int .i64 (crE o)]) ∧ Below w.heap.size w w' := by
  have H1 := Lib.hid (fun W hb => Fits_c o A T ca ct W (h.step hb))
  have H2 := Lib.hid (fun hf W hb => crossing_c o A T ca ct W (h.step hb) hf)
  clear h
  unfold crV crE
  cases hf : fitsB o
  · rw [hf] at H1
    clear hf
    go_enter Try.func14, Try.ntmps14
    go_wp2_with fail
    refine (H1.out _ (by (repeat (first | exact Below.refl _ _ | refine Below.drew ?_ | refine Below.allocS ?_ _ | refine Below.step ?_ (by assumption) | refine Below.setCell ?_ (by simp <;> omega) _ | refine Below.drewN' ?_ _)))).mono ?_
    rintro e w1 ⟨rfl, hb1⟩
    have x1_0_0 : w1.cell? ⟨w.heap.size, 0, none⟩ = some (.slice A o.xs.length ca) := keep_cell hb1 (by simp [go_sem, *])
    have x1_0_1 : w1.cell? ⟨w.heap.size, 1, none⟩ = some (.int .i64 o.e) := keep_cell hb1 (by simp [go_sem, *])
    have y1_0 : w.heap.size < w1.heap.size := cell?_lt x1_0_0
    have x1_1_0 : w1.cell? ⟨w.heap.size + 1, 0, none⟩ = some (.string o.nm) := keep_cell hb1 (by simp [go_sem, *])
    have x1_1_1 : w1.cell? ⟨w.heap.size + 1, 1, none⟩ = some (.int .i64 o.a) := keep_cell hb1 (by simp [go_sem, *])
    have x1_1_2 : w1.cell? ⟨w.heap.size + 1, 2, none⟩ = some (.int .i64 o.b) := keep_cell hb1 (by simp [go_sem, *])
    have x1_1_3 : w1.cell? ⟨w.heap.size + 1, 3, none⟩ = some (.int .i64 o.c) := keep_cell hb1 (by simp [go_sem, *])
    have x1_1_4 : w1.cell? ⟨w.heap.size + 1, 4, none⟩ = some (.slice T o.ts.length ct) := keep_cell hb1 (by simp [go_sem, *])
    have y1_1 : w.heap.size + 1 < w1.heap.size := cell?_lt x1_1_0
    have g1 : Below w.heap.size w w1 := by (repeat (first | exact Below.refl _ _ | refine Below.drew ?_ | refine Below.allocS ?_ _ | refine Below.step ?_ (by assumption) | refine Below.setCell ?_ (by simp <;> omega) _ | refine Below.drewN' ?_ _))
    clear hb1
    go_wp2
    go_ret2
    exact ⟨rfl, by (repeat (first | exact Below.refl _ _ | refine Below.drew ?_ | refine Below.allocS ?_ _ | refine Below.step ?_ (by assumption) | refine Below.setCell ?_ (by simp <;> omega) _ | refine Below.drewN' ?_ _))⟩
  have H3 := Lib.hid (H2.out (fits_at hf))
  rw [hf] at H1
  clear hf H2
  by_cases hN : crN o o.ts.length = 0
  · rw [if_pos hN, if_pos hN]
    rw [if_pos hN, decide_eq_false (show ¬ crN o o.ts.length ≠ 0 by simp [hN])] at H3
    clear hN
    go_enter Try.func14, Try.ntmps14
    go_wp2_with fail
    refine (H1.out _ (by (repeat (first | exact Below.refl _ _ | refine Below.drew ?_ | refine Below.allocS ?_ _ | refine Below.step ?_ (by assumption) | refine Below.setCell ?_ (by simp <;> omega) _ | refine Below.drewN' ?_ _)))).mono ?_
    rintro e w1 ⟨rfl, hb1⟩
    have x1_0_0 : w1.cell? ⟨w.heap.size, 0, none⟩ = some (.slice A o.xs.length ca) := keep_cell hb1 (by simp [go_sem, *])
    have x1_0_1 : w1.cell? ⟨w.heap.size, 1, none⟩ = some (.int .i64 o.e) := keep_cell hb1 (by simp [go_sem, *])
    have y1_0 : w.heap.size < w1.heap.size := cell?_lt x1_0_0
    have x1_1_0 : w1.cell? ⟨w.heap.size + 1, 0, none⟩ = some (.string o.nm) := keep_cell hb1 (by simp [go_sem, *])
    have x1_1_1 : w1.cell? ⟨w.heap.size + 1, 1, none⟩ = some (.int .i64 o.a) := keep_cell hb1 (by simp [go_sem, *])
    have x1_1_2 : w1.cell? ⟨w.heap.size + 1, 2, none⟩ = some (.int .i64 o.b) := keep_cell hb1 (by simp [go_sem, *])
    have x1_1_3 : w1.cell? ⟨w.heap.size + 1, 3, none⟩ = some (.int .i64 o.c) := keep_cell hb1 (by simp [go_sem, *])
    have x1_1_4 : w1.cell? ⟨w.heap.size + 1, 4, none⟩ = some (.slice T o.ts.length ct) := keep_cell hb1 (by simp [go_sem, *])
    have y1_1 : w.heap.size + 1 < w1.heap.size := cell?_lt x1_1_0
    have g1 : Below w.heap.size w w1 := by (repeat (first | exact Below.refl _ _ | refine Below.drew ?_ | refine Below.allocS ?_ _ | refine Below.step ?_ (by assumption) | refine Below.setCell ?_ (by simp <;> omega) _ | refine Below.drewN' ?_ _))
    clear hb1
    go_wp2_with fail
    refine (H3.out _ (by (repeat (first | exact Below.refl _ _ | refine Below.drew ?_ | refine Below.allocS ?_ _ | refine Below.step ?_ (by assumption) | refine Below.setCell ?_ (by simp <;> omega) _ | refine Below.drewN' ?_ _)))).mono ?_
    rintro e w2 ⟨rfl, hb2⟩
    have x2_0_0 : w2.cell? ⟨w.heap.size, 0, none⟩ = some (.slice A o.xs.length ca) := keep_cell hb2 (by simp [go_sem, *])
    have x2_0_1 : w2.cell? ⟨w.heap.size, 1, none⟩ = some (.int .i64 o.e) := keep_cell hb2 (by simp [go_sem, *])
    have y2_0 : w.heap.size < w2.heap.size := cell?_lt x2_0_0
    have x2_1_0 : w2.cell? ⟨w.heap.size + 1, 0, none⟩ = some (.string o.nm) := keep_cell hb2 (by simp [go_sem, *])
    have x2_1_1 : w2.cell? ⟨w.heap.size + 1, 1, none⟩ = some (.int .i64 o.a) := keep_cell hb2 (by simp [go_sem, *])
    have x2_1_2 : w2.cell? ⟨w.heap.size + 1, 2, none⟩ = some (.int .i64 o.b) := keep_cell hb2 (by simp [go_sem, *])
    have x2_1_3 : w2.cell? ⟨w.heap.size + 1, 3, none⟩ = some (.int .i64 o.c) := keep_cell hb2 (by simp [go_sem, *])
    have x2_1_4 : w2.cell? ⟨w.heap.size + 1, 4, none⟩ = some (.slice T o.ts.length ct) := keep_cell hb2 (by simp [go_sem, *])
    have y2_1 : w.heap.size + 1 < w2.heap.size := cell?_lt x2_1_0
    have g2 : Below w.heap.size w w2 := by (repeat (first | exact Below.refl _ _ | refine Below.drew ?_ | refine Below.allocS ?_ _ | refine Below.step ?_ (by assumption) | refine Below.setCell ?_ (by simp <;> omega) _ | refine Below.drewN' ?_ _))
    clear hb2 g1 x1_0_0 x1_0_1 x1_1_0 x1_1_1 x1_1_2 x1_1_3 x1_1_4 y1_0 y1_1
    go_wp2
    go_ret2
    exact ⟨rfl, by (repeat (first | exact Below.refl _ _ | refine Below.drew ?_ | refine Below.allocS ?_ _ | refine Below.step ?_ (by assumption) | refine Below.setCell ?_ (by simp <;> omega) _ | refine Below.drewN' ?_ _))⟩
  · rw [if_neg hN, if_neg hN]
    rw [if_neg hN, decide_eq_true (show crN o o.ts.length ≠ 0 from hN)] at H3
    unfold crQ
    generalize crS o o.ts.length / (1000 * (crN o o.ts.length : Int)) = Q at *
    clear hN
    go_enter Try.func14, Try.ntmps14
    go_wp2_with fail
    refine (H1.out _ (by (repeat (first | exact Below.refl _ _ | refine Below.drew ?_ | refine Below.allocS ?_ _ | refine Below.step ?_ (by assumption) | refine Below.setCell ?_ (by simp <;> omega) _ | refine Below.drewN' ?_ _)))).mono ?_
    rintro e w1 ⟨rfl, hb1⟩
    have x1_0_0 : w1.cell? ⟨w.heap.size, 0, none⟩ = some (.slice A o.xs.length ca) := keep_cell hb1 (by simp [go_sem, *])
    have x1_0_1 : w1.cell? ⟨w.heap.size, 1, none⟩ = some (.int .i64 o.e) := keep_cell hb1 (by simp [go_sem, *])
    have y1_0 : w.heap.size < w1.heap.size := cell?_lt x1_0_0
    have x1_1_0 : w1.cell? ⟨w.heap.size + 1, 0, none⟩ = some (.string o.nm) := keep_cell hb1 (by simp [go_sem, *])
    have x1_1_1 : w1.cell? ⟨w.heap.size + 1, 1, none⟩ = some (.int .i64 o.a) := keep_cell hb1 (by simp [go_sem, *])
    have x1_1_2 : w1.cell? ⟨w.heap.size + 1, 2, none⟩ = some (.int .i64 o.b) := keep_cell hb1 (by simp [go_sem, *])
    have x1_1_3 : w1.cell? ⟨w.heap.size + 1, 3, none⟩ = some (.int .i64 o.c) := keep_cell hb1 (by simp [go_sem, *])
    have x1_1_4 : w1.cell? ⟨w.heap.size + 1, 4, none⟩ = some (.slice T o.ts.length ct) := keep_cell hb1 (by simp [go_sem, *])
    have y1_1 : w.heap.size + 1 < w1.heap.size := cell?_lt x1_1_0
    have g1 : Below w.heap.size w w1 := by (repeat (first | exact Below.refl _ _ | refine Below.drew ?_ | refine Below.allocS ?_ _ | refine Below.step ?_ (by assumption) | refine Below.setCell ?_ (by simp <;> omega) _ | refine Below.drewN' ?_ _))
    clear hb1
    go_wp2_with fail
    refine (H3.out _ (by (repeat (first | exact Below.refl _ _ | refine Below.drew ?_ | refine Below.allocS ?_ _ | refine Below.step ?_ (by assumption) | refine Below.setCell ?_ (by simp <;> omega) _ | refine Below.drewN' ?_ _)))).mono ?_
    rintro e w2 ⟨rfl, hb2⟩
    have x2_0_0 : w2.cell? ⟨w.heap.size, 0, none⟩ = some (.slice A o.xs.length ca) := keep_cell hb2 (by simp [go_sem, *])
    have x2_0_1 : w2.cell? ⟨w.heap.size, 1, none⟩ = some (.int .i64 o.e) := keep_cell hb2 (by simp [go_sem, *])
    have y2_0 : w.heap.size < w2.heap.size := cell?_lt x2_0_0
    have x2_1_0 : w2.cell? ⟨w.heap.size + 1, 0, none⟩ = some (.string o.nm) := keep_cell hb2 (by simp [go_sem, *])
    have x2_1_1 : w2.cell? ⟨w.heap.size + 1, 1, none⟩ = some (.int .i64 o.a) := keep_cell hb2 (by simp [go_sem, *])
    have x2_1_2 : w2.cell? ⟨w.heap.size + 1, 2, none⟩ = some (.int .i64 o.b) := keep_cell hb2 (by simp [go_sem, *])
    have x2_1_3 : w2.cell? ⟨w.heap.size + 1, 3, none⟩ = some (.int .i64 o.c) := keep_cell hb2 (by simp [go_sem, *])
    have x2_1_4 : w2.cell? ⟨w.heap.size + 1, 4, none⟩ = some (.slice T o.ts.length ct) := keep_cell hb2 (by simp [go_sem, *])
    have y2_1 : w.heap.size + 1 < w2.heap.size := cell?_lt x2_1_0
    have g2 : Below w.heap.size w w2 := by (repeat (first | exact Below.refl _ _ | refine Below.drew ?_ | refine Below.allocS ?_ _ | refine Below.step ?_ (by assumption) | refine Below.setCell ?_ (by simp <;> omega) _ | refine Below.drewN' ?_ _))
    clear hb2 g1 x1_0_0 x1_0_1 x1_1_0 x1_1_1 x1_1_2 x1_1_3 x1_1_4 y1_0 y1_1
    go_wp2
    go_ret2
    exact ⟨rfl, by (repeat (first | exact Below.refl _ _ | refine Below.drew ?_ | refine Below.allocS ?_ _ | refine Below.step ?_ (by assumption) | refine Below.setCell ?_ (by simp <;> omega) _ | refine Below.drewN' ?_ _))⟩
theorem crQ_bd {o : Obs} (h : FitsAt o) (hN : crN o o.ts.length ≠ 0) : -700000000 ≤ crQ o ∧ crQ o ≤ 700000000 := by
  have hl : o.ts.length ≤ 7 := by have := h.n7; have := h.len; omega
  have hs := crS_bd h o.ts.length (Nat.le_refl _)
  unfold crQ
  generalize crS o o.ts.length = S at *
  generalize crN o o.ts.length = N at *
  have hd : (1000 : Int) ≤ 1000 * (N : Int) := by omega
  constructor
  · rw [Int.le_ediv_iff_mul_le (by omega)]
    omega
  · refine Int.le_of_lt_add_one ?_
    rw [Int.ediv_lt_iff_lt_mul (by omega)]
    omega
def dfV (o : Obs) : Int := if crE o = 0 then foldD (o.a - crQ o) else 0
end Go.Proofs.Ytbcabckokmjelaa
namespace Go.Proofs.Ytbcabckokmjelaa
open Go.RowKit
set_option linter.unusedVariables false
set_option linter.unusedSimpArgs false
theorem rCrossing_c (o : Obs) (A T : Option Addr) (ca ct : Nat) (w : World) (h : ObsAt o A T w) :
    Calls Try.prog 15 #[.agg #[.slice A o.xs.length ca, .int .i64 o.e], .agg #[.string o.nm, .int .i64 o.a, .int .i64 o.b, .int .i64 o.c, .slice T o.ts.length ct]] w fun r w' => r = .returned (.tuple #[.int .i64 (crV o), .int .i64 (crE o)]) ∧ Below w.heap.size w w' := by
  have H1 := Lib.hid (fun W hb => rFits_c o A T ca ct W (h.step hb))
  unfold crV crE
  cases hf : fitsB o
  · rw [hf] at H1
    clear hf h
    go_enter Try.func15, Try.ntmps15
    go_wp2_with fail
    refine (H1.out _ (by (repeat (first | exact Below.refl _ _ | refine Below.drew ?_ | refine Below.allocS ?_ _ | refine Below.step ?_ (by assumption) | refine Below.setCell ?_ (by simp <;> omega) _ | refine Below.drewN' ?_ _)))).mono ?_
    rintro e w1 ⟨rfl, hb1⟩
    have x1_0_0 : w1.cell? ⟨w.heap.size, 0, none⟩ = some (.slice A o.xs.length ca) := keep_cell hb1 (by simp [go_sem, *])
    have x1_0_1 : w1.cell? ⟨w.heap.size, 1, none⟩ = some (.int .i64 o.e) := keep_cell hb1 (by simp [go_sem, *])
    have y1_0 : w.heap.size < w1.heap.size := cell?_lt x1_0_0
    have x1_1_0 : w1.cell? ⟨w.heap.size + 1, 0, none⟩ = some (.string o.nm) := keep_cell hb1 (by simp [go_sem, *])
    have x1_1_1 : w1.cell? ⟨w.heap.size + 1, 1, none⟩ = some (.int .i64 o.a) := keep_cell hb1 (by simp [go_sem, *])
    have x1_1_2 : w1.cell? ⟨w.heap.size + 1, 2, none⟩ = some (.int .i64 o.b) := keep_cell hb1 (by simp [go_sem, *])
    have x1_1_3 : w1.cell? ⟨w.heap.size + 1, 3, none⟩ = some (.int .i64 o.c) := keep_cell hb1 (by simp [go_sem, *])
    have x1_1_4 : w1.cell? ⟨w.heap.size + 1, 4, none⟩ = some (.slice T o.ts.length ct) := keep_cell hb1 (by simp [go_sem, *])
    have y1_1 : w.heap.size + 1 < w1.heap.size := cell?_lt x1_1_0
    have g1 : Below w.heap.size w w1 := by (repeat (first | exact Below.refl _ _ | refine Below.drew ?_ | refine Below.allocS ?_ _ | refine Below.step ?_ (by assumption) | refine Below.setCell ?_ (by simp <;> omega) _ | refine Below.drewN' ?_ _))
    clear hb1
    go_wp2
    go_ret2
    exact ⟨rfl, by (repeat (first | exact Below.refl _ _ | refine Below.drew ?_ | refine Below.allocS ?_ _ | refine Below.step ?_ (by assumption) | refine Below.setCell ?_ (by simp <;> omega) _ | refine Below.drewN' ?_ _))⟩
  have HF := Lib.hid (fits_at hf)
  rw [hf] at H1
  clear hf
  obtain ⟨V, hV⟩ : ∃ V, V = (if crN o o.ts.length = 0 then 0 else crQ o) := ⟨_, rfl⟩
  obtain ⟨B, hB⟩ : ∃ B : Int, B = if crN o o.ts.length = 0 then 8 else 0 := ⟨_, rfl⟩
  rw [← hV, ← hB, if_pos rfl, if_pos rfl]
  have HV := Lib.hid hV
  have HB := Lib.hid hB
  clear hV hB
  obtain ⟨hn, hx, ht, rx, rt⟩ := h
  have HX := Lib.hid rx
  have HT := Lib.hid rt
  clear rx rt
  go_enter Try.func15, Try.ntmps15
  go_wp2_with fail
  refine (H1.out _ (by (repeat (first | exact Below.refl _ _ | refine Below.drew ?_ | refine Below.allocS ?_ _ | refine Below.step ?_ (by assumption) | refine Below.setCell ?_ (by simp <;> omega) _ | refine Below.drewN' ?_ _)))).mono ?_
  rintro e w1 ⟨rfl, hb1⟩
  have x1_0_0 : w1.cell? ⟨w.heap.size, 0, none⟩ = some (.slice A o.xs.length ca) := keep_cell hb1 (by simp [go_sem, *])
  have x1_0_1 : w1.cell? ⟨w.heap.size, 1, none⟩ = some (.int .i64 o.e) := keep_cell hb1 (by simp [go_sem, *])
  have y1_0 : w.heap.size < w1.heap.size := cell?_lt x1_0_0
  have x1_1_0 : w1.cell? ⟨w.heap.size + 1, 0, none⟩ = some (.string o.nm) := keep_cell hb1 (by simp [go_sem, *])
  have x1_1_1 : w1.cell? ⟨w.heap.size + 1, 1, none⟩ = some (.int .i64 o.a) := keep_cell hb1 (by simp [go_sem, *])
  have x1_1_2 : w1.cell? ⟨w.heap.size + 1, 2, none⟩ = some (.int .i64 o.b) := keep_cell hb1 (by simp [go_sem, *])
  have x1_1_3 : w1.cell? ⟨w.heap.size + 1, 3, none⟩ = some (.int .i64 o.c) := keep_cell hb1 (by simp [go_sem, *])
  have x1_1_4 : w1.cell? ⟨w.heap.size + 1, 4, none⟩ = some (.slice T o.ts.length ct) := keep_cell hb1 (by simp [go_sem, *])
  have y1_1 : w.heap.size + 1 < w1.heap.size := cell?_lt x1_1_0
  have g1 : Below w.heap.size w w1 := by (repeat (first | exact Below.refl _ _ | refine Below.drew ?_ | refine Below.allocS ?_ _ | refine Below.step ?_ (by assumption) | refine Below.setCell ?_ (by simp <;> omega) _ | refine Below.drewN' ?_ _))
  clear hb1
  go_wp2
  have z0 : w1.cell? ⟨w.heap.size, 0, none⟩ = some (.slice A o.xs.length ca) := by simp [go_sem, *]
  have z1 : w1.cell? ⟨w.heap.size + 1, 3, none⟩ = some (.int .i64 o.c) := by simp [go_sem, *]
  go_loopw [6, 7, 17] (fun u v i wr => ∃ k : Nat, k ≤ o.ts.length ∧ i = .int .i64 k ∧ u = .int .i64 (crS o k) ∧ v = .int .i64 ((crN o k : Nat) : Int) ∧ Below w1.heap.size w1 wr) (fun _ _ i _ => o.ts.length - (intOf i).toNat)
  case atStart => exact ⟨0, Nat.zero_le _, rfl, rfl, rfl, Below.refl _ _⟩
  case round =>
    obtain ⟨k, hk, rfl, rfl, rfl, hbw⟩ := hrel
    have h7 : o.ts.length ≤ 7 := by rw [HF.out.len]; exact HF.out.n7
    have d0 := keep_cell hbw z0
    have d1 := keep_cell hbw z1
    have gw := Below.step g1 hbw
    have hnl := crN_le o k
    have hsb := crS_bd HF.out k hk
    by_cases hlt : k < o.ts.length
    · obtain ⟨b, off, rfl, hb0, hc⟩ := HT.out (by omega)
      have c0 := (gw.cell (p := ⟨b, _, none⟩) hb0).trans (hc k hlt 0 _ rfl)
      simp at c0
      clear hc
      obtain ⟨b2, off2, rfl, hb2, hc⟩ := HX.out (by have := HF.out.len; omega)
      have c1 := (gw.cell (p := ⟨b2, _, none⟩) hb2).trans (hc k (by have := HF.out.len; omega) 0 _ rfl)
      simp at c1
      clear hc
      have e0 : o.ts[k] = o.ts.getD k 0 := by rw [List.getD_eq_getElem?_getD, List.getElem?_eq_getElem hlt]; rfl
      have e1 : o.xs[k]'(by have := HF.out.len; omega) = o.xs.getD k 0 := by rw [List.getD_eq_getElem?_getD, List.getElem?_eq_getElem (by have := HF.out.len; omega)]; rfl
      rw [e0] at c0
      rw [e1] at c1
      clear e0 e1
      have hkx : k < o.xs.length := by have := HF.out.len; omega
      have ht' := HF.out.t k hlt
      have hx' := HF.out.x k (by have := HF.out.len; omega)
      have hp := prod_bd hx'.1 hx'.2 HF.out.c.1 HF.out.c.2
      have HS := Lib.hid (show crS o (k + 1) = if 0 ≤ o.ts.getD k 0 then crS o k + 1000 * o.ts.getD k 0 - o.xs.getD k 0 * o.c else crS o k from rfl)
      have HN := Lib.hid (show crN o (k + 1) = if 0 ≤ o.ts.getD k 0 then crN o k + 1 else crN o k from rfl)
      have y0 : b < wr.heap.size := cell?_lt c0
      have y1 : b2 < wr.heap.size := cell?_lt c1
      have y2 : w.heap.size < wr.heap.size := cell?_lt d0
      have y3 : w.heap.size + 1 < wr.heap.size := cell?_lt d1
      generalize o.ts.getD k 0 = t at *
      generalize o.xs.getD k 0 = x at *
      generalize crS o k = S at *
      generalize crN o k = N at *
      by_cases h0 : 0 ≤ t
      · have v1 : IntKind.i64.wrap (1000 * t) = 1000 * t := IntWalk.i64_in _ (by omega)
        have v3 : IntKind.i64.wrap (x * o.c) = x * o.c := IntWalk.i64_in _ (by omega)
        have v4 : IntKind.i64.wrap (1000 * t - x * o.c) = 1000 * t - x * o.c := IntWalk.i64_in _ (by omega)
        have v5 : IntKind.i64.wrap (S + (1000 * t - x * o.c)) = S + (1000 * t - x * o.c) := IntWalk.i64_in _ (by omega)
        have v6 : IntKind.i64.wrap ((N : Int) + 1) = (N : Int) + 1 := IntWalk.i64_in _ (by omega)
        go_wp2_with fail
        refine region_below (by kernel_rfl) (by kernel_rfl) ?_
        (first | go_big_quiet_skip | (go_big_quiet_want; refine quiet_val (v := ?_) ?_ ?_; rotate_left 1; (· (intro Wq hWq; obtain ⟨hWc, hWf⟩ := bcell hWq; go_simp; (try with_reducible rfl))); go_big_quiet_on; (try simp only [Act.put, List.setIfInBounds_toArray, List.set_cons_zero, List.set_cons_succ])))
        (first | go_big_quiet_skip | (go_big_quiet_want; refine quiet_val (v := ?_) ?_ ?_; rotate_left 1; (· (intro Wq hWq; obtain ⟨hWc, hWf⟩ := bcell hWq; go_simp; (try with_reducible rfl))); go_big_quiet_on; (try simp only [Act.put, List.setIfInBounds_toArray, List.set_cons_zero, List.set_cons_succ])))
        (first | go_big_quiet_skip | (go_big_quiet_want; refine quiet_val (v := ?_) ?_ ?_; rotate_left 1; (· (intro Wq hWq; obtain ⟨hWc, hWf⟩ := bcell hWq; go_simp; (try with_reducible rfl))); go_big_quiet_on; (try simp only [Act.put, List.setIfInBounds_toArray, List.set_cons_zero, List.set_cons_succ])))
        (first | go_big_quiet_skip | (go_big_quiet_want; refine quiet_val (v := ?_) ?_ ?_; rotate_left 1; (· (intro Wq hWq; obtain ⟨hWc, hWf⟩ := bcell hWq; go_simp; (try with_reducible rfl))); go_big_quiet_on; (try simp only [Act.put, List.setIfInBounds_toArray, List.set_cons_zero, List.set_cons_succ])))
        (first | go_big_quiet_skip | (go_big_quiet_want; refine quiet_val (v := ?_) ?_ ?_; rotate_left 1; (· (intro Wq hWq; obtain ⟨hWc, hWf⟩ := bcell hWq; go_simp; (try with_reducible rfl))); go_big_quiet_on; (try simp only [Act.put, List.setIfInBounds_toArray, List.set_cons_zero, List.set_cons_succ])))
        (first | go_big_quiet_skip | (go_big_quiet_want; refine quiet_val (v := ?_) ?_ ?_; rotate_left 1; (· (intro Wq hWq; obtain ⟨hWc, hWf⟩ := bcell hWq; go_simp; (try with_reducible rfl))); go_big_quiet_on; (try simp only [Act.put, List.setIfInBounds_toArray, List.set_cons_zero, List.set_cons_succ])))
        (first | go_big_quiet_skip | (go_big_quiet_want; refine quiet_val (v := ?_) ?_ ?_; rotate_left 1; (· (intro Wq hWq; obtain ⟨hWc, hWf⟩ := bcell hWq; go_simp; (try with_reducible rfl))); go_big_quiet_on; (try simp only [Act.put, List.setIfInBounds_toArray, List.set_cons_zero, List.set_cons_succ])))
        (first | go_big_quiet_skip | (go_big_quiet_want; refine quiet_val (v := ?_) ?_ ?_; rotate_left 1; (· (intro Wq hWq; obtain ⟨hWc, hWf⟩ := bcell hWq; go_simp; (try with_reducible rfl))); go_big_quiet_on; (try simp only [Act.put, List.setIfInBounds_toArray, List.set_cons_zero, List.set_cons_succ])))
        (first | go_big_quiet_skip | (go_big_quiet_want; refine quiet_val (v := ?_) ?_ ?_; rotate_left 1; (· (intro Wq hWq; obtain ⟨hWc, hWf⟩ := bcell hWq; go_simp; (try with_reducible rfl))); go_big_quiet_on; (try simp only [Act.put, List.setIfInBounds_toArray, List.set_cons_zero, List.set_cons_succ])))
        (first | go_big_quiet_skip | (go_big_quiet_want; refine quiet_val (v := ?_) ?_ ?_; rotate_left 1; (· (intro Wq hWq; obtain ⟨hWc, hWf⟩ := bcell hWq; go_simp; (try with_reducible rfl))); go_big_quiet_on; (try simp only [Act.put, List.setIfInBounds_toArray, List.set_cons_zero, List.set_cons_succ])))
        (first | go_big_quiet_skip | (go_big_quiet_want; refine quiet_val (v := ?_) ?_ ?_; rotate_left 1; (· (intro Wq hWq; obtain ⟨hWc, hWf⟩ := bcell hWq; go_simp; (try with_reducible rfl))); go_big_quiet_on; (try simp only [Act.put, List.setIfInBounds_toArray, List.set_cons_zero, List.set_cons_succ])))
        (first | go_big_quiet_skip | (go_big_quiet_want; refine quiet_val (v := ?_) ?_ ?_; rotate_left 1; (· (intro Wq hWq; obtain ⟨hWc, hWf⟩ := bcell hWq; go_simp; (try with_reducible rfl))); go_big_quiet_on; (try simp only [Act.put, List.setIfInBounds_toArray, List.set_cons_zero, List.set_cons_succ])))
        (first | go_big_quiet_skip | (go_big_quiet_want; refine quiet_val (v := ?_) ?_ ?_; rotate_left 1; (· (intro Wq hWq; obtain ⟨hWc, hWf⟩ := bcell hWq; go_simp; (try with_reducible rfl))); go_big_quiet_on; (try simp only [Act.put, List.setIfInBounds_toArray, List.set_cons_zero, List.set_cons_succ])))
        (first | go_big_quiet_skip | (go_big_quiet_want; refine quiet_val (v := ?_) ?_ ?_; rotate_left 1; (· (intro Wq hWq; obtain ⟨hWc, hWf⟩ := bcell hWq; go_simp; (try with_reducible rfl))); go_big_quiet_on; (try simp only [Act.put, List.setIfInBounds_toArray, List.set_cons_zero, List.set_cons_succ])))
        (first | go_big_quiet_skip | (go_big_quiet_want; refine quiet_val (v := ?_) ?_ ?_; rotate_left 1; (· (intro Wq hWq; obtain ⟨hWc, hWf⟩ := bcell hWq; go_simp; (try with_reducible rfl))); go_big_quiet_on; (try simp only [Act.put, List.setIfInBounds_toArray, List.set_cons_zero, List.set_cons_succ])))
        refine wpQuiet_nil ?_; intro w5 hb5
        go_wp2
        go_roundw
        case rel => exact ⟨k + 1, by omega, by go_num, by rw [HS.out, if_pos h0]; congr 1; omega, by rw [HN.out, if_pos h0]; rfl, Below.step hbw hb5⟩
        case measure => simp [intOf]; omega
      · go_wp2
        go_roundw
        case rel => exact ⟨k + 1, by omega, by go_num, by rw [HS.out, if_neg h0], by rw [HN.out, if_neg h0], hbw⟩
        case measure => simp [intOf]; omega
    · obtain rfl : k = o.ts.length := by omega
      have qv := HV.out
      have qb := HB.out
      clear HV HB
      unfold crQ at qv
      generalize crS o o.ts.length = S at *
      generalize crN o o.ts.length = N at *
      by_cases hN : N = 0
      · subst hN
        rw [if_pos rfl] at qv qb
        subst qv
        subst qb
        go_wp2
        go_ret2
        exact ⟨rfl, gw⟩
      · have HD := Lib.hid (fun W => rdown_c S (1000 * (N : Int)) (by omega) (by omega) (by omega) (by omega) W)
        have v1 : IntKind.i64.wrap (1000 * (N : Int)) = 1000 * (N : Int) := IntWalk.i64_in _ (by omega)
        rw [if_neg hN] at qv qb
        subst qv
        subst qb
        go_wp2_with fail
        refine (HD.out _).mono ?_
        rintro e w' ⟨rfl, rfl⟩
        go_wp2
        go_ret2
        exact ⟨rfl, gw⟩
end Go.Proofs.Ytbcabckokmjelaa
namespace Go.Proofs.Ytbcabckokmjelaa
open Go.RowKit
set_option linter.unusedVariables false
set_option linter.unusedSimpArgs false
theorem crE_cases (o : Obs) : crE o = 0 ∧ crV o = crQ o ∧ fitsB o = true ∧ crN o o.ts.length ≠ 0 ∨ (crE o = 1 ∨ crE o = 8) := by
  unfold crE crV
  by_cases h : fitsB o = true
  · rw [if_pos h, if_pos h]
    by_cases hN : crN o o.ts.length = 0
    · rw [if_pos hN]; exact .inr (.inr rfl)
    · rw [if_neg hN, if_neg hN]; exact .inl ⟨rfl, rfl, h, hN⟩
  · rw [if_neg h]; exact .inr (.inl rfl)
theorem Difference_c (o : Obs) (A T : Option Addr) (ca ct : Nat) (w : World) (h : ObsAt o A T w) :
    Calls Try.prog 16 #[.agg #[.slice A o.xs.length ca, .int .i64 o.e], .agg #[.string o.nm, .int .i64 o.a, .int .i64 o.b, .int .i64 o.c, .slice T o.ts.length ct]] w fun r w' => r = .returned (.tuple #[.int .i64 (dfV o), .int .i64 (crE o)]) ∧ Below w.heap.size w w' := by
  have H1 := Lib.hid (fun W hb => Crossing_c o A T ca ct W (h.step hb))
  clear h
  rcases crE_cases o with ⟨e0, e1, hf, hN⟩ | hE
  · unfold dfV
    rw [if_pos e0]
    rw [e0, e1] at H1
    rw [e0]
    have hq := crQ_bd (fits_at hf) hN
    have ha := (fits_at hf).a
    clear hf hN e0 e1
    generalize crQ o = Q at *
    have HD := Lib.hid (fun W => folded_c (o.a - Q) (by omega) (by omega) W)
    have v1 : IntKind.i64.wrap (o.a - Q) = o.a - Q := IntWalk.i64_in _ (by omega)
    go_enter Try.func16, Try.ntmps16
    go_wp2_with fail
    refine (H1.out _ (by (repeat (first | exact Below.refl _ _ | refine Below.drew ?_ | refine Below.allocS ?_ _ | refine Below.step ?_ (by assumption) | refine Below.setCell ?_ (by simp <;> omega) _ | refine Below.drewN' ?_ _)))).mono ?_
    rintro e w1 ⟨rfl, hb1⟩
    have x1_0_0 : w1.cell? ⟨w.heap.size, 0, none⟩ = some (.slice A o.xs.length ca) := keep_cell hb1 (by simp [go_sem, *])
    have x1_0_1 : w1.cell? ⟨w.heap.size, 1, none⟩ = some (.int .i64 o.e) := keep_cell hb1 (by simp [go_sem, *])
    have y1_0 : w.heap.size < w1.heap.size := cell?_lt x1_0_0
    have x1_1_0 : w1.cell? ⟨w.heap.size + 1, 0, none⟩ = some (.string o.nm) := keep_cell hb1 (by simp [go_sem, *])
    have x1_1_1 : w1.cell? ⟨w.heap.size + 1, 1, none⟩ = some (.int .i64 o.a) := keep_cell hb1 (by simp [go_sem, *])
    have x1_1_2 : w1.cell? ⟨w.heap.size + 1, 2, none⟩ = some (.int .i64 o.b) := keep_cell hb1 (by simp [go_sem, *])
    have x1_1_3 : w1.cell? ⟨w.heap.size + 1, 3, none⟩ = some (.int .i64 o.c) := keep_cell hb1 (by simp [go_sem, *])
    have x1_1_4 : w1.cell? ⟨w.heap.size + 1, 4, none⟩ = some (.slice T o.ts.length ct) := keep_cell hb1 (by simp [go_sem, *])
    have y1_1 : w.heap.size + 1 < w1.heap.size := cell?_lt x1_1_0
    have g1 : Below w.heap.size w w1 := by (repeat (first | exact Below.refl _ _ | refine Below.drew ?_ | refine Below.allocS ?_ _ | refine Below.step ?_ (by assumption) | refine Below.setCell ?_ (by simp <;> omega) _ | refine Below.drewN' ?_ _))
    clear hb1
    go_wp2_with fail
    refine (HD.out _).mono ?_
    rintro e w' ⟨rfl, hw'⟩; replace hw' := hw'.symm; subst hw'
    go_wp2
    go_ret2
    exact ⟨rfl, by (repeat (first | exact Below.refl _ _ | refine Below.drew ?_ | refine Below.allocS ?_ _ | refine Below.step ?_ (by assumption) | refine Below.setCell ?_ (by simp <;> omega) _ | refine Below.drewN' ?_ _))⟩
  · have e0 : dfV o = 0 := by unfold dfV; rw [if_neg (by omega)]
    rw [e0]
    clear e0
    generalize crV o = V at *
    rcases hE with hE | hE
    all_goals
      rw [hE]
      rw [hE] at H1
      clear hE
      go_enter Try.func16, Try.ntmps16
      go_wp2_with fail
      refine (H1.out _ (by (repeat (first | exact Below.refl _ _ | refine Below.drew ?_ | refine Below.allocS ?_ _ | refine Below.step ?_ (by assumption) | refine Below.setCell ?_ (by simp <;> omega) _ | refine Below.drewN' ?_ _)))).mono ?_
      rintro e w1 ⟨rfl, hb1⟩
      have x1_0_0 : w1.cell? ⟨w.heap.size, 0, none⟩ = some (.slice A o.xs.length ca) := keep_cell hb1 (by simp [go_sem, *])
      have x1_0_1 : w1.cell? ⟨w.heap.size, 1, none⟩ = some (.int .i64 o.e) := keep_cell hb1 (by simp [go_sem, *])
      have y1_0 : w.heap.size < w1.heap.size := cell?_lt x1_0_0
      have x1_1_0 : w1.cell? ⟨w.heap.size + 1, 0, none⟩ = some (.string o.nm) := keep_cell hb1 (by simp [go_sem, *])
      have x1_1_1 : w1.cell? ⟨w.heap.size + 1, 1, none⟩ = some (.int .i64 o.a) := keep_cell hb1 (by simp [go_sem, *])
      have x1_1_2 : w1.cell? ⟨w.heap.size + 1, 2, none⟩ = some (.int .i64 o.b) := keep_cell hb1 (by simp [go_sem, *])
      have x1_1_3 : w1.cell? ⟨w.heap.size + 1, 3, none⟩ = some (.int .i64 o.c) := keep_cell hb1 (by simp [go_sem, *])
      have x1_1_4 : w1.cell? ⟨w.heap.size + 1, 4, none⟩ = some (.slice T o.ts.length ct) := keep_cell hb1 (by simp [go_sem, *])
      have y1_1 : w.heap.size + 1 < w1.heap.size := cell?_lt x1_1_0
      have g1 : Below w.heap.size w w1 := by (repeat (first | exact Below.refl _ _ | refine Below.drew ?_ | refine Below.allocS ?_ _ | refine Below.step ?_ (by assumption) | refine Below.setCell ?_ (by simp <;> omega) _ | refine Below.drewN' ?_ _))
      clear hb1
      go_wp2
      go_ret2
      exact ⟨rfl, by (repeat (first | exact Below.refl _ _ | refine Below.drew ?_ | refine Below.allocS ?_ _ | refine Below.step ?_ (by assumption) | refine Below.setCell ?_ (by simp <;> omega) _ | refine Below.drewN' ?_ _))⟩
theorem rDifference_c (o : Obs) (A T : Option Addr) (ca ct : Nat) (w : World) (h : ObsAt o A T w) :
    Calls Try.prog 17 #[.agg #[.slice A o.xs.length ca, .int .i64 o.e], .agg #[.string o.nm, .int .i64 o.a, .int .i64 o.b, .int .i64 o.c, .slice T o.ts.length ct]] w fun r w' => r = .returned (.tuple #[.int .i64 (dfV o), .int .i64 (crE o)]) ∧ Below w.heap.size w w' := by
  have H1 := Lib.hid (fun W hb => rCrossing_c o A T ca ct W (h.step hb))
  clear h
  rcases crE_cases o with ⟨e0, e1, hf, hN⟩ | hE
  · unfold dfV
    rw [if_pos e0]
    rw [e0, e1] at H1
    rw [e0]
    have hq := crQ_bd (fits_at hf) hN
    have ha := (fits_at hf).a
    clear hf hN e0 e1
    generalize crQ o = Q at *
    have HD := Lib.hid (fun W => rfolded_c (o.a - Q) (by omega) (by omega) W)
    have v1 : IntKind.i64.wrap (o.a - Q) = o.a - Q := IntWalk.i64_in _ (by omega)
    go_enter Try.func17, Try.ntmps17
    go_wp2_with fail
    refine (H1.out _ (by (repeat (first | exact Below.refl _ _ | refine Below.drew ?_ | refine Below.allocS ?_ _ | refine Below.step ?_ (by assumption) | refine Below.setCell ?_ (by simp <;> omega) _ | refine Below.drewN' ?_ _)))).mono ?_
    rintro e w1 ⟨rfl, hb1⟩
    have x1_0_0 : w1.cell? ⟨w.heap.size, 0, none⟩ = some (.slice A o.xs.length ca) := keep_cell hb1 (by simp [go_sem, *])
    have x1_0_1 : w1.cell? ⟨w.heap.size, 1, none⟩ = some (.int .i64 o.e) := keep_cell hb1 (by simp [go_sem, *])
    have y1_0 : w.heap.size < w1.heap.size := cell?_lt x1_0_0
    have x1_1_0 : w1.cell? ⟨w.heap.size + 1, 0, none⟩ = some (.string o.nm) := keep_cell hb1 (by simp [go_sem, *])
    have x1_1_1 : w1.cell? ⟨w.heap.size + 1, 1, none⟩ = some (.int .i64 o.a) := keep_cell hb1 (by simp [go_sem, *])
    have x1_1_2 : w1.cell? ⟨w.heap.size + 1, 2, none⟩ = some (.int .i64 o.b) := keep_cell hb1 (by simp [go_sem, *])
    have x1_1_3 : w1.cell? ⟨w.heap.size + 1, 3, none⟩ = some (.int .i64 o.c) := keep_cell hb1 (by simp [go_sem, *])
    have x1_1_4 : w1.cell? ⟨w.heap.size + 1, 4, none⟩ = some (.slice T o.ts.length ct) := keep_cell hb1 (by simp [go_sem, *])
    have y1_1 : w.heap.size + 1 < w1.heap.size := cell?_lt x1_1_0
    have g1 : Below w.heap.size w w1 := by (repeat (first | exact Below.refl _ _ | refine Below.drew ?_ | refine Below.allocS ?_ _ | refine Below.step ?_ (by assumption) | refine Below.setCell ?_ (by simp <;> omega) _ | refine Below.drewN' ?_ _))
    clear hb1
    go_wp2_with fail
    refine (HD.out _).mono ?_
    rintro e w' ⟨rfl, hw'⟩; replace hw' := hw'.symm; subst hw'
    go_wp2
    go_ret2
    exact ⟨rfl, by (repeat (first | exact Below.refl _ _ | refine Below.drew ?_ | refine Below.allocS ?_ _ | refine Below.step ?_ (by assumption) | refine Below.setCell ?_ (by simp <;> omega) _ | refine Below.drewN' ?_ _))⟩
  · have e0 : dfV o = 0 := by unfold dfV; rw [if_neg (by omega)]
    rw [e0]
    clear e0
    generalize crV o = V at *
    rcases hE with hE | hE
    all_goals
      rw [hE]
      rw [hE] at H1
      clear hE
      go_enter Try.func17, Try.ntmps17
      go_wp2_with fail
      refine (H1.out _ (by (repeat (first | exact Below.refl _ _ | refine Below.drew ?_ | refine Below.allocS ?_ _ | refine Below.step ?_ (by assumption) | refine Below.setCell ?_ (by simp <;> omega) _ | refine Below.drewN' ?_ _)))).mono ?_
      rintro e w1 ⟨rfl, hb1⟩
      have x1_0_0 : w1.cell? ⟨w.heap.size, 0, none⟩ = some (.slice A o.xs.length ca) := keep_cell hb1 (by simp [go_sem, *])
      have x1_0_1 : w1.cell? ⟨w.heap.size, 1, none⟩ = some (.int .i64 o.e) := keep_cell hb1 (by simp [go_sem, *])
      have y1_0 : w.heap.size < w1.heap.size := cell?_lt x1_0_0
      have x1_1_0 : w1.cell? ⟨w.heap.size + 1, 0, none⟩ = some (.string o.nm) := keep_cell hb1 (by simp [go_sem, *])
      have x1_1_1 : w1.cell? ⟨w.heap.size + 1, 1, none⟩ = some (.int .i64 o.a) := keep_cell hb1 (by simp [go_sem, *])
      have x1_1_2 : w1.cell? ⟨w.heap.size + 1, 2, none⟩ = some (.int .i64 o.b) := keep_cell hb1 (by simp [go_sem, *])
      have x1_1_3 : w1.cell? ⟨w.heap.size + 1, 3, none⟩ = some (.int .i64 o.c) := keep_cell hb1 (by simp [go_sem, *])
      have x1_1_4 : w1.cell? ⟨w.heap.size + 1, 4, none⟩ = some (.slice T o.ts.length ct) := keep_cell hb1 (by simp [go_sem, *])
      have y1_1 : w.heap.size + 1 < w1.heap.size := cell?_lt x1_1_0
      have g1 : Below w.heap.size w w1 := by (repeat (first | exact Below.refl _ _ | refine Below.drew ?_ | refine Below.allocS ?_ _ | refine Below.step ?_ (by assumption) | refine Below.setCell ?_ (by simp <;> omega) _ | refine Below.drewN' ?_ _))
      clear hb1
      go_wp2
      go_ret2
      exact ⟨rfl, by (repeat (first | exact Below.refl _ _ | refine Below.drew ?_ | refine Below.allocS ?_ _ | refine Below.step ?_ (by assumption) | refine Below.setCell ?_ (by simp <;> omega) _ | refine Below.drewN' ?_ _))⟩
end Go.Proofs.Ytbcabckokmjelaa
namespace Go.Proofs.Ytbcabckokmjelaa
open Go.RowKit
set_option linter.unusedVariables false
set_option linter.unusedSimpArgs false
def WideR (n : Nat) (r : Ending) : Prop := ∃ X : Bool, r = .returned (.bool X) ∧ (X = false → n ≤ 8 ∨ 13 ≤ n ∧ n ≤ 50)
theorem wide_c (x : Tb) (l : List Tr) (A : Option Addr) (cap : Nat) (w : World) (hx : TbAt w x) (hl : l.length ≤ cap) (hm : cap ≤ maxLen) (hr : RdL w w.heap.size trE 5 A l) :
    Calls Try.prog 12 #[.agg #[.slice x.A x.xs.length x.ca, .int .i64 x.e], .slice A l.length cap] w fun r w' => WideR l.length r ∧ Below w.heap.size w w' := by
  have hml : l.length ≤ 9223372036854775807 := by unfold maxLen at hm; omega
  clear hl hm hx
  have HR := Lib.hid hr
  clear hr
  go_enter Try.func12, Try.ntmps12
  go_wp2
  obtain ⟨W0, hW0⟩ : ∃ W, W = w.alloc (.cells #[.slice x.A x.xs.length x.ca, .int .i64 x.e] 24) := ⟨_, rfl⟩
  have g0 : Below w.heap.size w W0 := by rw [hW0]; (repeat (first | exact Below.refl _ _ | refine Below.drew ?_ | refine Below.allocS ?_ _ | refine Below.step ?_ (by assumption) | refine Below.setCell ?_ (by simp <;> omega) _ | refine Below.drewN' ?_ _))
  rw [← hW0]
  clear hW0
  go_loopw [5, 13] (fun u i wr => ∃ (k : Nat) (z : Int), k ≤ l.length ∧ i = .int .i64 k ∧ u = .int .i64 z ∧ Below W0.heap.size W0 wr) (fun _ i _ => l.length - (intOf i).toNat)
  case atStart => exact ⟨0, _, Nat.zero_le _, rfl, rfl, Below.refl _ _⟩
  case round =>
    obtain ⟨k, z, hk, rfl, rfl, hbw⟩ := hrel
    have gw := Below.step g0 hbw
    by_cases hlt : k < l.length
    · obtain ⟨b, off, rfl, hb0, hc⟩ := HR.out (by omega)
      have c0 := (gw.cell (p := ⟨b, _, none⟩) hb0).trans (hc k hlt 0 _ rfl)
      have c1 := (gw.cell (p := ⟨b, _, none⟩) hb0).trans (hc k hlt 1 _ rfl)
      have c2 := (gw.cell (p := ⟨b, _, none⟩) hb0).trans (hc k hlt 2 _ rfl)
      have c3 := (gw.cell (p := ⟨b, _, none⟩) hb0).trans (hc k hlt 3 _ rfl)
      have c4 := (gw.cell (p := ⟨b, _, none⟩) hb0).trans (hc k hlt 4 _ rfl)
      clear hc
      simp at c0
      have y0 : b < wr.heap.size := cell?_lt c0
      generalize l[k] = t at *
      go_wp2
      go_roundw
      case rel => exact ⟨k + 1, _, by omega, by go_num, rfl, Below.step hbw (by (repeat (first | exact Below.refl _ _ | refine Below.drew ?_ | refine Below.allocS ?_ _ | refine Below.step ?_ (by assumption) | refine Below.setCell ?_ (by simp <;> omega) _ | refine Below.drewN' ?_ _)))⟩
      case measure => simp [intOf]; omega
    · obtain rfl : k = l.length := by omega
      clear HR
      by_cases h1 : z > 1000
      · go_wp2
        go_ret
        exact ⟨⟨_, rfl, by simp⟩, gw⟩
      · by_cases h2 : l.length > 8
        · by_cases h3 : l.length ≤ 12
          · go_wp2
            go_ret
            exact ⟨⟨_, rfl, by simp⟩, gw⟩
          · by_cases h4 : l.length > 50
            · go_wp2
              go_ret
              exact ⟨⟨_, rfl, by simp; omega⟩, gw⟩
            · go_wp2
              go_ret
              exact ⟨⟨_, rfl, by intro _; omega⟩, gw⟩
        · have h4 : ¬ l.length > 50 := by omega
          go_wp2
          go_ret
          exact ⟨⟨_, rfl, by intro _; omega⟩, gw⟩
def awO : Obs := ⟨[-10000, 0, 10000], 0, ⟨#[97]⟩, 0, 0, 2000, [80000, -1, 120000]⟩
theorem awO_1 : crV awO = 100000 := by decide +kernel
theorem awO_2 : crE awO = 0 := by decide +kernel
theorem RdL.three {w : World} {b : Nat} {x y z : Int} (h0 : w.cell? ⟨b, 0, none⟩ = some (.int .i64 x)) (h1 : w.cell? ⟨b, 1, none⟩ = some (.int .i64 y)) (h2 : w.cell? ⟨b, 2, none⟩ = some (.int .i64 z)) : RdL w w.heap.size inE 1 (some ⟨b, 0, none⟩) [x, y, z] := by
  intro _
  refine ⟨b, 0, rfl, cell?_lt h0, fun i hi j v hv => ?_⟩
  have hj : j < 1 := (List.getElem?_eq_some_iff.1 hv).1
  obtain rfl : j = 0 := by omega
  simp [inE] at hv
  subst hv
  match i, hi with
  | 0, _ => simpa using h0
  | 1, _ => simpa using h1
  | 2, _ => simpa using h2
theorem awake_c (w : World) : Calls Try.prog 13 #[] w fun e w' => e = .returned (.bool true) ∧ Below w.heap.size w w' := by
  have H1 := Lib.hid (fun A T ca ct W h => awO_1 ▸ awO_2 ▸ Crossing_c awO A T ca ct W h)
  have H2 := Lib.hid (fun W => Folded_c 43200000 W)
  rw [show foV 43200000 = -43200000 from by decide +kernel, show foE 43200000 = 0 from by decide +kernel] at H2
  go_enter Try.func13, Try.ntmps13
  go_wp2_with fail
  refine (H1.out (some ⟨w.heap.size, 0, none⟩) (some ⟨w.heap.size + 2, 0, none⟩) 3 3 _ ⟨by decide, by decide, by decide, RdL.three (by simp [go_sem, *]) (by simp [go_sem, *]) (by simp [go_sem, *]), RdL.three (by simp [go_sem, *]) (by simp [go_sem, *]) (by simp [go_sem, *])⟩).mono ?_
  rintro e w1 ⟨rfl, hb1⟩
  have x1_0_0 : w1.cell? ⟨w.heap.size, 0, none⟩ = some (.int .i64 (-10000)) := keep_cell hb1 (by simp [go_sem, *])
  have x1_0_1 : w1.cell? ⟨w.heap.size, 1, none⟩ = some (.int .i64 0) := keep_cell hb1 (by simp [go_sem, *])
  have x1_0_2 : w1.cell? ⟨w.heap.size, 2, none⟩ = some (.int .i64 10000) := keep_cell hb1 (by simp [go_sem, *])
  have y1_0 : w.heap.size < w1.heap.size := cell?_lt x1_0_0
  have x1_1_0 : w1.cell? ⟨w.heap.size + 1, 0, none⟩ = some (.slice (some ⟨w.heap.size, 0, none⟩) 3 3) := keep_cell hb1 (by simp [go_sem, *])
  have x1_1_1 : w1.cell? ⟨w.heap.size + 1, 1, none⟩ = some (.int .i64 0) := keep_cell hb1 (by simp [go_sem, *])
  have y1_1 : w.heap.size + 1 < w1.heap.size := cell?_lt x1_1_0
  have x1_2_0 : w1.cell? ⟨w.heap.size + 2, 0, none⟩ = some (.int .i64 80000) := keep_cell hb1 (by simp [go_sem, *])
  have x1_2_1 : w1.cell? ⟨w.heap.size + 2, 1, none⟩ = some (.int .i64 (-1)) := keep_cell hb1 (by simp [go_sem, *])
  have x1_2_2 : w1.cell? ⟨w.heap.size + 2, 2, none⟩ = some (.int .i64 120000) := keep_cell hb1 (by simp [go_sem, *])
  have y1_2 : w.heap.size + 2 < w1.heap.size := cell?_lt x1_2_0
  have g1 : Below w.heap.size w w1 := by (repeat (first | exact Below.refl _ _ | refine Below.drew ?_ | refine Below.allocS ?_ _ | refine Below.step ?_ (by assumption) | refine Below.setCell ?_ (by simp <;> omega) _ | refine Below.drewN' ?_ _))
  clear hb1
  go_wp2_with fail
  refine (H2.out _).mono ?_
  rintro e w' ⟨rfl, hw'⟩; replace hw' := hw'.symm; subst hw'
  go_wp2
  go_ret
  exact ⟨rfl, by (repeat (first | exact Below.refl _ _ | refine Below.drew ?_ | refine Below.allocS ?_ _ | refine Below.step ?_ (by assumption) | refine Below.setCell ?_ (by simp <;> omega) _ | refine Below.drewN' ?_ _))⟩
end Go.Proofs.Ytbcabckokmjelaa
