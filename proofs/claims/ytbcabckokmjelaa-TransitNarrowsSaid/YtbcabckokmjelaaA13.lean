/-
  Crossing of the reference.
-/
import Derived.Test.YtbcabckokmjelaaA12
namespace Go.Proofs.Ytbcabckokmjelaa
open Go.RowKit
set_option linter.unusedVariables false
set_option linter.unusedSimpArgs false
theorem rCrossing_c (o : Obs) (A T : Option Addr) (ca ct : Nat) (w : World) (h : ObsAt o A T w) :
    Calls Try.prog 15 #[.agg #[.slice A o.xs.length ca, .int .i64 o.e], .agg #[.string o.nm, .int .i64 o.a, .int .i64 o.b, .int .i64 o.c, .slice T o.ts.length ct]] w fun r w' => r = .returned (.tuple #[.int .i64 (crV o), .int .i64 (crE o)]) ∧ Below w.heap.size w w' := by
  have H1 := Lib.hid (fun W hb => rFits_c o A T ca ct W (h.step hb))
  unfold crV crE
  cases hf : fitsB o
  · rw [hf] at H1
    clear hf h
    go_enter Try.func15, Try.ntmps15
    go_wp2_with fail
    refine (H1.out _ (by (repeat (first | exact Below.refl _ _ | refine Below.drew ?_ | refine Below.allocS ?_ _ | refine Below.step ?_ (by assumption) | refine Below.setCell ?_ (by simp <;> omega) _ | refine Below.drewN' ?_ _)))).mono ?_
    rintro e w1 ⟨rfl, hb1⟩
    have x1_0_0 : w1.cell? ⟨w.heap.size, 0, none⟩ = some (.slice A o.xs.length ca) := keep_cell hb1 (by simp [go_sem, *])
    have x1_0_1 : w1.cell? ⟨w.heap.size, 1, none⟩ = some (.int .i64 o.e) := keep_cell hb1 (by simp [go_sem, *])
    have y1_0 : w.heap.size < w1.heap.size := cell?_lt x1_0_0
    have x1_1_0 : w1.cell? ⟨w.heap.size + 1, 0, none⟩ = some (.string o.nm) := keep_cell hb1 (by simp [go_sem, *])
    have x1_1_1 : w1.cell? ⟨w.heap.size + 1, 1, none⟩ = some (.int .i64 o.a) := keep_cell hb1 (by simp [go_sem, *])
    have x1_1_2 : w1.cell? ⟨w.heap.size + 1, 2, none⟩ = some (.int .i64 o.b) := keep_cell hb1 (by simp [go_sem, *])
    have x1_1_3 : w1.cell? ⟨w.heap.size + 1, 3, none⟩ = some (.int .i64 o.c) := keep_cell hb1 (by simp [go_sem, *])
    have x1_1_4 : w1.cell? ⟨w.heap.size + 1, 4, none⟩ = some (.slice T o.ts.length ct) := keep_cell hb1 (by simp [go_sem, *])
    have y1_1 : w.heap.size + 1 < w1.heap.size := cell?_lt x1_1_0
    have g1 : Below w.heap.size w w1 := by (repeat (first | exact Below.refl _ _ | refine Below.drew ?_ | refine Below.allocS ?_ _ | refine Below.step ?_ (by assumption) | refine Below.setCell ?_ (by simp <;> omega) _ | refine Below.drewN' ?_ _))
    clear hb1
    go_wp2
    go_ret2
    exact ⟨rfl, by (repeat (first | exact Below.refl _ _ | refine Below.drew ?_ | refine Below.allocS ?_ _ | refine Below.step ?_ (by assumption) | refine Below.setCell ?_ (by simp <;> omega) _ | refine Below.drewN' ?_ _))⟩
  have HF := Lib.hid (fits_at hf)
  rw [hf] at H1
  clear hf
  obtain ⟨V, hV⟩ : ∃ V, V = (if crN o o.ts.length = 0 then 0 else crQ o) := ⟨_, rfl⟩
  obtain ⟨B, hB⟩ : ∃ B : Int, B = if crN o o.ts.length = 0 then 8 else 0 := ⟨_, rfl⟩
  rw [← hV, ← hB, if_pos rfl, if_pos rfl]
  have HV := Lib.hid hV
  have HB := Lib.hid hB
  clear hV hB
  obtain ⟨hn, hx, ht, rx, rt⟩ := h
  have HX := Lib.hid rx
  have HT := Lib.hid rt
  clear rx rt
  go_enter Try.func15, Try.ntmps15
  go_wp2_with fail
  refine (H1.out _ (by (repeat (first | exact Below.refl _ _ | refine Below.drew ?_ | refine Below.allocS ?_ _ | refine Below.step ?_ (by assumption) | refine Below.setCell ?_ (by simp <;> omega) _ | refine Below.drewN' ?_ _)))).mono ?_
  rintro e w1 ⟨rfl, hb1⟩
  have x1_0_0 : w1.cell? ⟨w.heap.size, 0, none⟩ = some (.slice A o.xs.length ca) := keep_cell hb1 (by simp [go_sem, *])
  have x1_0_1 : w1.cell? ⟨w.heap.size, 1, none⟩ = some (.int .i64 o.e) := keep_cell hb1 (by simp [go_sem, *])
  have y1_0 : w.heap.size < w1.heap.size := cell?_lt x1_0_0
  have x1_1_0 : w1.cell? ⟨w.heap.size + 1, 0, none⟩ = some (.string o.nm) := keep_cell hb1 (by simp [go_sem, *])
  have x1_1_1 : w1.cell? ⟨w.heap.size + 1, 1, none⟩ = some (.int .i64 o.a) := keep_cell hb1 (by simp [go_sem, *])
  have x1_1_2 : w1.cell? ⟨w.heap.size + 1, 2, none⟩ = some (.int .i64 o.b) := keep_cell hb1 (by simp [go_sem, *])
  have x1_1_3 : w1.cell? ⟨w.heap.size + 1, 3, none⟩ = some (.int .i64 o.c) := keep_cell hb1 (by simp [go_sem, *])
  have x1_1_4 : w1.cell? ⟨w.heap.size + 1, 4, none⟩ = some (.slice T o.ts.length ct) := keep_cell hb1 (by simp [go_sem, *])
  have y1_1 : w.heap.size + 1 < w1.heap.size := cell?_lt x1_1_0
  have g1 : Below w.heap.size w w1 := by (repeat (first | exact Below.refl _ _ | refine Below.drew ?_ | refine Below.allocS ?_ _ | refine Below.step ?_ (by assumption) | refine Below.setCell ?_ (by simp <;> omega) _ | refine Below.drewN' ?_ _))
  clear hb1
  go_wp2
  have z0 : w1.cell? ⟨w.heap.size, 0, none⟩ = some (.slice A o.xs.length ca) := by simp [go_sem, *]
  have z1 : w1.cell? ⟨w.heap.size + 1, 3, none⟩ = some (.int .i64 o.c) := by simp [go_sem, *]
  go_loopw [6, 7, 17] (fun u v i wr => ∃ k : Nat, k ≤ o.ts.length ∧ i = .int .i64 k ∧ u = .int .i64 (crS o k) ∧ v = .int .i64 ((crN o k : Nat) : Int) ∧ Below w1.heap.size w1 wr) (fun _ _ i _ => o.ts.length - (intOf i).toNat)
  case atStart => exact ⟨0, Nat.zero_le _, rfl, rfl, rfl, Below.refl _ _⟩
  case round =>
    obtain ⟨k, hk, rfl, rfl, rfl, hbw⟩ := hrel
    have h7 : o.ts.length ≤ 7 := by rw [HF.out.len]; exact HF.out.n7
    have d0 := keep_cell hbw z0
    have d1 := keep_cell hbw z1
    have gw := Below.step g1 hbw
    have hnl := crN_le o k
    have hsb := crS_bd HF.out k hk
    by_cases hlt : k < o.ts.length
    · obtain ⟨b, off, rfl, hb0, hc⟩ := HT.out (by omega)
      have c0 := (gw.cell (p := ⟨b, _, none⟩) hb0).trans (hc k hlt 0 _ rfl)
      simp at c0
      clear hc
      obtain ⟨b2, off2, rfl, hb2, hc⟩ := HX.out (by have := HF.out.len; omega)
      have c1 := (gw.cell (p := ⟨b2, _, none⟩) hb2).trans (hc k (by have := HF.out.len; omega) 0 _ rfl)
      simp at c1
      clear hc
      have e0 : o.ts[k] = o.ts.getD k 0 := by rw [List.getD_eq_getElem?_getD, List.getElem?_eq_getElem hlt]; rfl
      have e1 : o.xs[k]'(by have := HF.out.len; omega) = o.xs.getD k 0 := by rw [List.getD_eq_getElem?_getD, List.getElem?_eq_getElem (by have := HF.out.len; omega)]; rfl
      rw [e0] at c0
      rw [e1] at c1
      clear e0 e1
      have hkx : k < o.xs.length := by have := HF.out.len; omega
      have ht' := HF.out.t k hlt
      have hx' := HF.out.x k (by have := HF.out.len; omega)
      have hp := prod_bd hx'.1 hx'.2 HF.out.c.1 HF.out.c.2
      have HS := Lib.hid (show crS o (k + 1) = if 0 ≤ o.ts.getD k 0 then crS o k + 1000 * o.ts.getD k 0 - o.xs.getD k 0 * o.c else crS o k from rfl)
      have HN := Lib.hid (show crN o (k + 1) = if 0 ≤ o.ts.getD k 0 then crN o k + 1 else crN o k from rfl)
      have y0 : b < wr.heap.size := cell?_lt c0
      have y1 : b2 < wr.heap.size := cell?_lt c1
      have y2 : w.heap.size < wr.heap.size := cell?_lt d0
      have y3 : w.heap.size + 1 < wr.heap.size := cell?_lt d1
      generalize o.ts.getD k 0 = t at *
      generalize o.xs.getD k 0 = x at *
      generalize crS o k = S at *
      generalize crN o k = N at *
      by_cases h0 : 0 ≤ t
      · have v1 : IntKind.i64.wrap (1000 * t) = 1000 * t := IntWalk.i64_in _ (by omega)
        have v3 : IntKind.i64.wrap (x * o.c) = x * o.c := IntWalk.i64_in _ (by omega)
        have v4 : IntKind.i64.wrap (1000 * t - x * o.c) = 1000 * t - x * o.c := IntWalk.i64_in _ (by omega)
        have v5 : IntKind.i64.wrap (S + (1000 * t - x * o.c)) = S + (1000 * t - x * o.c) := IntWalk.i64_in _ (by omega)
        have v6 : IntKind.i64.wrap ((N : Int) + 1) = (N : Int) + 1 := IntWalk.i64_in _ (by omega)
        go_wp2_with fail
        refine region_below (by kernel_rfl) (by kernel_rfl) ?_
        (first | go_big_quiet_skip | (go_big_quiet_want; refine quiet_val (v := ?_) ?_ ?_; rotate_left 1; (· (intro Wq hWq; obtain ⟨hWc, hWf⟩ := bcell hWq; go_simp; (try with_reducible rfl))); go_big_quiet_on; (try simp only [Act.put, List.setIfInBounds_toArray, List.set_cons_zero, List.set_cons_succ])))
        (first | go_big_quiet_skip | (go_big_quiet_want; refine quiet_val (v := ?_) ?_ ?_; rotate_left 1; (· (intro Wq hWq; obtain ⟨hWc, hWf⟩ := bcell hWq; go_simp; (try with_reducible rfl))); go_big_quiet_on; (try simp only [Act.put, List.setIfInBounds_toArray, List.set_cons_zero, List.set_cons_succ])))
        (first | go_big_quiet_skip | (go_big_quiet_want; refine quiet_val (v := ?_) ?_ ?_; rotate_left 1; (· (intro Wq hWq; obtain ⟨hWc, hWf⟩ := bcell hWq; go_simp; (try with_reducible rfl))); go_big_quiet_on; (try simp only [Act.put, List.setIfInBounds_toArray, List.set_cons_zero, List.set_cons_succ])))
        (first | go_big_quiet_skip | (go_big_quiet_want; refine quiet_val (v := ?_) ?_ ?_; rotate_left 1; (· (intro Wq hWq; obtain ⟨hWc, hWf⟩ := bcell hWq; go_simp; (try with_reducible rfl))); go_big_quiet_on; (try simp only [Act.put, List.setIfInBounds_toArray, List.set_cons_zero, List.set_cons_succ])))
        (first | go_big_quiet_skip | (go_big_quiet_want; refine quiet_val (v := ?_) ?_ ?_; rotate_left 1; (· (intro Wq hWq; obtain ⟨hWc, hWf⟩ := bcell hWq; go_simp; (try with_reducible rfl))); go_big_quiet_on; (try simp only [Act.put, List.setIfInBounds_toArray, List.set_cons_zero, List.set_cons_succ])))
        (first | go_big_quiet_skip | (go_big_quiet_want; refine quiet_val (v := ?_) ?_ ?_; rotate_left 1; (· (intro Wq hWq; obtain ⟨hWc, hWf⟩ := bcell hWq; go_simp; (try with_reducible rfl))); go_big_quiet_on; (try simp only [Act.put, List.setIfInBounds_toArray, List.set_cons_zero, List.set_cons_succ])))
        (first | go_big_quiet_skip | (go_big_quiet_want; refine quiet_val (v := ?_) ?_ ?_; rotate_left 1; (· (intro Wq hWq; obtain ⟨hWc, hWf⟩ := bcell hWq; go_simp; (try with_reducible rfl))); go_big_quiet_on; (try simp only [Act.put, List.setIfInBounds_toArray, List.set_cons_zero, List.set_cons_succ])))
        (first | go_big_quiet_skip | (go_big_quiet_want; refine quiet_val (v := ?_) ?_ ?_; rotate_left 1; (· (intro Wq hWq; obtain ⟨hWc, hWf⟩ := bcell hWq; go_simp; (try with_reducible rfl))); go_big_quiet_on; (try simp only [Act.put, List.setIfInBounds_toArray, List.set_cons_zero, List.set_cons_succ])))
        (first | go_big_quiet_skip | (go_big_quiet_want; refine quiet_val (v := ?_) ?_ ?_; rotate_left 1; (· (intro Wq hWq; obtain ⟨hWc, hWf⟩ := bcell hWq; go_simp; (try with_reducible rfl))); go_big_quiet_on; (try simp only [Act.put, List.setIfInBounds_toArray, List.set_cons_zero, List.set_cons_succ])))
        (first | go_big_quiet_skip | (go_big_quiet_want; refine quiet_val (v := ?_) ?_ ?_; rotate_left 1; (· (intro Wq hWq; obtain ⟨hWc, hWf⟩ := bcell hWq; go_simp; (try with_reducible rfl))); go_big_quiet_on; (try simp only [Act.put, List.setIfInBounds_toArray, List.set_cons_zero, List.set_cons_succ])))
        (first | go_big_quiet_skip | (go_big_quiet_want; refine quiet_val (v := ?_) ?_ ?_; rotate_left 1; (· (intro Wq hWq; obtain ⟨hWc, hWf⟩ := bcell hWq; go_simp; (try with_reducible rfl))); go_big_quiet_on; (try simp only [Act.put, List.setIfInBounds_toArray, List.set_cons_zero, List.set_cons_succ])))
        (first | go_big_quiet_skip | (go_big_quiet_want; refine quiet_val (v := ?_) ?_ ?_; rotate_left 1; (· (intro Wq hWq; obtain ⟨hWc, hWf⟩ := bcell hWq; go_simp; (try with_reducible rfl))); go_big_quiet_on; (try simp only [Act.put, List.setIfInBounds_toArray, List.set_cons_zero, List.set_cons_succ])))
        (first | go_big_quiet_skip | (go_big_quiet_want; refine quiet_val (v := ?_) ?_ ?_; rotate_left 1; (· (intro Wq hWq; obtain ⟨hWc, hWf⟩ := bcell hWq; go_simp; (try with_reducible rfl))); go_big_quiet_on; (try simp only [Act.put, List.setIfInBounds_toArray, List.set_cons_zero, List.set_cons_succ])))
        (first | go_big_quiet_skip | (go_big_quiet_want; refine quiet_val (v := ?_) ?_ ?_; rotate_left 1; (· (intro Wq hWq; obtain ⟨hWc, hWf⟩ := bcell hWq; go_simp; (try with_reducible rfl))); go_big_quiet_on; (try simp only [Act.put, List.setIfInBounds_toArray, List.set_cons_zero, List.set_cons_succ])))
        (first | go_big_quiet_skip | (go_big_quiet_want; refine quiet_val (v := ?_) ?_ ?_; rotate_left 1; (· (intro Wq hWq; obtain ⟨hWc, hWf⟩ := bcell hWq; go_simp; (try with_reducible rfl))); go_big_quiet_on; (try simp only [Act.put, List.setIfInBounds_toArray, List.set_cons_zero, List.set_cons_succ])))
        refine wpQuiet_nil ?_; intro w5 hb5
        go_wp2
        go_roundw
        case rel => exact ⟨k + 1, by omega, by go_num, by rw [HS.out, if_pos h0]; congr 1; omega, by rw [HN.out, if_pos h0]; rfl, Below.step hbw hb5⟩
        case measure => simp [intOf]; omega
      · go_wp2
        go_roundw
        case rel => exact ⟨k + 1, by omega, by go_num, by rw [HS.out, if_neg h0], by rw [HN.out, if_neg h0], hbw⟩
        case measure => simp [intOf]; omega
    · obtain rfl : k = o.ts.length := by omega
      have qv := HV.out
      have qb := HB.out
      clear HV HB
      unfold crQ at qv
      generalize crS o o.ts.length = S at *
      generalize crN o o.ts.length = N at *
      by_cases hN : N = 0
      · subst hN
        rw [if_pos rfl] at qv qb
        subst qv
        subst qb
        go_wp2
        go_ret2
        exact ⟨rfl, gw⟩
      · have HD := Lib.hid (fun W => rdown_c S (1000 * (N : Int)) (by omega) (by omega) (by omega) (by omega) W)
        have v1 : IntKind.i64.wrap (1000 * (N : Int)) = 1000 * (N : Int) := IntWalk.i64_in _ (by omega)
        rw [if_neg hN] at qv qb
        subst qv
        subst qb
        go_wp2_with fail
        refine (HD.out _).mono ?_
        rintro e w' ⟨rfl, rfl⟩
        go_wp2
        go_ret2
        exact ⟨rfl, gw⟩
end Go.Proofs.Ytbcabckokmjelaa
