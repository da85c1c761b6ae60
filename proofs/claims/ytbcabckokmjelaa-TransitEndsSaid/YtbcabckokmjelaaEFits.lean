/-
  TransitFits: the walk.
-/
import Derived.Test.YtbcabckokmjelaaK2
namespace Go.Proofs.Ytbcabckokmjelaa
open Go.RowKit
set_option linter.unusedVariables false
set_option linter.unusedSimpArgs false
theorem RdL.oneT {w : World} {b : Nat} {t : Tr} (h0 : w.cell? ⟨b, 0, none⟩ = some (.string t.nm)) (h1 : w.cell? ⟨b, 1, none⟩ = some (.int .i64 t.a)) (h2 : w.cell? ⟨b, 2, none⟩ = some (.int .i64 t.b)) (h3 : w.cell? ⟨b, 3, none⟩ = some (.int .i64 t.c)) (h4 : w.cell? ⟨b, 4, none⟩ = some (.slice t.T t.ts.length t.ct)) : RdL w w.heap.size trE 5 (some ⟨b, 0, none⟩) [t] := by
  intro _
  refine ⟨b, 0, rfl, cell?_lt h0, fun i hi j v hv => ?_⟩
  have hj : j < 5 := (List.getElem?_eq_some_iff.1 hv).1
  obtain rfl : i = 0 := by simpa using hi
  match j, hj with
  | 0, _ => simp [trE] at hv; subst hv; simpa using h0
  | 1, _ => simp [trE] at hv; subst hv; simpa using h1
  | 2, _ => simp [trE] at hv; subst hv; simpa using h2
  | 3, _ => simp [trE] at hv; subst hv; simpa using h3
  | 4, _ => simp [trE] at hv; subst hv; simpa using h4
theorem TransitFits_walk (w : World) (x : Tb) (t : Tr) (d : Int) (hx : TbAt w x) (ht : TrAt w t) (hd : I64 d) :
    Calls Try.prog 3 #[.agg #[.slice x.A x.xs.length x.ca, .int .i64 x.e], .agg #[.string t.nm, .int .i64 t.a, .int .i64 t.b, .int .i64 t.c, .slice t.T t.ts.length t.ct], .int .i64 d] w fun e w' => e = .returned (.bool true) ∧ Below w.heap.size w w' := by
  have hm1 : 1 ≤ maxLen := by unfold maxLen; omega
  have HW := Lib.hid (fun W hb b h => wide_c x [t] (some ⟨b, 0, none⟩) 1 W (hx.step hb) (Nat.le_refl _) hm1 h)
  have ho := obs_at hx ht
  have hnm : t.nm.size ≤ 9223372036854775807 := ho.hn
  have hxl : x.xs.length ≤ 9223372036854775807 := ho.hx
  have H1 := Lib.hid (fun W hb => Crossing_c (obs x t) x.A t.T x.ca t.ct W (ho.step hb))
  have H2 := Lib.hid (fun W hb => rCrossing_c (obs x t) x.A t.T x.ca t.ct W (ho.step hb))
  have H3 := Lib.hid (fun W hb => Difference_c (obs x t) x.A t.T x.ca t.ct W (ho.step hb))
  have H4 := Lib.hid (fun W hb => rDifference_c (obs x t) x.A t.T x.ca t.ct W (ho.step hb))
  have H5 := Lib.hid (fun W => Folded_c d W)
  have H6 := Lib.hid (fun W => rFolded_c d W)
  have H7 := Lib.hid (fun W => ValidStar_c t.nm t.a t.b t.c hnm W)
  have H8 := Lib.hid (fun W => rValidStar_c t.nm t.a t.b t.c hnm W)
  have H9 := Lib.hid (fun W hb => ValidTube_c x.xs x.A x.ca x.e hxl W (hx.r.step hb))
  have H10 := Lib.hid (fun W hb => rValidTube_c x.xs x.A x.ca x.e hxl W (hx.r.step hb))
  have H11 := Lib.hid (fun W hb => Fits_c (obs x t) x.A t.T x.ca t.ct W (ho.step hb))
  have H12 := Lib.hid (fun W hb => rFits_c (obs x t) x.A t.T x.ca t.ct W (ho.step hb))
  generalize crV (obs x t) = vV at *
  generalize crE (obs x t) = vE at *
  generalize dfV (obs x t) = vD at *
  generalize foV d = vF at *
  generalize foE d = vG at *
  generalize okStar t.nm t.a t.b t.c = vS at *
  generalize okTube x.xs x.e = vT at *
  generalize fitsB (obs x t) = vU at *
  clear hx ht ho hd hnm hxl hm1
  simp only [obs] at H1 H2 H3 H4 H11 H12
  go_enter Try.func3, Try.ntmps3
  go_wp2_with fail
  refine (HW.out _ (by (repeat (first | exact Below.refl _ _ | refine Below.drew ?_ | refine Below.allocS ?_ _ | refine Below.step ?_ (by assumption) | refine Below.setCell ?_ (by simp <;> omega) _ | refine Below.drewN' ?_ _))) (w.heap.size + 2) (RdL.oneT (by simp [go_sem, *]) (by simp [go_sem, *]) (by simp [go_sem, *]) (by simp [go_sem, *]) (by simp [go_sem, *]))).mono ?_
  rintro r0 w1 ⟨⟨X, rfl, -⟩, hb1⟩
  have x1_0_0 : w1.cell? ⟨w.heap.size, 0, none⟩ = some (.slice x.A x.xs.length x.ca) := keep_cell hb1 (by simp [go_sem, *])
  have x1_0_1 : w1.cell? ⟨w.heap.size, 1, none⟩ = some (.int .i64 x.e) := keep_cell hb1 (by simp [go_sem, *])
  have y1_0 : w.heap.size < w1.heap.size := cell?_lt x1_0_0
  have x1_1_0 : w1.cell? ⟨w.heap.size + 1, 0, none⟩ = some (.string t.nm) := keep_cell hb1 (by simp [go_sem, *])
  have x1_1_1 : w1.cell? ⟨w.heap.size + 1, 1, none⟩ = some (.int .i64 t.a) := keep_cell hb1 (by simp [go_sem, *])
  have x1_1_2 : w1.cell? ⟨w.heap.size + 1, 2, none⟩ = some (.int .i64 t.b) := keep_cell hb1 (by simp [go_sem, *])
  have x1_1_3 : w1.cell? ⟨w.heap.size + 1, 3, none⟩ = some (.int .i64 t.c) := keep_cell hb1 (by simp [go_sem, *])
  have x1_1_4 : w1.cell? ⟨w.heap.size + 1, 4, none⟩ = some (.slice t.T t.ts.length t.ct) := keep_cell hb1 (by simp [go_sem, *])
  have y1_1 : w.heap.size + 1 < w1.heap.size := cell?_lt x1_1_0
  have g1 : Below w.heap.size w w1 := by (repeat (first | exact Below.refl _ _ | refine Below.drew ?_ | refine Below.allocS ?_ _ | refine Below.step ?_ (by assumption) | refine Below.setCell ?_ (by simp <;> omega) _ | refine Below.drewN' ?_ _))
  clear hb1 HW
  cases X
  case true =>
    go_wp2_with fail
    refine (awake_c _).mono ?_
    rintro e w2 ⟨rfl, hb2⟩
    go_wp2
    go_ret
    exact ⟨rfl, by (repeat (first | exact Below.refl _ _ | refine Below.drew ?_ | refine Below.allocS ?_ _ | refine Below.step ?_ (by assumption) | refine Below.setCell ?_ (by simp <;> omega) _ | refine Below.drewN' ?_ _))⟩
  go_wp2_with fail
  refine (H1.out _ (by (repeat (first | exact Below.refl _ _ | refine Below.drew ?_ | refine Below.allocS ?_ _ | refine Below.step ?_ (by assumption) | refine Below.setCell ?_ (by simp <;> omega) _ | refine Below.drewN' ?_ _)))).mono ?_
  rintro e w2 ⟨rfl, hb2⟩
  have x2_0_0 : w2.cell? ⟨w.heap.size, 0, none⟩ = some (.slice x.A x.xs.length x.ca) := keep_cell hb2 (by simp [go_sem, *])
  have x2_0_1 : w2.cell? ⟨w.heap.size, 1, none⟩ = some (.int .i64 x.e) := keep_cell hb2 (by simp [go_sem, *])
  have y2_0 : w.heap.size < w2.heap.size := cell?_lt x2_0_0
  have x2_1_0 : w2.cell? ⟨w.heap.size + 1, 0, none⟩ = some (.string t.nm) := keep_cell hb2 (by simp [go_sem, *])
  have x2_1_1 : w2.cell? ⟨w.heap.size + 1, 1, none⟩ = some (.int .i64 t.a) := keep_cell hb2 (by simp [go_sem, *])
  have x2_1_2 : w2.cell? ⟨w.heap.size + 1, 2, none⟩ = some (.int .i64 t.b) := keep_cell hb2 (by simp [go_sem, *])
  have x2_1_3 : w2.cell? ⟨w.heap.size + 1, 3, none⟩ = some (.int .i64 t.c) := keep_cell hb2 (by simp [go_sem, *])
  have x2_1_4 : w2.cell? ⟨w.heap.size + 1, 4, none⟩ = some (.slice t.T t.ts.length t.ct) := keep_cell hb2 (by simp [go_sem, *])
  have y2_1 : w.heap.size + 1 < w2.heap.size := cell?_lt x2_1_0
  have g2 : Below w.heap.size w w2 := by (repeat (first | exact Below.refl _ _ | refine Below.drew ?_ | refine Below.allocS ?_ _ | refine Below.step ?_ (by assumption) | refine Below.setCell ?_ (by simp <;> omega) _ | refine Below.drewN' ?_ _))
  clear hb2
  go_wp2_with fail
  refine (H2.out _ (by (repeat (first | exact Below.refl _ _ | refine Below.drew ?_ | refine Below.allocS ?_ _ | refine Below.step ?_ (by assumption) | refine Below.setCell ?_ (by simp <;> omega) _ | refine Below.drewN' ?_ _)))).mono ?_
  rintro e w3 ⟨rfl, hb3⟩
  have x3_0_0 : w3.cell? ⟨w.heap.size, 0, none⟩ = some (.slice x.A x.xs.length x.ca) := keep_cell hb3 (by simp [go_sem, *])
  have x3_0_1 : w3.cell? ⟨w.heap.size, 1, none⟩ = some (.int .i64 x.e) := keep_cell hb3 (by simp [go_sem, *])
  have y3_0 : w.heap.size < w3.heap.size := cell?_lt x3_0_0
  have x3_1_0 : w3.cell? ⟨w.heap.size + 1, 0, none⟩ = some (.string t.nm) := keep_cell hb3 (by simp [go_sem, *])
  have x3_1_1 : w3.cell? ⟨w.heap.size + 1, 1, none⟩ = some (.int .i64 t.a) := keep_cell hb3 (by simp [go_sem, *])
  have x3_1_2 : w3.cell? ⟨w.heap.size + 1, 2, none⟩ = some (.int .i64 t.b) := keep_cell hb3 (by simp [go_sem, *])
  have x3_1_3 : w3.cell? ⟨w.heap.size + 1, 3, none⟩ = some (.int .i64 t.c) := keep_cell hb3 (by simp [go_sem, *])
  have x3_1_4 : w3.cell? ⟨w.heap.size + 1, 4, none⟩ = some (.slice t.T t.ts.length t.ct) := keep_cell hb3 (by simp [go_sem, *])
  have y3_1 : w.heap.size + 1 < w3.heap.size := cell?_lt x3_1_0
  have g3 : Below w.heap.size w w3 := by (repeat (first | exact Below.refl _ _ | refine Below.drew ?_ | refine Below.allocS ?_ _ | refine Below.step ?_ (by assumption) | refine Below.setCell ?_ (by simp <;> omega) _ | refine Below.drewN' ?_ _))
  clear hb3 g2 x2_0_0 x2_0_1 x2_1_0 x2_1_1 x2_1_2 x2_1_3 x2_1_4 y2_0 y2_1
  go_wp2_with fail
  refine (H3.out _ (by (repeat (first | exact Below.refl _ _ | refine Below.drew ?_ | refine Below.allocS ?_ _ | refine Below.step ?_ (by assumption) | refine Below.setCell ?_ (by simp <;> omega) _ | refine Below.drewN' ?_ _)))).mono ?_
  rintro e w4 ⟨rfl, hb4⟩
  have x4_0_0 : w4.cell? ⟨w.heap.size, 0, none⟩ = some (.slice x.A x.xs.length x.ca) := keep_cell hb4 (by simp [go_sem, *])
  have x4_0_1 : w4.cell? ⟨w.heap.size, 1, none⟩ = some (.int .i64 x.e) := keep_cell hb4 (by simp [go_sem, *])
  have y4_0 : w.heap.size < w4.heap.size := cell?_lt x4_0_0
  have x4_1_0 : w4.cell? ⟨w.heap.size + 1, 0, none⟩ = some (.string t.nm) := keep_cell hb4 (by simp [go_sem, *])
  have x4_1_1 : w4.cell? ⟨w.heap.size + 1, 1, none⟩ = some (.int .i64 t.a) := keep_cell hb4 (by simp [go_sem, *])
  have x4_1_2 : w4.cell? ⟨w.heap.size + 1, 2, none⟩ = some (.int .i64 t.b) := keep_cell hb4 (by simp [go_sem, *])
  have x4_1_3 : w4.cell? ⟨w.heap.size + 1, 3, none⟩ = some (.int .i64 t.c) := keep_cell hb4 (by simp [go_sem, *])
  have x4_1_4 : w4.cell? ⟨w.heap.size + 1, 4, none⟩ = some (.slice t.T t.ts.length t.ct) := keep_cell hb4 (by simp [go_sem, *])
  have y4_1 : w.heap.size + 1 < w4.heap.size := cell?_lt x4_1_0
  have g4 : Below w.heap.size w w4 := by (repeat (first | exact Below.refl _ _ | refine Below.drew ?_ | refine Below.allocS ?_ _ | refine Below.step ?_ (by assumption) | refine Below.setCell ?_ (by simp <;> omega) _ | refine Below.drewN' ?_ _))
  clear hb4 g3 x3_0_0 x3_0_1 x3_1_0 x3_1_1 x3_1_2 x3_1_3 x3_1_4 y3_0 y3_1
  go_wp2_with fail
  refine (H4.out _ (by (repeat (first | exact Below.refl _ _ | refine Below.drew ?_ | refine Below.allocS ?_ _ | refine Below.step ?_ (by assumption) | refine Below.setCell ?_ (by simp <;> omega) _ | refine Below.drewN' ?_ _)))).mono ?_
  rintro e w5 ⟨rfl, hb5⟩
  have x5_0_0 : w5.cell? ⟨w.heap.size, 0, none⟩ = some (.slice x.A x.xs.length x.ca) := keep_cell hb5 (by simp [go_sem, *])
  have x5_0_1 : w5.cell? ⟨w.heap.size, 1, none⟩ = some (.int .i64 x.e) := keep_cell hb5 (by simp [go_sem, *])
  have y5_0 : w.heap.size < w5.heap.size := cell?_lt x5_0_0
  have x5_1_0 : w5.cell? ⟨w.heap.size + 1, 0, none⟩ = some (.string t.nm) := keep_cell hb5 (by simp [go_sem, *])
  have x5_1_1 : w5.cell? ⟨w.heap.size + 1, 1, none⟩ = some (.int .i64 t.a) := keep_cell hb5 (by simp [go_sem, *])
  have x5_1_2 : w5.cell? ⟨w.heap.size + 1, 2, none⟩ = some (.int .i64 t.b) := keep_cell hb5 (by simp [go_sem, *])
  have x5_1_3 : w5.cell? ⟨w.heap.size + 1, 3, none⟩ = some (.int .i64 t.c) := keep_cell hb5 (by simp [go_sem, *])
  have x5_1_4 : w5.cell? ⟨w.heap.size + 1, 4, none⟩ = some (.slice t.T t.ts.length t.ct) := keep_cell hb5 (by simp [go_sem, *])
  have y5_1 : w.heap.size + 1 < w5.heap.size := cell?_lt x5_1_0
  have g5 : Below w.heap.size w w5 := by (repeat (first | exact Below.refl _ _ | refine Below.drew ?_ | refine Below.allocS ?_ _ | refine Below.step ?_ (by assumption) | refine Below.setCell ?_ (by simp <;> omega) _ | refine Below.drewN' ?_ _))
  clear hb5 g4 x4_0_0 x4_0_1 x4_1_0 x4_1_1 x4_1_2 x4_1_3 x4_1_4 y4_0 y4_1
  go_wp2_with fail
  refine (H5.out _).mono ?_
  rintro e w' ⟨rfl, hw'⟩; replace hw' := hw'.symm; subst hw'
  go_wp2_with fail
  refine (H6.out _).mono ?_
  rintro e w' ⟨rfl, hw'⟩; replace hw' := hw'.symm; subst hw'
  go_wp2_with fail
  refine region_below (by kernel_rfl) (by kernel_rfl) ?_
  (first | go_big_quiet_skip | (go_big_quiet_want; refine quiet_val (v := ?_) ?_ ?_; rotate_left 1; (· (intro Wq hWq; obtain ⟨hWc, hWf⟩ := bcell hWq; go_simp; (try with_reducible rfl))); go_big_quiet_on; (try simp only [Act.put, List.setIfInBounds_toArray, List.set_cons_zero, List.set_cons_succ])))
  (first | go_big_quiet_skip | (go_big_quiet_want; refine quiet_val (v := ?_) ?_ ?_; rotate_left 1; (· (intro Wq hWq; obtain ⟨hWc, hWf⟩ := bcell hWq; go_simp; (try with_reducible rfl))); go_big_quiet_on; (try simp only [Act.put, List.setIfInBounds_toArray, List.set_cons_zero, List.set_cons_succ])))
  go_big_quiet_want; refine quiet_callB (f := 20) (args := ?_) (v := ?_) ?_ ?_ ?_; rotate_left 2
  · (intro Wq hWq; obtain ⟨hWc, hWf⟩ := bcell hWq; go_simp; (first | with_reducible rfl | exact ⟨rfl, rfl⟩))
  · (intro Wq hWq; exact H7.out _)
  go_big_quiet_on; (try simp only [Act.put, List.setIfInBounds_toArray, List.set_cons_zero, List.set_cons_succ])
  (first | go_big_quiet_skip | (go_big_quiet_want; refine quiet_val (v := ?_) ?_ ?_; rotate_left 1; (· (intro Wq hWq; obtain ⟨hWc, hWf⟩ := bcell hWq; go_simp; (try with_reducible rfl))); go_big_quiet_on; (try simp only [Act.put, List.setIfInBounds_toArray, List.set_cons_zero, List.set_cons_succ])))
  (first | go_big_quiet_skip | (go_big_quiet_want; refine quiet_val (v := ?_) ?_ ?_; rotate_left 1; (· (intro Wq hWq; obtain ⟨hWc, hWf⟩ := bcell hWq; go_simp; (try with_reducible rfl))); go_big_quiet_on; (try simp only [Act.put, List.setIfInBounds_toArray, List.set_cons_zero, List.set_cons_succ])))
  go_big_quiet_want; refine quiet_callB (f := 21) (args := ?_) (v := ?_) ?_ ?_ ?_; rotate_left 2
  · (intro Wq hWq; obtain ⟨hWc, hWf⟩ := bcell hWq; go_simp; (first | with_reducible rfl | exact ⟨rfl, rfl⟩))
  · (intro Wq hWq; exact H8.out _)
  go_big_quiet_on; (try simp only [Act.put, List.setIfInBounds_toArray, List.set_cons_zero, List.set_cons_succ])
  (first | go_big_quiet_skip | (go_big_quiet_want; refine quiet_val (v := ?_) ?_ ?_; rotate_left 1; (· (intro Wq hWq; obtain ⟨hWc, hWf⟩ := bcell hWq; go_simp; (try with_reducible rfl))); go_big_quiet_on; (try simp only [Act.put, List.setIfInBounds_toArray, List.set_cons_zero, List.set_cons_succ])))
  (first | go_big_quiet_skip | (go_big_quiet_want; refine quiet_val (v := ?_) ?_ ?_; rotate_left 1; (· (intro Wq hWq; obtain ⟨hWc, hWf⟩ := bcell hWq; go_simp; (try with_reducible rfl))); go_big_quiet_on; (try simp only [Act.put, List.setIfInBounds_toArray, List.set_cons_zero, List.set_cons_succ])))
  (first | go_big_quiet_skip | (go_big_quiet_want; refine quiet_val (v := ?_) ?_ ?_; rotate_left 1; (· (intro Wq hWq; obtain ⟨hWc, hWf⟩ := bcell hWq; go_simp; (try with_reducible rfl))); go_big_quiet_on; (try simp only [Act.put, List.setIfInBounds_toArray, List.set_cons_zero, List.set_cons_succ])))
  go_big_quiet_want; refine quiet_callB (f := 22) (args := ?_) (v := ?_) ?_ ?_ ?_; rotate_left 2
  · (intro Wq hWq; obtain ⟨hWc, hWf⟩ := bcell hWq; go_simp; (first | with_reducible rfl | exact ⟨rfl, rfl⟩))
  · (intro Wq hWq; exact H9.out Wq (by (repeat (first | exact Below.refl _ _ | refine Below.drew ?_ | refine Below.allocS ?_ _ | refine Below.step ?_ (by assumption) | refine Below.setCell ?_ (by simp <;> omega) _ | refine Below.drewN' ?_ _))))
  go_big_quiet_on; (try simp only [Act.put, List.setIfInBounds_toArray, List.set_cons_zero, List.set_cons_succ])
  (first | go_big_quiet_skip | (go_big_quiet_want; refine quiet_val (v := ?_) ?_ ?_; rotate_left 1; (· (intro Wq hWq; obtain ⟨hWc, hWf⟩ := bcell hWq; go_simp; (try with_reducible rfl))); go_big_quiet_on; (try simp only [Act.put, List.setIfInBounds_toArray, List.set_cons_zero, List.set_cons_succ])))
  go_big_quiet_want; refine quiet_callB (f := 23) (args := ?_) (v := ?_) ?_ ?_ ?_; rotate_left 2
  · (intro Wq hWq; obtain ⟨hWc, hWf⟩ := bcell hWq; go_simp; (first | with_reducible rfl | exact ⟨rfl, rfl⟩))
  · (intro Wq hWq; exact H10.out Wq (by (repeat (first | exact Below.refl _ _ | refine Below.drew ?_ | refine Below.allocS ?_ _ | refine Below.step ?_ (by assumption) | refine Below.setCell ?_ (by simp <;> omega) _ | refine Below.drewN' ?_ _))))
  go_big_quiet_on; (try simp only [Act.put, List.setIfInBounds_toArray, List.set_cons_zero, List.set_cons_succ])
  (first | go_big_quiet_skip | (go_big_quiet_want; refine quiet_val (v := ?_) ?_ ?_; rotate_left 1; (· (intro Wq hWq; obtain ⟨hWc, hWf⟩ := bcell hWq; go_simp; (try with_reducible rfl))); go_big_quiet_on; (try simp only [Act.put, List.setIfInBounds_toArray, List.set_cons_zero, List.set_cons_succ])))
  (first | go_big_quiet_skip | (go_big_quiet_want; refine quiet_val (v := ?_) ?_ ?_; rotate_left 1; (· (intro Wq hWq; obtain ⟨hWc, hWf⟩ := bcell hWq; go_simp; (try with_reducible rfl))); go_big_quiet_on; (try simp only [Act.put, List.setIfInBounds_toArray, List.set_cons_zero, List.set_cons_succ])))
  (first | go_big_quiet_skip | (go_big_quiet_want; refine quiet_val (v := ?_) ?_ ?_; rotate_left 1; (· (intro Wq hWq; obtain ⟨hWc, hWf⟩ := bcell hWq; go_simp; (try with_reducible rfl))); go_big_quiet_on; (try simp only [Act.put, List.setIfInBounds_toArray, List.set_cons_zero, List.set_cons_succ])))
  (first | go_big_quiet_skip | (go_big_quiet_want; refine quiet_val (v := ?_) ?_ ?_; rotate_left 1; (· (intro Wq hWq; obtain ⟨hWc, hWf⟩ := bcell hWq; go_simp; (try with_reducible rfl))); go_big_quiet_on; (try simp only [Act.put, List.setIfInBounds_toArray, List.set_cons_zero, List.set_cons_succ])))
  (first | go_big_quiet_skip | (go_big_quiet_want; refine quiet_val (v := ?_) ?_ ?_; rotate_left 1; (· (intro Wq hWq; obtain ⟨hWc, hWf⟩ := bcell hWq; go_simp; (try with_reducible rfl))); go_big_quiet_on; (try simp only [Act.put, List.setIfInBounds_toArray, List.set_cons_zero, List.set_cons_succ])))
  go_big_quiet_want; refine quiet_callB (f := 24) (args := ?_) (v := ?_) ?_ ?_ ?_; rotate_left 2
  · (intro Wq hWq; obtain ⟨hWc, hWf⟩ := bcell hWq; go_simp; (first | with_reducible rfl | exact ⟨rfl, rfl⟩))
  · (intro Wq hWq; exact H11.out Wq (by (repeat (first | exact Below.refl _ _ | refine Below.drew ?_ | refine Below.allocS ?_ _ | refine Below.step ?_ (by assumption) | refine Below.setCell ?_ (by simp <;> omega) _ | refine Below.drewN' ?_ _))))
  go_big_quiet_on; (try simp only [Act.put, List.setIfInBounds_toArray, List.set_cons_zero, List.set_cons_succ])
  (first | go_big_quiet_skip | (go_big_quiet_want; refine quiet_val (v := ?_) ?_ ?_; rotate_left 1; (· (intro Wq hWq; obtain ⟨hWc, hWf⟩ := bcell hWq; go_simp; (try with_reducible rfl))); go_big_quiet_on; (try simp only [Act.put, List.setIfInBounds_toArray, List.set_cons_zero, List.set_cons_succ])))
  (first | go_big_quiet_skip | (go_big_quiet_want; refine quiet_val (v := ?_) ?_ ?_; rotate_left 1; (· (intro Wq hWq; obtain ⟨hWc, hWf⟩ := bcell hWq; go_simp; (try with_reducible rfl))); go_big_quiet_on; (try simp only [Act.put, List.setIfInBounds_toArray, List.set_cons_zero, List.set_cons_succ])))
  go_big_quiet_want; refine quiet_callB (f := 25) (args := ?_) (v := ?_) ?_ ?_ ?_; rotate_left 2
  · (intro Wq hWq; obtain ⟨hWc, hWf⟩ := bcell hWq; go_simp; (first | with_reducible rfl | exact ⟨rfl, rfl⟩))
  · (intro Wq hWq; exact H12.out Wq (by (repeat (first | exact Below.refl _ _ | refine Below.drew ?_ | refine Below.allocS ?_ _ | refine Below.step ?_ (by assumption) | refine Below.setCell ?_ (by simp <;> omega) _ | refine Below.drewN' ?_ _))))
  go_big_quiet_on; (try simp only [Act.put, List.setIfInBounds_toArray, List.set_cons_zero, List.set_cons_succ])
  (first | go_big_quiet_skip | (go_big_quiet_want; refine quiet_val (v := ?_) ?_ ?_; rotate_left 1; (· (intro Wq hWq; obtain ⟨hWc, hWf⟩ := bcell hWq; go_simp; (try with_reducible rfl))); go_big_quiet_on; (try simp only [Act.put, List.setIfInBounds_toArray, List.set_cons_zero, List.set_cons_succ])))
  (first | go_big_quiet_skip | (go_big_quiet_want; refine quiet_val (v := ?_) ?_ ?_; rotate_left 1; (· (intro Wq hWq; obtain ⟨hWc, hWf⟩ := bcell hWq; go_simp; (try with_reducible rfl))); go_big_quiet_on; (try simp only [Act.put, List.setIfInBounds_toArray, List.set_cons_zero, List.set_cons_succ])))
  refine wpQuiet_nil ?_; intro w8 hb8
  have x8_0_0 : w8.cell? ⟨w.heap.size, 0, none⟩ = some (.slice x.A x.xs.length x.ca) := keep_cell hb8 (by simp [go_sem, *])
  have x8_0_1 : w8.cell? ⟨w.heap.size, 1, none⟩ = some (.int .i64 x.e) := keep_cell hb8 (by simp [go_sem, *])
  have y8_0 : w.heap.size < w8.heap.size := cell?_lt x8_0_0
  have x8_1_0 : w8.cell? ⟨w.heap.size + 1, 0, none⟩ = some (.string t.nm) := keep_cell hb8 (by simp [go_sem, *])
  have x8_1_1 : w8.cell? ⟨w.heap.size + 1, 1, none⟩ = some (.int .i64 t.a) := keep_cell hb8 (by simp [go_sem, *])
  have x8_1_2 : w8.cell? ⟨w.heap.size + 1, 2, none⟩ = some (.int .i64 t.b) := keep_cell hb8 (by simp [go_sem, *])
  have x8_1_3 : w8.cell? ⟨w.heap.size + 1, 3, none⟩ = some (.int .i64 t.c) := keep_cell hb8 (by simp [go_sem, *])
  have x8_1_4 : w8.cell? ⟨w.heap.size + 1, 4, none⟩ = some (.slice t.T t.ts.length t.ct) := keep_cell hb8 (by simp [go_sem, *])
  have y8_1 : w.heap.size + 1 < w8.heap.size := cell?_lt x8_1_0
  have g8 : Below w.heap.size w w8 := by (repeat (first | exact Below.refl _ _ | refine Below.drew ?_ | refine Below.allocS ?_ _ | refine Below.step ?_ (by assumption) | refine Below.setCell ?_ (by simp <;> omega) _ | refine Below.drewN' ?_ _))
  clear hb8 g5 x5_0_0 x5_0_1 x5_1_0 x5_1_1 x5_1_2 x5_1_3 x5_1_4 y5_0 y5_1
  go_wp2_with fail
  refine (awake_c _).mono ?_
  rintro e w9 ⟨rfl, hb9⟩
  go_wp2
  go_ret
  exact ⟨rfl, by (repeat (first | exact Below.refl _ _ | refine Below.drew ?_ | refine Below.allocS ?_ _ | refine Below.step ?_ (by assumption) | refine Below.setCell ?_ (by simp <;> omega) _ | refine Below.drewN' ?_ _))⟩
end Go.Proofs.Ytbcabckokmjelaa
