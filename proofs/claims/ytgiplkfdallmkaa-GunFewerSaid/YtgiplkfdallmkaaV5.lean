/-
  Excluded of the reference.
-/
import Derived.Test.YtgiplkfdallmkaaV4
namespace Go.Proofs.Ytgiplkfdallmkaa
open Go.RowKit
set_option linter.unusedVariables false
set_option linter.unusedSimpArgs false
theorem near_ite (n lo hi : Int) (m : Int) (hm : (if lo > n then lo else n) = m) : (if hi < m then hi else m) = nearN n lo hi := by
  subst hm; unfold nearN; split <;> split <;> omega
/-- What Excluded answers, as the reference asks. -/
theorem bxE_ref (s v : Int) (l : List Shot) (a b c d : Int) : bxE s v l a b c d = if (validAir s v && okShots l) = true then (if rboxB a b c d = true then 0 else 7) else 1 := by
  unfold bxE heardE askedE rboxB boxE
  cases h1 : okShots l <;> cases h2 : validAir s v <;> cases h3 : place a b <;> cases h4 : place c d <;> by_cases h5 : a ≤ c <;> by_cases h6 : b ≤ d <;> simp_all
theorem box_of_ref {a b c d : Int} (h : rboxB a b c d = true) : IsBox a b c d := by
  unfold rboxB at h
  simp at h
  exact ⟨h.1, h.2.1, h.2.2.1, h.2.2.2⟩
/-- The cells of a round. -/
structure InCells (B : Nat) (W : World) (g1 g2 g3 g4 n1 n2 fx fy a b c d : Int) : Prop where
  e0 : W.cell? ⟨B, 0, none⟩ = some (.int .i64 g1)
  e1 : W.cell? ⟨B, 1, none⟩ = some (.int .i64 g2)
  e2 : W.cell? ⟨B, 2, none⟩ = some (.int .i64 g3)
  e3 : W.cell? ⟨B, 3, none⟩ = some (.int .i64 g4)
  n0 : W.cell? ⟨B + 1, 0, none⟩ = some (.int .i64 n1)
  n1 : W.cell? ⟨B + 1, 1, none⟩ = some (.int .i64 n2)
  f0 : W.cell? ⟨B + 1 + 1, 0, none⟩ = some (.int .i64 fx)
  f1 : W.cell? ⟨B + 1 + 1, 1, none⟩ = some (.int .i64 fy)
  z0 : W.frozen? ⟨B + 1 + 1, 0, none⟩ = false
  z1 : W.frozen? ⟨B + 1 + 1, 1, none⟩ = false
  q0 : W.cell? ⟨B + 1 + 1 + 1, 0, none⟩ = some (.int .i64 c)
  q1 : W.cell? ⟨B + 1 + 1 + 1, 1, none⟩ = some (.int .i64 d)
  q2 : W.cell? ⟨B + 1 + 1 + 1, 2, none⟩ = some (.int .i64 a)
  q3 : W.cell? ⟨B + 1 + 1 + 1, 3, none⟩ = some (.int .i64 d)
  q4 : W.cell? ⟨B + 1 + 1 + 1, 4, none⟩ = some (.int .i64 c)
  q5 : W.cell? ⟨B + 1 + 1 + 1, 5, none⟩ = some (.int .i64 b)
set_option maxHeartbeats 2000000 in
set_option maxRecDepth 100000 in
theorem rExcluded_ok (s v a b c d : Int) (l : List Shot) (A : Option Addr) (cap : Nat) (ha : validAir s v = true) (hs : okShots l = true) (hb : rboxB a b c d = true) (w : World) (hr : RdL w w.heap.size shE 4 A l) :
    Calls Try.prog 49 #[.agg #[.int .i64 s, .int .i64 v], .slice A l.length cap, .agg #[.int .i64 a, .int .i64 b], .agg #[.int .i64 c, .int .i64 d]] w fun e w' => e = .returned (.tuple #[.bool (l.any (apart s v a b c d)), .int .i64 0]) ∧ Below w.heap.size w w' := by
  obtain ⟨l1, l2, l3⟩ := okShots_true hs
  have HR := Lib.hid hr
  have HL := Lib.hid l3
  have HO := Lib.hid (box_of_ref hb)
  have HB := Lib.hid (fun W => rbox_c a b c d W)
  rw [hb] at HB
  have HV := Lib.hid (fun W h => valid_c s v l A cap (by omega) W h)
  rw [ha, hs] at HV
  clear hr l3 hs hb
  go_enter Try.func49, Try.ntmps49
  go_wp2_with fail
  refine (HV.out _ (HR.out.step (by (repeat (first | exact Below.refl _ _ | refine Below.drew ?_ | refine Below.allocS ?_ _ | refine Below.step ?_ (by assumption) | refine Below.setCell ?_ (by simp <;> omega) _ | refine Below.drewN' ?_ _))))).mono ?_
  rintro e w1 ⟨rfl, hb1⟩
  have x1_0_0 : w1.cell? ⟨w.heap.size, 0, none⟩ = some (.int .i64 s) := keep_cell hb1 (by simp [go_sem, *])
  have x1_0_1 : w1.cell? ⟨w.heap.size, 1, none⟩ = some (.int .i64 v) := keep_cell hb1 (by simp [go_sem, *])
  have y1_0 : w.heap.size < w1.heap.size := cell?_lt x1_0_0
  have x1_1_0 : w1.cell? ⟨w.heap.size + 1, 0, none⟩ = some (.int .i64 a) := keep_cell hb1 (by simp [go_sem, *])
  have x1_1_1 : w1.cell? ⟨w.heap.size + 1, 1, none⟩ = some (.int .i64 b) := keep_cell hb1 (by simp [go_sem, *])
  have y1_1 : w.heap.size + 1 < w1.heap.size := cell?_lt x1_1_0
  have x1_2_0 : w1.cell? ⟨w.heap.size + 1 + 1, 0, none⟩ = some (.int .i64 c) := keep_cell hb1 (by simp [go_sem, *])
  have x1_2_1 : w1.cell? ⟨w.heap.size + 1 + 1, 1, none⟩ = some (.int .i64 d) := keep_cell hb1 (by simp [go_sem, *])
  have y1_2 : w.heap.size + 1 + 1 < w1.heap.size := cell?_lt x1_2_0
  have g1 : Below w.heap.size w w1 := by (repeat (first | exact Below.refl _ _ | refine Below.drew ?_ | refine Below.allocS ?_ _ | refine Below.step ?_ (by assumption) | refine Below.setCell ?_ (by simp <;> omega) _ | refine Below.drewN' ?_ _))
  clear hb1
  go_wp2_with fail
  refine (HB.out _).mono ?_
  rintro e w2 ⟨rfl, hb2⟩
  have x2_0_0 : w2.cell? ⟨w.heap.size, 0, none⟩ = some (.int .i64 s) := keep_cell hb2 (by simp [go_sem, *])
  have x2_0_1 : w2.cell? ⟨w.heap.size, 1, none⟩ = some (.int .i64 v) := keep_cell hb2 (by simp [go_sem, *])
  have y2_0 : w.heap.size < w2.heap.size := cell?_lt x2_0_0
  have x2_1_0 : w2.cell? ⟨w.heap.size + 1, 0, none⟩ = some (.int .i64 a) := keep_cell hb2 (by simp [go_sem, *])
  have x2_1_1 : w2.cell? ⟨w.heap.size + 1, 1, none⟩ = some (.int .i64 b) := keep_cell hb2 (by simp [go_sem, *])
  have y2_1 : w.heap.size + 1 < w2.heap.size := cell?_lt x2_1_0
  have x2_2_0 : w2.cell? ⟨w.heap.size + 1 + 1, 0, none⟩ = some (.int .i64 c) := keep_cell hb2 (by simp [go_sem, *])
  have x2_2_1 : w2.cell? ⟨w.heap.size + 1 + 1, 1, none⟩ = some (.int .i64 d) := keep_cell hb2 (by simp [go_sem, *])
  have y2_2 : w.heap.size + 1 + 1 < w2.heap.size := cell?_lt x2_2_0
  have g2 : Below w.heap.size w w2 := by (repeat (first | exact Below.refl _ _ | refine Below.drew ?_ | refine Below.allocS ?_ _ | refine Below.step ?_ (by assumption) | refine Below.setCell ?_ (by simp <;> omega) _ | refine Below.drewN' ?_ _))
  clear hb2 g1 x1_0_0 x1_0_1 x1_1_0 x1_1_1 x1_2_0 x1_2_1 y1_0 y1_1 y1_2
  go_wp2_with fail
  go_loopw [26] (fun i wr => ∃ k : Nat, k ≤ l.length ∧ i = .int .i64 k ∧ Below w2.heap.size w2 wr ∧ l.any (apart s v a b c d) = (l.drop k).any (apart s v a b c d)) (fun i _ => l.length - (intOf i).toNat)
  case atStart => exact ⟨0, Nat.zero_le _, rfl, Below.refl _ _, rfl⟩
  case round =>
    obtain ⟨k, hk, rfl, hbw, hx⟩ := hrel
    rename World => V
    have HX := Lib.hid hx
    clear hx
    by_cases hlt : k < l.length
    case neg =>
      obtain rfl : k = l.length := by omega
      go_wp2
      go_ret2
      exact ⟨by rw [HX.out]; simp, Below.step g2 hbw⟩
    obtain ⟨bb, off, rfl, hb0, hc⟩ := HR.out (by omega)
    have gw := Below.step g2 hbw
    have c0 := (gw.cell (p := ⟨bb, _, none⟩) hb0).trans (hc k hlt 0 _ rfl)
    have c1 := (gw.cell (p := ⟨bb, _, none⟩) hb0).trans (hc k hlt 1 _ rfl)
    have c2 := (gw.cell (p := ⟨bb, _, none⟩) hb0).trans (hc k hlt 2 _ rfl)
    have c3 := (gw.cell (p := ⟨bb, _, none⟩) hb0).trans (hc k hlt 3 _ rfl)
    clear hc
    simp at c0
    have hmem : l[k] ∈ l := List.getElem_mem hlt
    obtain ⟨t1, t2, t3, t4⟩ := okShot_true (HL.out _ hmem)
    have hd : l.drop k = l[k] :: l.drop (k + 1) := List.drop_eq_getElem_cons hlt
    clear hmem
    generalize l[k] = t at *
    have HD := Lib.hid hd
    clear hd
    have s0 := keep_cell hbw x2_0_0
    have s1 := keep_cell hbw x2_0_1
    have s2 := keep_cell hbw x2_1_0
    have s3 := keep_cell hbw x2_1_1
    have s4 := keep_cell hbw x2_2_0
    have s5 := keep_cell hbw x2_2_1
    clear x2_0_0 x2_0_1 x2_1_0 x2_1_1 x2_2_0 x2_2_1 y2_0 y2_1 y2_2
    have z0 : w.heap.size < V.heap.size := cell?_lt s0
    have z1 : w.heap.size + 1 < V.heap.size := cell?_lt s2
    have z2 : w.heap.size + 1 + 1 < V.heap.size := cell?_lt s4
    have hle := apart_le ha HO.out t1
    have HN := Lib.hid (fun W => rlag_c s v _ _ _ _ ha t1 (HO.out.near t) W)
    have HF := Lib.hid (fun (W : World) (h : place (farN t.gx a c) (farN t.gy b d) = true) => rlag_c s v _ _ _ _ ha t1 h W)
    have HQ := Lib.hid (fun x y (h : place x y = true) W => rsquare_d t.gx t.gy x y t1 h W)
    have HP := Lib.hid (show apart s v a b c d t = !meetB (lagLo s v (nearD a b c d t)) (lagHi s v (farD a b c d t)) t.lo t.hi from rfl)
    unfold nearD at HP
    have HS := Lib.hid (fun (x y : Int) (h : Corner a b c d t 3 x y) => h.done HO.out.x HO.out.y)
    obtain ⟨m1, hm1⟩ : ∃ m, (if a > t.gx then a else t.gx) = m := ⟨_, rfl⟩
    obtain ⟨m2, hm2⟩ : ∃ m, (if b > t.gy then b else t.gy) = m := ⟨_, rfl⟩
    have hn1 := near_ite t.gx a c m1 hm1
    have hn2 := near_ite t.gy b d m2 hm2
    generalize nearN t.gx a c = n1 at *
    generalize nearN t.gy b d = n2 at *
    go_wp2_with fail
    go_loopw [63] (fun i W => ∃ (j : Nat) (fx fy : Int), j ≤ 3 ∧ i = .int .i64 j ∧ Corner a b c d t j fx fy ∧ Below V.heap.size V W ∧ InCells V.heap.size W t.gx t.gy t.lo t.hi n1 n2 fx fy a b c d) (fun i _ => 3 - (intOf i).toNat)
    case atStart => exact ⟨0, a, b, by omega, rfl, Corner.start _ _ _ _ _, by (repeat (first | (with_reducible exact Below.refl _ _) | (with_reducible assumption) | (with_reducible refine Below.drew ?_) | (with_reducible refine Below.allocS ?_ _) | (with_reducible refine Below.setCell ?_ ?_ _) | (with_reducible refine Below.step ?_ (by assumption)) | (with_reducible refine Below.drewN' ?_ _))); (try any_goals (first | (with_reducible assumption) | (simp; done) | (simp; omega) | omega)), by constructor <;> simp [go_sem, *]⟩
    case round =>
      obtain ⟨j, fx, fy, hj, rfl, hcor, hb2, hin⟩ := hrel
      clear hm1 hm2 hn1 hn2
      obtain ⟨e0, e1, e2, e3, pp0, pp1, f0, f1, v0, v1, q0, q1, q2, q3, q4, q5⟩ := hin
      have o0 := keep_cell hb2 s0
      have o1 := keep_cell hb2 s1
      have o2 := keep_cell hb2 s2
      have o3 := keep_cell hb2 s3
      have o4 := keep_cell hb2 s4
      have o5 := keep_cell hb2 s5
      have i0 : V.heap.size < wr.heap.size := cell?_lt e0
      have i1 : V.heap.size + 1 < wr.heap.size := cell?_lt pp0
      have i2 : V.heap.size + 1 + 1 < wr.heap.size := cell?_lt f0
      have i3 : V.heap.size + 1 + 1 + 1 < wr.heap.size := cell?_lt q0
      have i4 : w.heap.size < wr.heap.size := cell?_lt o0
      have i5 : w.heap.size + 1 < wr.heap.size := cell?_lt o2
      have i6 : w.heap.size + 1 + 1 < wr.heap.size := cell?_lt o4
      have hpl := hcor.place HO.out
      have HC := Lib.hid hcor
      clear hcor
      by_cases hj3 : j < 3
      · have hcp := corn_in HO.out j
        have k0 : wr.cell? ⟨V.heap.size + 1 + 1 + 1, j * 2, none⟩ = some (.int .i64 (cornX a c j)) := by
          have : j = 0 ∨ j = 1 ∨ j = 2 := by omega
          rcases this with rfl | rfl | rfl <;> assumption
        have k1 : wr.cell? ⟨V.heap.size + 1 + 1 + 1, j * 2 + 1, none⟩ = some (.int .i64 (cornY b d j)) := by
          have : j = 0 ∨ j = 1 ∨ j = 2 := by omega
          rcases this with rfl | rfl | rfl <;> assumption
        have H1 := Lib.hid (fun W => HQ.out _ _ hcp W)
        have H2 := Lib.hid (fun W => HQ.out _ _ hpl W)
        have HK := Lib.hid (fun (hg : dd t.gx t.gy fx fy < dd t.gx t.gy (cornX a c j) (cornY b d j)) => HC.out.take hj3 hg)
        have HM := Lib.hid (fun (hg : ¬ dd t.gx t.gy fx fy < dd t.gx t.gy (cornX a c j) (cornY b d j)) => HC.out.leave hj3 hg)
        clear hcp hpl
        generalize cornX a c j = cx at *
        generalize cornY b d j = cy at *
        by_cases hg : dd t.gx t.gy fx fy < dd t.gx t.gy cx cy
        · have HC' := Lib.hid (HK.out hg)
          have hdec : decide (dd t.gx t.gy cx cy > dd t.gx t.gy fx fy) = true := decide_eq_true hg
          clear hg HK HM HC
          go_wp2_with fail
          refine region_below (by kernel_rfl) (by kernel_rfl) ?_
          (first | go_big_quiet_skip | (go_big_quiet_want; refine quiet_val (v := ?_) ?_ ?_; rotate_left 1; (· (intro Wq hWq; obtain ⟨hWc, hWf⟩ := bcell hWq; go_simp; (try with_reducible rfl))); go_big_quiet_on; (try simp only [Act.put, List.setIfInBounds_toArray, List.set_cons_zero, List.set_cons_succ])))
          (first | go_big_quiet_skip | (go_big_quiet_want; refine quiet_val (v := ?_) ?_ ?_; rotate_left 1; (· (intro Wq hWq; obtain ⟨hWc, hWf⟩ := bcell hWq; go_simp; (try with_reducible rfl))); go_big_quiet_on; (try simp only [Act.put, List.setIfInBounds_toArray, List.set_cons_zero, List.set_cons_succ])))
          (first | go_big_quiet_skip | (go_big_quiet_want; refine quiet_val (v := ?_) ?_ ?_; rotate_left 1; (· (intro Wq hWq; obtain ⟨hWc, hWf⟩ := bcell hWq; go_simp; (try with_reducible rfl))); go_big_quiet_on; (try simp only [Act.put, List.setIfInBounds_toArray, List.set_cons_zero, List.set_cons_succ])))
          go_big_quiet_want; refine quiet_callB (f := 84) (args := ?_) (v := ?_) ?_ ?_ ?_; rotate_left 2
          · (intro Wq hWq; obtain ⟨hWc, hWf⟩ := bcell hWq; go_simp; (first | with_reducible rfl | exact ⟨rfl, rfl⟩))
          · (intro Wq hWq; exact H1.out _)
          go_big_quiet_on; (try simp only [Act.put, List.setIfInBounds_toArray, List.set_cons_zero, List.set_cons_succ])
          (first | go_big_quiet_skip | (go_big_quiet_want; refine quiet_val (v := ?_) ?_ ?_; rotate_left 1; (· (intro Wq hWq; obtain ⟨hWc, hWf⟩ := bcell hWq; go_simp; (try with_reducible rfl))); go_big_quiet_on; (try simp only [Act.put, List.setIfInBounds_toArray, List.set_cons_zero, List.set_cons_succ])))
          (first | go_big_quiet_skip | (go_big_quiet_want; refine quiet_val (v := ?_) ?_ ?_; rotate_left 1; (· (intro Wq hWq; obtain ⟨hWc, hWf⟩ := bcell hWq; go_simp; (try with_reducible rfl))); go_big_quiet_on; (try simp only [Act.put, List.setIfInBounds_toArray, List.set_cons_zero, List.set_cons_succ])))
          (first | go_big_quiet_skip | (go_big_quiet_want; refine quiet_val (v := ?_) ?_ ?_; rotate_left 1; (· (intro Wq hWq; obtain ⟨hWc, hWf⟩ := bcell hWq; go_simp; (try with_reducible rfl))); go_big_quiet_on; (try simp only [Act.put, List.setIfInBounds_toArray, List.set_cons_zero, List.set_cons_succ])))
          go_big_quiet_want; refine quiet_callB (f := 84) (args := ?_) (v := ?_) ?_ ?_ ?_; rotate_left 2
          · (intro Wq hWq; obtain ⟨hWc, hWf⟩ := bcell hWq; go_simp; (first | with_reducible rfl | exact ⟨rfl, rfl⟩))
          · (intro Wq hWq; exact H2.out _)
          go_big_quiet_on; (try simp only [Act.put, List.setIfInBounds_toArray, List.set_cons_zero, List.set_cons_succ])
          (first | go_big_quiet_skip | (go_big_quiet_want; refine quiet_val (v := ?_) ?_ ?_; rotate_left 1; (· (intro Wq hWq; obtain ⟨hWc, hWf⟩ := bcell hWq; go_simp; (try with_reducible rfl))); go_big_quiet_on; (try simp only [Act.put, List.setIfInBounds_toArray, List.set_cons_zero, List.set_cons_succ])))
          refine wpQuiet_nil ?_; intro w3 hb3
          have q0_0 : w3.cell? ⟨V.heap.size, 0, none⟩ = some (.int .i64 t.gx) := keep_cell hb3 (by simp [go_sem, *]); have q0_1 : w3.cell? ⟨V.heap.size, 1, none⟩ = some (.int .i64 t.gy) := keep_cell hb3 (by simp [go_sem, *]); have q0_2 : w3.cell? ⟨V.heap.size, 2, none⟩ = some (.int .i64 t.lo) := keep_cell hb3 (by simp [go_sem, *]); have q0_3 : w3.cell? ⟨V.heap.size, 3, none⟩ = some (.int .i64 t.hi) := keep_cell hb3 (by simp [go_sem, *]); have p0 : V.heap.size < w3.heap.size := cell?_lt q0_0; have q1_0 : w3.cell? ⟨V.heap.size + 1, 0, none⟩ = some (.int .i64 n1) := keep_cell hb3 (by simp [go_sem, *]); have q1_1 : w3.cell? ⟨V.heap.size + 1, 1, none⟩ = some (.int .i64 n2) := keep_cell hb3 (by simp [go_sem, *]); have p1 : V.heap.size + 1 < w3.heap.size := cell?_lt q1_0; have q2_0 : w3.cell? ⟨V.heap.size + 1 + 1, 0, none⟩ = some (.int .i64 fx) := keep_cell hb3 (by simp [go_sem, *]); have r2_0 : w3.frozen? ⟨V.heap.size + 1 + 1, 0, none⟩ = false := keep_frozen hb3 (by first | omega | (simp <;> omega)) (by simp [go_sem, *]); have q2_1 : w3.cell? ⟨V.heap.size + 1 + 1, 1, none⟩ = some (.int .i64 fy) := keep_cell hb3 (by simp [go_sem, *]); have r2_1 : w3.frozen? ⟨V.heap.size + 1 + 1, 1, none⟩ = false := keep_frozen hb3 (by first | omega | (simp <;> omega)) (by simp [go_sem, *]); have p2 : V.heap.size + 1 + 1 < w3.heap.size := cell?_lt q2_0; have q3_0 : w3.cell? ⟨V.heap.size + 1 + 1 + 1, 0, none⟩ = some (.int .i64 c) := keep_cell hb3 (by simp [go_sem, *]); have q3_1 : w3.cell? ⟨V.heap.size + 1 + 1 + 1, 1, none⟩ = some (.int .i64 d) := keep_cell hb3 (by simp [go_sem, *]); have q3_2 : w3.cell? ⟨V.heap.size + 1 + 1 + 1, 2, none⟩ = some (.int .i64 a) := keep_cell hb3 (by simp [go_sem, *]); have q3_3 : w3.cell? ⟨V.heap.size + 1 + 1 + 1, 3, none⟩ = some (.int .i64 d) := keep_cell hb3 (by simp [go_sem, *]); have q3_4 : w3.cell? ⟨V.heap.size + 1 + 1 + 1, 4, none⟩ = some (.int .i64 c) := keep_cell hb3 (by simp [go_sem, *]); have q3_5 : w3.cell? ⟨V.heap.size + 1 + 1 + 1, 5, none⟩ = some (.int .i64 b) := keep_cell hb3 (by simp [go_sem, *]); have p3 : V.heap.size + 1 + 1 + 1 < w3.heap.size := cell?_lt q3_0; have q4_0 : w3.cell? ⟨wr.heap.size, 0, none⟩ = some (.int .i64 cx) := keep_cell hb3 (by simp [go_sem, *]); have q4_1 : w3.cell? ⟨wr.heap.size, 1, none⟩ = some (.int .i64 cy) := keep_cell hb3 (by simp [go_sem, *]); have p4 : wr.heap.size < w3.heap.size := cell?_lt q4_0
          have g3 : Below V.heap.size V w3 := by (repeat (first | (with_reducible exact Below.refl _ _) | (with_reducible assumption) | (with_reducible refine Below.drew ?_) | (with_reducible refine Below.allocS ?_ _) | (with_reducible refine Below.setCell ?_ ?_ _) | (with_reducible refine Below.step ?_ (by assumption)) | (with_reducible refine Below.drewN' ?_ _))); (try any_goals (first | (with_reducible assumption) | (simp; done) | (simp; omega) | omega))
          clear hb3
          go_wp2
          go_roundw
          case rel => exact ⟨j + 1, cx, cy, by omega, by go_num, HC'.out, by (repeat (first | (with_reducible exact Below.refl _ _) | (with_reducible assumption) | (with_reducible refine Below.drew ?_) | (with_reducible refine Below.allocS ?_ _) | (with_reducible refine Below.setCell ?_ ?_ _) | (with_reducible refine Below.step ?_ (by assumption)) | (with_reducible refine Below.drewN' ?_ _))); (try any_goals (first | (with_reducible assumption) | (simp; done) | (simp; omega) | omega)), by constructor <;> simp [go_sem, *]⟩
          case measure => simp [intOf]; omega
        · have HC' := Lib.hid (HM.out hg)
          have hdec : decide (dd t.gx t.gy cx cy > dd t.gx t.gy fx fy) = false := decide_eq_false hg
          clear hg HK HM HC
          go_wp2_with fail
          refine region_below (by kernel_rfl) (by kernel_rfl) ?_
          (first | go_big_quiet_skip | (go_big_quiet_want; refine quiet_val (v := ?_) ?_ ?_; rotate_left 1; (· (intro Wq hWq; obtain ⟨hWc, hWf⟩ := bcell hWq; go_simp; (try with_reducible rfl))); go_big_quiet_on; (try simp only [Act.put, List.setIfInBounds_toArray, List.set_cons_zero, List.set_cons_succ])))
          (first | go_big_quiet_skip | (go_big_quiet_want; refine quiet_val (v := ?_) ?_ ?_; rotate_left 1; (· (intro Wq hWq; obtain ⟨hWc, hWf⟩ := bcell hWq; go_simp; (try with_reducible rfl))); go_big_quiet_on; (try simp only [Act.put, List.setIfInBounds_toArray, List.set_cons_zero, List.set_cons_succ])))
          (first | go_big_quiet_skip | (go_big_quiet_want; refine quiet_val (v := ?_) ?_ ?_; rotate_left 1; (· (intro Wq hWq; obtain ⟨hWc, hWf⟩ := bcell hWq; go_simp; (try with_reducible rfl))); go_big_quiet_on; (try simp only [Act.put, List.setIfInBounds_toArray, List.set_cons_zero, List.set_cons_succ])))
          go_big_quiet_want; refine quiet_callB (f := 84) (args := ?_) (v := ?_) ?_ ?_ ?_; rotate_left 2
          · (intro Wq hWq; obtain ⟨hWc, hWf⟩ := bcell hWq; go_simp; (first | with_reducible rfl | exact ⟨rfl, rfl⟩))
          · (intro Wq hWq; exact H1.out _)
          go_big_quiet_on; (try simp only [Act.put, List.setIfInBounds_toArray, List.set_cons_zero, List.set_cons_succ])
          (first | go_big_quiet_skip | (go_big_quiet_want; refine quiet_val (v := ?_) ?_ ?_; rotate_left 1; (· (intro Wq hWq; obtain ⟨hWc, hWf⟩ := bcell hWq; go_simp; (try with_reducible rfl))); go_big_quiet_on; (try simp only [Act.put, List.setIfInBounds_toArray, List.set_cons_zero, List.set_cons_succ])))
          (first | go_big_quiet_skip | (go_big_quiet_want; refine quiet_val (v := ?_) ?_ ?_; rotate_left 1; (· (intro Wq hWq; obtain ⟨hWc, hWf⟩ := bcell hWq; go_simp; (try with_reducible rfl))); go_big_quiet_on; (try simp only [Act.put, List.setIfInBounds_toArray, List.set_cons_zero, List.set_cons_succ])))
          (first | go_big_quiet_skip | (go_big_quiet_want; refine quiet_val (v := ?_) ?_ ?_; rotate_left 1; (· (intro Wq hWq; obtain ⟨hWc, hWf⟩ := bcell hWq; go_simp; (try with_reducible rfl))); go_big_quiet_on; (try simp only [Act.put, List.setIfInBounds_toArray, List.set_cons_zero, List.set_cons_succ])))
          go_big_quiet_want; refine quiet_callB (f := 84) (args := ?_) (v := ?_) ?_ ?_ ?_; rotate_left 2
          · (intro Wq hWq; obtain ⟨hWc, hWf⟩ := bcell hWq; go_simp; (first | with_reducible rfl | exact ⟨rfl, rfl⟩))
          · (intro Wq hWq; exact H2.out _)
          go_big_quiet_on; (try simp only [Act.put, List.setIfInBounds_toArray, List.set_cons_zero, List.set_cons_succ])
          (first | go_big_quiet_skip | (go_big_quiet_want; refine quiet_val (v := ?_) ?_ ?_; rotate_left 1; (· (intro Wq hWq; obtain ⟨hWc, hWf⟩ := bcell hWq; go_simp; (try with_reducible rfl))); go_big_quiet_on; (try simp only [Act.put, List.setIfInBounds_toArray, List.set_cons_zero, List.set_cons_succ])))
          refine wpQuiet_nil ?_; intro w3 hb3
          have q0_0 : w3.cell? ⟨V.heap.size, 0, none⟩ = some (.int .i64 t.gx) := keep_cell hb3 (by simp [go_sem, *]); have q0_1 : w3.cell? ⟨V.heap.size, 1, none⟩ = some (.int .i64 t.gy) := keep_cell hb3 (by simp [go_sem, *]); have q0_2 : w3.cell? ⟨V.heap.size, 2, none⟩ = some (.int .i64 t.lo) := keep_cell hb3 (by simp [go_sem, *]); have q0_3 : w3.cell? ⟨V.heap.size, 3, none⟩ = some (.int .i64 t.hi) := keep_cell hb3 (by simp [go_sem, *]); have p0 : V.heap.size < w3.heap.size := cell?_lt q0_0; have q1_0 : w3.cell? ⟨V.heap.size + 1, 0, none⟩ = some (.int .i64 n1) := keep_cell hb3 (by simp [go_sem, *]); have q1_1 : w3.cell? ⟨V.heap.size + 1, 1, none⟩ = some (.int .i64 n2) := keep_cell hb3 (by simp [go_sem, *]); have p1 : V.heap.size + 1 < w3.heap.size := cell?_lt q1_0; have q2_0 : w3.cell? ⟨V.heap.size + 1 + 1, 0, none⟩ = some (.int .i64 fx) := keep_cell hb3 (by simp [go_sem, *]); have r2_0 : w3.frozen? ⟨V.heap.size + 1 + 1, 0, none⟩ = false := keep_frozen hb3 (by first | omega | (simp <;> omega)) (by simp [go_sem, *]); have q2_1 : w3.cell? ⟨V.heap.size + 1 + 1, 1, none⟩ = some (.int .i64 fy) := keep_cell hb3 (by simp [go_sem, *]); have r2_1 : w3.frozen? ⟨V.heap.size + 1 + 1, 1, none⟩ = false := keep_frozen hb3 (by first | omega | (simp <;> omega)) (by simp [go_sem, *]); have p2 : V.heap.size + 1 + 1 < w3.heap.size := cell?_lt q2_0; have q3_0 : w3.cell? ⟨V.heap.size + 1 + 1 + 1, 0, none⟩ = some (.int .i64 c) := keep_cell hb3 (by simp [go_sem, *]); have q3_1 : w3.cell? ⟨V.heap.size + 1 + 1 + 1, 1, none⟩ = some (.int .i64 d) := keep_cell hb3 (by simp [go_sem, *]); have q3_2 : w3.cell? ⟨V.heap.size + 1 + 1 + 1, 2, none⟩ = some (.int .i64 a) := keep_cell hb3 (by simp [go_sem, *]); have q3_3 : w3.cell? ⟨V.heap.size + 1 + 1 + 1, 3, none⟩ = some (.int .i64 d) := keep_cell hb3 (by simp [go_sem, *]); have q3_4 : w3.cell? ⟨V.heap.size + 1 + 1 + 1, 4, none⟩ = some (.int .i64 c) := keep_cell hb3 (by simp [go_sem, *]); have q3_5 : w3.cell? ⟨V.heap.size + 1 + 1 + 1, 5, none⟩ = some (.int .i64 b) := keep_cell hb3 (by simp [go_sem, *]); have p3 : V.heap.size + 1 + 1 + 1 < w3.heap.size := cell?_lt q3_0; have q4_0 : w3.cell? ⟨wr.heap.size, 0, none⟩ = some (.int .i64 cx) := keep_cell hb3 (by simp [go_sem, *]); have q4_1 : w3.cell? ⟨wr.heap.size, 1, none⟩ = some (.int .i64 cy) := keep_cell hb3 (by simp [go_sem, *]); have p4 : wr.heap.size < w3.heap.size := cell?_lt q4_0
          have g3 : Below V.heap.size V w3 := by (repeat (first | (with_reducible exact Below.refl _ _) | (with_reducible assumption) | (with_reducible refine Below.drew ?_) | (with_reducible refine Below.allocS ?_ _) | (with_reducible refine Below.setCell ?_ ?_ _) | (with_reducible refine Below.step ?_ (by assumption)) | (with_reducible refine Below.drewN' ?_ _))); (try any_goals (first | (with_reducible assumption) | (simp; done) | (simp; omega) | omega))
          clear hb3
          go_wp2
          go_roundw
          case rel => exact ⟨j + 1, fx, fy, by omega, by go_num, HC'.out, by (repeat (first | (with_reducible exact Below.refl _ _) | (with_reducible assumption) | (with_reducible refine Below.drew ?_) | (with_reducible refine Below.allocS ?_ _) | (with_reducible refine Below.setCell ?_ ?_ _) | (with_reducible refine Below.step ?_ (by assumption)) | (with_reducible refine Below.drewN' ?_ _))); (try any_goals (first | (with_reducible assumption) | (simp; done) | (simp; omega) | omega)), by constructor <;> simp [go_sem, *]⟩
          case measure => simp [intOf]; omega
      · obtain rfl : j = 3 := by omega
        have HE := HS.out _ _ HC.out
        have H1 := Lib.hid (fun W => rlag_c s v _ _ _ _ ha t1 hpl W)
        rw [HE] at H1
        have H2 := Lib.hid (fun W => rmeet_c (lagLo s v (dd t.gx t.gy n1 n2)) (lagHi s v (farD a b c d t)) t.lo t.hi W)
        have fd0 : ∀ (x y : Int) (W : World), (Instr.field 29 (.agg #[.int .i64 x, .int .i64 y]) 0).run Try.prog W = .ok (.int .i64 x) W := fun _ _ _ => by kernel_rfl
        have fd1 : ∀ (x y : Int) (W : World), (Instr.field 29 (.agg #[.int .i64 x, .int .i64 y]) 1).run Try.prog W = .ok (.int .i64 y) W := fun _ _ _ => by kernel_rfl
        clear HF HQ hle HE hpl HC HS
        cases hp1 : meetB (lagLo s v (dd t.gx t.gy n1 n2)) (lagHi s v (farD a b c d t)) t.lo t.hi
        all_goals
          rw [hp1] at H2
          have HA := Lib.hid (HP.out.trans (congrArg not hp1))
          clear hp1
          go_wp2_with fail
          refine region_below (by kernel_rfl) (by kernel_rfl) ?_
          (first | go_big_quiet_skip | (go_big_quiet_want; refine quiet_val (v := ?_) ?_ ?_; rotate_left 1; (· (intro Wq hWq; obtain ⟨hWc, hWf⟩ := bcell hWq; go_simp; (try with_reducible rfl))); go_big_quiet_on; (try simp only [Act.put, List.setIfInBounds_toArray, List.set_cons_zero, List.set_cons_succ])))
          (first | go_big_quiet_skip | (go_big_quiet_want; refine quiet_val (v := ?_) ?_ ?_; rotate_left 1; (· (intro Wq hWq; obtain ⟨hWc, hWf⟩ := bcell hWq; go_simp; (try with_reducible rfl))); go_big_quiet_on; (try simp only [Act.put, List.setIfInBounds_toArray, List.set_cons_zero, List.set_cons_succ])))
          (first | go_big_quiet_skip | (go_big_quiet_want; refine quiet_val (v := ?_) ?_ ?_; rotate_left 1; (· (intro Wq hWq; obtain ⟨hWc, hWf⟩ := bcell hWq; go_simp; (try with_reducible rfl))); go_big_quiet_on; (try simp only [Act.put, List.setIfInBounds_toArray, List.set_cons_zero, List.set_cons_succ])))
          (first | go_big_quiet_skip | (go_big_quiet_want; refine quiet_val (v := ?_) ?_ ?_; rotate_left 1; (· (intro Wq hWq; obtain ⟨hWc, hWf⟩ := bcell hWq; go_simp; (try with_reducible rfl))); go_big_quiet_on; (try simp only [Act.put, List.setIfInBounds_toArray, List.set_cons_zero, List.set_cons_succ])))
          go_big_quiet_want; refine quiet_callB (f := 62) (args := ?_) (v := ?_) ?_ ?_ ?_; rotate_left 2
          · (intro Wq hWq; obtain ⟨hWc, hWf⟩ := bcell hWq; go_simp; (first | with_reducible rfl | exact ⟨rfl, rfl⟩))
          · (intro Wq hWq; exact HN.out _)
          go_big_quiet_on; (try simp only [Act.put, List.setIfInBounds_toArray, List.set_cons_zero, List.set_cons_succ])
          (first | go_big_quiet_skip | (go_big_quiet_want; refine quiet_val (v := ?_) ?_ ?_; rotate_left 1; (· (intro Wq hWq; obtain ⟨hWc, hWf⟩ := bcell hWq; go_simp; (try with_reducible rfl))); go_big_quiet_on; (try simp only [Act.put, List.setIfInBounds_toArray, List.set_cons_zero, List.set_cons_succ])))
          (first | go_big_quiet_skip | (go_big_quiet_want; refine quiet_val (v := ?_) ?_ ?_; rotate_left 1; (· (intro Wq hWq; obtain ⟨hWc, hWf⟩ := bcell hWq; go_simp; (try with_reducible rfl))); go_big_quiet_on; (try simp only [Act.put, List.setIfInBounds_toArray, List.set_cons_zero, List.set_cons_succ])))
          (first | go_big_quiet_skip | (go_big_quiet_want; refine quiet_val (v := ?_) ?_ ?_; rotate_left 1; (· (intro Wq hWq; obtain ⟨hWc, hWf⟩ := bcell hWq; go_simp; (try with_reducible rfl))); go_big_quiet_on; (try simp only [Act.put, List.setIfInBounds_toArray, List.set_cons_zero, List.set_cons_succ])))
          (first | go_big_quiet_skip | (go_big_quiet_want; refine quiet_val (v := ?_) ?_ ?_; rotate_left 1; (· (intro Wq hWq; obtain ⟨hWc, hWf⟩ := bcell hWq; go_simp; (try with_reducible rfl))); go_big_quiet_on; (try simp only [Act.put, List.setIfInBounds_toArray, List.set_cons_zero, List.set_cons_succ])))
          (first | go_big_quiet_skip | (go_big_quiet_want; refine quiet_val (v := ?_) ?_ ?_; rotate_left 1; (· (intro Wq hWq; obtain ⟨hWc, hWf⟩ := bcell hWq; go_simp; (try with_reducible rfl))); go_big_quiet_on; (try simp only [Act.put, List.setIfInBounds_toArray, List.set_cons_zero, List.set_cons_succ])))
          go_big_quiet_want; refine quiet_callB (f := 62) (args := ?_) (v := ?_) ?_ ?_ ?_; rotate_left 2
          · (intro Wq hWq; obtain ⟨hWc, hWf⟩ := bcell hWq; go_simp; (first | with_reducible rfl | exact ⟨rfl, rfl⟩))
          · (intro Wq hWq; exact H1.out _)
          go_big_quiet_on; (try simp only [Act.put, List.setIfInBounds_toArray, List.set_cons_zero, List.set_cons_succ])
          (first | go_big_quiet_skip | (go_big_quiet_want; refine quiet_val (v := ?_) ?_ ?_; rotate_left 1; (· (intro Wq hWq; obtain ⟨hWc, hWf⟩ := bcell hWq; go_simp; (try with_reducible rfl))); go_big_quiet_on; (try simp only [Act.put, List.setIfInBounds_toArray, List.set_cons_zero, List.set_cons_succ])))
          (first | go_big_quiet_skip | (go_big_quiet_want; refine quiet_val (v := ?_) ?_ ?_; rotate_left 1; (· (intro Wq hWq; obtain ⟨hWc, hWf⟩ := bcell hWq; go_simp; (try with_reducible rfl))); go_big_quiet_on; (try simp only [Act.put, List.setIfInBounds_toArray, List.set_cons_zero, List.set_cons_succ])))
          (first | go_big_quiet_skip | (go_big_quiet_want; refine quiet_val (v := ?_) ?_ ?_; rotate_left 1; (· (intro Wq hWq; obtain ⟨hWc, hWf⟩ := bcell hWq; go_simp; (try with_reducible rfl))); go_big_quiet_on; (try simp only [Act.put, List.setIfInBounds_toArray, List.set_cons_zero, List.set_cons_succ])))
          (first | go_big_quiet_skip | (go_big_quiet_want; refine quiet_val (v := ?_) ?_ ?_; rotate_left 1; (· (intro Wq hWq; obtain ⟨hWc, hWf⟩ := bcell hWq; go_simp; (try with_reducible rfl))); go_big_quiet_on; (try simp only [Act.put, List.setIfInBounds_toArray, List.set_cons_zero, List.set_cons_succ])))
          go_big_quiet_want; refine quiet_callB (f := 85) (args := ?_) (v := ?_) ?_ ?_ ?_; rotate_left 2
          · (intro Wq hWq; obtain ⟨hWc, hWf⟩ := bcell hWq; go_simp; (first | with_reducible rfl | exact ⟨rfl, rfl⟩))
          · (intro Wq hWq; exact H2.out _)
          go_big_quiet_on; (try simp only [Act.put, List.setIfInBounds_toArray, List.set_cons_zero, List.set_cons_succ])
          (first | go_big_quiet_skip | (go_big_quiet_want; refine quiet_val (v := ?_) ?_ ?_; rotate_left 1; (· (intro Wq hWq; obtain ⟨hWc, hWf⟩ := bcell hWq; go_simp; (try with_reducible rfl))); go_big_quiet_on; (try simp only [Act.put, List.setIfInBounds_toArray, List.set_cons_zero, List.set_cons_succ])))
          refine wpQuiet_nil ?_; intro w3 hb3
          have g3 : Below V.heap.size V w3 := Below.step hb2 hb3
        · go_wp2
          go_ret2
          exact ⟨by rw [HX.out, HD.out, List.any_cons, HA.out]; rfl, Below.step gw g3⟩
        · go_wp2
          go_roundw
          case rel => exact ⟨k + 1, by omega, by go_num, Below.step hbw g3, by rw [HX.out, HD.out, List.any_cons, HA.out]; rfl⟩
          case measure => simp [intOf]; omega
end Go.Proofs.Ytgiplkfdallmkaa
