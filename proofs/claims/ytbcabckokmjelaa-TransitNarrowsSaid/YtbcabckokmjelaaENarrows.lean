/-
  TransitNarrows: the walk. Printed by gen_narrows.py.
-/
import Derived.Test.YtbcabckokmjelaaQ19
import Derived.Test.YtbcabckokmjelaaEFits
import Derived.Deep.DeepCutAuto
import Derived.Deep.RegionLawGrows
namespace Go.Proofs.Ytbcabckokmjelaa
open Go.RowKit Go.Deep
set_option linter.unusedVariables false
set_option linter.unusedSimpArgs false
set_option maxHeartbeats 4000000 in
set_option maxRecDepth 100000 in
theorem TransitNarrows_walk (w : World) (x : Tb) (A : Option Addr) (cap : Nat) (l : List Tr) (t : Tr) (hx : TbAt w x) (hl : l.length ≤ cap) (hm : cap ≤ maxLen) (hr : RdL w w.heap.size trE 5 A l) (hls : ∀ t ∈ l, TrAt w t) (hz : A = none → cap = 0) (ht : TrAt w t) :
    Calls Try.prog 9 #[.agg #[.slice x.A x.xs.length x.ca, .int .i64 x.e], .slice A l.length cap, .agg #[.string t.nm, .int .i64 t.a, .int .i64 t.b, .int .i64 t.c, .slice t.T t.ts.length t.ct]] w fun e w' => e = .returned (.bool true) ∧ Below w.heap.size w w' := by
  have hm1 : 1 ≤ maxLen := by unfold maxLen; omega
  have hz2 : A = none → l.length = 0 ∧ cap = 0 := fun h => ⟨hr.none_len h, hz h⟩
  have HW := Lib.hid (fun W (hb : Below w.heap.size w W) => wide_c x l A cap W (hx.step hb) hl hm (hr.step hb))
  have HW2 := Lib.hid (fun W hb b h => wide_c x [t] (some ⟨b, 0, none⟩) 1 W (hx.step hb) (Nat.le_refl _) hm1 h)
  have H1 := Lib.hid (fun W (hb : Below w.heap.size w W) => Agree_c x l A cap W (hx.step hb) hl hm (hr.step hb) (fun t h => (hls t h).step hb))
  have H3 := Lib.hid (fun W (hb : Below w.heap.size w W) => Reach_c x l A cap W (hx.step hb) hl hm (hr.step hb) (fun t h => (hls t h).step hb))
  have HLS := Lib.hid (fun W (hb : Below w.heap.size w W) s (h : s ∈ l ++ [t]) => show TrAt W s by
    rcases List.mem_append.1 h with h | h
    · exact (hls s h).step hb
    · simp at h; subst h; exact ht.step hb)
  have HX := Lib.hid (fun W (hb : Below w.heap.size w W) => hx.step hb)
  have HR := Lib.hid hr
  have hlm : l.length ≤ 9223372036854775807 := by unfold maxLen at hm; omega
  have HN := Lib.hid (narrow (x := x) (l := l) (m := l ++ [t]) (fun s h => List.mem_append.2 (.inl h)))
  clear hx hr hls ht hm1 hz hl
  go_enter Try.func9, Try.ntmps9
  go_wp2_with fail
  refine (HW.out _ (by (repeat (first | exact Below.refl _ _ | refine Below.drew ?_ | refine Below.allocS ?_ _ | refine Below.step ?_ (by assumption) | refine Below.setCell ?_ (by simp <;> omega) _ | refine Below.drewN' ?_ _)))).mono ?_
  rintro e w1 ⟨⟨X, rfl, -⟩, hb1⟩
  have x1_0_0 : w1.cell? ⟨w.heap.size, 0, none⟩ = some (.slice x.A x.xs.length x.ca) := keep_cell hb1 (by simp [go_sem, *])
  have x1_0_1 : w1.cell? ⟨w.heap.size, 1, none⟩ = some (.int .i64 x.e) := keep_cell hb1 (by simp [go_sem, *])
  have y1_0 : w.heap.size < w1.heap.size := cell?_lt x1_0_0
  have x1_1_0 : w1.cell? ⟨w.heap.size + 1, 0, none⟩ = some (.string t.nm) := keep_cell hb1 (by simp [go_sem, *])
  have x1_1_1 : w1.cell? ⟨w.heap.size + 1, 1, none⟩ = some (.int .i64 t.a) := keep_cell hb1 (by simp [go_sem, *])
  have x1_1_2 : w1.cell? ⟨w.heap.size + 1, 2, none⟩ = some (.int .i64 t.b) := keep_cell hb1 (by simp [go_sem, *])
  have x1_1_3 : w1.cell? ⟨w.heap.size + 1, 3, none⟩ = some (.int .i64 t.c) := keep_cell hb1 (by simp [go_sem, *])
  have x1_1_4 : w1.cell? ⟨w.heap.size + 1, 4, none⟩ = some (.slice t.T t.ts.length t.ct) := keep_cell hb1 (by simp [go_sem, *])
  have y1_1 : w.heap.size + 1 < w1.heap.size := cell?_lt x1_1_0
  have g1 : Below w.heap.size w w1 := by (repeat (first | exact Below.refl _ _ | refine Below.drew ?_ | refine Below.allocS ?_ _ | refine Below.step ?_ (by assumption) | refine Below.setCell ?_ (by simp <;> omega) _ | refine Below.drewN' ?_ _))
  clear hb1
  cases X
  case true =>
    go_wp2_with fail
    refine (awake_c _).mono ?_
    rintro e w2 ⟨rfl, hb2⟩
    go_wp2
    go_ret
    exact ⟨rfl, by (repeat (first | exact Below.refl _ _ | refine Below.drew ?_ | refine Below.allocS ?_ _ | refine Below.step ?_ (by assumption) | refine Below.setCell ?_ (by simp <;> omega) _ | refine Below.drewN' ?_ _))⟩
  by_cases h7 : 7 < l.length
  · have h7' : decide (7 < (l.length : Int)) = true := decide_eq_true (by omega)
    go_wp2_with fail
    refine (awake_c _).mono ?_
    rintro e w2 ⟨rfl, hb2⟩
    go_wp2
    go_ret
    exact ⟨rfl, by (repeat (first | exact Below.refl _ _ | refine Below.drew ?_ | refine Below.allocS ?_ _ | refine Below.step ?_ (by assumption) | refine Below.setCell ?_ (by simp <;> omega) _ | refine Below.drewN' ?_ _))⟩
  have h7' : decide (7 < (l.length : Int)) = false := decide_eq_false (by omega)
  have HA := Lib.hid (fun W base g hrow hb ho => app1T l A cap hz2 (by omega) W base g hrow hb ho)
  have HB := Lib.hid (fun W base g u hrow hb c0 c1 c2 c3 c4 => app2T l t (by omega) W base g u hrow hb c0 c1 c2 c3 c4)
  clear hz2
  go_wp2_with fail
  refine (HW2.out _ (by (repeat (first | exact Below.refl _ _ | refine Below.drew ?_ | refine Below.allocS ?_ _ | refine Below.step ?_ (by assumption) | refine Below.setCell ?_ (by simp <;> omega) _ | refine Below.drewN' ?_ _))) w1.heap.size (RdL.oneT (by simp [go_sem, *]) (by simp [go_sem, *]) (by simp [go_sem, *]) (by simp [go_sem, *]) (by simp [go_sem, *]))).mono ?_
  rintro r0 w2 ⟨⟨X, rfl, -⟩, hb2⟩

  have x2_0_0 : w2.cell? ⟨w.heap.size, 0, none⟩ = some (.slice x.A x.xs.length x.ca) := keep_cell hb2 (by simp [go_sem, *])
  have x2_0_1 : w2.cell? ⟨w.heap.size, 1, none⟩ = some (.int .i64 x.e) := keep_cell hb2 (by simp [go_sem, *])
  have x2_1_0 : w2.cell? ⟨w.heap.size + 1, 0, none⟩ = some (.string t.nm) := keep_cell hb2 (by simp [go_sem, *])
  have x2_1_1 : w2.cell? ⟨w.heap.size + 1, 1, none⟩ = some (.int .i64 t.a) := keep_cell hb2 (by simp [go_sem, *])
  have x2_1_2 : w2.cell? ⟨w.heap.size + 1, 2, none⟩ = some (.int .i64 t.b) := keep_cell hb2 (by simp [go_sem, *])
  have x2_1_3 : w2.cell? ⟨w.heap.size + 1, 3, none⟩ = some (.int .i64 t.c) := keep_cell hb2 (by simp [go_sem, *])
  have x2_1_4 : w2.cell? ⟨w.heap.size + 1, 4, none⟩ = some (.slice t.T t.ts.length t.ct) := keep_cell hb2 (by simp [go_sem, *])
  have y2_0 : w.heap.size < w2.heap.size := cell?_lt x2_0_0
  have y2_1 : w.heap.size + 1 < w2.heap.size := cell?_lt x2_1_0
  have g2 : Below w.heap.size w w2 := by (repeat (first | exact Below.refl _ _ | refine Below.drew ?_ | refine Below.allocS ?_ _ | refine Below.step ?_ (by assumption) | refine Below.setCell ?_ (by simp <;> omega) _ | refine Below.drewN' ?_ _))
  clear hb2 HW2 HW g1 x1_0_0 x1_0_1 x1_1_0 x1_1_1 x1_1_2 x1_1_3 x1_1_4 y1_0 y1_1
  cases X
  case true =>
    go_wp2_with fail
    refine (awake_c _).mono ?_
    rintro e w3 ⟨rfl, hb3⟩
    go_wp2
    go_ret
    exact ⟨rfl, by (repeat (first | exact Below.refl _ _ | refine Below.drew ?_ | refine Below.allocS ?_ _ | refine Below.step ?_ (by assumption) | refine Below.setCell ?_ (by simp <;> omega) _ | refine Below.drewN' ?_ _))⟩
  go_wp2_with fail
  go_cut [7] (fun s7 w3 => w3.ownsRow w.heap.size 28 5 s7 (l.length + 1) ((l ++ [t]).flatMap trE) ∧ w3.cell? ⟨w.heap.size, 0, none⟩ = some (.slice x.A x.xs.length x.ca) ∧ w3.cell? ⟨w.heap.size, 1, none⟩ = some (.int .i64 x.e) ∧ w3.cell? ⟨w.heap.size + 1, 0, none⟩ = some (.string t.nm) ∧ w3.cell? ⟨w.heap.size + 1, 1, none⟩ = some (.int .i64 t.a) ∧ w3.cell? ⟨w.heap.size + 1, 2, none⟩ = some (.int .i64 t.b) ∧ w3.cell? ⟨w.heap.size + 1, 3, none⟩ = some (.int .i64 t.c) ∧ w3.cell? ⟨w.heap.size + 1, 4, none⟩ = some (.slice t.T t.ts.length t.ct) ∧ Below w.heap.size w w3)
  case first =>
    have hs1 := g2.size
    go_region_law (first
      | ((refine step_app rfl (.tmp 31) (.tmp 32) 30 rfl _ (.slice A l.length cap) rfl (by simp [Act.eval]) (HA.out _ w2.heap.size _ (own_base (by first | exact empty_row _ _ _ | exact (empty_row _ _ _).alloc _ | exact empty_row' (w2.alloc (.cells #[.string t.nm, .int .i64 t.a, .int .i64 t.b, .int .i64 t.c, .slice t.T t.ts.length t.ct] 28)) _ _ (w2.heap.size + 1) (by simp)) (by first | omega | (simp; done) | (simp; omega))) (by first | omega | (simp; done) | (simp; omega)) (HR.out.olds trE_len (by decide) (by (repeat (first | exact Below.refl _ _ | refine Below.drew ?_ | refine Below.allocS ?_ _ | refine Below.step ?_ (by assumption) | refine Below.setCell ?_ (by simp <;> omega) _ | refine Below.drewN' ?_ _))))) ?_); rintro v3 w3 ⟨hown3, hgrow3⟩; have z3 : w2.heap.size ≤ w3.heap.size := (by have := hgrow3.size; first | omega | (simp at this; omega)); have p0 : w3.cell? ⟨w.heap.size, 0, none⟩ = some (.slice x.A x.xs.length x.ca) := grown_cell hgrow3 (by simp [go_sem, *]) (by first | (simp; done) | (simp; omega)); have p1 : w3.cell? ⟨w.heap.size, 1, none⟩ = some (.int .i64 x.e) := grown_cell hgrow3 (by simp [go_sem, *]) (by first | (simp; done) | (simp; omega)); have p2 : w3.cell? ⟨w.heap.size + 1, 0, none⟩ = some (.string t.nm) := grown_cell hgrow3 (by simp [go_sem, *]) (by first | (simp; done) | (simp; omega)); have p3 : w3.cell? ⟨w.heap.size + 1, 1, none⟩ = some (.int .i64 t.a) := grown_cell hgrow3 (by simp [go_sem, *]) (by first | (simp; done) | (simp; omega)); have p4 : w3.cell? ⟨w.heap.size + 1, 2, none⟩ = some (.int .i64 t.b) := grown_cell hgrow3 (by simp [go_sem, *]) (by first | (simp; done) | (simp; omega)); have p5 : w3.cell? ⟨w.heap.size + 1, 3, none⟩ = some (.int .i64 t.c) := grown_cell hgrow3 (by simp [go_sem, *]) (by first | (simp; done) | (simp; omega)); have p6 : w3.cell? ⟨w.heap.size + 1, 4, none⟩ = some (.slice t.T t.ts.length t.ct) := grown_cell hgrow3 (by simp [go_sem, *]) (by first | (simp; done) | (simp; omega)); have py0 : w.heap.size < w3.heap.size := cell?_lt p0; have py1 : w.heap.size + 1 < w3.heap.size := cell?_lt p2; have b3 : Below w.heap.size w w3 := Below.grown (by (repeat (first | exact Below.refl _ _ | refine Below.drew ?_ | refine Below.allocS ?_ _ | refine Below.step ?_ (by assumption) | refine Below.setCell ?_ (by simp <;> omega) _ | refine Below.drewN' ?_ _))) hgrow3 (by first | omega | (simp; done) | (simp; omega)) (fun k e => by cases e; omega))
      | ((refine step_app rfl (.tmp 33) (.tmp 35) 30 rfl _ _ rfl rfl (HB.out _ w2.heap.size _ _ (by first | exact hown3 | exact ownsRow_keep hown3 (by (repeat (first | exact Below.refl _ _ | refine Below.drew ?_ | refine Below.allocS ?_ _ | refine Below.step ?_ (by assumption) | refine Below.setCell ?_ (by simp <;> omega) _ | refine Below.drewN' ?_ _)))) (by first | omega | (simp; done) | (simp; omega)) (by first | (simp [go_sem, *]; done) | exact grown_cell hgrow3 (by simp [go_sem, *]) (by simp)) (by first | (simp [go_sem, *]; done) | exact grown_cell hgrow3 (by simp [go_sem, *]) (by simp)) (by first | (simp [go_sem, *]; done) | exact grown_cell hgrow3 (by simp [go_sem, *]) (by simp)) (by first | (simp [go_sem, *]; done) | exact grown_cell hgrow3 (by simp [go_sem, *]) (by simp)) (by first | (simp [go_sem, *]; done) | exact grown_cell hgrow3 (by simp [go_sem, *]) (by simp))) ?_); rintro v4 w4 ⟨hown4, hgrow4⟩))
    all_goals
      have q0 : w4.cell? ⟨w.heap.size, 0, none⟩ = some (.slice x.A x.xs.length x.ca) := grown_cell hgrow4 (by simp [go_sem, *]) (own_ne hown3 (by omega))
      have q1 : w4.cell? ⟨w.heap.size, 1, none⟩ = some (.int .i64 x.e) := grown_cell hgrow4 (by simp [go_sem, *]) (own_ne hown3 (by omega))
      have q2 : w4.cell? ⟨w.heap.size + 1, 0, none⟩ = some (.string t.nm) := grown_cell hgrow4 (by simp [go_sem, *]) (own_ne hown3 (by omega))
      have q3 : w4.cell? ⟨w.heap.size + 1, 1, none⟩ = some (.int .i64 t.a) := grown_cell hgrow4 (by simp [go_sem, *]) (own_ne hown3 (by omega))
      have q4 : w4.cell? ⟨w.heap.size + 1, 2, none⟩ = some (.int .i64 t.b) := grown_cell hgrow4 (by simp [go_sem, *]) (own_ne hown3 (by omega))
      have q5 : w4.cell? ⟨w.heap.size + 1, 3, none⟩ = some (.int .i64 t.c) := grown_cell hgrow4 (by simp [go_sem, *]) (own_ne hown3 (by omega))
      have q6 : w4.cell? ⟨w.heap.size + 1, 4, none⟩ = some (.slice t.T t.ts.length t.ct) := grown_cell hgrow4 (by simp [go_sem, *]) (own_ne hown3 (by omega))
      have b4 : Below w.heap.size w w4 := Below.grown (by (repeat (first | exact Below.refl _ _ | refine Below.drew ?_ | refine Below.allocS ?_ _ | refine Below.step ?_ (by assumption) | refine Below.setCell ?_ (by simp <;> omega) _ | refine Below.drewN' ?_ _))) hgrow4 (by have := b3.size; first | omega | (simp; omega)) (fun k e => by have := (hown3.lt k e).1; omega)
      have hown5 := own_base hown4 (show w.heap.size ≤ w2.heap.size by omega)
      clear HA HB HR hown3 hgrow3 hown4 hgrow4 b3 p0 p1 p2 p3 p4 p5 p6
      go_wp2_with fail
      go_meet
      exact ⟨hown5, by simp [go_sem, *], by simp [go_sem, *], by simp [go_sem, *], by simp [go_sem, *], by simp [go_sem, *], by simp [go_sem, *], by simp [go_sem, *], by (repeat (first | exact Below.refl _ _ | refine Below.drew ?_ | refine Below.allocS ?_ _ | refine Below.step ?_ (by assumption) | refine Below.setCell ?_ (by simp <;> omega) _ | refine Below.drewN' ?_ _))⟩
  case rest =>
    obtain ⟨c2, x3_0_0, x3_0_1, x3_1_0, x3_1_1, x3_1_2, x3_1_3, x3_1_4, g3⟩ := hcut
    have y3_0 : w.heap.size < wc.heap.size := cell?_lt x3_0_0
    have y3_1 : w.heap.size + 1 < wc.heap.size := cell?_lt x3_1_0
    obtain ⟨A7, c7, rfl, k7, m7⟩ := row_form c2
    have r7 : RdL wc wc.heap.size trE 5 A7 (l ++ [t]) := RdL.of_own trE_len c2 (by simp)
    have hln : (l ++ [t]).length = l.length + 1 := by simp
    have H2 : Hid (∀ W, Below w.heap.size w W → RdL W W.heap.size trE 5 A7 (l ++ [t]) → Calls Try.prog 29 #[.agg #[.slice x.A x.xs.length x.ca, .int .i64 x.e], .slice A7 (l.length + 1) c7] W fun e w' => e = .returned (.tuple #[.bool (agE x (l ++ [t])), .int .i64 (stErr x (l ++ [t]))]) ∧ Below W.heap.size W w') :=
      Lib.hid (fun W hb h => hln ▸ Agree_c x (l ++ [t]) A7 c7 W (HX.out W hb) (by rw [hln]; exact k7) m7 h (fun s hs => HLS.out W hb s hs))
    have H4 : Hid (∀ W, Below w.heap.size w W → RdL W W.heap.size trE 5 A7 (l ++ [t]) → Calls Try.prog 35 #[.agg #[.slice x.A x.xs.length x.ca, .int .i64 x.e], .slice A7 (l.length + 1) c7] W fun e w' => e = .returned (tlV (reT x (l ++ [t]))) ∧ Below W.heap.size W w') :=
      Lib.hid (fun W hb h => hln ▸ Reach_c x (l ++ [t]) A7 c7 W (HX.out W hb) (by rw [hln]; exact k7) m7 h (fun s hs => HLS.out W hb s hs))
    clear c2 hln HX HLS
    obtain ⟨n1, n2, n3, n4⟩ := HN.out
    clear HN
    unfold tlV at H3 H4
    generalize reT x l = R1 at *
    generalize reT x (l ++ [t]) = R2 at *
    generalize agE x l = a1 at *
    generalize agE x (l ++ [t]) = a2 at *
    generalize stErr x l = e1 at *
    generalize stErr x (l ++ [t]) = e2 at *
    have HC1 := Lib.hid (fun W => Compare_c R1.a R1.b R2.a R2.b W)
    have HC2 := Lib.hid (fun W => Compare_c R2.c R2.d R1.c R1.d W)
    generalize cmpR R1.a R1.b R2.a R2.b = v1 at *
    generalize cmpR R2.c R2.d R1.c R1.d = v2 at *
    obtain ⟨ra, rb, rc, rd, re⟩ := R1
    obtain ⟨sa, sb, sc, sd, se⟩ := R2
    simp only at H3 H4 HC1 HC2 n2 n3 n4

    go_wp2_with fail
    refine (H1.out _ (by (repeat (first | exact Below.refl _ _ | refine Below.drew ?_ | refine Below.allocS ?_ _ | refine Below.step ?_ (by assumption) | refine Below.setCell ?_ (by simp <;> omega) _ | refine Below.drewN' ?_ _)))).mono ?_
    rintro e w4 ⟨rfl, hb4⟩
    replace r7 := r7.step (W := w4) (by (repeat (first | exact Below.refl _ _ | refine Below.drew ?_ | refine Below.allocS ?_ _ | refine Below.step ?_ (by assumption) | refine Below.setCell ?_ (by simp <;> omega) _ | refine Below.drewN' ?_ _)))
    have x4_0_0 : w4.cell? ⟨w.heap.size, 0, none⟩ = some (.slice x.A x.xs.length x.ca) := keep_cell hb4 (by simp [go_sem, *])
    have x4_0_1 : w4.cell? ⟨w.heap.size, 1, none⟩ = some (.int .i64 x.e) := keep_cell hb4 (by simp [go_sem, *])
    have y4_0 : w.heap.size < w4.heap.size := cell?_lt x4_0_0
    have x4_1_0 : w4.cell? ⟨w.heap.size + 1, 0, none⟩ = some (.string t.nm) := keep_cell hb4 (by simp [go_sem, *])
    have x4_1_1 : w4.cell? ⟨w.heap.size + 1, 1, none⟩ = some (.int .i64 t.a) := keep_cell hb4 (by simp [go_sem, *])
    have x4_1_2 : w4.cell? ⟨w.heap.size + 1, 2, none⟩ = some (.int .i64 t.b) := keep_cell hb4 (by simp [go_sem, *])
    have x4_1_3 : w4.cell? ⟨w.heap.size + 1, 3, none⟩ = some (.int .i64 t.c) := keep_cell hb4 (by simp [go_sem, *])
    have x4_1_4 : w4.cell? ⟨w.heap.size + 1, 4, none⟩ = some (.slice t.T t.ts.length t.ct) := keep_cell hb4 (by simp [go_sem, *])
    have y4_1 : w.heap.size + 1 < w4.heap.size := cell?_lt x4_1_0
    have g4 : Below w.heap.size w w4 := by (repeat (first | exact Below.refl _ _ | refine Below.drew ?_ | refine Below.allocS ?_ _ | refine Below.step ?_ (by assumption) | refine Below.setCell ?_ (by simp <;> omega) _ | refine Below.drewN' ?_ _))
    clear hb4
    go_wp2_with fail
    refine (H2.out _ (by (repeat (first | exact Below.refl _ _ | refine Below.drew ?_ | refine Below.allocS ?_ _ | refine Below.step ?_ (by assumption) | refine Below.setCell ?_ (by simp <;> omega) _ | refine Below.drewN' ?_ _))) r7).mono ?_
    rintro e w5 ⟨rfl, hb5⟩
    replace r7 := r7.step (W := w5) (by (repeat (first | exact Below.refl _ _ | refine Below.drew ?_ | refine Below.allocS ?_ _ | refine Below.step ?_ (by assumption) | refine Below.setCell ?_ (by simp <;> omega) _ | refine Below.drewN' ?_ _)))
    have x5_0_0 : w5.cell? ⟨w.heap.size, 0, none⟩ = some (.slice x.A x.xs.length x.ca) := keep_cell hb5 (by simp [go_sem, *])
    have x5_0_1 : w5.cell? ⟨w.heap.size, 1, none⟩ = some (.int .i64 x.e) := keep_cell hb5 (by simp [go_sem, *])
    have y5_0 : w.heap.size < w5.heap.size := cell?_lt x5_0_0
    have x5_1_0 : w5.cell? ⟨w.heap.size + 1, 0, none⟩ = some (.string t.nm) := keep_cell hb5 (by simp [go_sem, *])
    have x5_1_1 : w5.cell? ⟨w.heap.size + 1, 1, none⟩ = some (.int .i64 t.a) := keep_cell hb5 (by simp [go_sem, *])
    have x5_1_2 : w5.cell? ⟨w.heap.size + 1, 2, none⟩ = some (.int .i64 t.b) := keep_cell hb5 (by simp [go_sem, *])
    have x5_1_3 : w5.cell? ⟨w.heap.size + 1, 3, none⟩ = some (.int .i64 t.c) := keep_cell hb5 (by simp [go_sem, *])
    have x5_1_4 : w5.cell? ⟨w.heap.size + 1, 4, none⟩ = some (.slice t.T t.ts.length t.ct) := keep_cell hb5 (by simp [go_sem, *])
    have y5_1 : w.heap.size + 1 < w5.heap.size := cell?_lt x5_1_0
    have g5 : Below w.heap.size w w5 := by (repeat (first | exact Below.refl _ _ | refine Below.drew ?_ | refine Below.allocS ?_ _ | refine Below.step ?_ (by assumption) | refine Below.setCell ?_ (by simp <;> omega) _ | refine Below.drewN' ?_ _))
    clear hb5 g4 x4_0_0 x4_0_1 x4_1_0 x4_1_1 x4_1_2 x4_1_3 x4_1_4 y4_0 y4_1
    by_cases he1 : e1 = 0
    case neg =>
      have he1' : (e1 != 0) = true := by simpa using he1
      go_wp2_with fail
      refine (awake_c _).mono ?_
      rintro e w6 ⟨rfl, hb6⟩
      go_wp2
      go_ret
      exact ⟨rfl, by (repeat (first | exact Below.refl _ _ | refine Below.drew ?_ | refine Below.allocS ?_ _ | refine Below.step ?_ (by assumption) | refine Below.setCell ?_ (by simp <;> omega) _ | refine Below.drewN' ?_ _))⟩
    by_cases he2 : e2 = 0
    case neg =>
      have he1' : (e1 != 0) = false := by simpa using he1
      have he2' : (e2 != 0) = true := by simpa using he2
      clear he1
      go_wp2_with fail
      refine (awake_c _).mono ?_
      rintro e w6 ⟨rfl, hb6⟩
      go_wp2
      go_ret
      exact ⟨rfl, by (repeat (first | exact Below.refl _ _ | refine Below.drew ?_ | refine Below.allocS ?_ _ | refine Below.step ?_ (by assumption) | refine Below.setCell ?_ (by simp <;> omega) _ | refine Below.drewN' ?_ _))⟩
    subst he1
    subst he2
    have hN1 := n1 rfl
    have hN2 := n2 rfl
    clear n1 n2
    have hbb : a2 = false ∨ (a2 = true ∧ a1 = true) := by
      cases a2
      · exact .inl rfl
      · exact .inr ⟨rfl, hN1 rfl⟩
    clear hN1
    rcases hbb with rfl | ⟨rfl, rfl⟩
    · skip
      go_wp2_with fail
      refine (H3.out _ (by (repeat (first | exact Below.refl _ _ | refine Below.drew ?_ | refine Below.allocS ?_ _ | refine Below.step ?_ (by assumption) | refine Below.setCell ?_ (by simp <;> omega) _ | refine Below.drewN' ?_ _)))).mono ?_
      rintro e w6 ⟨rfl, hb6⟩
      replace r7 := r7.step (W := w6) (by (repeat (first | exact Below.refl _ _ | refine Below.drew ?_ | refine Below.allocS ?_ _ | refine Below.step ?_ (by assumption) | refine Below.setCell ?_ (by simp <;> omega) _ | refine Below.drewN' ?_ _)))
      have x6_0_0 : w6.cell? ⟨w.heap.size, 0, none⟩ = some (.slice x.A x.xs.length x.ca) := keep_cell hb6 (by simp [go_sem, *])
      have x6_0_1 : w6.cell? ⟨w.heap.size, 1, none⟩ = some (.int .i64 x.e) := keep_cell hb6 (by simp [go_sem, *])
      have y6_0 : w.heap.size < w6.heap.size := cell?_lt x6_0_0
      have x6_1_0 : w6.cell? ⟨w.heap.size + 1, 0, none⟩ = some (.string t.nm) := keep_cell hb6 (by simp [go_sem, *])
      have x6_1_1 : w6.cell? ⟨w.heap.size + 1, 1, none⟩ = some (.int .i64 t.a) := keep_cell hb6 (by simp [go_sem, *])
      have x6_1_2 : w6.cell? ⟨w.heap.size + 1, 2, none⟩ = some (.int .i64 t.b) := keep_cell hb6 (by simp [go_sem, *])
      have x6_1_3 : w6.cell? ⟨w.heap.size + 1, 3, none⟩ = some (.int .i64 t.c) := keep_cell hb6 (by simp [go_sem, *])
      have x6_1_4 : w6.cell? ⟨w.heap.size + 1, 4, none⟩ = some (.slice t.T t.ts.length t.ct) := keep_cell hb6 (by simp [go_sem, *])
      have y6_1 : w.heap.size + 1 < w6.heap.size := cell?_lt x6_1_0
      have g6 : Below w.heap.size w w6 := by (repeat (first | exact Below.refl _ _ | refine Below.drew ?_ | refine Below.allocS ?_ _ | refine Below.step ?_ (by assumption) | refine Below.setCell ?_ (by simp <;> omega) _ | refine Below.drewN' ?_ _))
      clear hb6 g5 x5_0_0 x5_0_1 x5_1_0 x5_1_1 x5_1_2 x5_1_3 x5_1_4 y5_0 y5_1
      go_wp2_with fail
      refine (H4.out _ (by (repeat (first | exact Below.refl _ _ | refine Below.drew ?_ | refine Below.allocS ?_ _ | refine Below.step ?_ (by assumption) | refine Below.setCell ?_ (by simp <;> omega) _ | refine Below.drewN' ?_ _))) (r7.step (by (repeat (first | exact Below.refl _ _ | refine Below.drew ?_ | refine Below.allocS ?_ _ | refine Below.step ?_ (by assumption) | refine Below.setCell ?_ (by simp <;> omega) _ | refine Below.drewN' ?_ _))))).mono ?_
      rintro e w7 ⟨rfl, hb7⟩
      replace r7 := r7.step (W := w7) (by (repeat (first | exact Below.refl _ _ | refine Below.drew ?_ | refine Below.allocS ?_ _ | refine Below.step ?_ (by assumption) | refine Below.setCell ?_ (by simp <;> omega) _ | refine Below.drewN' ?_ _)))
      have x7_0_0 : w7.cell? ⟨w.heap.size, 0, none⟩ = some (.slice x.A x.xs.length x.ca) := keep_cell hb7 (by simp [go_sem, *])
      have x7_0_1 : w7.cell? ⟨w.heap.size, 1, none⟩ = some (.int .i64 x.e) := keep_cell hb7 (by simp [go_sem, *])
      have y7_0 : w.heap.size < w7.heap.size := cell?_lt x7_0_0
      have x7_1_0 : w7.cell? ⟨w.heap.size + 1, 0, none⟩ = some (.string t.nm) := keep_cell hb7 (by simp [go_sem, *])
      have x7_1_1 : w7.cell? ⟨w.heap.size + 1, 1, none⟩ = some (.int .i64 t.a) := keep_cell hb7 (by simp [go_sem, *])
      have x7_1_2 : w7.cell? ⟨w.heap.size + 1, 2, none⟩ = some (.int .i64 t.b) := keep_cell hb7 (by simp [go_sem, *])
      have x7_1_3 : w7.cell? ⟨w.heap.size + 1, 3, none⟩ = some (.int .i64 t.c) := keep_cell hb7 (by simp [go_sem, *])
      have x7_1_4 : w7.cell? ⟨w.heap.size + 1, 4, none⟩ = some (.slice t.T t.ts.length t.ct) := keep_cell hb7 (by simp [go_sem, *])
      have y7_1 : w.heap.size + 1 < w7.heap.size := cell?_lt x7_1_0
      have x7_2_0 : w7.cell? ⟨w6.heap.size, 0, none⟩ = some (.int .i64 ra) := keep_cell hb7 (by simp [go_sem, *])
      have x7_2_1 : w7.cell? ⟨w6.heap.size, 1, none⟩ = some (.int .i64 rb) := keep_cell hb7 (by simp [go_sem, *])
      have x7_2_2 : w7.cell? ⟨w6.heap.size, 2, none⟩ = some (.int .i64 rc) := keep_cell hb7 (by simp [go_sem, *])
      have x7_2_3 : w7.cell? ⟨w6.heap.size, 3, none⟩ = some (.int .i64 rd) := keep_cell hb7 (by simp [go_sem, *])
      have y7_2 : w6.heap.size < w7.heap.size := cell?_lt x7_2_0
      have g7 : Below w.heap.size w w7 := by (repeat (first | exact Below.refl _ _ | refine Below.drew ?_ | refine Below.allocS ?_ _ | refine Below.step ?_ (by assumption) | refine Below.setCell ?_ (by simp <;> omega) _ | refine Below.drewN' ?_ _))
      clear hb7 g6 x6_0_0 x6_0_1 x6_1_0 x6_1_1 x6_1_2 x6_1_3 x6_1_4 y6_0 y6_1
      by_cases hr : re = 0
      case neg =>
        have hr' : (re != 0) = true := by simpa using hr
        clear n3 n4 hN2 hr
        go_wp2_with fail
        refine (awake_c _).mono ?_
        rintro e w8 ⟨rfl, hb8⟩
        go_wp2
        go_ret
        exact ⟨rfl, by (repeat (first | exact Below.refl _ _ | refine Below.drew ?_ | refine Below.allocS ?_ _ | refine Below.step ?_ (by assumption) | refine Below.setCell ?_ (by simp <;> omega) _ | refine Below.drewN' ?_ _))⟩
      subst hr
      have hN3 := n3 rfl
      have hN4 := n4 rfl
      have hN5 := hN2 rfl
      clear n3 n4 hN2
      by_cases hs : se = 0
      · subst hs
        have k1 := hN3 rfl
        have k2 := hN4 rfl
        clear hN3 hN4 hN5
        go_wp2_with fail
        refine (HC1.out _).mono ?_
        rintro e w8 ⟨rfl, hb8⟩
        have o0 : w8.cell? ⟨w6.heap.size, 2, none⟩ = some (.int .i64 rc) := keep_cell hb8 (by simp [go_sem, *])
        have o1 : w8.cell? ⟨w6.heap.size, 3, none⟩ = some (.int .i64 rd) := keep_cell hb8 (by simp [go_sem, *])
        have o2 : w8.cell? ⟨w7.heap.size, 2, none⟩ = some (.int .i64 sc) := keep_cell hb8 (by simp [go_sem])
        have o3 : w8.cell? ⟨w7.heap.size, 3, none⟩ = some (.int .i64 sd) := keep_cell hb8 (by simp [go_sem])
        have g8 : Below w.heap.size w w8 := by (repeat (first | exact Below.refl _ _ | refine Below.drew ?_ | refine Below.allocS ?_ _ | refine Below.step ?_ (by assumption) | refine Below.setCell ?_ (by simp <;> omega) _ | refine Below.drewN' ?_ _))
        clear hb8
        go_wp2_with fail
        refine (HC2.out _).mono ?_
        rintro e w9 ⟨rfl, hb9⟩
        go_wp2_with fail
        refine (awake_c _).mono ?_
        rintro e w10 ⟨rfl, hb10⟩
        go_wp2
        go_ret
        exact ⟨rfl, by (repeat (first | exact Below.refl _ _ | refine Below.drew ?_ | refine Below.allocS ?_ _ | refine Below.step ?_ (by assumption) | refine Below.setCell ?_ (by simp <;> omega) _ | refine Below.drewN' ?_ _))⟩
      · have hs' : (se != 0) = true := by simpa using hs
        have hs8 : (se != 8) = true := by simpa using hN5
        clear hs hN3 hN4 hN5
        go_wp2_with fail
        refine (awake_c _).mono ?_
        rintro e w8 ⟨rfl, hb8⟩
        go_wp2
        go_ret
        exact ⟨rfl, by (repeat (first | exact Below.refl _ _ | refine Below.drew ?_ | refine Below.allocS ?_ _ | refine Below.step ?_ (by assumption) | refine Below.setCell ?_ (by simp <;> omega) _ | refine Below.drewN' ?_ _))⟩
    · skip
      go_wp2_with fail
      refine (H3.out _ (by (repeat (first | exact Below.refl _ _ | refine Below.drew ?_ | refine Below.allocS ?_ _ | refine Below.step ?_ (by assumption) | refine Below.setCell ?_ (by simp <;> omega) _ | refine Below.drewN' ?_ _)))).mono ?_
      rintro e w6 ⟨rfl, hb6⟩
      replace r7 := r7.step (W := w6) (by (repeat (first | exact Below.refl _ _ | refine Below.drew ?_ | refine Below.allocS ?_ _ | refine Below.step ?_ (by assumption) | refine Below.setCell ?_ (by simp <;> omega) _ | refine Below.drewN' ?_ _)))
      have x6_0_0 : w6.cell? ⟨w.heap.size, 0, none⟩ = some (.slice x.A x.xs.length x.ca) := keep_cell hb6 (by simp [go_sem, *])
      have x6_0_1 : w6.cell? ⟨w.heap.size, 1, none⟩ = some (.int .i64 x.e) := keep_cell hb6 (by simp [go_sem, *])
      have y6_0 : w.heap.size < w6.heap.size := cell?_lt x6_0_0
      have x6_1_0 : w6.cell? ⟨w.heap.size + 1, 0, none⟩ = some (.string t.nm) := keep_cell hb6 (by simp [go_sem, *])
      have x6_1_1 : w6.cell? ⟨w.heap.size + 1, 1, none⟩ = some (.int .i64 t.a) := keep_cell hb6 (by simp [go_sem, *])
      have x6_1_2 : w6.cell? ⟨w.heap.size + 1, 2, none⟩ = some (.int .i64 t.b) := keep_cell hb6 (by simp [go_sem, *])
      have x6_1_3 : w6.cell? ⟨w.heap.size + 1, 3, none⟩ = some (.int .i64 t.c) := keep_cell hb6 (by simp [go_sem, *])
      have x6_1_4 : w6.cell? ⟨w.heap.size + 1, 4, none⟩ = some (.slice t.T t.ts.length t.ct) := keep_cell hb6 (by simp [go_sem, *])
      have y6_1 : w.heap.size + 1 < w6.heap.size := cell?_lt x6_1_0
      have g6 : Below w.heap.size w w6 := by (repeat (first | exact Below.refl _ _ | refine Below.drew ?_ | refine Below.allocS ?_ _ | refine Below.step ?_ (by assumption) | refine Below.setCell ?_ (by simp <;> omega) _ | refine Below.drewN' ?_ _))
      clear hb6 g5 x5_0_0 x5_0_1 x5_1_0 x5_1_1 x5_1_2 x5_1_3 x5_1_4 y5_0 y5_1
      go_wp2_with fail
      refine (H4.out _ (by (repeat (first | exact Below.refl _ _ | refine Below.drew ?_ | refine Below.allocS ?_ _ | refine Below.step ?_ (by assumption) | refine Below.setCell ?_ (by simp <;> omega) _ | refine Below.drewN' ?_ _))) (r7.step (by (repeat (first | exact Below.refl _ _ | refine Below.drew ?_ | refine Below.allocS ?_ _ | refine Below.step ?_ (by assumption) | refine Below.setCell ?_ (by simp <;> omega) _ | refine Below.drewN' ?_ _))))).mono ?_
      rintro e w7 ⟨rfl, hb7⟩
      replace r7 := r7.step (W := w7) (by (repeat (first | exact Below.refl _ _ | refine Below.drew ?_ | refine Below.allocS ?_ _ | refine Below.step ?_ (by assumption) | refine Below.setCell ?_ (by simp <;> omega) _ | refine Below.drewN' ?_ _)))
      have x7_0_0 : w7.cell? ⟨w.heap.size, 0, none⟩ = some (.slice x.A x.xs.length x.ca) := keep_cell hb7 (by simp [go_sem, *])
      have x7_0_1 : w7.cell? ⟨w.heap.size, 1, none⟩ = some (.int .i64 x.e) := keep_cell hb7 (by simp [go_sem, *])
      have y7_0 : w.heap.size < w7.heap.size := cell?_lt x7_0_0
      have x7_1_0 : w7.cell? ⟨w.heap.size + 1, 0, none⟩ = some (.string t.nm) := keep_cell hb7 (by simp [go_sem, *])
      have x7_1_1 : w7.cell? ⟨w.heap.size + 1, 1, none⟩ = some (.int .i64 t.a) := keep_cell hb7 (by simp [go_sem, *])
      have x7_1_2 : w7.cell? ⟨w.heap.size + 1, 2, none⟩ = some (.int .i64 t.b) := keep_cell hb7 (by simp [go_sem, *])
      have x7_1_3 : w7.cell? ⟨w.heap.size + 1, 3, none⟩ = some (.int .i64 t.c) := keep_cell hb7 (by simp [go_sem, *])
      have x7_1_4 : w7.cell? ⟨w.heap.size + 1, 4, none⟩ = some (.slice t.T t.ts.length t.ct) := keep_cell hb7 (by simp [go_sem, *])
      have y7_1 : w.heap.size + 1 < w7.heap.size := cell?_lt x7_1_0
      have x7_2_0 : w7.cell? ⟨w6.heap.size, 0, none⟩ = some (.int .i64 ra) := keep_cell hb7 (by simp [go_sem, *])
      have x7_2_1 : w7.cell? ⟨w6.heap.size, 1, none⟩ = some (.int .i64 rb) := keep_cell hb7 (by simp [go_sem, *])
      have x7_2_2 : w7.cell? ⟨w6.heap.size, 2, none⟩ = some (.int .i64 rc) := keep_cell hb7 (by simp [go_sem, *])
      have x7_2_3 : w7.cell? ⟨w6.heap.size, 3, none⟩ = some (.int .i64 rd) := keep_cell hb7 (by simp [go_sem, *])
      have y7_2 : w6.heap.size < w7.heap.size := cell?_lt x7_2_0
      have g7 : Below w.heap.size w w7 := by (repeat (first | exact Below.refl _ _ | refine Below.drew ?_ | refine Below.allocS ?_ _ | refine Below.step ?_ (by assumption) | refine Below.setCell ?_ (by simp <;> omega) _ | refine Below.drewN' ?_ _))
      clear hb7 g6 x6_0_0 x6_0_1 x6_1_0 x6_1_1 x6_1_2 x6_1_3 x6_1_4 y6_0 y6_1
      by_cases hr : re = 0
      case neg =>
        have hr' : (re != 0) = true := by simpa using hr
        clear n3 n4 hN2 hr
        go_wp2_with fail
        refine (awake_c _).mono ?_
        rintro e w8 ⟨rfl, hb8⟩
        go_wp2
        go_ret
        exact ⟨rfl, by (repeat (first | exact Below.refl _ _ | refine Below.drew ?_ | refine Below.allocS ?_ _ | refine Below.step ?_ (by assumption) | refine Below.setCell ?_ (by simp <;> omega) _ | refine Below.drewN' ?_ _))⟩
      subst hr
      have hN3 := n3 rfl
      have hN4 := n4 rfl
      have hN5 := hN2 rfl
      clear n3 n4 hN2
      by_cases hs : se = 0
      · subst hs
        have k1 := hN3 rfl
        have k2 := hN4 rfl
        clear hN3 hN4 hN5
        go_wp2_with fail
        refine (HC1.out _).mono ?_
        rintro e w8 ⟨rfl, hb8⟩
        have o0 : w8.cell? ⟨w6.heap.size, 2, none⟩ = some (.int .i64 rc) := keep_cell hb8 (by simp [go_sem, *])
        have o1 : w8.cell? ⟨w6.heap.size, 3, none⟩ = some (.int .i64 rd) := keep_cell hb8 (by simp [go_sem, *])
        have o2 : w8.cell? ⟨w7.heap.size, 2, none⟩ = some (.int .i64 sc) := keep_cell hb8 (by simp [go_sem])
        have o3 : w8.cell? ⟨w7.heap.size, 3, none⟩ = some (.int .i64 sd) := keep_cell hb8 (by simp [go_sem])
        have g8 : Below w.heap.size w w8 := by (repeat (first | exact Below.refl _ _ | refine Below.drew ?_ | refine Below.allocS ?_ _ | refine Below.step ?_ (by assumption) | refine Below.setCell ?_ (by simp <;> omega) _ | refine Below.drewN' ?_ _))
        clear hb8
        go_wp2_with fail
        refine (HC2.out _).mono ?_
        rintro e w9 ⟨rfl, hb9⟩
        go_wp2_with fail
        refine (awake_c _).mono ?_
        rintro e w10 ⟨rfl, hb10⟩
        go_wp2
        go_ret
        exact ⟨rfl, by (repeat (first | exact Below.refl _ _ | refine Below.drew ?_ | refine Below.allocS ?_ _ | refine Below.step ?_ (by assumption) | refine Below.setCell ?_ (by simp <;> omega) _ | refine Below.drewN' ?_ _))⟩
      · have hs' : (se != 0) = true := by simpa using hs
        have hs8 : (se != 8) = true := by simpa using hN5
        clear hs hN3 hN4 hN5
        go_wp2_with fail
        refine (awake_c _).mono ?_
        rintro e w8 ⟨rfl, hb8⟩
        go_wp2
        go_ret
        exact ⟨rfl, by (repeat (first | exact Below.refl _ _ | refine Below.drew ?_ | refine Below.allocS ?_ _ | refine Below.step ?_ (by assumption) | refine Below.setCell ?_ (by simp <;> omega) _ | refine Below.drewN' ?_ _))⟩
end Go.Proofs.Ytbcabckokmjelaa
