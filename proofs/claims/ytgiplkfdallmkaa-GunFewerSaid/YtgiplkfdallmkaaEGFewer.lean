/-
  The walk of the law GunFewer.
-/
import Derived.Test.YtgiplkfdallmkaaV14
import Derived.Test.YtgiplkfdallmkaaV10
import Derived.Laws.StructEq
namespace Go.Proofs.Ytgiplkfdallmkaa
open Go.RowKit Go.Deep
set_option linter.unusedVariables false
set_option linter.unusedSimpArgs false
theorem Where_sl (s v a b c d st : Int) (l : List Shot) (u : Value) (hl : l.length ≤ 9223372036854775807) (w : World) (hr : IsSl w shE 4 u l) :
    Calls Try.prog 46 #[.agg #[.int .i64 s, .int .i64 v], u, .agg #[.int .i64 a, .int .i64 b], .agg #[.int .i64 c, .int .i64 d], .int .i64 st] w fun e w' => ∃ u, e = .returned (.tuple #[u, .int .i64 (whE s v l a b c d st)]) ∧ IsSl w' ptE 2 u (whL s v l a b c d st) ∧ Below w.heap.size w w' := by
  obtain ⟨A, cp, rfl, h⟩ := hr
  exact Where_c s v a b c d st l A cp hl w h
theorem Suits_sl (s v x y : Int) (l : List Shot) (u : Value) (hl : l.length ≤ 9223372036854775807) (w : World) (hr : IsSl w shE 4 u l) :
    Calls Try.prog 29 #[.agg #[.int .i64 s, .int .i64 v], u, .agg #[.int .i64 x, .int .i64 y]] w fun e w' => e = .returned (.tuple #[.bool (suB s v l x y), .int .i64 (suE s v l x y)]) ∧ Below w.heap.size w w' := by
  obtain ⟨A, cp, rfl, h⟩ := hr
  exact Suits_c s v x y l A cp hl w h
theorem nePoint (a1 a2 d1 d2 : Int) (W : World) : (binOp .neq 25 (.agg #[.int .i64 a1, .int .i64 a2]) (.agg #[.int .i64 d1, .int .i64 d2])).run Try.prog W = .ok (.bool (!(decide (a1 = d1) && decide (a2 = d2)))) W := by
  by_cases h1 : a1 = d1 <;> by_cases h2 : a2 = d2 <;> simp [go_sem, h1, h2]
set_option maxHeartbeats 4000000 in
set_option maxRecDepth 100000 in
theorem fewer_main (s v a b c d st : Int) (t : Shot) (l : List Shot) (A : Option Addr) (cap : Nat) (hz : A = none → l.length = 0 ∧ cap = 0) (hl : l.length ≤ 50) (hv : heavyB a b c d st = false) (w : World) (hr : RdL w w.heap.size shE 4 A l) :
    Calls Try.prog 11 #[.agg #[.int .i64 s, .int .i64 v], .slice A l.length cap, .agg #[.int .i64 t.gx, .int .i64 t.gy, .int .i64 t.lo, .int .i64 t.hi], .agg #[.int .i64 a, .int .i64 b, .int .i64 c, .int .i64 d, .int .i64 st]] w fun e w' => e = .returned (.bool true) ∧ Below w.heap.size w w' := by
  have hl2 : l.length ≤ 9223372036854775807 := by omega
  have HF := Lib.hid (fun W => few_c l.length A cap W hl2)
  rw [decide_eq_true hl] at HF
  have HH := Lib.hid (fun W => heavy_c a b c d st W)
  rw [hv] at HH
  have HR := Lib.hid hr
  have HA := Lib.hid (fun W base g hrow hb ho => app1 l A cap hz (by omega) W base g hrow hb ho)
  have HB := Lib.hid (fun W base g u hrow hb c0 c1 c2 c3 => app2 l t (by omega) W base g u hrow hb c0 c1 c2 c3)
  clear hr
  go_enter Try.func11, Try.ntmps11
  go_wp2_with (go_at_call 28; (with_reducible refine (HF.out _).mono ?_); rintro e w' ⟨rfl, rfl⟩)
  go_wp2_with fail
  refine (HH.out _).mono ?_
  rintro e w1 ⟨rfl, hb1⟩
  have x1_0_0 : w1.cell? ⟨w.heap.size, 0, none⟩ = some (.int .i64 s) := keep_cell hb1 (by simp [go_sem, *])
  have x1_0_1 : w1.cell? ⟨w.heap.size, 1, none⟩ = some (.int .i64 v) := keep_cell hb1 (by simp [go_sem, *])
  have y1_0 : w.heap.size < w1.heap.size := cell?_lt x1_0_0
  have x1_1_0 : w1.cell? ⟨w.heap.size + 1, 0, none⟩ = some (.int .i64 t.gx) := keep_cell hb1 (by simp [go_sem, *])
  have x1_1_1 : w1.cell? ⟨w.heap.size + 1, 1, none⟩ = some (.int .i64 t.gy) := keep_cell hb1 (by simp [go_sem, *])
  have x1_1_2 : w1.cell? ⟨w.heap.size + 1, 2, none⟩ = some (.int .i64 t.lo) := keep_cell hb1 (by simp [go_sem, *])
  have x1_1_3 : w1.cell? ⟨w.heap.size + 1, 3, none⟩ = some (.int .i64 t.hi) := keep_cell hb1 (by simp [go_sem, *])
  have y1_1 : w.heap.size + 1 < w1.heap.size := cell?_lt x1_1_0
  have x1_2_0 : w1.cell? ⟨w.heap.size + 1 + 1, 0, none⟩ = some (.int .i64 a) := keep_cell hb1 (by simp [go_sem, *])
  have x1_2_1 : w1.cell? ⟨w.heap.size + 1 + 1, 1, none⟩ = some (.int .i64 b) := keep_cell hb1 (by simp [go_sem, *])
  have x1_2_2 : w1.cell? ⟨w.heap.size + 1 + 1, 2, none⟩ = some (.int .i64 c) := keep_cell hb1 (by simp [go_sem, *])
  have x1_2_3 : w1.cell? ⟨w.heap.size + 1 + 1, 3, none⟩ = some (.int .i64 d) := keep_cell hb1 (by simp [go_sem, *])
  have x1_2_4 : w1.cell? ⟨w.heap.size + 1 + 1, 4, none⟩ = some (.int .i64 st) := keep_cell hb1 (by simp [go_sem, *])
  have y1_2 : w.heap.size + 1 + 1 < w1.heap.size := cell?_lt x1_2_0
  have g1 : Below w.heap.size w w1 := by (repeat (first | exact Below.refl _ _ | refine Below.drew ?_ | refine Below.allocS ?_ _ | refine Below.step ?_ (by assumption) | refine Below.setCell ?_ (by simp <;> omega) _ | refine Below.drewN' ?_ _))
  clear hb1
  go_wp2_with fail
  go_upto_region 4 with fail
  go_cut [9] (fun s9 w2 => (w2.ownsRow w.heap.size 65 4 s9 (l.length + 1) ((l ++ [t]).flatMap shE)) ∧ w2.cell? ⟨w.heap.size, 0, none⟩ = some (.int .i64 s) ∧ w2.cell? ⟨w.heap.size, 1, none⟩ = some (.int .i64 v) ∧ w2.cell? ⟨w.heap.size + 1, 0, none⟩ = some (.int .i64 t.gx) ∧ w2.cell? ⟨w.heap.size + 1, 1, none⟩ = some (.int .i64 t.gy) ∧ w2.cell? ⟨w.heap.size + 1, 2, none⟩ = some (.int .i64 t.lo) ∧ w2.cell? ⟨w.heap.size + 1, 3, none⟩ = some (.int .i64 t.hi) ∧ w2.cell? ⟨w.heap.size + 1 + 1, 0, none⟩ = some (.int .i64 a) ∧ w2.cell? ⟨w.heap.size + 1 + 1, 1, none⟩ = some (.int .i64 b) ∧ w2.cell? ⟨w.heap.size + 1 + 1, 2, none⟩ = some (.int .i64 c) ∧ w2.cell? ⟨w.heap.size + 1 + 1, 3, none⟩ = some (.int .i64 d) ∧ w2.cell? ⟨w.heap.size + 1 + 1, 4, none⟩ = some (.int .i64 st) ∧ Below w.heap.size w w2)
  case first =>
    have hs1 := g1.size
    go_region_law (first
      | ((refine step_append_ok rfl (.tmp 31) (.tmp 32) 45 rfl _ (.slice A l.length cap) rfl (by simp [Act.eval]) (HA.out _ w1.heap.size _ (own_base (by first | exact empty_row _ _ _ | exact (empty_row _ _ _).alloc _ | exact empty_row' (w1.alloc (.cells #[.int .i64 t.gx, .int .i64 t.gy, .int .i64 t.lo, .int .i64 t.hi] 65)) _ _ (w1.heap.size + 1) (by simp)) (by first | omega | (simp; done) | (simp; omega))) (by first | omega | (simp; done) | (simp; omega)) (HR.out.olds shE_len (by decide) (by (repeat (first | exact Below.refl _ _ | refine Below.drew ?_ | refine Below.allocS ?_ _ | refine Below.step ?_ (by assumption) | refine Below.setCell ?_ (by simp <;> omega) _ | refine Below.drewN' ?_ _))))) ?_); rintro v3 w3 ⟨hown3, hgrow3⟩; have z3 : w1.heap.size ≤ w3.heap.size := (by have := hgrow3.size; first | omega | (simp at this; omega)); have p0_0 : w3.cell? ⟨w.heap.size, 0, none⟩ = some (.int .i64 s) := grown_cell hgrow3 (by simp [go_sem, *]) (by first | (simp; done) | (simp; omega)); have p0_1 : w3.cell? ⟨w.heap.size, 1, none⟩ = some (.int .i64 v) := grown_cell hgrow3 (by simp [go_sem, *]) (by first | (simp; done) | (simp; omega)); have py0 : w.heap.size < w3.heap.size := cell?_lt p0_0; have p1_0 : w3.cell? ⟨w.heap.size + 1, 0, none⟩ = some (.int .i64 t.gx) := grown_cell hgrow3 (by simp [go_sem, *]) (by first | (simp; done) | (simp; omega)); have p1_1 : w3.cell? ⟨w.heap.size + 1, 1, none⟩ = some (.int .i64 t.gy) := grown_cell hgrow3 (by simp [go_sem, *]) (by first | (simp; done) | (simp; omega)); have p1_2 : w3.cell? ⟨w.heap.size + 1, 2, none⟩ = some (.int .i64 t.lo) := grown_cell hgrow3 (by simp [go_sem, *]) (by first | (simp; done) | (simp; omega)); have p1_3 : w3.cell? ⟨w.heap.size + 1, 3, none⟩ = some (.int .i64 t.hi) := grown_cell hgrow3 (by simp [go_sem, *]) (by first | (simp; done) | (simp; omega)); have py1 : w.heap.size + 1 < w3.heap.size := cell?_lt p1_0; have p2_0 : w3.cell? ⟨w.heap.size + 1 + 1, 0, none⟩ = some (.int .i64 a) := grown_cell hgrow3 (by simp [go_sem, *]) (by first | (simp; done) | (simp; omega)); have p2_1 : w3.cell? ⟨w.heap.size + 1 + 1, 1, none⟩ = some (.int .i64 b) := grown_cell hgrow3 (by simp [go_sem, *]) (by first | (simp; done) | (simp; omega)); have p2_2 : w3.cell? ⟨w.heap.size + 1 + 1, 2, none⟩ = some (.int .i64 c) := grown_cell hgrow3 (by simp [go_sem, *]) (by first | (simp; done) | (simp; omega)); have p2_3 : w3.cell? ⟨w.heap.size + 1 + 1, 3, none⟩ = some (.int .i64 d) := grown_cell hgrow3 (by simp [go_sem, *]) (by first | (simp; done) | (simp; omega)); have p2_4 : w3.cell? ⟨w.heap.size + 1 + 1, 4, none⟩ = some (.int .i64 st) := grown_cell hgrow3 (by simp [go_sem, *]) (by first | (simp; done) | (simp; omega)); have py2 : w.heap.size + 1 + 1 < w3.heap.size := cell?_lt p2_0; have b3 : Below w.heap.size w w3 := Below.grown (by (repeat (first | exact Below.refl _ _ | refine Below.drew ?_ | refine Below.allocS ?_ _ | refine Below.step ?_ (by assumption) | refine Below.setCell ?_ (by simp <;> omega) _ | refine Below.drewN' ?_ _))) hgrow3 (by first | omega | (simp; done) | (simp; omega)) (fun k e => by cases e; omega))
      | ((refine step_append_ok rfl (.tmp 33) (.tmp 35) 45 rfl _ _ rfl rfl (HB.out _ w1.heap.size _ _ (by first | exact hown3 | exact ownsRow_keep hown3 (by (repeat (first | exact Below.refl _ _ | refine Below.drew ?_ | refine Below.allocS ?_ _ | refine Below.step ?_ (by assumption) | refine Below.setCell ?_ (by simp <;> omega) _ | refine Below.drewN' ?_ _)))) (by first | omega | (simp; done) | (simp; omega)) (by first | (simp [go_sem, *]; done) | exact grown_cell hgrow3 (by simp [go_sem, *]) (by simp)) (by first | (simp [go_sem, *]; done) | exact grown_cell hgrow3 (by simp [go_sem, *]) (by simp)) (by first | (simp [go_sem, *]; done) | exact grown_cell hgrow3 (by simp [go_sem, *]) (by simp)) (by first | (simp [go_sem, *]; done) | exact grown_cell hgrow3 (by simp [go_sem, *]) (by simp))) ?_); rintro v4 w4 ⟨hown4, hgrow4⟩))
    all_goals
      have q0_0 : w4.cell? ⟨w.heap.size, 0, none⟩ = some (.int .i64 s) := grown_cell hgrow4 (by simp [go_sem, *]) (own_ne hown3 (by omega))
      have q0_1 : w4.cell? ⟨w.heap.size, 1, none⟩ = some (.int .i64 v) := grown_cell hgrow4 (by simp [go_sem, *]) (own_ne hown3 (by omega))
      have q1_0 : w4.cell? ⟨w.heap.size + 1, 0, none⟩ = some (.int .i64 t.gx) := grown_cell hgrow4 (by simp [go_sem, *]) (own_ne hown3 (by omega))
      have q1_1 : w4.cell? ⟨w.heap.size + 1, 1, none⟩ = some (.int .i64 t.gy) := grown_cell hgrow4 (by simp [go_sem, *]) (own_ne hown3 (by omega))
      have q1_2 : w4.cell? ⟨w.heap.size + 1, 2, none⟩ = some (.int .i64 t.lo) := grown_cell hgrow4 (by simp [go_sem, *]) (own_ne hown3 (by omega))
      have q1_3 : w4.cell? ⟨w.heap.size + 1, 3, none⟩ = some (.int .i64 t.hi) := grown_cell hgrow4 (by simp [go_sem, *]) (own_ne hown3 (by omega))
      have q2_0 : w4.cell? ⟨w.heap.size + 1 + 1, 0, none⟩ = some (.int .i64 a) := grown_cell hgrow4 (by simp [go_sem, *]) (own_ne hown3 (by omega))
      have q2_1 : w4.cell? ⟨w.heap.size + 1 + 1, 1, none⟩ = some (.int .i64 b) := grown_cell hgrow4 (by simp [go_sem, *]) (own_ne hown3 (by omega))
      have q2_2 : w4.cell? ⟨w.heap.size + 1 + 1, 2, none⟩ = some (.int .i64 c) := grown_cell hgrow4 (by simp [go_sem, *]) (own_ne hown3 (by omega))
      have q2_3 : w4.cell? ⟨w.heap.size + 1 + 1, 3, none⟩ = some (.int .i64 d) := grown_cell hgrow4 (by simp [go_sem, *]) (own_ne hown3 (by omega))
      have q2_4 : w4.cell? ⟨w.heap.size + 1 + 1, 4, none⟩ = some (.int .i64 st) := grown_cell hgrow4 (by simp [go_sem, *]) (own_ne hown3 (by omega))
      have b4 : Below w.heap.size w w4 := Below.grown (by (repeat (first | exact Below.refl _ _ | refine Below.drew ?_ | refine Below.allocS ?_ _ | refine Below.step ?_ (by assumption) | refine Below.setCell ?_ (by simp <;> omega) _ | refine Below.drewN' ?_ _))) hgrow4 (by have := b3.size; first | omega | (simp; omega)) (fun k e => by have := (hown3.lt k e).1; omega)
      have hown5 := own_base hown4 (show w.heap.size ≤ w1.heap.size by omega)
      clear HA HB HR hown3 hgrow3 hown4 hgrow4 b3 p0_0 p0_1 p1_0 p1_1 p1_2 p1_3 p2_0 p2_1 p2_2 p2_3 p2_4
      go_wp2_with fail
      go_meet; exact ⟨hown5, (by simp [go_sem, *]), (by simp [go_sem, *]), (by simp [go_sem, *]), (by simp [go_sem, *]), (by simp [go_sem, *]), (by simp [go_sem, *]), (by simp [go_sem, *]), (by simp [go_sem, *]), (by simp [go_sem, *]), (by simp [go_sem, *]), (by simp [go_sem, *]), by (repeat (first | exact Below.refl _ _ | refine Below.drew ?_ | refine Below.allocS ?_ _ | refine Below.step ?_ (by assumption) | refine Below.setCell ?_ (by simp <;> omega) _ | refine Below.drewN' ?_ _))⟩
  case rest =>
    clear g1 x1_0_0 x1_0_1 x1_1_0 x1_1_1 x1_1_2 x1_1_3 x1_2_0 x1_2_1 x1_2_2 x1_2_3 x1_2_4 y1_0 y1_1 y1_2
    obtain ⟨c2, x2_0_0, x2_0_1, x2_1_0, x2_1_1, x2_1_2, x2_1_3, x2_2_0, x2_2_1, x2_2_2, x2_2_3, x2_2_4, g2⟩ := hcut
    have y2_0 : w.heap.size < wc.heap.size := cell?_lt x2_0_0
    have y2_1 : w.heap.size + 1 < wc.heap.size := cell?_lt x2_1_0
    have y2_2 : w.heap.size + 1 + 1 < wc.heap.size := cell?_lt x2_2_0
    have tq : IsSl wc shE 4 u9 (l ++ [t]) := IsSl.of_row shE_len c2 (by simp)
    clear c2
    have HW1 := Lib.hid (fun W h => Where_c s v a b c d st l A cap hl2 W h)
    have HW2 := Lib.hid (fun W u h => Where_sl s v a b c d st (l ++ [t]) u (by simp; omega) W h)
    have HM := Lib.hid (fun W h => Mirrored_c l A cap (by omega) W h)
    have hsub := fun h1 h2 => whL_more (s := s) (v := v) (a := a) (b := b) (c := c) (d := d) (st := st) (l := l) (t := t) h1 h2
    have hlenP := not_heavy (s := s) (v := v) (l := l) hv
    have hlenQ := not_heavy (s := s) (v := v) (l := l ++ [t]) hv
    unfold WhP at HW1
    by_cases he : whE s v l a b c d st = 0
    case neg =>
      generalize whE s v l a b c d st = E1 at *
      generalize whE s v (l ++ [t]) a b c d st = E2 at *
      generalize whL s v l a b c d st = P at *
      generalize whL s v (l ++ [t]) a b c d st = Q at *
      have n1 : (E1 == 0) = false := by simpa using he
      have n2 : (E1 != 0) = true := by simpa using he
      generalize mirE l = ME at *
      generalize mirL l = ML at *
      clear hsub
      go_wp2_with fail
      refine (HW1.out _ (HR.out.step (by (repeat (first | exact Below.refl _ _ | refine Below.drew ?_ | refine Below.allocS ?_ _ | refine Below.step ?_ (by assumption) | refine Below.setCell ?_ (by simp <;> omega) _ | refine Below.drewN' ?_ _))))).mono ?_
      rintro e w3 ⟨u3, rfl, t3, hb3⟩
      replace tq := tq.step hb3
      have x3_0_0 : w3.cell? ⟨w.heap.size, 0, none⟩ = some (.int .i64 s) := keep_cell hb3 (by simp [go_sem, *])
      have x3_0_1 : w3.cell? ⟨w.heap.size, 1, none⟩ = some (.int .i64 v) := keep_cell hb3 (by simp [go_sem, *])
      have y3_0 : w.heap.size < w3.heap.size := cell?_lt x3_0_0
      have x3_1_0 : w3.cell? ⟨w.heap.size + 1, 0, none⟩ = some (.int .i64 t.gx) := keep_cell hb3 (by simp [go_sem, *])
      have x3_1_1 : w3.cell? ⟨w.heap.size + 1, 1, none⟩ = some (.int .i64 t.gy) := keep_cell hb3 (by simp [go_sem, *])
      have x3_1_2 : w3.cell? ⟨w.heap.size + 1, 2, none⟩ = some (.int .i64 t.lo) := keep_cell hb3 (by simp [go_sem, *])
      have x3_1_3 : w3.cell? ⟨w.heap.size + 1, 3, none⟩ = some (.int .i64 t.hi) := keep_cell hb3 (by simp [go_sem, *])
      have y3_1 : w.heap.size + 1 < w3.heap.size := cell?_lt x3_1_0
      have x3_2_0 : w3.cell? ⟨w.heap.size + 1 + 1, 0, none⟩ = some (.int .i64 a) := keep_cell hb3 (by simp [go_sem, *])
      have x3_2_1 : w3.cell? ⟨w.heap.size + 1 + 1, 1, none⟩ = some (.int .i64 b) := keep_cell hb3 (by simp [go_sem, *])
      have x3_2_2 : w3.cell? ⟨w.heap.size + 1 + 1, 2, none⟩ = some (.int .i64 c) := keep_cell hb3 (by simp [go_sem, *])
      have x3_2_3 : w3.cell? ⟨w.heap.size + 1 + 1, 3, none⟩ = some (.int .i64 d) := keep_cell hb3 (by simp [go_sem, *])
      have x3_2_4 : w3.cell? ⟨w.heap.size + 1 + 1, 4, none⟩ = some (.int .i64 st) := keep_cell hb3 (by simp [go_sem, *])
      have y3_2 : w.heap.size + 1 + 1 < w3.heap.size := cell?_lt x3_2_0
      have g3 : Below w.heap.size w w3 := by (repeat (first | exact Below.refl _ _ | refine Below.drew ?_ | refine Below.allocS ?_ _ | refine Below.step ?_ (by assumption) | refine Below.setCell ?_ (by simp <;> omega) _ | refine Below.drewN' ?_ _))
      clear hb3 g2 x2_0_0 x2_0_1 x2_1_0 x2_1_1 x2_1_2 x2_1_3 x2_2_0 x2_2_1 x2_2_2 x2_2_3 x2_2_4 y2_0 y2_1 y2_2
      go_wp2_with fail
      refine (HW2.out _ _ tq).mono ?_
      rintro e w4 ⟨u4, rfl, t4, hb4⟩
      replace tq := tq.step hb4
      replace t3 := t3.step hb4
      have x4_0_0 : w4.cell? ⟨w.heap.size, 0, none⟩ = some (.int .i64 s) := keep_cell hb4 (by simp [go_sem, *])
      have x4_0_1 : w4.cell? ⟨w.heap.size, 1, none⟩ = some (.int .i64 v) := keep_cell hb4 (by simp [go_sem, *])
      have y4_0 : w.heap.size < w4.heap.size := cell?_lt x4_0_0
      have x4_1_0 : w4.cell? ⟨w.heap.size + 1, 0, none⟩ = some (.int .i64 t.gx) := keep_cell hb4 (by simp [go_sem, *])
      have x4_1_1 : w4.cell? ⟨w.heap.size + 1, 1, none⟩ = some (.int .i64 t.gy) := keep_cell hb4 (by simp [go_sem, *])
      have x4_1_2 : w4.cell? ⟨w.heap.size + 1, 2, none⟩ = some (.int .i64 t.lo) := keep_cell hb4 (by simp [go_sem, *])
      have x4_1_3 : w4.cell? ⟨w.heap.size + 1, 3, none⟩ = some (.int .i64 t.hi) := keep_cell hb4 (by simp [go_sem, *])
      have y4_1 : w.heap.size + 1 < w4.heap.size := cell?_lt x4_1_0
      have x4_2_0 : w4.cell? ⟨w.heap.size + 1 + 1, 0, none⟩ = some (.int .i64 a) := keep_cell hb4 (by simp [go_sem, *])
      have x4_2_1 : w4.cell? ⟨w.heap.size + 1 + 1, 1, none⟩ = some (.int .i64 b) := keep_cell hb4 (by simp [go_sem, *])
      have x4_2_2 : w4.cell? ⟨w.heap.size + 1 + 1, 2, none⟩ = some (.int .i64 c) := keep_cell hb4 (by simp [go_sem, *])
      have x4_2_3 : w4.cell? ⟨w.heap.size + 1 + 1, 3, none⟩ = some (.int .i64 d) := keep_cell hb4 (by simp [go_sem, *])
      have x4_2_4 : w4.cell? ⟨w.heap.size + 1 + 1, 4, none⟩ = some (.int .i64 st) := keep_cell hb4 (by simp [go_sem, *])
      have y4_2 : w.heap.size + 1 + 1 < w4.heap.size := cell?_lt x4_2_0
      have g4 : Below w.heap.size w w4 := by (repeat (first | exact Below.refl _ _ | refine Below.drew ?_ | refine Below.allocS ?_ _ | refine Below.step ?_ (by assumption) | refine Below.setCell ?_ (by simp <;> omega) _ | refine Below.drewN' ?_ _))
      clear hb4 g3 x3_0_0 x3_0_1 x3_1_0 x3_1_1 x3_1_2 x3_1_3 x3_2_0 x3_2_1 x3_2_2 x3_2_3 x3_2_4 y3_0 y3_1 y3_2
      go_wp2_with fail
      refine (HM.out _ (HR.out.step (by (repeat (first | exact Below.refl _ _ | refine Below.drew ?_ | refine Below.allocS ?_ _ | refine Below.step ?_ (by assumption) | refine Below.setCell ?_ (by simp <;> omega) _ | refine Below.drewN' ?_ _))))).mono ?_
      rintro e w5 ⟨u5, rfl, t5, hb5⟩
      replace tq := tq.step hb5
      replace t3 := t3.step hb5
      replace t4 := t4.step hb5
      have x5_0_0 : w5.cell? ⟨w.heap.size, 0, none⟩ = some (.int .i64 s) := keep_cell hb5 (by simp [go_sem, *])
      have x5_0_1 : w5.cell? ⟨w.heap.size, 1, none⟩ = some (.int .i64 v) := keep_cell hb5 (by simp [go_sem, *])
      have y5_0 : w.heap.size < w5.heap.size := cell?_lt x5_0_0
      have x5_1_0 : w5.cell? ⟨w.heap.size + 1, 0, none⟩ = some (.int .i64 t.gx) := keep_cell hb5 (by simp [go_sem, *])
      have x5_1_1 : w5.cell? ⟨w.heap.size + 1, 1, none⟩ = some (.int .i64 t.gy) := keep_cell hb5 (by simp [go_sem, *])
      have x5_1_2 : w5.cell? ⟨w.heap.size + 1, 2, none⟩ = some (.int .i64 t.lo) := keep_cell hb5 (by simp [go_sem, *])
      have x5_1_3 : w5.cell? ⟨w.heap.size + 1, 3, none⟩ = some (.int .i64 t.hi) := keep_cell hb5 (by simp [go_sem, *])
      have y5_1 : w.heap.size + 1 < w5.heap.size := cell?_lt x5_1_0
      have x5_2_0 : w5.cell? ⟨w.heap.size + 1 + 1, 0, none⟩ = some (.int .i64 a) := keep_cell hb5 (by simp [go_sem, *])
      have x5_2_1 : w5.cell? ⟨w.heap.size + 1 + 1, 1, none⟩ = some (.int .i64 b) := keep_cell hb5 (by simp [go_sem, *])
      have x5_2_2 : w5.cell? ⟨w.heap.size + 1 + 1, 2, none⟩ = some (.int .i64 c) := keep_cell hb5 (by simp [go_sem, *])
      have x5_2_3 : w5.cell? ⟨w.heap.size + 1 + 1, 3, none⟩ = some (.int .i64 d) := keep_cell hb5 (by simp [go_sem, *])
      have x5_2_4 : w5.cell? ⟨w.heap.size + 1 + 1, 4, none⟩ = some (.int .i64 st) := keep_cell hb5 (by simp [go_sem, *])
      have y5_2 : w.heap.size + 1 + 1 < w5.heap.size := cell?_lt x5_2_0
      have g5 : Below w.heap.size w w5 := by (repeat (first | exact Below.refl _ _ | refine Below.drew ?_ | refine Below.allocS ?_ _ | refine Below.step ?_ (by assumption) | refine Below.setCell ?_ (by simp <;> omega) _ | refine Below.drewN' ?_ _))
      clear hb5 g4 x4_0_0 x4_0_1 x4_1_0 x4_1_1 x4_1_2 x4_1_3 x4_2_0 x4_2_1 x4_2_2 x4_2_3 x4_2_4 y4_0 y4_1 y4_2
      by_cases hm : ME = 0
      · subst hm
        go_wp2_with fail
        refine (awake_c _).mono ?_
        rintro e w6 ⟨rfl, hb6⟩
        replace tq := tq.step hb6
        replace t3 := t3.step hb6
        replace t4 := t4.step hb6
        replace t5 := t5.step hb6
        have x6_0_0 : w6.cell? ⟨w.heap.size, 0, none⟩ = some (.int .i64 s) := keep_cell hb6 (by simp [go_sem, *])
        have x6_0_1 : w6.cell? ⟨w.heap.size, 1, none⟩ = some (.int .i64 v) := keep_cell hb6 (by simp [go_sem, *])
        have y6_0 : w.heap.size < w6.heap.size := cell?_lt x6_0_0
        have x6_1_0 : w6.cell? ⟨w.heap.size + 1, 0, none⟩ = some (.int .i64 t.gx) := keep_cell hb6 (by simp [go_sem, *])
        have x6_1_1 : w6.cell? ⟨w.heap.size + 1, 1, none⟩ = some (.int .i64 t.gy) := keep_cell hb6 (by simp [go_sem, *])
        have x6_1_2 : w6.cell? ⟨w.heap.size + 1, 2, none⟩ = some (.int .i64 t.lo) := keep_cell hb6 (by simp [go_sem, *])
        have x6_1_3 : w6.cell? ⟨w.heap.size + 1, 3, none⟩ = some (.int .i64 t.hi) := keep_cell hb6 (by simp [go_sem, *])
        have y6_1 : w.heap.size + 1 < w6.heap.size := cell?_lt x6_1_0
        have x6_2_0 : w6.cell? ⟨w.heap.size + 1 + 1, 0, none⟩ = some (.int .i64 a) := keep_cell hb6 (by simp [go_sem, *])
        have x6_2_1 : w6.cell? ⟨w.heap.size + 1 + 1, 1, none⟩ = some (.int .i64 b) := keep_cell hb6 (by simp [go_sem, *])
        have x6_2_2 : w6.cell? ⟨w.heap.size + 1 + 1, 2, none⟩ = some (.int .i64 c) := keep_cell hb6 (by simp [go_sem, *])
        have x6_2_3 : w6.cell? ⟨w.heap.size + 1 + 1, 3, none⟩ = some (.int .i64 d) := keep_cell hb6 (by simp [go_sem, *])
        have x6_2_4 : w6.cell? ⟨w.heap.size + 1 + 1, 4, none⟩ = some (.int .i64 st) := keep_cell hb6 (by simp [go_sem, *])
        have y6_2 : w.heap.size + 1 + 1 < w6.heap.size := cell?_lt x6_2_0
        have g6 : Below w.heap.size w w6 := by (repeat (first | exact Below.refl _ _ | refine Below.drew ?_ | refine Below.allocS ?_ _ | refine Below.step ?_ (by assumption) | refine Below.setCell ?_ (by simp <;> omega) _ | refine Below.drewN' ?_ _))
        clear hb6 g5 x5_0_0 x5_0_1 x5_1_0 x5_1_1 x5_1_2 x5_1_3 x5_2_0 x5_2_1 x5_2_2 x5_2_3 x5_2_4 y5_0 y5_1 y5_2
        go_wp2
        go_ret
        exact ⟨rfl, by (repeat (first | exact Below.refl _ _ | refine Below.drew ?_ | refine Below.allocS ?_ _ | refine Below.step ?_ (by assumption) | refine Below.setCell ?_ (by simp <;> omega) _ | refine Below.drewN' ?_ _))⟩
      · have n3 : (ME != 0) = true := by simpa using hm
        go_wp2_with fail
        refine (awake_c _).mono ?_
        rintro e w7 ⟨rfl, hb7⟩
        replace tq := tq.step hb7
        replace t3 := t3.step hb7
        replace t4 := t4.step hb7
        replace t5 := t5.step hb7
        have x7_0_0 : w7.cell? ⟨w.heap.size, 0, none⟩ = some (.int .i64 s) := keep_cell hb7 (by simp [go_sem, *])
        have x7_0_1 : w7.cell? ⟨w.heap.size, 1, none⟩ = some (.int .i64 v) := keep_cell hb7 (by simp [go_sem, *])
        have y7_0 : w.heap.size < w7.heap.size := cell?_lt x7_0_0
        have x7_1_0 : w7.cell? ⟨w.heap.size + 1, 0, none⟩ = some (.int .i64 t.gx) := keep_cell hb7 (by simp [go_sem, *])
        have x7_1_1 : w7.cell? ⟨w.heap.size + 1, 1, none⟩ = some (.int .i64 t.gy) := keep_cell hb7 (by simp [go_sem, *])
        have x7_1_2 : w7.cell? ⟨w.heap.size + 1, 2, none⟩ = some (.int .i64 t.lo) := keep_cell hb7 (by simp [go_sem, *])
        have x7_1_3 : w7.cell? ⟨w.heap.size + 1, 3, none⟩ = some (.int .i64 t.hi) := keep_cell hb7 (by simp [go_sem, *])
        have y7_1 : w.heap.size + 1 < w7.heap.size := cell?_lt x7_1_0
        have x7_2_0 : w7.cell? ⟨w.heap.size + 1 + 1, 0, none⟩ = some (.int .i64 a) := keep_cell hb7 (by simp [go_sem, *])
        have x7_2_1 : w7.cell? ⟨w.heap.size + 1 + 1, 1, none⟩ = some (.int .i64 b) := keep_cell hb7 (by simp [go_sem, *])
        have x7_2_2 : w7.cell? ⟨w.heap.size + 1 + 1, 2, none⟩ = some (.int .i64 c) := keep_cell hb7 (by simp [go_sem, *])
        have x7_2_3 : w7.cell? ⟨w.heap.size + 1 + 1, 3, none⟩ = some (.int .i64 d) := keep_cell hb7 (by simp [go_sem, *])
        have x7_2_4 : w7.cell? ⟨w.heap.size + 1 + 1, 4, none⟩ = some (.int .i64 st) := keep_cell hb7 (by simp [go_sem, *])
        have y7_2 : w.heap.size + 1 + 1 < w7.heap.size := cell?_lt x7_2_0
        have g7 : Below w.heap.size w w7 := by (repeat (first | exact Below.refl _ _ | refine Below.drew ?_ | refine Below.allocS ?_ _ | refine Below.step ?_ (by assumption) | refine Below.setCell ?_ (by simp <;> omega) _ | refine Below.drewN' ?_ _))
        clear hb7 g5 x5_0_0 x5_0_1 x5_1_0 x5_1_1 x5_1_2 x5_1_3 x5_2_0 x5_2_1 x5_2_2 x5_2_3 x5_2_4 y5_0 y5_1 y5_2
        go_wp2
        go_ret
        exact ⟨rfl, by (repeat (first | exact Below.refl _ _ | refine Below.drew ?_ | refine Below.allocS ?_ _ | refine Below.step ?_ (by assumption) | refine Below.setCell ?_ (by simp <;> omega) _ | refine Below.drewN' ?_ _))⟩
    obtain ⟨hok, hsu⟩ := whE_ok he
    have e1 : mirE l = 0 := if_pos hok
    have e2 : mirL l = l.map mir := if_pos hok
    rw [e1, e2] at HM
    have HS1 := Lib.hid (fun W h => Suits_c s v a b l A cap hl2 W h)
    have HS2 := Lib.hid (fun W u h => Suits_sl s v (-a) b (l.map mir) u (by simp; omega) W h)
    rw [suE_mir, suB_mir, hsu] at HS2
    rw [hsu] at HS1
    rw [he] at HW1
    have hneg : IntKind.i64.wrap (-a) = -a := by
      have := (suE_ok hsu).2.2
      have := place_true this
      exact IntWalk.i64_in _ (by omega)
    generalize suB s v l a b = SB at *
    by_cases he2 : whE s v (l ++ [t]) a b c d st = 0
    case neg =>
      generalize whE s v (l ++ [t]) a b c d st = E2 at *
      generalize whL s v l a b c d st = P at *
      generalize whL s v (l ++ [t]) a b c d st = Q at *
      have n1 : (E2 == 0) = false := by simpa using he2
      clear hsub
      go_wp2_with fail
      refine (HW1.out _ (HR.out.step (by (repeat (first | exact Below.refl _ _ | refine Below.drew ?_ | refine Below.allocS ?_ _ | refine Below.step ?_ (by assumption) | refine Below.setCell ?_ (by simp <;> omega) _ | refine Below.drewN' ?_ _))))).mono ?_
      rintro e w3 ⟨u3, rfl, t3, hb3⟩
      replace tq := tq.step hb3
      have x3_0_0 : w3.cell? ⟨w.heap.size, 0, none⟩ = some (.int .i64 s) := keep_cell hb3 (by simp [go_sem, *])
      have x3_0_1 : w3.cell? ⟨w.heap.size, 1, none⟩ = some (.int .i64 v) := keep_cell hb3 (by simp [go_sem, *])
      have y3_0 : w.heap.size < w3.heap.size := cell?_lt x3_0_0
      have x3_1_0 : w3.cell? ⟨w.heap.size + 1, 0, none⟩ = some (.int .i64 t.gx) := keep_cell hb3 (by simp [go_sem, *])
      have x3_1_1 : w3.cell? ⟨w.heap.size + 1, 1, none⟩ = some (.int .i64 t.gy) := keep_cell hb3 (by simp [go_sem, *])
      have x3_1_2 : w3.cell? ⟨w.heap.size + 1, 2, none⟩ = some (.int .i64 t.lo) := keep_cell hb3 (by simp [go_sem, *])
      have x3_1_3 : w3.cell? ⟨w.heap.size + 1, 3, none⟩ = some (.int .i64 t.hi) := keep_cell hb3 (by simp [go_sem, *])
      have y3_1 : w.heap.size + 1 < w3.heap.size := cell?_lt x3_1_0
      have x3_2_0 : w3.cell? ⟨w.heap.size + 1 + 1, 0, none⟩ = some (.int .i64 a) := keep_cell hb3 (by simp [go_sem, *])
      have x3_2_1 : w3.cell? ⟨w.heap.size + 1 + 1, 1, none⟩ = some (.int .i64 b) := keep_cell hb3 (by simp [go_sem, *])
      have x3_2_2 : w3.cell? ⟨w.heap.size + 1 + 1, 2, none⟩ = some (.int .i64 c) := keep_cell hb3 (by simp [go_sem, *])
      have x3_2_3 : w3.cell? ⟨w.heap.size + 1 + 1, 3, none⟩ = some (.int .i64 d) := keep_cell hb3 (by simp [go_sem, *])
      have x3_2_4 : w3.cell? ⟨w.heap.size + 1 + 1, 4, none⟩ = some (.int .i64 st) := keep_cell hb3 (by simp [go_sem, *])
      have y3_2 : w.heap.size + 1 + 1 < w3.heap.size := cell?_lt x3_2_0
      have g3 : Below w.heap.size w w3 := by (repeat (first | exact Below.refl _ _ | refine Below.drew ?_ | refine Below.allocS ?_ _ | refine Below.step ?_ (by assumption) | refine Below.setCell ?_ (by simp <;> omega) _ | refine Below.drewN' ?_ _))
      clear hb3 g2 x2_0_0 x2_0_1 x2_1_0 x2_1_1 x2_1_2 x2_1_3 x2_2_0 x2_2_1 x2_2_2 x2_2_3 x2_2_4 y2_0 y2_1 y2_2
      go_wp2_with fail
      refine (HW2.out _ _ tq).mono ?_
      rintro e w4 ⟨u4, rfl, t4, hb4⟩
      replace tq := tq.step hb4
      replace t3 := t3.step hb4
      have x4_0_0 : w4.cell? ⟨w.heap.size, 0, none⟩ = some (.int .i64 s) := keep_cell hb4 (by simp [go_sem, *])
      have x4_0_1 : w4.cell? ⟨w.heap.size, 1, none⟩ = some (.int .i64 v) := keep_cell hb4 (by simp [go_sem, *])
      have y4_0 : w.heap.size < w4.heap.size := cell?_lt x4_0_0
      have x4_1_0 : w4.cell? ⟨w.heap.size + 1, 0, none⟩ = some (.int .i64 t.gx) := keep_cell hb4 (by simp [go_sem, *])
      have x4_1_1 : w4.cell? ⟨w.heap.size + 1, 1, none⟩ = some (.int .i64 t.gy) := keep_cell hb4 (by simp [go_sem, *])
      have x4_1_2 : w4.cell? ⟨w.heap.size + 1, 2, none⟩ = some (.int .i64 t.lo) := keep_cell hb4 (by simp [go_sem, *])
      have x4_1_3 : w4.cell? ⟨w.heap.size + 1, 3, none⟩ = some (.int .i64 t.hi) := keep_cell hb4 (by simp [go_sem, *])
      have y4_1 : w.heap.size + 1 < w4.heap.size := cell?_lt x4_1_0
      have x4_2_0 : w4.cell? ⟨w.heap.size + 1 + 1, 0, none⟩ = some (.int .i64 a) := keep_cell hb4 (by simp [go_sem, *])
      have x4_2_1 : w4.cell? ⟨w.heap.size + 1 + 1, 1, none⟩ = some (.int .i64 b) := keep_cell hb4 (by simp [go_sem, *])
      have x4_2_2 : w4.cell? ⟨w.heap.size + 1 + 1, 2, none⟩ = some (.int .i64 c) := keep_cell hb4 (by simp [go_sem, *])
      have x4_2_3 : w4.cell? ⟨w.heap.size + 1 + 1, 3, none⟩ = some (.int .i64 d) := keep_cell hb4 (by simp [go_sem, *])
      have x4_2_4 : w4.cell? ⟨w.heap.size + 1 + 1, 4, none⟩ = some (.int .i64 st) := keep_cell hb4 (by simp [go_sem, *])
      have y4_2 : w.heap.size + 1 + 1 < w4.heap.size := cell?_lt x4_2_0
      have g4 : Below w.heap.size w w4 := by (repeat (first | exact Below.refl _ _ | refine Below.drew ?_ | refine Below.allocS ?_ _ | refine Below.step ?_ (by assumption) | refine Below.setCell ?_ (by simp <;> omega) _ | refine Below.drewN' ?_ _))
      clear hb4 g3 x3_0_0 x3_0_1 x3_1_0 x3_1_1 x3_1_2 x3_1_3 x3_2_0 x3_2_1 x3_2_2 x3_2_3 x3_2_4 y3_0 y3_1 y3_2
      go_wp2_with fail
      refine (HM.out _ (HR.out.step (by (repeat (first | exact Below.refl _ _ | refine Below.drew ?_ | refine Below.allocS ?_ _ | refine Below.step ?_ (by assumption) | refine Below.setCell ?_ (by simp <;> omega) _ | refine Below.drewN' ?_ _))))).mono ?_
      rintro e w5 ⟨u5, rfl, t5, hb5⟩
      replace tq := tq.step hb5
      replace t3 := t3.step hb5
      replace t4 := t4.step hb5
      have x5_0_0 : w5.cell? ⟨w.heap.size, 0, none⟩ = some (.int .i64 s) := keep_cell hb5 (by simp [go_sem, *])
      have x5_0_1 : w5.cell? ⟨w.heap.size, 1, none⟩ = some (.int .i64 v) := keep_cell hb5 (by simp [go_sem, *])
      have y5_0 : w.heap.size < w5.heap.size := cell?_lt x5_0_0
      have x5_1_0 : w5.cell? ⟨w.heap.size + 1, 0, none⟩ = some (.int .i64 t.gx) := keep_cell hb5 (by simp [go_sem, *])
      have x5_1_1 : w5.cell? ⟨w.heap.size + 1, 1, none⟩ = some (.int .i64 t.gy) := keep_cell hb5 (by simp [go_sem, *])
      have x5_1_2 : w5.cell? ⟨w.heap.size + 1, 2, none⟩ = some (.int .i64 t.lo) := keep_cell hb5 (by simp [go_sem, *])
      have x5_1_3 : w5.cell? ⟨w.heap.size + 1, 3, none⟩ = some (.int .i64 t.hi) := keep_cell hb5 (by simp [go_sem, *])
      have y5_1 : w.heap.size + 1 < w5.heap.size := cell?_lt x5_1_0
      have x5_2_0 : w5.cell? ⟨w.heap.size + 1 + 1, 0, none⟩ = some (.int .i64 a) := keep_cell hb5 (by simp [go_sem, *])
      have x5_2_1 : w5.cell? ⟨w.heap.size + 1 + 1, 1, none⟩ = some (.int .i64 b) := keep_cell hb5 (by simp [go_sem, *])
      have x5_2_2 : w5.cell? ⟨w.heap.size + 1 + 1, 2, none⟩ = some (.int .i64 c) := keep_cell hb5 (by simp [go_sem, *])
      have x5_2_3 : w5.cell? ⟨w.heap.size + 1 + 1, 3, none⟩ = some (.int .i64 d) := keep_cell hb5 (by simp [go_sem, *])
      have x5_2_4 : w5.cell? ⟨w.heap.size + 1 + 1, 4, none⟩ = some (.int .i64 st) := keep_cell hb5 (by simp [go_sem, *])
      have y5_2 : w.heap.size + 1 + 1 < w5.heap.size := cell?_lt x5_2_0
      have g5 : Below w.heap.size w w5 := by (repeat (first | exact Below.refl _ _ | refine Below.drew ?_ | refine Below.allocS ?_ _ | refine Below.step ?_ (by assumption) | refine Below.setCell ?_ (by simp <;> omega) _ | refine Below.drewN' ?_ _))
      clear hb5 g4 x4_0_0 x4_0_1 x4_1_0 x4_1_1 x4_1_2 x4_1_3 x4_2_0 x4_2_1 x4_2_2 x4_2_3 x4_2_4 y4_0 y4_1 y4_2
      go_wp2_with fail
      refine (HS1.out _ (HR.out.step (by (repeat (first | exact Below.refl _ _ | refine Below.drew ?_ | refine Below.allocS ?_ _ | refine Below.step ?_ (by assumption) | refine Below.setCell ?_ (by simp <;> omega) _ | refine Below.drewN' ?_ _))))).mono ?_
      rintro e w6 ⟨rfl, hb6⟩
      replace tq := tq.step hb6
      replace t3 := t3.step hb6
      replace t4 := t4.step hb6
      replace t5 := t5.step hb6
      have x6_0_0 : w6.cell? ⟨w.heap.size, 0, none⟩ = some (.int .i64 s) := keep_cell hb6 (by simp [go_sem, *])
      have x6_0_1 : w6.cell? ⟨w.heap.size, 1, none⟩ = some (.int .i64 v) := keep_cell hb6 (by simp [go_sem, *])
      have y6_0 : w.heap.size < w6.heap.size := cell?_lt x6_0_0
      have x6_1_0 : w6.cell? ⟨w.heap.size + 1, 0, none⟩ = some (.int .i64 t.gx) := keep_cell hb6 (by simp [go_sem, *])
      have x6_1_1 : w6.cell? ⟨w.heap.size + 1, 1, none⟩ = some (.int .i64 t.gy) := keep_cell hb6 (by simp [go_sem, *])
      have x6_1_2 : w6.cell? ⟨w.heap.size + 1, 2, none⟩ = some (.int .i64 t.lo) := keep_cell hb6 (by simp [go_sem, *])
      have x6_1_3 : w6.cell? ⟨w.heap.size + 1, 3, none⟩ = some (.int .i64 t.hi) := keep_cell hb6 (by simp [go_sem, *])
      have y6_1 : w.heap.size + 1 < w6.heap.size := cell?_lt x6_1_0
      have x6_2_0 : w6.cell? ⟨w.heap.size + 1 + 1, 0, none⟩ = some (.int .i64 a) := keep_cell hb6 (by simp [go_sem, *])
      have x6_2_1 : w6.cell? ⟨w.heap.size + 1 + 1, 1, none⟩ = some (.int .i64 b) := keep_cell hb6 (by simp [go_sem, *])
      have x6_2_2 : w6.cell? ⟨w.heap.size + 1 + 1, 2, none⟩ = some (.int .i64 c) := keep_cell hb6 (by simp [go_sem, *])
      have x6_2_3 : w6.cell? ⟨w.heap.size + 1 + 1, 3, none⟩ = some (.int .i64 d) := keep_cell hb6 (by simp [go_sem, *])
      have x6_2_4 : w6.cell? ⟨w.heap.size + 1 + 1, 4, none⟩ = some (.int .i64 st) := keep_cell hb6 (by simp [go_sem, *])
      have y6_2 : w.heap.size + 1 + 1 < w6.heap.size := cell?_lt x6_2_0
      have g6 : Below w.heap.size w w6 := by (repeat (first | exact Below.refl _ _ | refine Below.drew ?_ | refine Below.allocS ?_ _ | refine Below.step ?_ (by assumption) | refine Below.setCell ?_ (by simp <;> omega) _ | refine Below.drewN' ?_ _))
      clear hb6 g5 x5_0_0 x5_0_1 x5_1_0 x5_1_1 x5_1_2 x5_1_3 x5_2_0 x5_2_1 x5_2_2 x5_2_3 x5_2_4 y5_0 y5_1 y5_2
      go_wp2_with fail
      refine (HS2.out _ _ t5).mono ?_
      rintro e w7 ⟨rfl, hb7⟩
      replace tq := tq.step hb7
      replace t3 := t3.step hb7
      replace t4 := t4.step hb7
      replace t5 := t5.step hb7
      have x7_0_0 : w7.cell? ⟨w.heap.size, 0, none⟩ = some (.int .i64 s) := keep_cell hb7 (by simp [go_sem, *])
      have x7_0_1 : w7.cell? ⟨w.heap.size, 1, none⟩ = some (.int .i64 v) := keep_cell hb7 (by simp [go_sem, *])
      have y7_0 : w.heap.size < w7.heap.size := cell?_lt x7_0_0
      have x7_1_0 : w7.cell? ⟨w.heap.size + 1, 0, none⟩ = some (.int .i64 t.gx) := keep_cell hb7 (by simp [go_sem, *])
      have x7_1_1 : w7.cell? ⟨w.heap.size + 1, 1, none⟩ = some (.int .i64 t.gy) := keep_cell hb7 (by simp [go_sem, *])
      have x7_1_2 : w7.cell? ⟨w.heap.size + 1, 2, none⟩ = some (.int .i64 t.lo) := keep_cell hb7 (by simp [go_sem, *])
      have x7_1_3 : w7.cell? ⟨w.heap.size + 1, 3, none⟩ = some (.int .i64 t.hi) := keep_cell hb7 (by simp [go_sem, *])
      have y7_1 : w.heap.size + 1 < w7.heap.size := cell?_lt x7_1_0
      have x7_2_0 : w7.cell? ⟨w.heap.size + 1 + 1, 0, none⟩ = some (.int .i64 a) := keep_cell hb7 (by simp [go_sem, *])
      have x7_2_1 : w7.cell? ⟨w.heap.size + 1 + 1, 1, none⟩ = some (.int .i64 b) := keep_cell hb7 (by simp [go_sem, *])
      have x7_2_2 : w7.cell? ⟨w.heap.size + 1 + 1, 2, none⟩ = some (.int .i64 c) := keep_cell hb7 (by simp [go_sem, *])
      have x7_2_3 : w7.cell? ⟨w.heap.size + 1 + 1, 3, none⟩ = some (.int .i64 d) := keep_cell hb7 (by simp [go_sem, *])
      have x7_2_4 : w7.cell? ⟨w.heap.size + 1 + 1, 4, none⟩ = some (.int .i64 st) := keep_cell hb7 (by simp [go_sem, *])
      have y7_2 : w.heap.size + 1 + 1 < w7.heap.size := cell?_lt x7_2_0
      have g7 : Below w.heap.size w w7 := by (repeat (first | exact Below.refl _ _ | refine Below.drew ?_ | refine Below.allocS ?_ _ | refine Below.step ?_ (by assumption) | refine Below.setCell ?_ (by simp <;> omega) _ | refine Below.drewN' ?_ _))
      clear hb7 g6 x6_0_0 x6_0_1 x6_1_0 x6_1_1 x6_1_2 x6_1_3 x6_2_0 x6_2_1 x6_2_2 x6_2_3 x6_2_4 y6_0 y6_1 y6_2
      go_wp2_with fail
      refine (awake_c _).mono ?_
      rintro e w8 ⟨rfl, hb8⟩
      replace tq := tq.step hb8
      replace t3 := t3.step hb8
      replace t4 := t4.step hb8
      replace t5 := t5.step hb8
      have x8_0_0 : w8.cell? ⟨w.heap.size, 0, none⟩ = some (.int .i64 s) := keep_cell hb8 (by simp [go_sem, *])
      have x8_0_1 : w8.cell? ⟨w.heap.size, 1, none⟩ = some (.int .i64 v) := keep_cell hb8 (by simp [go_sem, *])
      have y8_0 : w.heap.size < w8.heap.size := cell?_lt x8_0_0
      have x8_1_0 : w8.cell? ⟨w.heap.size + 1, 0, none⟩ = some (.int .i64 t.gx) := keep_cell hb8 (by simp [go_sem, *])
      have x8_1_1 : w8.cell? ⟨w.heap.size + 1, 1, none⟩ = some (.int .i64 t.gy) := keep_cell hb8 (by simp [go_sem, *])
      have x8_1_2 : w8.cell? ⟨w.heap.size + 1, 2, none⟩ = some (.int .i64 t.lo) := keep_cell hb8 (by simp [go_sem, *])
      have x8_1_3 : w8.cell? ⟨w.heap.size + 1, 3, none⟩ = some (.int .i64 t.hi) := keep_cell hb8 (by simp [go_sem, *])
      have y8_1 : w.heap.size + 1 < w8.heap.size := cell?_lt x8_1_0
      have x8_2_0 : w8.cell? ⟨w.heap.size + 1 + 1, 0, none⟩ = some (.int .i64 a) := keep_cell hb8 (by simp [go_sem, *])
      have x8_2_1 : w8.cell? ⟨w.heap.size + 1 + 1, 1, none⟩ = some (.int .i64 b) := keep_cell hb8 (by simp [go_sem, *])
      have x8_2_2 : w8.cell? ⟨w.heap.size + 1 + 1, 2, none⟩ = some (.int .i64 c) := keep_cell hb8 (by simp [go_sem, *])
      have x8_2_3 : w8.cell? ⟨w.heap.size + 1 + 1, 3, none⟩ = some (.int .i64 d) := keep_cell hb8 (by simp [go_sem, *])
      have x8_2_4 : w8.cell? ⟨w.heap.size + 1 + 1, 4, none⟩ = some (.int .i64 st) := keep_cell hb8 (by simp [go_sem, *])
      have y8_2 : w.heap.size + 1 + 1 < w8.heap.size := cell?_lt x8_2_0
      have g8 : Below w.heap.size w w8 := by (repeat (first | exact Below.refl _ _ | refine Below.drew ?_ | refine Below.allocS ?_ _ | refine Below.step ?_ (by assumption) | refine Below.setCell ?_ (by simp <;> omega) _ | refine Below.drewN' ?_ _))
      clear hb8 g7 x7_0_0 x7_0_1 x7_1_0 x7_1_1 x7_1_2 x7_1_3 x7_2_0 x7_2_1 x7_2_2 x7_2_3 x7_2_4 y7_0 y7_1 y7_2
      go_wp2
      go_ret
      exact ⟨rfl, by (repeat (first | exact Below.refl _ _ | refine Below.drew ?_ | refine Below.allocS ?_ _ | refine Below.step ?_ (by assumption) | refine Below.setCell ?_ (by simp <;> omega) _ | refine Below.drewN' ?_ _))⟩
    have hsu2 := hsub he he2
    rw [he2] at HW2
    clear hsub
    generalize whL s v l a b c d st = P at *
    generalize whL s v (l ++ [t]) a b c d st = Q at *
    have HSub := Lib.hid hsu2
    clear hsu2
    go_wp2_with fail
    refine (HW1.out _ (HR.out.step (by (repeat (first | exact Below.refl _ _ | refine Below.drew ?_ | refine Below.allocS ?_ _ | refine Below.step ?_ (by assumption) | refine Below.setCell ?_ (by simp <;> omega) _ | refine Below.drewN' ?_ _))))).mono ?_
    rintro e w3 ⟨u3, rfl, t3, hb3⟩
    replace tq := tq.step hb3
    have x3_0_0 : w3.cell? ⟨w.heap.size, 0, none⟩ = some (.int .i64 s) := keep_cell hb3 (by simp [go_sem, *])
    have x3_0_1 : w3.cell? ⟨w.heap.size, 1, none⟩ = some (.int .i64 v) := keep_cell hb3 (by simp [go_sem, *])
    have y3_0 : w.heap.size < w3.heap.size := cell?_lt x3_0_0
    have x3_1_0 : w3.cell? ⟨w.heap.size + 1, 0, none⟩ = some (.int .i64 t.gx) := keep_cell hb3 (by simp [go_sem, *])
    have x3_1_1 : w3.cell? ⟨w.heap.size + 1, 1, none⟩ = some (.int .i64 t.gy) := keep_cell hb3 (by simp [go_sem, *])
    have x3_1_2 : w3.cell? ⟨w.heap.size + 1, 2, none⟩ = some (.int .i64 t.lo) := keep_cell hb3 (by simp [go_sem, *])
    have x3_1_3 : w3.cell? ⟨w.heap.size + 1, 3, none⟩ = some (.int .i64 t.hi) := keep_cell hb3 (by simp [go_sem, *])
    have y3_1 : w.heap.size + 1 < w3.heap.size := cell?_lt x3_1_0
    have x3_2_0 : w3.cell? ⟨w.heap.size + 1 + 1, 0, none⟩ = some (.int .i64 a) := keep_cell hb3 (by simp [go_sem, *])
    have x3_2_1 : w3.cell? ⟨w.heap.size + 1 + 1, 1, none⟩ = some (.int .i64 b) := keep_cell hb3 (by simp [go_sem, *])
    have x3_2_2 : w3.cell? ⟨w.heap.size + 1 + 1, 2, none⟩ = some (.int .i64 c) := keep_cell hb3 (by simp [go_sem, *])
    have x3_2_3 : w3.cell? ⟨w.heap.size + 1 + 1, 3, none⟩ = some (.int .i64 d) := keep_cell hb3 (by simp [go_sem, *])
    have x3_2_4 : w3.cell? ⟨w.heap.size + 1 + 1, 4, none⟩ = some (.int .i64 st) := keep_cell hb3 (by simp [go_sem, *])
    have y3_2 : w.heap.size + 1 + 1 < w3.heap.size := cell?_lt x3_2_0
    have g3 : Below w.heap.size w w3 := by (repeat (first | exact Below.refl _ _ | refine Below.drew ?_ | refine Below.allocS ?_ _ | refine Below.step ?_ (by assumption) | refine Below.setCell ?_ (by simp <;> omega) _ | refine Below.drewN' ?_ _))
    clear hb3 g2 x2_0_0 x2_0_1 x2_1_0 x2_1_1 x2_1_2 x2_1_3 x2_2_0 x2_2_1 x2_2_2 x2_2_3 x2_2_4 y2_0 y2_1 y2_2
    go_wp2_with fail
    refine (HW2.out _ _ tq).mono ?_
    rintro e w4 ⟨u4, rfl, t4, hb4⟩
    replace tq := tq.step hb4
    replace t3 := t3.step hb4
    have x4_0_0 : w4.cell? ⟨w.heap.size, 0, none⟩ = some (.int .i64 s) := keep_cell hb4 (by simp [go_sem, *])
    have x4_0_1 : w4.cell? ⟨w.heap.size, 1, none⟩ = some (.int .i64 v) := keep_cell hb4 (by simp [go_sem, *])
    have y4_0 : w.heap.size < w4.heap.size := cell?_lt x4_0_0
    have x4_1_0 : w4.cell? ⟨w.heap.size + 1, 0, none⟩ = some (.int .i64 t.gx) := keep_cell hb4 (by simp [go_sem, *])
    have x4_1_1 : w4.cell? ⟨w.heap.size + 1, 1, none⟩ = some (.int .i64 t.gy) := keep_cell hb4 (by simp [go_sem, *])
    have x4_1_2 : w4.cell? ⟨w.heap.size + 1, 2, none⟩ = some (.int .i64 t.lo) := keep_cell hb4 (by simp [go_sem, *])
    have x4_1_3 : w4.cell? ⟨w.heap.size + 1, 3, none⟩ = some (.int .i64 t.hi) := keep_cell hb4 (by simp [go_sem, *])
    have y4_1 : w.heap.size + 1 < w4.heap.size := cell?_lt x4_1_0
    have x4_2_0 : w4.cell? ⟨w.heap.size + 1 + 1, 0, none⟩ = some (.int .i64 a) := keep_cell hb4 (by simp [go_sem, *])
    have x4_2_1 : w4.cell? ⟨w.heap.size + 1 + 1, 1, none⟩ = some (.int .i64 b) := keep_cell hb4 (by simp [go_sem, *])
    have x4_2_2 : w4.cell? ⟨w.heap.size + 1 + 1, 2, none⟩ = some (.int .i64 c) := keep_cell hb4 (by simp [go_sem, *])
    have x4_2_3 : w4.cell? ⟨w.heap.size + 1 + 1, 3, none⟩ = some (.int .i64 d) := keep_cell hb4 (by simp [go_sem, *])
    have x4_2_4 : w4.cell? ⟨w.heap.size + 1 + 1, 4, none⟩ = some (.int .i64 st) := keep_cell hb4 (by simp [go_sem, *])
    have y4_2 : w.heap.size + 1 + 1 < w4.heap.size := cell?_lt x4_2_0
    have g4 : Below w.heap.size w w4 := by (repeat (first | exact Below.refl _ _ | refine Below.drew ?_ | refine Below.allocS ?_ _ | refine Below.step ?_ (by assumption) | refine Below.setCell ?_ (by simp <;> omega) _ | refine Below.drewN' ?_ _))
    clear hb4 g3 x3_0_0 x3_0_1 x3_1_0 x3_1_1 x3_1_2 x3_1_3 x3_2_0 x3_2_1 x3_2_2 x3_2_3 x3_2_4 y3_0 y3_1 y3_2
    clear tq
    obtain ⟨B3, cp3, rfl, h3⟩ := t3
    obtain ⟨B4, cp4, rfl, h4⟩ := t4
    have HP := Lib.hid h3
    have HQ := Lib.hid h4
    clear h3 h4
    go_wp2_with fail
    go_loopw [14, 69] (fun va i wr => ∃ (k m : Nat), k ≤ Q.length ∧ i = .int .i64 k ∧ va = .int .i64 m ∧ m ≤ P.length ∧ (Q.drop k).Sublist (P.drop m) ∧ Below w4.heap.size w4 wr) (fun _ i _ => Q.length - (intOf i).toNat)
    case atStart => exact ⟨0, 0, Nat.zero_le _, rfl, rfl, Nat.zero_le _, by simpa using HSub.out, Below.refl _ _⟩
    case round =>
      obtain ⟨k, m, hk, rfl, rfl, hm, hsb, hbw⟩ := hrel
      have z0_0 := keep_cell hbw x4_0_0
      have z0_1 := keep_cell hbw x4_0_1
      have z1_0 := keep_cell hbw x4_1_0
      have z1_1 := keep_cell hbw x4_1_1
      have z1_2 := keep_cell hbw x4_1_2
      have z1_3 := keep_cell hbw x4_1_3
      have z2_0 := keep_cell hbw x4_2_0
      have z2_1 := keep_cell hbw x4_2_1
      have z2_2 := keep_cell hbw x4_2_2
      have z2_3 := keep_cell hbw x4_2_3
      have z2_4 := keep_cell hbw x4_2_4
      have zy0 : w.heap.size < wr.heap.size := cell?_lt z0_0
      have zy1 : w.heap.size + 1 < wr.heap.size := cell?_lt z1_0
      have zy2 : w.heap.size + 1 + 1 < wr.heap.size := cell?_lt z2_0
      have gw := Below.step g4 hbw
      by_cases hlt : k < Q.length
      · obtain ⟨b4, o4, rfl, hb40, hc⟩ := HQ.out (by omega)
        have c0 := (hbw.cell (p := ⟨b4, _, none⟩) hb40).trans (hc k hlt 0 _ rfl)
        have c1 := (hbw.cell (p := ⟨b4, _, none⟩) hb40).trans (hc k hlt 1 _ rfl)
        clear hc
        simp at c0
        have hd : Q.drop k = Q[k] :: Q.drop (k + 1) := List.drop_eq_getElem_cons hlt
        rw [hd] at hsb
        clear hd
        generalize Q[k] = x at *
        obtain ⟨x1, x2⟩ := x
        dsimp only at c0 c1
        have HSb := Lib.hid hsb
        clear hsb HM HS1 HS2 HSub HW1 HW2 HF HH z0_0 z0_1 z1_0 z1_1 z1_2 z1_3 z2_0 z2_1 z2_2 z2_3 z2_4
        rename World => V
        go_wp2_with fail
        go_loopw [14] (fun va W => ∃ m : Nat, va = .int .i64 m ∧ m ≤ P.length ∧ ((x1, x2) :: Q.drop (k + 1)).Sublist (P.drop m) ∧ W.cell? ⟨V.heap.size, 0, none⟩ = some (.int .i64 x1) ∧ W.cell? ⟨V.heap.size, 1, none⟩ = some (.int .i64 x2) ∧ Below V.heap.size V W) (fun va _ => P.length - (intOf va).toNat)
        case atStart => exact ⟨m, rfl, hm, HSb.out, by simp [go_sem], by simp [go_sem], by (repeat (first | (with_reducible exact Below.refl _ _) | (with_reducible assumption) | (with_reducible refine Below.drew ?_) | (with_reducible refine Below.allocS ?_ _) | (with_reducible refine Below.setCell ?_ ?_ _) | (with_reducible refine Below.step ?_ (by assumption)) | (with_reducible refine Below.drewN' ?_ _))); (try any_goals (first | (with_reducible assumption) | (simp; done) | (simp; omega) | omega))⟩
        case round =>
          clear c0 c1
          obtain ⟨m', rfl, hm', hsb', d0, d1, hbv⟩ := hrel
          have hml : m' < P.length := by
            rcases Nat.lt_or_ge m' P.length with h | h
            · exact h
            · rw [List.drop_eq_nil_of_le h] at hsb'; cases hsb'
          obtain ⟨b3, o3, rfl, hb30, hc⟩ := HP.out (by omega)
          have gv := Below.step hbw hbv
          have p0 := (gv.cell (p := ⟨b3, _, none⟩) hb30).trans (hc m' hml 0 _ rfl)
          have p1 := (gv.cell (p := ⟨b3, _, none⟩) hb30).trans (hc m' hml 1 _ rfl)
          clear hc
          simp at p0
          have HF1 := Lib.hid (sub_found hsb')
          have hd : P.drop m' = P[m'] :: P.drop (m' + 1) := List.drop_eq_getElem_cons hml
          rw [hd] at hsb'
          clear hd
          generalize P[m'] = y at *
          obtain ⟨y1, y2⟩ := y
          dsimp only at p0 p1
          have HN1 := Lib.hid (fun (h : (y1, y2) ≠ (x1, x2)) => sub_next hsb' h)
          clear hsb'
          have hdec : decide ((m' : Int) < (P.length : Int)) = true := decide_eq_true (by omega)
          have y3 : b3 < wr.heap.size := cell?_lt p1
          have y4 : V.heap.size < wr.heap.size := cell?_lt d0
          by_cases hxy : y1 = x1 ∧ y2 = x2
          · obtain ⟨rfl, rfl⟩ := hxy
            have hnp : ∀ W : World, (binOp .neq 25 (.agg #[.int .i64 y1, .int .i64 y2]) (.agg #[.int .i64 y1, .int .i64 y2])).run Try.prog W = .ok (.bool false) W := fun W => by rw [nePoint]; simp
            go_wp2_with fail
            refine region_below (by kernel_rfl) (by kernel_rfl) ?_
            (first | go_big_quiet_skip | (go_big_quiet_want; refine quiet_val (v := ?_) ?_ ?_; rotate_left 1; (· (intro Wq hWq; obtain ⟨hWc, hWf⟩ := bcell hWq; go_simp; (try with_reducible rfl))); go_big_quiet_on; (try simp only [Act.put, List.setIfInBounds_toArray, List.set_cons_zero, List.set_cons_succ])))
            (first | go_big_quiet_skip | (go_big_quiet_want; refine quiet_val (v := ?_) ?_ ?_; rotate_left 1; (· (intro Wq hWq; obtain ⟨hWc, hWf⟩ := bcell hWq; go_simp; (try with_reducible rfl))); go_big_quiet_on; (try simp only [Act.put, List.setIfInBounds_toArray, List.set_cons_zero, List.set_cons_succ])))
            (first | go_big_quiet_skip | (go_big_quiet_want; refine quiet_val (v := ?_) ?_ ?_; rotate_left 1; (· (intro Wq hWq; obtain ⟨hWc, hWf⟩ := bcell hWq; go_simp; (try with_reducible rfl))); go_big_quiet_on; (try simp only [Act.put, List.setIfInBounds_toArray, List.set_cons_zero, List.set_cons_succ])))
            (first | go_big_quiet_skip | (go_big_quiet_want; refine quiet_val (v := ?_) ?_ ?_; rotate_left 1; (· (intro Wq hWq; obtain ⟨hWc, hWf⟩ := bcell hWq; go_simp; (try with_reducible rfl))); go_big_quiet_on; (try simp only [Act.put, List.setIfInBounds_toArray, List.set_cons_zero, List.set_cons_succ])))
            (first | go_big_quiet_skip | (go_big_quiet_want; refine quiet_val (v := ?_) ?_ ?_; rotate_left 1; (· (intro Wq hWq; obtain ⟨hWc, hWf⟩ := bcell hWq; go_simp; (try with_reducible rfl))); go_big_quiet_on; (try simp only [Act.put, List.setIfInBounds_toArray, List.set_cons_zero, List.set_cons_succ])))
            (first | go_big_quiet_skip | (go_big_quiet_want; refine quiet_val (v := ?_) ?_ ?_; rotate_left 1; (· (intro Wq hWq; obtain ⟨hWc, hWf⟩ := bcell hWq; go_simp; (try with_reducible rfl))); go_big_quiet_on; (try simp only [Act.put, List.setIfInBounds_toArray, List.set_cons_zero, List.set_cons_succ])))
            (first | go_big_quiet_skip | (go_big_quiet_want; refine quiet_val (v := ?_) ?_ ?_; rotate_left 1; (· (intro Wq hWq; obtain ⟨hWc, hWf⟩ := bcell hWq; go_simp; (try with_reducible rfl))); go_big_quiet_on; (try simp only [Act.put, List.setIfInBounds_toArray, List.set_cons_zero, List.set_cons_succ])))
            (first | go_big_quiet_skip | (go_big_quiet_want; refine quiet_val (v := ?_) ?_ ?_; rotate_left 1; (· (intro Wq hWq; obtain ⟨hWc, hWf⟩ := bcell hWq; go_simp; (try with_reducible rfl))); go_big_quiet_on; (try simp only [Act.put, List.setIfInBounds_toArray, List.set_cons_zero, List.set_cons_succ])))
            (first | go_big_quiet_skip | (go_big_quiet_want; refine quiet_val (v := ?_) ?_ ?_; rotate_left 1; (· (intro Wq hWq; obtain ⟨hWc, hWf⟩ := bcell hWq; go_simp; (try with_reducible rfl))); go_big_quiet_on; (try simp only [Act.put, List.setIfInBounds_toArray, List.set_cons_zero, List.set_cons_succ])))
            (first | go_big_quiet_skip | (go_big_quiet_want; refine quiet_val (v := ?_) ?_ ?_; rotate_left 1; (· (intro Wq hWq; obtain ⟨hWc, hWf⟩ := bcell hWq; go_simp; (try with_reducible rfl))); go_big_quiet_on; (try simp only [Act.put, List.setIfInBounds_toArray, List.set_cons_zero, List.set_cons_succ])))
            (first | go_big_quiet_skip | (go_big_quiet_want; refine quiet_val (v := ?_) ?_ ?_; rotate_left 1; (· (intro Wq hWq; obtain ⟨hWc, hWf⟩ := bcell hWq; go_simp; (try with_reducible rfl))); go_big_quiet_on; (try simp only [Act.put, List.setIfInBounds_toArray, List.set_cons_zero, List.set_cons_succ])))
            (first | go_big_quiet_skip | (go_big_quiet_want; refine quiet_val (v := ?_) ?_ ?_; rotate_left 1; (· (intro Wq hWq; obtain ⟨hWc, hWf⟩ := bcell hWq; go_simp; (try with_reducible rfl))); go_big_quiet_on; (try simp only [Act.put, List.setIfInBounds_toArray, List.set_cons_zero, List.set_cons_succ])))
            refine wpQuiet_nil ?_; intro w6 hb6
            have g6 : Below w4.heap.size w4 w6 := Below.step gv hb6
            clear p0 p1 d0 d1
            have hne : ((m' : Int) == (P.length : Int)) = false := by simp; omega
            go_wp2
            go_roundw
            case rel => exact ⟨k + 1, m', by omega, by go_num, rfl, hm', HF1.out, g6⟩
            case measure => simp [intOf]; omega
          · have hne : (y1, y2) ≠ (x1, x2) := fun h => hxy (by simpa using h)
            have hnp : ∀ W : World, (binOp .neq 25 (.agg #[.int .i64 y1, .int .i64 y2]) (.agg #[.int .i64 x1, .int .i64 x2])).run Try.prog W = .ok (.bool true) W := fun W => by
              rw [nePoint]
              have : (decide (y1 = x1) && decide (y2 = x2)) = false := by rw [← Bool.decide_and]; exact decide_eq_false hxy
              rw [this]; rfl
            go_wp2_with fail
            refine region_below (by kernel_rfl) (by kernel_rfl) ?_
            (first | go_big_quiet_skip | (go_big_quiet_want; refine quiet_val (v := ?_) ?_ ?_; rotate_left 1; (· (intro Wq hWq; obtain ⟨hWc, hWf⟩ := bcell hWq; go_simp; (try with_reducible rfl))); go_big_quiet_on; (try simp only [Act.put, List.setIfInBounds_toArray, List.set_cons_zero, List.set_cons_succ])))
            (first | go_big_quiet_skip | (go_big_quiet_want; refine quiet_val (v := ?_) ?_ ?_; rotate_left 1; (· (intro Wq hWq; obtain ⟨hWc, hWf⟩ := bcell hWq; go_simp; (try with_reducible rfl))); go_big_quiet_on; (try simp only [Act.put, List.setIfInBounds_toArray, List.set_cons_zero, List.set_cons_succ])))
            (first | go_big_quiet_skip | (go_big_quiet_want; refine quiet_val (v := ?_) ?_ ?_; rotate_left 1; (· (intro Wq hWq; obtain ⟨hWc, hWf⟩ := bcell hWq; go_simp; (try with_reducible rfl))); go_big_quiet_on; (try simp only [Act.put, List.setIfInBounds_toArray, List.set_cons_zero, List.set_cons_succ])))
            (first | go_big_quiet_skip | (go_big_quiet_want; refine quiet_val (v := ?_) ?_ ?_; rotate_left 1; (· (intro Wq hWq; obtain ⟨hWc, hWf⟩ := bcell hWq; go_simp; (try with_reducible rfl))); go_big_quiet_on; (try simp only [Act.put, List.setIfInBounds_toArray, List.set_cons_zero, List.set_cons_succ])))
            (first | go_big_quiet_skip | (go_big_quiet_want; refine quiet_val (v := ?_) ?_ ?_; rotate_left 1; (· (intro Wq hWq; obtain ⟨hWc, hWf⟩ := bcell hWq; go_simp; (try with_reducible rfl))); go_big_quiet_on; (try simp only [Act.put, List.setIfInBounds_toArray, List.set_cons_zero, List.set_cons_succ])))
            (first | go_big_quiet_skip | (go_big_quiet_want; refine quiet_val (v := ?_) ?_ ?_; rotate_left 1; (· (intro Wq hWq; obtain ⟨hWc, hWf⟩ := bcell hWq; go_simp; (try with_reducible rfl))); go_big_quiet_on; (try simp only [Act.put, List.setIfInBounds_toArray, List.set_cons_zero, List.set_cons_succ])))
            (first | go_big_quiet_skip | (go_big_quiet_want; refine quiet_val (v := ?_) ?_ ?_; rotate_left 1; (· (intro Wq hWq; obtain ⟨hWc, hWf⟩ := bcell hWq; go_simp; (try with_reducible rfl))); go_big_quiet_on; (try simp only [Act.put, List.setIfInBounds_toArray, List.set_cons_zero, List.set_cons_succ])))
            (first | go_big_quiet_skip | (go_big_quiet_want; refine quiet_val (v := ?_) ?_ ?_; rotate_left 1; (· (intro Wq hWq; obtain ⟨hWc, hWf⟩ := bcell hWq; go_simp; (try with_reducible rfl))); go_big_quiet_on; (try simp only [Act.put, List.setIfInBounds_toArray, List.set_cons_zero, List.set_cons_succ])))
            (first | go_big_quiet_skip | (go_big_quiet_want; refine quiet_val (v := ?_) ?_ ?_; rotate_left 1; (· (intro Wq hWq; obtain ⟨hWc, hWf⟩ := bcell hWq; go_simp; (try with_reducible rfl))); go_big_quiet_on; (try simp only [Act.put, List.setIfInBounds_toArray, List.set_cons_zero, List.set_cons_succ])))
            (first | go_big_quiet_skip | (go_big_quiet_want; refine quiet_val (v := ?_) ?_ ?_; rotate_left 1; (· (intro Wq hWq; obtain ⟨hWc, hWf⟩ := bcell hWq; go_simp; (try with_reducible rfl))); go_big_quiet_on; (try simp only [Act.put, List.setIfInBounds_toArray, List.set_cons_zero, List.set_cons_succ])))
            (first | go_big_quiet_skip | (go_big_quiet_want; refine quiet_val (v := ?_) ?_ ?_; rotate_left 1; (· (intro Wq hWq; obtain ⟨hWc, hWf⟩ := bcell hWq; go_simp; (try with_reducible rfl))); go_big_quiet_on; (try simp only [Act.put, List.setIfInBounds_toArray, List.set_cons_zero, List.set_cons_succ])))
            (first | go_big_quiet_skip | (go_big_quiet_want; refine quiet_val (v := ?_) ?_ ?_; rotate_left 1; (· (intro Wq hWq; obtain ⟨hWc, hWf⟩ := bcell hWq; go_simp; (try with_reducible rfl))); go_big_quiet_on; (try simp only [Act.put, List.setIfInBounds_toArray, List.set_cons_zero, List.set_cons_succ])))
            refine wpQuiet_nil ?_; intro w6 hb6
            have g6 : Below V.heap.size V w6 := Below.step hbv hb6
            have d2 : w6.cell? ⟨V.heap.size, 0, none⟩ = some (.int .i64 x1) := keep_cell hb6 (by simp [go_sem, *])
            have d3 : w6.cell? ⟨V.heap.size, 1, none⟩ = some (.int .i64 x2) := keep_cell hb6 (by simp [go_sem, *])
            clear p0 p1
            go_wp2
            go_roundw
            case rel => exact ⟨m' + 1, by go_num, by omega, HN1.out hne, d2, d3, g6⟩
            case measure => simp [intOf]; omega
      · obtain rfl : k = Q.length := by omega
        clear x4_0_0 x4_0_1 x4_1_0 x4_1_1 x4_1_2 x4_1_3 x4_2_0 x4_2_1 x4_2_2 x4_2_3 x4_2_4 g4 y4_0 y4_1 y4_2
        go_wp2_with fail
        refine (HM.out _ (HR.out.step (by (repeat (first | exact Below.refl _ _ | refine Below.drew ?_ | refine Below.allocS ?_ _ | refine Below.step ?_ (by assumption) | refine Below.setCell ?_ (by simp <;> omega) _ | refine Below.drewN' ?_ _))))).mono ?_
        rintro e w5 ⟨u5, rfl, t5, hb5⟩
        have x5_0_0 : w5.cell? ⟨w.heap.size, 0, none⟩ = some (.int .i64 s) := keep_cell hb5 (by simp [go_sem, *])
        have x5_0_1 : w5.cell? ⟨w.heap.size, 1, none⟩ = some (.int .i64 v) := keep_cell hb5 (by simp [go_sem, *])
        have y5_0 : w.heap.size < w5.heap.size := cell?_lt x5_0_0
        have x5_1_0 : w5.cell? ⟨w.heap.size + 1, 0, none⟩ = some (.int .i64 t.gx) := keep_cell hb5 (by simp [go_sem, *])
        have x5_1_1 : w5.cell? ⟨w.heap.size + 1, 1, none⟩ = some (.int .i64 t.gy) := keep_cell hb5 (by simp [go_sem, *])
        have x5_1_2 : w5.cell? ⟨w.heap.size + 1, 2, none⟩ = some (.int .i64 t.lo) := keep_cell hb5 (by simp [go_sem, *])
        have x5_1_3 : w5.cell? ⟨w.heap.size + 1, 3, none⟩ = some (.int .i64 t.hi) := keep_cell hb5 (by simp [go_sem, *])
        have y5_1 : w.heap.size + 1 < w5.heap.size := cell?_lt x5_1_0
        have x5_2_0 : w5.cell? ⟨w.heap.size + 1 + 1, 0, none⟩ = some (.int .i64 a) := keep_cell hb5 (by simp [go_sem, *])
        have x5_2_1 : w5.cell? ⟨w.heap.size + 1 + 1, 1, none⟩ = some (.int .i64 b) := keep_cell hb5 (by simp [go_sem, *])
        have x5_2_2 : w5.cell? ⟨w.heap.size + 1 + 1, 2, none⟩ = some (.int .i64 c) := keep_cell hb5 (by simp [go_sem, *])
        have x5_2_3 : w5.cell? ⟨w.heap.size + 1 + 1, 3, none⟩ = some (.int .i64 d) := keep_cell hb5 (by simp [go_sem, *])
        have x5_2_4 : w5.cell? ⟨w.heap.size + 1 + 1, 4, none⟩ = some (.int .i64 st) := keep_cell hb5 (by simp [go_sem, *])
        have y5_2 : w.heap.size + 1 + 1 < w5.heap.size := cell?_lt x5_2_0
        have g5 : Below w.heap.size w w5 := by (repeat (first | exact Below.refl _ _ | refine Below.drew ?_ | refine Below.allocS ?_ _ | refine Below.step ?_ (by assumption) | refine Below.setCell ?_ (by simp <;> omega) _ | refine Below.drewN' ?_ _))
        clear hb5
        go_wp2_with fail
        refine (HS1.out _ (HR.out.step (by (repeat (first | exact Below.refl _ _ | refine Below.drew ?_ | refine Below.allocS ?_ _ | refine Below.step ?_ (by assumption) | refine Below.setCell ?_ (by simp <;> omega) _ | refine Below.drewN' ?_ _))))).mono ?_
        rintro e w6 ⟨rfl, hb6⟩
        replace t5 := t5.step hb6
        have x6_0_0 : w6.cell? ⟨w.heap.size, 0, none⟩ = some (.int .i64 s) := keep_cell hb6 (by simp [go_sem, *])
        have x6_0_1 : w6.cell? ⟨w.heap.size, 1, none⟩ = some (.int .i64 v) := keep_cell hb6 (by simp [go_sem, *])
        have y6_0 : w.heap.size < w6.heap.size := cell?_lt x6_0_0
        have x6_1_0 : w6.cell? ⟨w.heap.size + 1, 0, none⟩ = some (.int .i64 t.gx) := keep_cell hb6 (by simp [go_sem, *])
        have x6_1_1 : w6.cell? ⟨w.heap.size + 1, 1, none⟩ = some (.int .i64 t.gy) := keep_cell hb6 (by simp [go_sem, *])
        have x6_1_2 : w6.cell? ⟨w.heap.size + 1, 2, none⟩ = some (.int .i64 t.lo) := keep_cell hb6 (by simp [go_sem, *])
        have x6_1_3 : w6.cell? ⟨w.heap.size + 1, 3, none⟩ = some (.int .i64 t.hi) := keep_cell hb6 (by simp [go_sem, *])
        have y6_1 : w.heap.size + 1 < w6.heap.size := cell?_lt x6_1_0
        have x6_2_0 : w6.cell? ⟨w.heap.size + 1 + 1, 0, none⟩ = some (.int .i64 a) := keep_cell hb6 (by simp [go_sem, *])
        have x6_2_1 : w6.cell? ⟨w.heap.size + 1 + 1, 1, none⟩ = some (.int .i64 b) := keep_cell hb6 (by simp [go_sem, *])
        have x6_2_2 : w6.cell? ⟨w.heap.size + 1 + 1, 2, none⟩ = some (.int .i64 c) := keep_cell hb6 (by simp [go_sem, *])
        have x6_2_3 : w6.cell? ⟨w.heap.size + 1 + 1, 3, none⟩ = some (.int .i64 d) := keep_cell hb6 (by simp [go_sem, *])
        have x6_2_4 : w6.cell? ⟨w.heap.size + 1 + 1, 4, none⟩ = some (.int .i64 st) := keep_cell hb6 (by simp [go_sem, *])
        have y6_2 : w.heap.size + 1 + 1 < w6.heap.size := cell?_lt x6_2_0
        have g6 : Below w.heap.size w w6 := by (repeat (first | exact Below.refl _ _ | refine Below.drew ?_ | refine Below.allocS ?_ _ | refine Below.step ?_ (by assumption) | refine Below.setCell ?_ (by simp <;> omega) _ | refine Below.drewN' ?_ _))
        clear hb6 g5 x5_0_0 x5_0_1 x5_1_0 x5_1_1 x5_1_2 x5_1_3 x5_2_0 x5_2_1 x5_2_2 x5_2_3 x5_2_4 y5_0 y5_1 y5_2
        go_wp2_with fail
        refine (HS2.out _ _ t5).mono ?_
        rintro e w7 ⟨rfl, hb7⟩
        replace t5 := t5.step hb7
        have x7_0_0 : w7.cell? ⟨w.heap.size, 0, none⟩ = some (.int .i64 s) := keep_cell hb7 (by simp [go_sem, *])
        have x7_0_1 : w7.cell? ⟨w.heap.size, 1, none⟩ = some (.int .i64 v) := keep_cell hb7 (by simp [go_sem, *])
        have y7_0 : w.heap.size < w7.heap.size := cell?_lt x7_0_0
        have x7_1_0 : w7.cell? ⟨w.heap.size + 1, 0, none⟩ = some (.int .i64 t.gx) := keep_cell hb7 (by simp [go_sem, *])
        have x7_1_1 : w7.cell? ⟨w.heap.size + 1, 1, none⟩ = some (.int .i64 t.gy) := keep_cell hb7 (by simp [go_sem, *])
        have x7_1_2 : w7.cell? ⟨w.heap.size + 1, 2, none⟩ = some (.int .i64 t.lo) := keep_cell hb7 (by simp [go_sem, *])
        have x7_1_3 : w7.cell? ⟨w.heap.size + 1, 3, none⟩ = some (.int .i64 t.hi) := keep_cell hb7 (by simp [go_sem, *])
        have y7_1 : w.heap.size + 1 < w7.heap.size := cell?_lt x7_1_0
        have x7_2_0 : w7.cell? ⟨w.heap.size + 1 + 1, 0, none⟩ = some (.int .i64 a) := keep_cell hb7 (by simp [go_sem, *])
        have x7_2_1 : w7.cell? ⟨w.heap.size + 1 + 1, 1, none⟩ = some (.int .i64 b) := keep_cell hb7 (by simp [go_sem, *])
        have x7_2_2 : w7.cell? ⟨w.heap.size + 1 + 1, 2, none⟩ = some (.int .i64 c) := keep_cell hb7 (by simp [go_sem, *])
        have x7_2_3 : w7.cell? ⟨w.heap.size + 1 + 1, 3, none⟩ = some (.int .i64 d) := keep_cell hb7 (by simp [go_sem, *])
        have x7_2_4 : w7.cell? ⟨w.heap.size + 1 + 1, 4, none⟩ = some (.int .i64 st) := keep_cell hb7 (by simp [go_sem, *])
        have y7_2 : w.heap.size + 1 + 1 < w7.heap.size := cell?_lt x7_2_0
        have g7 : Below w.heap.size w w7 := by (repeat (first | exact Below.refl _ _ | refine Below.drew ?_ | refine Below.allocS ?_ _ | refine Below.step ?_ (by assumption) | refine Below.setCell ?_ (by simp <;> omega) _ | refine Below.drewN' ?_ _))
        clear hb7 g6 x6_0_0 x6_0_1 x6_1_0 x6_1_1 x6_1_2 x6_1_3 x6_2_0 x6_2_1 x6_2_2 x6_2_3 x6_2_4 y6_0 y6_1 y6_2
        go_wp2_with fail
        refine (awake_c _).mono ?_
        rintro e w8 ⟨rfl, hb8⟩
        replace t5 := t5.step hb8
        have x8_0_0 : w8.cell? ⟨w.heap.size, 0, none⟩ = some (.int .i64 s) := keep_cell hb8 (by simp [go_sem, *])
        have x8_0_1 : w8.cell? ⟨w.heap.size, 1, none⟩ = some (.int .i64 v) := keep_cell hb8 (by simp [go_sem, *])
        have y8_0 : w.heap.size < w8.heap.size := cell?_lt x8_0_0
        have x8_1_0 : w8.cell? ⟨w.heap.size + 1, 0, none⟩ = some (.int .i64 t.gx) := keep_cell hb8 (by simp [go_sem, *])
        have x8_1_1 : w8.cell? ⟨w.heap.size + 1, 1, none⟩ = some (.int .i64 t.gy) := keep_cell hb8 (by simp [go_sem, *])
        have x8_1_2 : w8.cell? ⟨w.heap.size + 1, 2, none⟩ = some (.int .i64 t.lo) := keep_cell hb8 (by simp [go_sem, *])
        have x8_1_3 : w8.cell? ⟨w.heap.size + 1, 3, none⟩ = some (.int .i64 t.hi) := keep_cell hb8 (by simp [go_sem, *])
        have y8_1 : w.heap.size + 1 < w8.heap.size := cell?_lt x8_1_0
        have x8_2_0 : w8.cell? ⟨w.heap.size + 1 + 1, 0, none⟩ = some (.int .i64 a) := keep_cell hb8 (by simp [go_sem, *])
        have x8_2_1 : w8.cell? ⟨w.heap.size + 1 + 1, 1, none⟩ = some (.int .i64 b) := keep_cell hb8 (by simp [go_sem, *])
        have x8_2_2 : w8.cell? ⟨w.heap.size + 1 + 1, 2, none⟩ = some (.int .i64 c) := keep_cell hb8 (by simp [go_sem, *])
        have x8_2_3 : w8.cell? ⟨w.heap.size + 1 + 1, 3, none⟩ = some (.int .i64 d) := keep_cell hb8 (by simp [go_sem, *])
        have x8_2_4 : w8.cell? ⟨w.heap.size + 1 + 1, 4, none⟩ = some (.int .i64 st) := keep_cell hb8 (by simp [go_sem, *])
        have y8_2 : w.heap.size + 1 + 1 < w8.heap.size := cell?_lt x8_2_0
        have g8 : Below w.heap.size w w8 := by (repeat (first | exact Below.refl _ _ | refine Below.drew ?_ | refine Below.allocS ?_ _ | refine Below.step ?_ (by assumption) | refine Below.setCell ?_ (by simp <;> omega) _ | refine Below.drewN' ?_ _))
        clear hb8 g7 x7_0_0 x7_0_1 x7_1_0 x7_1_1 x7_1_2 x7_1_3 x7_2_0 x7_2_1 x7_2_2 x7_2_3 x7_2_4 y7_0 y7_1 y7_2
        go_wp2
        go_ret
        exact ⟨rfl, by (repeat (first | exact Below.refl _ _ | refine Below.drew ?_ | refine Below.allocS ?_ _ | refine Below.step ?_ (by assumption) | refine Below.setCell ?_ (by simp <;> omega) _ | refine Below.drewN' ?_ _))⟩
end Go.Proofs.Ytgiplkfdallmkaa
