/-
  What is told of a reach, by both.
-/
import Derived.Test.YtbcabckokmjelaaQ10
import Derived.Test.YtbcabckokmjelaaSP
import Derived.Deep.RegionHeld3
import Derived.Deep.DeepCutAuto
namespace Go.Proofs.Ytbcabckokmjelaa
open Go.RowKit Go.Deep
set_option linter.unusedVariables false
set_option linter.unusedSimpArgs false
/-- The result (lowest and highest fraction) and the error. -/
structure Tl where
  a : Int
  b : Int
  c : Int
  d : Int
  e : Int
def tlV (t : Tl) : Value := .tuple #[.agg #[.int .i64 t.a, .int .i64 t.b, .int .i64 t.c, .int .i64 t.d], .int .i64 t.e]
def tl0 (r : Rc) : Tl :=
  if r.lo.d = 0 ∨ r.hi.d = 0 then ⟨0, 0, 0, 0, 8⟩
  else if (lowR r.lo.n r.lo.d).2.2 ≠ 0 ∨ (lowR r.hi.n r.hi.d).2.2 ≠ 0 then ⟨0, 0, 0, 0, 4⟩
  else ⟨(lowR r.lo.n r.lo.d).1, (lowR r.lo.n r.lo.d).2.1, (lowR r.hi.n r.hi.d).1, (lowR r.hi.n r.hi.d).2.1, 0⟩
def tlR (r : Rc) : Tl := if agB r = true then tl0 r else ⟨0, 0, 0, 0, 9⟩
theorem low_err (n d : Int) : (lowR n d).2.2 = 0 ∨ (lowR n d).2.2 = 4 := by unfold lowR; split <;> simp
theorem make_low {n d : Int} (hn : -10000000000000 ≤ n ∧ n ≤ 10000000000000) (hd : 0 ≤ d ∧ d ≤ 100000) (h0 : d ≠ 0) : makeR n d = lowR n d := by
  unfold makeR
  rw [if_pos]
  simp only [Bool.and_eq_true, decide_eq_true_eq]
  omega
theorem res_reach {fn : Func} {p u : Tmp} (h : fn.results = #[.cell p 54, .tmp u]) (tmps : Array Value) (w : World) (b : Nat) (v0 v1 v2 v3 : Value) (hp : tmps.getD p undef = .pointer (some ⟨b, 0, none⟩))
    (c0 : w.cell? ⟨b, 0, none⟩ = some v0) (c1 : w.cell? ⟨b, 1, none⟩ = some v1) (c2 : w.cell? ⟨b, 2, none⟩ = some v2) (c3 : w.cell? ⟨b, 3, none⟩ = some v3) :
    (results fn tmps).run Try.prog w = .ok (.tuple #[.agg #[v0, v1, v2, v3], tmps.getD u undef]) w := by
  rw [results_cell_tmp h, hp]
  simp [go_sem, *]
theorem rtold_c (r : Rc) (P : Nat) (w : World) (h : RbAt w P r) (hr : RcOk r) :
    Calls Try.prog 70 #[.pointer (some ⟨P, 0, none⟩)] w fun e w' => e = .returned (tlV (tl0 r)) ∧ Below w.heap.size w w' := by
  have y0 : P < w.heap.size := h.lt
  obtain ⟨c0, c1, c2, c3, c4, c5, c6, f0, f1, f2, f3, f4, f5, f6⟩ := h
  by_cases h1 : r.lo.d = 0
  · rw [decide_eq_false (show ¬ r.lo.d ≠ 0 by simp [h1])] at c4
    unfold tl0 tlV
    rw [if_pos (Or.inl h1)]
    clear h1
    go_enter Try.func70, Try.ntmps70
    go_wp2
    (try simp only [Exit.inBlock, Exit.then])
    refine bodyPost_ret (res_reach rfl _ _ w.heap.size (.int .i64 0) (.int .i64 0) (.int .i64 0) (.int .i64 0) rfl (by simp [go_sem]) (by simp [go_sem]) (by simp [go_sem]) (by simp [go_sem])) rfl ?_
    exact ⟨rfl, by (repeat (first | (with_reducible exact Below.refl _ _) | (with_reducible assumption) | (with_reducible refine Below.drew ?_) | (with_reducible refine Below.allocS ?_ _) | (with_reducible refine Below.setCell ?_ ?_ _) | (with_reducible refine Below.step ?_ (by assumption)) | (with_reducible refine Below.drewN' ?_ _))); (try any_goals (first | (with_reducible assumption) | (simp; done) | (simp; omega) | omega))⟩
  rw [decide_eq_true (show r.lo.d ≠ 0 from h1)] at c4
  by_cases h2 : r.hi.d = 0
  · rw [decide_eq_false (show ¬ r.hi.d ≠ 0 by simp [h2])] at c5
    unfold tl0 tlV
    rw [if_pos (Or.inr h2)]
    clear h1 h2
    go_enter Try.func70, Try.ntmps70
    go_wp2
    (try simp only [Exit.inBlock, Exit.then])
    refine bodyPost_ret (res_reach rfl _ _ w.heap.size (.int .i64 0) (.int .i64 0) (.int .i64 0) (.int .i64 0) rfl (by simp [go_sem]) (by simp [go_sem]) (by simp [go_sem]) (by simp [go_sem])) rfl ?_
    exact ⟨rfl, by (repeat (first | (with_reducible exact Below.refl _ _) | (with_reducible assumption) | (with_reducible refine Below.drew ?_) | (with_reducible refine Below.allocS ?_ _) | (with_reducible refine Below.setCell ?_ ?_ _) | (with_reducible refine Below.step ?_ (by assumption)) | (with_reducible refine Below.drewN' ?_ _))); (try any_goals (first | (with_reducible assumption) | (simp; done) | (simp; omega) | omega))⟩
  rw [decide_eq_true (show r.hi.d ≠ 0 from h2)] at c5
  unfold tl0
  rw [if_neg (by omega)]
  obtain ⟨a1, a2, a3, hA⟩ : ∃ a1 a2 a3, lowR r.lo.n r.lo.d = (a1, a2, a3) := ⟨_, _, _, rfl⟩
  obtain ⟨b1, b2, b3, hB⟩ : ∃ a1 a2 a3, lowR r.hi.n r.hi.d = (a1, a2, a3) := ⟨_, _, _, rfl⟩
  have ha3 := low_err r.lo.n r.lo.d
  have hb3 := low_err r.hi.n r.hi.d
  have HA := Lib.hid (fun W => rLowest_c r.lo.n r.lo.d (by have := hr.lo.b.1; unfold Fit; omega) (by have := hr.lo.b.2; unfold Fit; omega) h1 W)
  have HB := Lib.hid (fun W => rLowest_c r.hi.n r.hi.d (by have := hr.hi.b.1; unfold Fit; omega) (by have := hr.hi.b.2; unfold Fit; omega) h2 W)
  rw [hA] at HA ha3
  rw [hB] at HB hb3
  rw [hA, hB]
  unfold retV at HA HB
  unfold tlV
  simp only at HA HB ha3 hb3 ⊢
  clear hA hB hr h1 h2
  have hba := fun (W : World) o => Below.allocS (Below.refl W.heap.size W) o
  clear c6 f0 f1 f2 f3 f4 f5 f6
  obtain ⟨T, hT⟩ : ∃ T : Tl, T = (if a3 ≠ 0 ∨ b3 ≠ 0 then (⟨0, 0, 0, 0, 4⟩ : Tl) else ⟨a1, a2, b1, b2, 0⟩) := ⟨_, rfl⟩
  rw [← hT]
  have HT := Lib.hid hT
  clear hT
  generalize r.lo.n = l1 at *
  generalize r.lo.d = l2 at *
  generalize r.hi.n = l3 at *
  generalize r.hi.d = l4 at *
  have hP0 : ∀ W, Below w.heap.size w W → W.cell? ⟨P, 0, none⟩ = some (.int .i64 l1) := fun W h => (h.cell (p := ⟨P, 0, none⟩) y0).trans c0
  have hP1 : ∀ W, Below w.heap.size w W → W.cell? ⟨P, 1, none⟩ = some (.int .i64 l2) := fun W h => (h.cell (p := ⟨P, 1, none⟩) y0).trans c1
  have hP2 : ∀ W, Below w.heap.size w W → W.cell? ⟨P, 2, none⟩ = some (.int .i64 l3) := fun W h => (h.cell (p := ⟨P, 2, none⟩) y0).trans c2
  have hP3 : ∀ W, Below w.heap.size w W → W.cell? ⟨P, 3, none⟩ = some (.int .i64 l4) := fun W h => (h.cell (p := ⟨P, 3, none⟩) y0).trans c3
  go_enter Try.func70, Try.ntmps70
  go_wp2_with fail
  go_cut [4, 5] (fun s4 s5 w1 => (∃ b4 : Nat, s4 = .pointer (some ⟨b4, 0, none⟩) ∧ s5 = .int .i64 a3 ∧ w1.cell? ⟨b4, 0, none⟩ = some (.int .i64 a1) ∧ w1.cell? ⟨b4, 1, none⟩ = some (.int .i64 a2)) ∧ w1.cell? ⟨w.heap.size, 0, none⟩ = some (.int .i64 0) ∧ w1.frozen? ⟨w.heap.size, 0, none⟩ = false ∧ w1.cell? ⟨w.heap.size, 1, none⟩ = some (.int .i64 0) ∧ w1.frozen? ⟨w.heap.size, 1, none⟩ = false ∧ w1.cell? ⟨w.heap.size, 2, none⟩ = some (.int .i64 0) ∧ w1.frozen? ⟨w.heap.size, 2, none⟩ = false ∧ w1.cell? ⟨w.heap.size, 3, none⟩ = some (.int .i64 0) ∧ w1.frozen? ⟨w.heap.size, 3, none⟩ = false ∧ Below w.heap.size w w1)
  case first =>
    go_region_held3 (fun W => Below w.heap.size w W) (first | exact Below.step (by assumption) (by assumption) | exact Below.allocS (by assumption) _ | exact Below.setCell (Below.setCell (by assumption) (by first | omega | (simp; omega)) _) (by first | omega | (simp; omega)) _ | (repeat (first | (with_reducible exact Below.refl _ _) | (with_reducible assumption) | (with_reducible refine Below.drew ?_) | (with_reducible refine Below.allocS ?_ _) | (with_reducible refine Below.setCell ?_ ?_ _) | (with_reducible refine Below.step ?_ (by assumption)) | (with_reducible refine Below.drewN' ?_ _))); (try any_goals (first | (with_reducible assumption) | (simp; done) | (simp; omega) | omega)))
      (first
        | (go_at_call 100; refine (HA.out _).mono ?_; rintro e wm ⟨rfl, hbm⟩; have q0_0 : wm.cell? ⟨w.heap.size, 0, none⟩ = some (.int .i64 0) := keep_cell hbm (by simp [go_sem, *]); have r0_0 : wm.frozen? ⟨w.heap.size, 0, none⟩ = false := keep_frozen hbm (by first | omega | (simp <;> omega)) (by simp [go_sem, *]); have q0_1 : wm.cell? ⟨w.heap.size, 1, none⟩ = some (.int .i64 0) := keep_cell hbm (by simp [go_sem, *]); have r0_1 : wm.frozen? ⟨w.heap.size, 1, none⟩ = false := keep_frozen hbm (by first | omega | (simp <;> omega)) (by simp [go_sem, *]); have q0_2 : wm.cell? ⟨w.heap.size, 2, none⟩ = some (.int .i64 0) := keep_cell hbm (by simp [go_sem, *]); have r0_2 : wm.frozen? ⟨w.heap.size, 2, none⟩ = false := keep_frozen hbm (by first | omega | (simp <;> omega)) (by simp [go_sem, *]); have q0_3 : wm.cell? ⟨w.heap.size, 3, none⟩ = some (.int .i64 0) := keep_cell hbm (by simp [go_sem, *]); have r0_3 : wm.frozen? ⟨w.heap.size, 3, none⟩ = false := keep_frozen hbm (by first | omega | (simp <;> omega)) (by simp [go_sem, *]); have p0 : w.heap.size < wm.heap.size := cell?_lt q0_0; obtain ⟨hcm, hfm⟩ := bcell hbm; have hzm := hbm.size; (try simp at hzm)))
    all_goals
      go_wp2_with fail
      go_meet; exact ⟨⟨_, rfl, rfl, by simp [go_sem, *], by simp [go_sem, *]⟩, (by simp [go_sem, *]), (by simp [go_sem, *]), (by simp [go_sem, *]), (by simp [go_sem, *]), (by simp [go_sem, *]), (by simp [go_sem, *]), (by simp [go_sem, *]), (by simp [go_sem, *]), by (repeat (first | exact Below.refl _ _ | refine Below.drew ?_ | refine Below.allocS ?_ _ | refine Below.step ?_ (by assumption) | refine Below.setCell ?_ (by simp <;> omega) _ | refine Below.drewN' ?_ _))⟩
  case rest =>
    obtain ⟨c1, x1_0_0, f1_0_0, x1_0_1, f1_0_1, x1_0_2, f1_0_2, x1_0_3, f1_0_3, g1⟩ := hcut
    have y1_0 : w.heap.size < wc.heap.size := cell?_lt x1_0_0
    obtain ⟨b4, rfl, rfl, z0, z1⟩ := c1
    have yb4 : b4 < wc.heap.size := cell?_lt z0
    go_wp2_with fail
    go_cut [6, 7] (fun s6 s7 w2 => (∃ b6 : Nat, s6 = .pointer (some ⟨b6, 0, none⟩) ∧ s7 = .int .i64 b3 ∧ w2.cell? ⟨b6, 0, none⟩ = some (.int .i64 b1) ∧ w2.cell? ⟨b6, 1, none⟩ = some (.int .i64 b2)) ∧ w2.cell? ⟨w.heap.size, 0, none⟩ = some (.int .i64 0) ∧ w2.frozen? ⟨w.heap.size, 0, none⟩ = false ∧ w2.cell? ⟨w.heap.size, 1, none⟩ = some (.int .i64 0) ∧ w2.frozen? ⟨w.heap.size, 1, none⟩ = false ∧ w2.cell? ⟨w.heap.size, 2, none⟩ = some (.int .i64 0) ∧ w2.frozen? ⟨w.heap.size, 2, none⟩ = false ∧ w2.cell? ⟨w.heap.size, 3, none⟩ = some (.int .i64 0) ∧ w2.frozen? ⟨w.heap.size, 3, none⟩ = false ∧ w2.cell? ⟨b4, 0, none⟩ = some (.int .i64 a1) ∧ w2.cell? ⟨b4, 1, none⟩ = some (.int .i64 a2) ∧ Below w.heap.size w w2)
    case first =>
      go_region_held3 (fun W => Below w.heap.size w W) (first | exact Below.step (by assumption) (by assumption) | exact Below.allocS (by assumption) _ | exact Below.setCell (Below.setCell (by assumption) (by first | omega | (simp; omega)) _) (by first | omega | (simp; omega)) _ | (repeat (first | (with_reducible exact Below.refl _ _) | (with_reducible assumption) | (with_reducible refine Below.drew ?_) | (with_reducible refine Below.allocS ?_ _) | (with_reducible refine Below.setCell ?_ ?_ _) | (with_reducible refine Below.step ?_ (by assumption)) | (with_reducible refine Below.drewN' ?_ _))); (try any_goals (first | (with_reducible assumption) | (simp; done) | (simp; omega) | omega)))
        (first
          | (go_at_call 100; refine (HB.out _).mono ?_; rintro e wm ⟨rfl, hbm⟩; have q0_0 : wm.cell? ⟨w.heap.size, 0, none⟩ = some (.int .i64 0) := keep_cell hbm (by simp [go_sem, *]); have r0_0 : wm.frozen? ⟨w.heap.size, 0, none⟩ = false := keep_frozen hbm (by first | omega | (simp <;> omega)) (by simp [go_sem, *]); have q0_1 : wm.cell? ⟨w.heap.size, 1, none⟩ = some (.int .i64 0) := keep_cell hbm (by simp [go_sem, *]); have r0_1 : wm.frozen? ⟨w.heap.size, 1, none⟩ = false := keep_frozen hbm (by first | omega | (simp <;> omega)) (by simp [go_sem, *]); have q0_2 : wm.cell? ⟨w.heap.size, 2, none⟩ = some (.int .i64 0) := keep_cell hbm (by simp [go_sem, *]); have r0_2 : wm.frozen? ⟨w.heap.size, 2, none⟩ = false := keep_frozen hbm (by first | omega | (simp <;> omega)) (by simp [go_sem, *]); have q0_3 : wm.cell? ⟨w.heap.size, 3, none⟩ = some (.int .i64 0) := keep_cell hbm (by simp [go_sem, *]); have r0_3 : wm.frozen? ⟨w.heap.size, 3, none⟩ = false := keep_frozen hbm (by first | omega | (simp <;> omega)) (by simp [go_sem, *]); have p0 : w.heap.size < wm.heap.size := cell?_lt q0_0; have q1_0 : wm.cell? ⟨b4, 0, none⟩ = some (.int .i64 a1) := keep_cell hbm (by simp [go_sem, *]); have q1_1 : wm.cell? ⟨b4, 1, none⟩ = some (.int .i64 a2) := keep_cell hbm (by simp [go_sem, *]); have p1 : b4 < wm.heap.size := cell?_lt q1_0; obtain ⟨hcm, hfm⟩ := bcell hbm; have hzm := hbm.size; (try simp at hzm)))
      all_goals
        go_wp2_with fail
        go_meet; exact ⟨⟨_, rfl, rfl, by simp [go_sem, *], by simp [go_sem, *]⟩, (by simp [go_sem, *]), (by simp [go_sem, *]), (by simp [go_sem, *]), (by simp [go_sem, *]), (by simp [go_sem, *]), (by simp [go_sem, *]), (by simp [go_sem, *]), (by simp [go_sem, *]), (by simp [go_sem, *]), (by simp [go_sem, *]), by (repeat (first | exact Below.refl _ _ | refine Below.drew ?_ | refine Below.allocS ?_ _ | refine Below.step ?_ (by assumption) | refine Below.setCell ?_ (by simp <;> omega) _ | refine Below.drewN' ?_ _))⟩
    case rest =>
      clear g1 x1_0_0 f1_0_0 x1_0_1 f1_0_1 x1_0_2 f1_0_2 x1_0_3 f1_0_3 y1_0
      obtain ⟨c2, x2_0_0, f2_0_0, x2_0_1, f2_0_1, x2_0_2, f2_0_2, x2_0_3, f2_0_3, x2_1_0, x2_1_1, g2⟩ := hcut
      have y2_0 : w.heap.size < wc.heap.size := cell?_lt x2_0_0
      have y2_1 : b4 < wc.heap.size := cell?_lt x2_1_0
      obtain ⟨b6, rfl, rfl, v0, v1⟩ := c2
      have yb6 : b6 < wc.heap.size := cell?_lt v0
      have hT := HT.out
      rcases ha3 with rfl | rfl
      · rcases hb3 with rfl | rfl
        · rw [if_neg (by simp)] at hT
          subst hT
          go_wp2
          (try simp only [Exit.inBlock, Exit.then])
          refine bodyPost_ret (res_reach rfl _ _ w.heap.size (.int .i64 a1) (.int .i64 a2) (.int .i64 b1) (.int .i64 b2) rfl (by simp [go_sem, *]) (by simp [go_sem, *]) (by simp [go_sem, *]) (by simp [go_sem, *])) rfl ?_
          exact ⟨rfl, by (repeat (first | (with_reducible exact Below.refl _ _) | (with_reducible assumption) | (with_reducible refine Below.drew ?_) | (with_reducible refine Below.allocS ?_ _) | (with_reducible refine Below.setCell ?_ ?_ _) | (with_reducible refine Below.step ?_ (by assumption)) | (with_reducible refine Below.drewN' ?_ _))); (try any_goals (first | (with_reducible assumption) | (simp; done) | (simp; omega) | omega))⟩
        · rw [if_pos (by simp)] at hT
          subst hT
          go_wp2
          (try simp only [Exit.inBlock, Exit.then])
          refine bodyPost_ret (res_reach rfl _ _ w.heap.size (.int .i64 0) (.int .i64 0) (.int .i64 0) (.int .i64 0) rfl (by simp [go_sem, *]) (by simp [go_sem, *]) (by simp [go_sem, *]) (by simp [go_sem, *])) rfl ?_
          exact ⟨rfl, by (repeat (first | (with_reducible exact Below.refl _ _) | (with_reducible assumption) | (with_reducible refine Below.drew ?_) | (with_reducible refine Below.allocS ?_ _) | (with_reducible refine Below.setCell ?_ ?_ _) | (with_reducible refine Below.step ?_ (by assumption)) | (with_reducible refine Below.drewN' ?_ _))); (try any_goals (first | (with_reducible assumption) | (simp; done) | (simp; omega) | omega))⟩
      · rw [if_pos (by simp)] at hT
        subst hT
        go_wp2
        (try simp only [Exit.inBlock, Exit.then])
        refine bodyPost_ret (res_reach rfl _ _ w.heap.size (.int .i64 0) (.int .i64 0) (.int .i64 0) (.int .i64 0) rfl (by simp [go_sem, *]) (by simp [go_sem, *]) (by simp [go_sem, *]) (by simp [go_sem, *])) rfl ?_
        exact ⟨rfl, by (repeat (first | (with_reducible exact Below.refl _ _) | (with_reducible assumption) | (with_reducible refine Below.drew ?_) | (with_reducible refine Below.allocS ?_ _) | (with_reducible refine Below.setCell ?_ ?_ _) | (with_reducible refine Below.step ?_ (by assumption)) | (with_reducible refine Below.drewN' ?_ _))); (try any_goals (first | (with_reducible assumption) | (simp; done) | (simp; omega) | omega))⟩
end Go.Proofs.Ytbcabckokmjelaa
