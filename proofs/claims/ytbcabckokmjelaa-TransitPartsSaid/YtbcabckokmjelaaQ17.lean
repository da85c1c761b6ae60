/-
  Reach of both. Printed by gen_q13.py.
-/
import Derived.Test.YtbcabckokmjelaaQ16
namespace Go.Proofs.Ytbcabckokmjelaa
open Go.RowKit
set_option linter.unusedVariables false
set_option linter.unusedSimpArgs false
def reT (x : Tb) (l : List Tr) : Tl := if stErr x l = 0 then (if agB (azR (wdL x l)) = true then tl0 (erR (wdL x l)) else ⟨0, 0, 0, 0, 9⟩) else ⟨0, 0, 0, 0, stErr x l⟩
set_option maxHeartbeats 2000000 in
theorem Reach_c (x : Tb) (l : List Tr) (A : Option Addr) (cap : Nat) (w : World) (hx : TbAt w x) (hl : l.length ≤ cap) (hm : cap ≤ maxLen) (hr : RdL w w.heap.size trE 5 A l) (ht : ∀ t ∈ l, TrAt w t) :
    Calls Try.prog 35 #[.agg #[.slice x.A x.xs.length x.ca, .int .i64 x.e], .slice A l.length cap] w fun e w' => e = .returned (tlV (reT x l)) ∧ Below w.heap.size w w' := by
  have H1 := Lib.hid (fun W (hb : Below w.heap.size w W) => asked_c x l A cap W (hx.step hb) hl hm (hr.step hb) (fun t h => (ht t h).step hb))
  clear hx hl hm hr ht
  unfold reT
  by_cases h0 : stErr x l = 0
  · have H1' : Hid (∀ W, Below w.heap.size w W → Calls Try.prog 60 #[.agg #[.slice x.A x.xs.length x.ca, .int .i64 x.e], .slice A l.length cap] W fun e w' => ∃ A' c', e = .returned (.tuple #[.slice A' l.length c', .int .i64 0]) ∧ RdL w' w'.heap.size stE 3 A' (wdL x l) ∧ Below W.heap.size W w') :=
      Lib.hid (fun W hb => (H1.out W hb).mono (by
        rintro e w' ⟨h | h, hb'⟩
        · obtain ⟨-, A', c', h1, h2⟩ := h; exact ⟨A', c', h1, h2, hb'⟩
        · exact absurd h0 h.1))
    have hok := (stErr_ok h0).1
    have hO := okAll_ok hok
    have hOk := azOk (wdL_ok hok)
    rw [if_pos h0]
    have HG := Lib.hid (fun (A' : Option Addr) c' W hr => agree_c (wdL x l) l.length (wdL_len x l) (by have := hO.n; omega) (wdL_ok hok) A' c' W hr)
    have HZ := Lib.hid (fun (A' : Option Addr) c' W hr => errors_c (wdL x l) l.length (wdL_len x l) (by have := hO.n; omega) (wdL_ok hok) A' c' W hr)
    have hOe := erOk (wdL_ok hok)
    have HT := Lib.hid (fun (h : agB (azR (wdL x l)) = true) W => (er_tell h) ▸ told_c (erR (wdL x l)) W hOe)
    clear H1 h0 hok hO hOk hOe
    cases hg : agB (azR (wdL x l))
    · rw [hg] at HG
      rw [if_neg (by simp)]
      clear HT HZ hg
      unfold tlV
      go_enter Try.func35, Try.ntmps35
      go_wp2_with fail
      refine (H1'.out _ (by (repeat (first | exact Below.refl _ _ | refine Below.drew ?_ | refine Below.allocS ?_ _ | refine Below.step ?_ (by assumption) | refine Below.setCell ?_ (by simp <;> omega) _ | refine Below.drewN' ?_ _)))).mono ?_
      rintro e w1 ⟨A1, c1, rfl, r1, hb1⟩
      have x1_0_0 : w1.cell? ⟨w.heap.size, 0, none⟩ = some (.slice x.A x.xs.length x.ca) := keep_cell hb1 (by simp [go_sem, *])
      have x1_0_1 : w1.cell? ⟨w.heap.size, 1, none⟩ = some (.int .i64 x.e) := keep_cell hb1 (by simp [go_sem, *])
      have y1_0 : w.heap.size < w1.heap.size := cell?_lt x1_0_0
      have x1_1_0 : w1.cell? ⟨w.heap.size + 1, 0, none⟩ = some (.int .i64 0) := keep_cell hb1 (by simp [go_sem, *])
      have f1_1_0 : w1.frozen? ⟨w.heap.size + 1, 0, none⟩ = false := keep_frozen hb1 (by first | omega | (simp <;> omega)) (by simp [go_sem, *])
      have x1_1_1 : w1.cell? ⟨w.heap.size + 1, 1, none⟩ = some (.int .i64 0) := keep_cell hb1 (by simp [go_sem, *])
      have f1_1_1 : w1.frozen? ⟨w.heap.size + 1, 1, none⟩ = false := keep_frozen hb1 (by first | omega | (simp <;> omega)) (by simp [go_sem, *])
      have x1_1_2 : w1.cell? ⟨w.heap.size + 1, 2, none⟩ = some (.int .i64 0) := keep_cell hb1 (by simp [go_sem, *])
      have f1_1_2 : w1.frozen? ⟨w.heap.size + 1, 2, none⟩ = false := keep_frozen hb1 (by first | omega | (simp <;> omega)) (by simp [go_sem, *])
      have x1_1_3 : w1.cell? ⟨w.heap.size + 1, 3, none⟩ = some (.int .i64 0) := keep_cell hb1 (by simp [go_sem, *])
      have f1_1_3 : w1.frozen? ⟨w.heap.size + 1, 3, none⟩ = false := keep_frozen hb1 (by first | omega | (simp <;> omega)) (by simp [go_sem, *])
      have y1_1 : w.heap.size + 1 < w1.heap.size := cell?_lt x1_1_0
      have g1 : Below w.heap.size w w1 := by (repeat (first | exact Below.refl _ _ | refine Below.drew ?_ | refine Below.allocS ?_ _ | refine Below.step ?_ (by assumption) | refine Below.setCell ?_ (by simp <;> omega) _ | refine Below.drewN' ?_ _))
      clear hb1
      go_wp2_with fail
      refine (HG.out A1 c1 _ r1).mono ?_
      rintro e w2 ⟨rfl, hb2⟩
      replace r1 := r1.step (W := w2) (by (repeat (first | exact Below.refl _ _ | refine Below.drew ?_ | refine Below.allocS ?_ _ | refine Below.step ?_ (by assumption) | refine Below.setCell ?_ (by simp <;> omega) _ | refine Below.drewN' ?_ _)))
      have x2_0_0 : w2.cell? ⟨w.heap.size, 0, none⟩ = some (.slice x.A x.xs.length x.ca) := keep_cell hb2 (by simp [go_sem, *])
      have x2_0_1 : w2.cell? ⟨w.heap.size, 1, none⟩ = some (.int .i64 x.e) := keep_cell hb2 (by simp [go_sem, *])
      have y2_0 : w.heap.size < w2.heap.size := cell?_lt x2_0_0
      have x2_1_0 : w2.cell? ⟨w.heap.size + 1, 0, none⟩ = some (.int .i64 0) := keep_cell hb2 (by simp [go_sem, *])
      have f2_1_0 : w2.frozen? ⟨w.heap.size + 1, 0, none⟩ = false := keep_frozen hb2 (by first | omega | (simp <;> omega)) (by simp [go_sem, *])
      have x2_1_1 : w2.cell? ⟨w.heap.size + 1, 1, none⟩ = some (.int .i64 0) := keep_cell hb2 (by simp [go_sem, *])
      have f2_1_1 : w2.frozen? ⟨w.heap.size + 1, 1, none⟩ = false := keep_frozen hb2 (by first | omega | (simp <;> omega)) (by simp [go_sem, *])
      have x2_1_2 : w2.cell? ⟨w.heap.size + 1, 2, none⟩ = some (.int .i64 0) := keep_cell hb2 (by simp [go_sem, *])
      have f2_1_2 : w2.frozen? ⟨w.heap.size + 1, 2, none⟩ = false := keep_frozen hb2 (by first | omega | (simp <;> omega)) (by simp [go_sem, *])
      have x2_1_3 : w2.cell? ⟨w.heap.size + 1, 3, none⟩ = some (.int .i64 0) := keep_cell hb2 (by simp [go_sem, *])
      have f2_1_3 : w2.frozen? ⟨w.heap.size + 1, 3, none⟩ = false := keep_frozen hb2 (by first | omega | (simp <;> omega)) (by simp [go_sem, *])
      have y2_1 : w.heap.size + 1 < w2.heap.size := cell?_lt x2_1_0
      have g2 : Below w.heap.size w w2 := by (repeat (first | exact Below.refl _ _ | refine Below.drew ?_ | refine Below.allocS ?_ _ | refine Below.step ?_ (by assumption) | refine Below.setCell ?_ (by simp <;> omega) _ | refine Below.drewN' ?_ _))
      clear hb2 g1 x1_0_0 x1_0_1 x1_1_0 f1_1_0 x1_1_1 f1_1_1 x1_1_2 f1_1_2 x1_1_3 f1_1_3 y1_0 y1_1
      go_wp2
      (try simp only [Exit.inBlock, Exit.then])
      refine bodyPost_ret (res_reach rfl _ _ (w.heap.size + 1) (.int .i64 0) (.int .i64 0) (.int .i64 0) (.int .i64 0) rfl (by simp [go_sem, *]) (by simp [go_sem, *]) (by simp [go_sem, *]) (by simp [go_sem, *])) rfl ?_
      exact ⟨rfl, by (repeat (first | (with_reducible exact Below.refl _ _) | (with_reducible assumption) | (with_reducible refine Below.drew ?_) | (with_reducible refine Below.allocS ?_ _) | (with_reducible refine Below.setCell ?_ ?_ _) | (with_reducible refine Below.step ?_ (by assumption)) | (with_reducible refine Below.drewN' ?_ _))); (try any_goals (first | (with_reducible assumption) | (simp; done) | (simp; omega) | omega))⟩
    · rw [hg] at HG
      have HT' := Lib.hid (HT.out hg)
      rw [if_pos rfl]
      clear HT hg
      unfold tlV at *
      generalize tl0 (erR (wdL x l)) = T at *
      unfold rcV at *
      generalize erR (wdL x l) = r at *
      go_enter Try.func35, Try.ntmps35
      go_wp2_with fail
      refine (H1'.out _ (by (repeat (first | exact Below.refl _ _ | refine Below.drew ?_ | refine Below.allocS ?_ _ | refine Below.step ?_ (by assumption) | refine Below.setCell ?_ (by simp <;> omega) _ | refine Below.drewN' ?_ _)))).mono ?_
      rintro e w1 ⟨A1, c1, rfl, r1, hb1⟩
      have x1_0_0 : w1.cell? ⟨w.heap.size, 0, none⟩ = some (.slice x.A x.xs.length x.ca) := keep_cell hb1 (by simp [go_sem, *])
      have x1_0_1 : w1.cell? ⟨w.heap.size, 1, none⟩ = some (.int .i64 x.e) := keep_cell hb1 (by simp [go_sem, *])
      have y1_0 : w.heap.size < w1.heap.size := cell?_lt x1_0_0
      have x1_1_0 : w1.cell? ⟨w.heap.size + 1, 0, none⟩ = some (.int .i64 0) := keep_cell hb1 (by simp [go_sem, *])
      have f1_1_0 : w1.frozen? ⟨w.heap.size + 1, 0, none⟩ = false := keep_frozen hb1 (by first | omega | (simp <;> omega)) (by simp [go_sem, *])
      have x1_1_1 : w1.cell? ⟨w.heap.size + 1, 1, none⟩ = some (.int .i64 0) := keep_cell hb1 (by simp [go_sem, *])
      have f1_1_1 : w1.frozen? ⟨w.heap.size + 1, 1, none⟩ = false := keep_frozen hb1 (by first | omega | (simp <;> omega)) (by simp [go_sem, *])
      have x1_1_2 : w1.cell? ⟨w.heap.size + 1, 2, none⟩ = some (.int .i64 0) := keep_cell hb1 (by simp [go_sem, *])
      have f1_1_2 : w1.frozen? ⟨w.heap.size + 1, 2, none⟩ = false := keep_frozen hb1 (by first | omega | (simp <;> omega)) (by simp [go_sem, *])
      have x1_1_3 : w1.cell? ⟨w.heap.size + 1, 3, none⟩ = some (.int .i64 0) := keep_cell hb1 (by simp [go_sem, *])
      have f1_1_3 : w1.frozen? ⟨w.heap.size + 1, 3, none⟩ = false := keep_frozen hb1 (by first | omega | (simp <;> omega)) (by simp [go_sem, *])
      have y1_1 : w.heap.size + 1 < w1.heap.size := cell?_lt x1_1_0
      have g1 : Below w.heap.size w w1 := by (repeat (first | exact Below.refl _ _ | refine Below.drew ?_ | refine Below.allocS ?_ _ | refine Below.step ?_ (by assumption) | refine Below.setCell ?_ (by simp <;> omega) _ | refine Below.drewN' ?_ _))
      clear hb1
      go_wp2_with fail
      refine (HG.out A1 c1 _ r1).mono ?_
      rintro e w2 ⟨rfl, hb2⟩
      replace r1 := r1.step (W := w2) (by (repeat (first | exact Below.refl _ _ | refine Below.drew ?_ | refine Below.allocS ?_ _ | refine Below.step ?_ (by assumption) | refine Below.setCell ?_ (by simp <;> omega) _ | refine Below.drewN' ?_ _)))
      have x2_0_0 : w2.cell? ⟨w.heap.size, 0, none⟩ = some (.slice x.A x.xs.length x.ca) := keep_cell hb2 (by simp [go_sem, *])
      have x2_0_1 : w2.cell? ⟨w.heap.size, 1, none⟩ = some (.int .i64 x.e) := keep_cell hb2 (by simp [go_sem, *])
      have y2_0 : w.heap.size < w2.heap.size := cell?_lt x2_0_0
      have x2_1_0 : w2.cell? ⟨w.heap.size + 1, 0, none⟩ = some (.int .i64 0) := keep_cell hb2 (by simp [go_sem, *])
      have f2_1_0 : w2.frozen? ⟨w.heap.size + 1, 0, none⟩ = false := keep_frozen hb2 (by first | omega | (simp <;> omega)) (by simp [go_sem, *])
      have x2_1_1 : w2.cell? ⟨w.heap.size + 1, 1, none⟩ = some (.int .i64 0) := keep_cell hb2 (by simp [go_sem, *])
      have f2_1_1 : w2.frozen? ⟨w.heap.size + 1, 1, none⟩ = false := keep_frozen hb2 (by first | omega | (simp <;> omega)) (by simp [go_sem, *])
      have x2_1_2 : w2.cell? ⟨w.heap.size + 1, 2, none⟩ = some (.int .i64 0) := keep_cell hb2 (by simp [go_sem, *])
      have f2_1_2 : w2.frozen? ⟨w.heap.size + 1, 2, none⟩ = false := keep_frozen hb2 (by first | omega | (simp <;> omega)) (by simp [go_sem, *])
      have x2_1_3 : w2.cell? ⟨w.heap.size + 1, 3, none⟩ = some (.int .i64 0) := keep_cell hb2 (by simp [go_sem, *])
      have f2_1_3 : w2.frozen? ⟨w.heap.size + 1, 3, none⟩ = false := keep_frozen hb2 (by first | omega | (simp <;> omega)) (by simp [go_sem, *])
      have y2_1 : w.heap.size + 1 < w2.heap.size := cell?_lt x2_1_0
      have g2 : Below w.heap.size w w2 := by (repeat (first | exact Below.refl _ _ | refine Below.drew ?_ | refine Below.allocS ?_ _ | refine Below.step ?_ (by assumption) | refine Below.setCell ?_ (by simp <;> omega) _ | refine Below.drewN' ?_ _))
      clear hb2 g1 x1_0_0 x1_0_1 x1_1_0 f1_1_0 x1_1_1 f1_1_1 x1_1_2 f1_1_2 x1_1_3 f1_1_3 y1_0 y1_1
      go_wp2_with fail
      refine (HZ.out A1 c1 _ r1).mono ?_
      rintro e w3 ⟨rfl, hb3⟩
      replace r1 := r1.step (W := w3) (by (repeat (first | exact Below.refl _ _ | refine Below.drew ?_ | refine Below.allocS ?_ _ | refine Below.step ?_ (by assumption) | refine Below.setCell ?_ (by simp <;> omega) _ | refine Below.drewN' ?_ _)))
      have x3_0_0 : w3.cell? ⟨w.heap.size, 0, none⟩ = some (.slice x.A x.xs.length x.ca) := keep_cell hb3 (by simp [go_sem, *])
      have x3_0_1 : w3.cell? ⟨w.heap.size, 1, none⟩ = some (.int .i64 x.e) := keep_cell hb3 (by simp [go_sem, *])
      have y3_0 : w.heap.size < w3.heap.size := cell?_lt x3_0_0
      have x3_1_0 : w3.cell? ⟨w.heap.size + 1, 0, none⟩ = some (.int .i64 0) := keep_cell hb3 (by simp [go_sem, *])
      have f3_1_0 : w3.frozen? ⟨w.heap.size + 1, 0, none⟩ = false := keep_frozen hb3 (by first | omega | (simp <;> omega)) (by simp [go_sem, *])
      have x3_1_1 : w3.cell? ⟨w.heap.size + 1, 1, none⟩ = some (.int .i64 0) := keep_cell hb3 (by simp [go_sem, *])
      have f3_1_1 : w3.frozen? ⟨w.heap.size + 1, 1, none⟩ = false := keep_frozen hb3 (by first | omega | (simp <;> omega)) (by simp [go_sem, *])
      have x3_1_2 : w3.cell? ⟨w.heap.size + 1, 2, none⟩ = some (.int .i64 0) := keep_cell hb3 (by simp [go_sem, *])
      have f3_1_2 : w3.frozen? ⟨w.heap.size + 1, 2, none⟩ = false := keep_frozen hb3 (by first | omega | (simp <;> omega)) (by simp [go_sem, *])
      have x3_1_3 : w3.cell? ⟨w.heap.size + 1, 3, none⟩ = some (.int .i64 0) := keep_cell hb3 (by simp [go_sem, *])
      have f3_1_3 : w3.frozen? ⟨w.heap.size + 1, 3, none⟩ = false := keep_frozen hb3 (by first | omega | (simp <;> omega)) (by simp [go_sem, *])
      have y3_1 : w.heap.size + 1 < w3.heap.size := cell?_lt x3_1_0
      have g3 : Below w.heap.size w w3 := by (repeat (first | exact Below.refl _ _ | refine Below.drew ?_ | refine Below.allocS ?_ _ | refine Below.step ?_ (by assumption) | refine Below.setCell ?_ (by simp <;> omega) _ | refine Below.drewN' ?_ _))
      clear hb3 g2 x2_0_0 x2_0_1 x2_1_0 f2_1_0 x2_1_1 f2_1_1 x2_1_2 f2_1_2 x2_1_3 f2_1_3 y2_0 y2_1
      go_wp2_with fail
      refine (HT'.out _).mono ?_
      rintro e w4 ⟨rfl, hb4⟩
      replace r1 := r1.step (W := w4) (by (repeat (first | exact Below.refl _ _ | refine Below.drew ?_ | refine Below.allocS ?_ _ | refine Below.step ?_ (by assumption) | refine Below.setCell ?_ (by simp <;> omega) _ | refine Below.drewN' ?_ _)))
      have x4_0_0 : w4.cell? ⟨w.heap.size, 0, none⟩ = some (.slice x.A x.xs.length x.ca) := keep_cell hb4 (by simp [go_sem, *])
      have x4_0_1 : w4.cell? ⟨w.heap.size, 1, none⟩ = some (.int .i64 x.e) := keep_cell hb4 (by simp [go_sem, *])
      have y4_0 : w.heap.size < w4.heap.size := cell?_lt x4_0_0
      have x4_1_0 : w4.cell? ⟨w.heap.size + 1, 0, none⟩ = some (.int .i64 0) := keep_cell hb4 (by simp [go_sem, *])
      have f4_1_0 : w4.frozen? ⟨w.heap.size + 1, 0, none⟩ = false := keep_frozen hb4 (by first | omega | (simp <;> omega)) (by simp [go_sem, *])
      have x4_1_1 : w4.cell? ⟨w.heap.size + 1, 1, none⟩ = some (.int .i64 0) := keep_cell hb4 (by simp [go_sem, *])
      have f4_1_1 : w4.frozen? ⟨w.heap.size + 1, 1, none⟩ = false := keep_frozen hb4 (by first | omega | (simp <;> omega)) (by simp [go_sem, *])
      have x4_1_2 : w4.cell? ⟨w.heap.size + 1, 2, none⟩ = some (.int .i64 0) := keep_cell hb4 (by simp [go_sem, *])
      have f4_1_2 : w4.frozen? ⟨w.heap.size + 1, 2, none⟩ = false := keep_frozen hb4 (by first | omega | (simp <;> omega)) (by simp [go_sem, *])
      have x4_1_3 : w4.cell? ⟨w.heap.size + 1, 3, none⟩ = some (.int .i64 0) := keep_cell hb4 (by simp [go_sem, *])
      have f4_1_3 : w4.frozen? ⟨w.heap.size + 1, 3, none⟩ = false := keep_frozen hb4 (by first | omega | (simp <;> omega)) (by simp [go_sem, *])
      have y4_1 : w.heap.size + 1 < w4.heap.size := cell?_lt x4_1_0
      have g4 : Below w.heap.size w w4 := by (repeat (first | exact Below.refl _ _ | refine Below.drew ?_ | refine Below.allocS ?_ _ | refine Below.step ?_ (by assumption) | refine Below.setCell ?_ (by simp <;> omega) _ | refine Below.drewN' ?_ _))
      clear hb4 g3 x3_0_0 x3_0_1 x3_1_0 f3_1_0 x3_1_1 f3_1_1 x3_1_2 f3_1_2 x3_1_3 f3_1_3 y3_0 y3_1
      go_wp2
      (try simp only [Exit.inBlock, Exit.then])
      refine bodyPost_ret (res_reach rfl _ _ (w.heap.size + 1) (.int .i64 T.a) (.int .i64 T.b) (.int .i64 T.c) (.int .i64 T.d) rfl (by simp [go_sem, *]) (by simp [go_sem, *]) (by simp [go_sem, *]) (by simp [go_sem, *])) rfl ?_
      exact ⟨rfl, by (repeat (first | (with_reducible exact Below.refl _ _) | (with_reducible assumption) | (with_reducible refine Below.drew ?_) | (with_reducible refine Below.allocS ?_ _) | (with_reducible refine Below.setCell ?_ ?_ _) | (with_reducible refine Below.step ?_ (by assumption)) | (with_reducible refine Below.drewN' ?_ _))); (try any_goals (first | (with_reducible assumption) | (simp; done) | (simp; omega) | omega))⟩
  · have H1' : Hid (∀ W, Below w.heap.size w W → Calls Try.prog 60 #[.agg #[.slice x.A x.xs.length x.ca, .int .i64 x.e], .slice A l.length cap] W fun e w' => e = .returned (.tuple #[.slice none 0 0, .int .i64 (stErr x l)]) ∧ Below W.heap.size W w') :=
      Lib.hid (fun W hb => (H1.out W hb).mono (by
        rintro e w' ⟨h | h, hb'⟩
        · exact absurd h.1 h0
        · exact ⟨h.2, hb'⟩))
    have hc := stErr_cases x l
    rw [if_neg h0]
    clear H1
    unfold tlV
    generalize stErr x l = E at *
    rcases hc with rfl | rfl | rfl
    · exact absurd rfl h0
    all_goals
      clear h0
      go_enter Try.func35, Try.ntmps35
      go_wp2_with fail
      refine (H1'.out _ (by (repeat (first | exact Below.refl _ _ | refine Below.drew ?_ | refine Below.allocS ?_ _ | refine Below.step ?_ (by assumption) | refine Below.setCell ?_ (by simp <;> omega) _ | refine Below.drewN' ?_ _)))).mono ?_
      rintro e w1 ⟨rfl, hb1⟩
      have x1_0_0 : w1.cell? ⟨w.heap.size, 0, none⟩ = some (.slice x.A x.xs.length x.ca) := keep_cell hb1 (by simp [go_sem, *])
      have x1_0_1 : w1.cell? ⟨w.heap.size, 1, none⟩ = some (.int .i64 x.e) := keep_cell hb1 (by simp [go_sem, *])
      have y1_0 : w.heap.size < w1.heap.size := cell?_lt x1_0_0
      have x1_1_0 : w1.cell? ⟨w.heap.size + 1, 0, none⟩ = some (.int .i64 0) := keep_cell hb1 (by simp [go_sem, *])
      have f1_1_0 : w1.frozen? ⟨w.heap.size + 1, 0, none⟩ = false := keep_frozen hb1 (by first | omega | (simp <;> omega)) (by simp [go_sem, *])
      have x1_1_1 : w1.cell? ⟨w.heap.size + 1, 1, none⟩ = some (.int .i64 0) := keep_cell hb1 (by simp [go_sem, *])
      have f1_1_1 : w1.frozen? ⟨w.heap.size + 1, 1, none⟩ = false := keep_frozen hb1 (by first | omega | (simp <;> omega)) (by simp [go_sem, *])
      have x1_1_2 : w1.cell? ⟨w.heap.size + 1, 2, none⟩ = some (.int .i64 0) := keep_cell hb1 (by simp [go_sem, *])
      have f1_1_2 : w1.frozen? ⟨w.heap.size + 1, 2, none⟩ = false := keep_frozen hb1 (by first | omega | (simp <;> omega)) (by simp [go_sem, *])
      have x1_1_3 : w1.cell? ⟨w.heap.size + 1, 3, none⟩ = some (.int .i64 0) := keep_cell hb1 (by simp [go_sem, *])
      have f1_1_3 : w1.frozen? ⟨w.heap.size + 1, 3, none⟩ = false := keep_frozen hb1 (by first | omega | (simp <;> omega)) (by simp [go_sem, *])
      have y1_1 : w.heap.size + 1 < w1.heap.size := cell?_lt x1_1_0
      have g1 : Below w.heap.size w w1 := by (repeat (first | exact Below.refl _ _ | refine Below.drew ?_ | refine Below.allocS ?_ _ | refine Below.step ?_ (by assumption) | refine Below.setCell ?_ (by simp <;> omega) _ | refine Below.drewN' ?_ _))
      clear hb1
      go_wp2
      (try simp only [Exit.inBlock, Exit.then])
      refine bodyPost_ret (res_reach rfl _ _ (w.heap.size + 1) (.int .i64 0) (.int .i64 0) (.int .i64 0) (.int .i64 0) rfl (by simp [go_sem, *]) (by simp [go_sem, *]) (by simp [go_sem, *]) (by simp [go_sem, *])) rfl ?_
      exact ⟨rfl, by (repeat (first | (with_reducible exact Below.refl _ _) | (with_reducible assumption) | (with_reducible refine Below.drew ?_) | (with_reducible refine Below.allocS ?_ _) | (with_reducible refine Below.setCell ?_ ?_ _) | (with_reducible refine Below.step ?_ (by assumption)) | (with_reducible refine Below.drewN' ?_ _))); (try any_goals (first | (with_reducible assumption) | (simp; done) | (simp; omega) | omega))⟩
set_option maxHeartbeats 2000000 in
theorem rReach_c (x : Tb) (l : List Tr) (A : Option Addr) (cap : Nat) (w : World) (hx : TbAt w x) (hl : l.length ≤ cap) (hm : cap ≤ maxLen) (hr : RdL w w.heap.size trE 5 A l) (ht : ∀ t ∈ l, TrAt w t) :
    Calls Try.prog 36 #[.agg #[.slice x.A x.xs.length x.ca, .int .i64 x.e], .slice A l.length cap] w fun e w' => e = .returned (tlV (reT x l)) ∧ Below w.heap.size w w' := by
  have H1 := Lib.hid (fun W (hb : Below w.heap.size w W) => differences_c x l A cap W (hx.step hb) hl hm (hr.step hb) (fun t h => (ht t h).step hb))
  clear hx hl hm hr ht
  unfold reT
  by_cases h0 : stErr x l = 0
  · have H1' : Hid (∀ W, Below w.heap.size w W → Calls Try.prog 66 #[.agg #[.slice x.A x.xs.length x.ca, .int .i64 x.e], .slice A l.length cap] W fun e w' => ∃ A' c', e = .returned (.tuple #[.slice A' l.length c', .int .i64 0]) ∧ RdL w' w'.heap.size snE 2 A' (snL x l) ∧ Below W.heap.size W w') :=
      Lib.hid (fun W hb => (H1.out W hb).mono (by
        rintro e w' ⟨h | h, hb'⟩
        · obtain ⟨-, A', c', h1, h2⟩ := h; exact ⟨A', c', h1, h2, hb'⟩
        · exact absurd h0 h.1))
    have hok := (stErr_ok h0).1
    have hO := okAll_ok hok
    have hOk := azOk (wdL_ok hok)
    rw [if_pos h0]
    have HG := Lib.hid (fun (A' : Option Addr) c' W hr => ragree_c (snL x l) l.length (by unfold snL; rw [List.length_map]) (by have := hO.n; omega) (snL_ok hok) x.e (by have := hO.e; omega) A' c' W hr)
    have HZ := Lib.hid (fun (A' : Option Addr) c' W hr => rreach_c (snL x l) l.length (by unfold snL; rw [List.length_map]) (by have := hO.n; omega) (snL_ok hok) x.e (by have := hO.e; omega) A' c' W hr)
    rw [snL_wid] at HG HZ
    have hwd : (stL x l).map (widen x.e) = wdL x l := rfl
    rw [hwd] at HG HZ
    have hOe := erOk (wdL_ok hok)
    have HT := Lib.hid (fun P W r0 (h : RbAt W P r0 ∧ RcOk r0 ∧ tl0 r0 = tl0 (erR (wdL x l))) => h.2.2 ▸ rtold_c r0 P W h.1 h.2.1)
    clear H1 h0 hok hO hOk hwd hOe
    cases hg : agB (azR (wdL x l))
    · rw [hg] at HG
      rw [if_neg (by simp)]
      clear HT HZ hg
      unfold tlV
      go_enter Try.func36, Try.ntmps36
      go_wp2_with fail
      refine (H1'.out _ (by (repeat (first | exact Below.refl _ _ | refine Below.drew ?_ | refine Below.allocS ?_ _ | refine Below.step ?_ (by assumption) | refine Below.setCell ?_ (by simp <;> omega) _ | refine Below.drewN' ?_ _)))).mono ?_
      rintro e w1 ⟨A1, c1, rfl, r1, hb1⟩
      have x1_0_0 : w1.cell? ⟨w.heap.size, 0, none⟩ = some (.slice x.A x.xs.length x.ca) := keep_cell hb1 (by simp [go_sem, *])
      have x1_0_1 : w1.cell? ⟨w.heap.size, 1, none⟩ = some (.int .i64 x.e) := keep_cell hb1 (by simp [go_sem, *])
      have y1_0 : w.heap.size < w1.heap.size := cell?_lt x1_0_0
      have x1_1_0 : w1.cell? ⟨w.heap.size + 1, 0, none⟩ = some (.int .i64 0) := keep_cell hb1 (by simp [go_sem, *])
      have f1_1_0 : w1.frozen? ⟨w.heap.size + 1, 0, none⟩ = false := keep_frozen hb1 (by first | omega | (simp <;> omega)) (by simp [go_sem, *])
      have x1_1_1 : w1.cell? ⟨w.heap.size + 1, 1, none⟩ = some (.int .i64 0) := keep_cell hb1 (by simp [go_sem, *])
      have f1_1_1 : w1.frozen? ⟨w.heap.size + 1, 1, none⟩ = false := keep_frozen hb1 (by first | omega | (simp <;> omega)) (by simp [go_sem, *])
      have x1_1_2 : w1.cell? ⟨w.heap.size + 1, 2, none⟩ = some (.int .i64 0) := keep_cell hb1 (by simp [go_sem, *])
      have f1_1_2 : w1.frozen? ⟨w.heap.size + 1, 2, none⟩ = false := keep_frozen hb1 (by first | omega | (simp <;> omega)) (by simp [go_sem, *])
      have x1_1_3 : w1.cell? ⟨w.heap.size + 1, 3, none⟩ = some (.int .i64 0) := keep_cell hb1 (by simp [go_sem, *])
      have f1_1_3 : w1.frozen? ⟨w.heap.size + 1, 3, none⟩ = false := keep_frozen hb1 (by first | omega | (simp <;> omega)) (by simp [go_sem, *])
      have y1_1 : w.heap.size + 1 < w1.heap.size := cell?_lt x1_1_0
      have g1 : Below w.heap.size w w1 := by (repeat (first | exact Below.refl _ _ | refine Below.drew ?_ | refine Below.allocS ?_ _ | refine Below.step ?_ (by assumption) | refine Below.setCell ?_ (by simp <;> omega) _ | refine Below.drewN' ?_ _))
      clear hb1
      go_wp2_with fail
      refine (HG.out A1 c1 _ r1).mono ?_
      rintro e w2 ⟨rfl, hb2⟩
      replace r1 := r1.step (W := w2) (by (repeat (first | exact Below.refl _ _ | refine Below.drew ?_ | refine Below.allocS ?_ _ | refine Below.step ?_ (by assumption) | refine Below.setCell ?_ (by simp <;> omega) _ | refine Below.drewN' ?_ _)))
      have x2_0_0 : w2.cell? ⟨w.heap.size, 0, none⟩ = some (.slice x.A x.xs.length x.ca) := keep_cell hb2 (by simp [go_sem, *])
      have x2_0_1 : w2.cell? ⟨w.heap.size, 1, none⟩ = some (.int .i64 x.e) := keep_cell hb2 (by simp [go_sem, *])
      have y2_0 : w.heap.size < w2.heap.size := cell?_lt x2_0_0
      have x2_1_0 : w2.cell? ⟨w.heap.size + 1, 0, none⟩ = some (.int .i64 0) := keep_cell hb2 (by simp [go_sem, *])
      have f2_1_0 : w2.frozen? ⟨w.heap.size + 1, 0, none⟩ = false := keep_frozen hb2 (by first | omega | (simp <;> omega)) (by simp [go_sem, *])
      have x2_1_1 : w2.cell? ⟨w.heap.size + 1, 1, none⟩ = some (.int .i64 0) := keep_cell hb2 (by simp [go_sem, *])
      have f2_1_1 : w2.frozen? ⟨w.heap.size + 1, 1, none⟩ = false := keep_frozen hb2 (by first | omega | (simp <;> omega)) (by simp [go_sem, *])
      have x2_1_2 : w2.cell? ⟨w.heap.size + 1, 2, none⟩ = some (.int .i64 0) := keep_cell hb2 (by simp [go_sem, *])
      have f2_1_2 : w2.frozen? ⟨w.heap.size + 1, 2, none⟩ = false := keep_frozen hb2 (by first | omega | (simp <;> omega)) (by simp [go_sem, *])
      have x2_1_3 : w2.cell? ⟨w.heap.size + 1, 3, none⟩ = some (.int .i64 0) := keep_cell hb2 (by simp [go_sem, *])
      have f2_1_3 : w2.frozen? ⟨w.heap.size + 1, 3, none⟩ = false := keep_frozen hb2 (by first | omega | (simp <;> omega)) (by simp [go_sem, *])
      have y2_1 : w.heap.size + 1 < w2.heap.size := cell?_lt x2_1_0
      have g2 : Below w.heap.size w w2 := by (repeat (first | exact Below.refl _ _ | refine Below.drew ?_ | refine Below.allocS ?_ _ | refine Below.step ?_ (by assumption) | refine Below.setCell ?_ (by simp <;> omega) _ | refine Below.drewN' ?_ _))
      clear hb2 g1 x1_0_0 x1_0_1 x1_1_0 f1_1_0 x1_1_1 f1_1_1 x1_1_2 f1_1_2 x1_1_3 f1_1_3 y1_0 y1_1
      go_wp2
      (try simp only [Exit.inBlock, Exit.then])
      refine bodyPost_ret (res_reach rfl _ _ (w.heap.size + 1) (.int .i64 0) (.int .i64 0) (.int .i64 0) (.int .i64 0) rfl (by simp [go_sem, *]) (by simp [go_sem, *]) (by simp [go_sem, *]) (by simp [go_sem, *])) rfl ?_
      exact ⟨rfl, by (repeat (first | (with_reducible exact Below.refl _ _) | (with_reducible assumption) | (with_reducible refine Below.drew ?_) | (with_reducible refine Below.allocS ?_ _) | (with_reducible refine Below.setCell ?_ ?_ _) | (with_reducible refine Below.step ?_ (by assumption)) | (with_reducible refine Below.drewN' ?_ _))); (try any_goals (first | (with_reducible assumption) | (simp; done) | (simp; omega) | omega))⟩
    · rw [hg] at HG
      rw [if_pos rfl]
      clear hg
      unfold tlV at *
      generalize tl0 (erR (wdL x l)) = T at *
      go_enter Try.func36, Try.ntmps36
      go_wp2_with fail
      refine (H1'.out _ (by (repeat (first | exact Below.refl _ _ | refine Below.drew ?_ | refine Below.allocS ?_ _ | refine Below.step ?_ (by assumption) | refine Below.setCell ?_ (by simp <;> omega) _ | refine Below.drewN' ?_ _)))).mono ?_
      rintro e w1 ⟨A1, c1, rfl, r1, hb1⟩
      have x1_0_0 : w1.cell? ⟨w.heap.size, 0, none⟩ = some (.slice x.A x.xs.length x.ca) := keep_cell hb1 (by simp [go_sem, *])
      have x1_0_1 : w1.cell? ⟨w.heap.size, 1, none⟩ = some (.int .i64 x.e) := keep_cell hb1 (by simp [go_sem, *])
      have y1_0 : w.heap.size < w1.heap.size := cell?_lt x1_0_0
      have x1_1_0 : w1.cell? ⟨w.heap.size + 1, 0, none⟩ = some (.int .i64 0) := keep_cell hb1 (by simp [go_sem, *])
      have f1_1_0 : w1.frozen? ⟨w.heap.size + 1, 0, none⟩ = false := keep_frozen hb1 (by first | omega | (simp <;> omega)) (by simp [go_sem, *])
      have x1_1_1 : w1.cell? ⟨w.heap.size + 1, 1, none⟩ = some (.int .i64 0) := keep_cell hb1 (by simp [go_sem, *])
      have f1_1_1 : w1.frozen? ⟨w.heap.size + 1, 1, none⟩ = false := keep_frozen hb1 (by first | omega | (simp <;> omega)) (by simp [go_sem, *])
      have x1_1_2 : w1.cell? ⟨w.heap.size + 1, 2, none⟩ = some (.int .i64 0) := keep_cell hb1 (by simp [go_sem, *])
      have f1_1_2 : w1.frozen? ⟨w.heap.size + 1, 2, none⟩ = false := keep_frozen hb1 (by first | omega | (simp <;> omega)) (by simp [go_sem, *])
      have x1_1_3 : w1.cell? ⟨w.heap.size + 1, 3, none⟩ = some (.int .i64 0) := keep_cell hb1 (by simp [go_sem, *])
      have f1_1_3 : w1.frozen? ⟨w.heap.size + 1, 3, none⟩ = false := keep_frozen hb1 (by first | omega | (simp <;> omega)) (by simp [go_sem, *])
      have y1_1 : w.heap.size + 1 < w1.heap.size := cell?_lt x1_1_0
      have g1 : Below w.heap.size w w1 := by (repeat (first | exact Below.refl _ _ | refine Below.drew ?_ | refine Below.allocS ?_ _ | refine Below.step ?_ (by assumption) | refine Below.setCell ?_ (by simp <;> omega) _ | refine Below.drewN' ?_ _))
      clear hb1
      go_wp2_with fail
      refine (HG.out A1 c1 _ r1).mono ?_
      rintro e w2 ⟨rfl, hb2⟩
      replace r1 := r1.step (W := w2) (by (repeat (first | exact Below.refl _ _ | refine Below.drew ?_ | refine Below.allocS ?_ _ | refine Below.step ?_ (by assumption) | refine Below.setCell ?_ (by simp <;> omega) _ | refine Below.drewN' ?_ _)))
      have x2_0_0 : w2.cell? ⟨w.heap.size, 0, none⟩ = some (.slice x.A x.xs.length x.ca) := keep_cell hb2 (by simp [go_sem, *])
      have x2_0_1 : w2.cell? ⟨w.heap.size, 1, none⟩ = some (.int .i64 x.e) := keep_cell hb2 (by simp [go_sem, *])
      have y2_0 : w.heap.size < w2.heap.size := cell?_lt x2_0_0
      have x2_1_0 : w2.cell? ⟨w.heap.size + 1, 0, none⟩ = some (.int .i64 0) := keep_cell hb2 (by simp [go_sem, *])
      have f2_1_0 : w2.frozen? ⟨w.heap.size + 1, 0, none⟩ = false := keep_frozen hb2 (by first | omega | (simp <;> omega)) (by simp [go_sem, *])
      have x2_1_1 : w2.cell? ⟨w.heap.size + 1, 1, none⟩ = some (.int .i64 0) := keep_cell hb2 (by simp [go_sem, *])
      have f2_1_1 : w2.frozen? ⟨w.heap.size + 1, 1, none⟩ = false := keep_frozen hb2 (by first | omega | (simp <;> omega)) (by simp [go_sem, *])
      have x2_1_2 : w2.cell? ⟨w.heap.size + 1, 2, none⟩ = some (.int .i64 0) := keep_cell hb2 (by simp [go_sem, *])
      have f2_1_2 : w2.frozen? ⟨w.heap.size + 1, 2, none⟩ = false := keep_frozen hb2 (by first | omega | (simp <;> omega)) (by simp [go_sem, *])
      have x2_1_3 : w2.cell? ⟨w.heap.size + 1, 3, none⟩ = some (.int .i64 0) := keep_cell hb2 (by simp [go_sem, *])
      have f2_1_3 : w2.frozen? ⟨w.heap.size + 1, 3, none⟩ = false := keep_frozen hb2 (by first | omega | (simp <;> omega)) (by simp [go_sem, *])
      have y2_1 : w.heap.size + 1 < w2.heap.size := cell?_lt x2_1_0
      have g2 : Below w.heap.size w w2 := by (repeat (first | exact Below.refl _ _ | refine Below.drew ?_ | refine Below.allocS ?_ _ | refine Below.step ?_ (by assumption) | refine Below.setCell ?_ (by simp <;> omega) _ | refine Below.drewN' ?_ _))
      clear hb2 g1 x1_0_0 x1_0_1 x1_1_0 f1_1_0 x1_1_1 f1_1_1 x1_1_2 f1_1_2 x1_1_3 f1_1_3 y1_0 y1_1
      go_wp2_with fail
      refine (HZ.out A1 c1 _ r1).mono ?_
      rintro e w3 ⟨P, r0, rfl, hP, hb3⟩
      replace r1 := r1.step (W := w3) (by (repeat (first | exact Below.refl _ _ | refine Below.drew ?_ | refine Below.allocS ?_ _ | refine Below.step ?_ (by assumption) | refine Below.setCell ?_ (by simp <;> omega) _ | refine Below.drewN' ?_ _)))
      have x3_0_0 : w3.cell? ⟨w.heap.size, 0, none⟩ = some (.slice x.A x.xs.length x.ca) := keep_cell hb3 (by simp [go_sem, *])
      have x3_0_1 : w3.cell? ⟨w.heap.size, 1, none⟩ = some (.int .i64 x.e) := keep_cell hb3 (by simp [go_sem, *])
      have y3_0 : w.heap.size < w3.heap.size := cell?_lt x3_0_0
      have x3_1_0 : w3.cell? ⟨w.heap.size + 1, 0, none⟩ = some (.int .i64 0) := keep_cell hb3 (by simp [go_sem, *])
      have f3_1_0 : w3.frozen? ⟨w.heap.size + 1, 0, none⟩ = false := keep_frozen hb3 (by first | omega | (simp <;> omega)) (by simp [go_sem, *])
      have x3_1_1 : w3.cell? ⟨w.heap.size + 1, 1, none⟩ = some (.int .i64 0) := keep_cell hb3 (by simp [go_sem, *])
      have f3_1_1 : w3.frozen? ⟨w.heap.size + 1, 1, none⟩ = false := keep_frozen hb3 (by first | omega | (simp <;> omega)) (by simp [go_sem, *])
      have x3_1_2 : w3.cell? ⟨w.heap.size + 1, 2, none⟩ = some (.int .i64 0) := keep_cell hb3 (by simp [go_sem, *])
      have f3_1_2 : w3.frozen? ⟨w.heap.size + 1, 2, none⟩ = false := keep_frozen hb3 (by first | omega | (simp <;> omega)) (by simp [go_sem, *])
      have x3_1_3 : w3.cell? ⟨w.heap.size + 1, 3, none⟩ = some (.int .i64 0) := keep_cell hb3 (by simp [go_sem, *])
      have f3_1_3 : w3.frozen? ⟨w.heap.size + 1, 3, none⟩ = false := keep_frozen hb3 (by first | omega | (simp <;> omega)) (by simp [go_sem, *])
      have y3_1 : w.heap.size + 1 < w3.heap.size := cell?_lt x3_1_0
      have g3 : Below w.heap.size w w3 := by (repeat (first | exact Below.refl _ _ | refine Below.drew ?_ | refine Below.allocS ?_ _ | refine Below.step ?_ (by assumption) | refine Below.setCell ?_ (by simp <;> omega) _ | refine Below.drewN' ?_ _))
      clear hb3 g2 x2_0_0 x2_0_1 x2_1_0 f2_1_0 x2_1_1 f2_1_1 x2_1_2 f2_1_2 x2_1_3 f2_1_3 y2_0 y2_1
      go_wp2_with fail
      refine (HT.out P _ r0 hP).mono ?_
      rintro e w4 ⟨rfl, hb4⟩
      replace r1 := r1.step (W := w4) (by (repeat (first | exact Below.refl _ _ | refine Below.drew ?_ | refine Below.allocS ?_ _ | refine Below.step ?_ (by assumption) | refine Below.setCell ?_ (by simp <;> omega) _ | refine Below.drewN' ?_ _)))
      have x4_0_0 : w4.cell? ⟨w.heap.size, 0, none⟩ = some (.slice x.A x.xs.length x.ca) := keep_cell hb4 (by simp [go_sem, *])
      have x4_0_1 : w4.cell? ⟨w.heap.size, 1, none⟩ = some (.int .i64 x.e) := keep_cell hb4 (by simp [go_sem, *])
      have y4_0 : w.heap.size < w4.heap.size := cell?_lt x4_0_0
      have x4_1_0 : w4.cell? ⟨w.heap.size + 1, 0, none⟩ = some (.int .i64 0) := keep_cell hb4 (by simp [go_sem, *])
      have f4_1_0 : w4.frozen? ⟨w.heap.size + 1, 0, none⟩ = false := keep_frozen hb4 (by first | omega | (simp <;> omega)) (by simp [go_sem, *])
      have x4_1_1 : w4.cell? ⟨w.heap.size + 1, 1, none⟩ = some (.int .i64 0) := keep_cell hb4 (by simp [go_sem, *])
      have f4_1_1 : w4.frozen? ⟨w.heap.size + 1, 1, none⟩ = false := keep_frozen hb4 (by first | omega | (simp <;> omega)) (by simp [go_sem, *])
      have x4_1_2 : w4.cell? ⟨w.heap.size + 1, 2, none⟩ = some (.int .i64 0) := keep_cell hb4 (by simp [go_sem, *])
      have f4_1_2 : w4.frozen? ⟨w.heap.size + 1, 2, none⟩ = false := keep_frozen hb4 (by first | omega | (simp <;> omega)) (by simp [go_sem, *])
      have x4_1_3 : w4.cell? ⟨w.heap.size + 1, 3, none⟩ = some (.int .i64 0) := keep_cell hb4 (by simp [go_sem, *])
      have f4_1_3 : w4.frozen? ⟨w.heap.size + 1, 3, none⟩ = false := keep_frozen hb4 (by first | omega | (simp <;> omega)) (by simp [go_sem, *])
      have y4_1 : w.heap.size + 1 < w4.heap.size := cell?_lt x4_1_0
      have g4 : Below w.heap.size w w4 := by (repeat (first | exact Below.refl _ _ | refine Below.drew ?_ | refine Below.allocS ?_ _ | refine Below.step ?_ (by assumption) | refine Below.setCell ?_ (by simp <;> omega) _ | refine Below.drewN' ?_ _))
      clear hb4 g3 x3_0_0 x3_0_1 x3_1_0 f3_1_0 x3_1_1 f3_1_1 x3_1_2 f3_1_2 x3_1_3 f3_1_3 y3_0 y3_1
      go_wp2
      (try simp only [Exit.inBlock, Exit.then])
      refine bodyPost_ret (res_reach rfl _ _ (w.heap.size + 1) (.int .i64 T.a) (.int .i64 T.b) (.int .i64 T.c) (.int .i64 T.d) rfl (by simp [go_sem, *]) (by simp [go_sem, *]) (by simp [go_sem, *]) (by simp [go_sem, *])) rfl ?_
      exact ⟨rfl, by (repeat (first | (with_reducible exact Below.refl _ _) | (with_reducible assumption) | (with_reducible refine Below.drew ?_) | (with_reducible refine Below.allocS ?_ _) | (with_reducible refine Below.setCell ?_ ?_ _) | (with_reducible refine Below.step ?_ (by assumption)) | (with_reducible refine Below.drewN' ?_ _))); (try any_goals (first | (with_reducible assumption) | (simp; done) | (simp; omega) | omega))⟩
  · have H1' : Hid (∀ W, Below w.heap.size w W → Calls Try.prog 66 #[.agg #[.slice x.A x.xs.length x.ca, .int .i64 x.e], .slice A l.length cap] W fun e w' => e = .returned (.tuple #[.slice none 0 0, .int .i64 (stErr x l)]) ∧ Below W.heap.size W w') :=
      Lib.hid (fun W hb => (H1.out W hb).mono (by
        rintro e w' ⟨h | h, hb'⟩
        · exact absurd h.1 h0
        · exact ⟨h.2, hb'⟩))
    have hc := stErr_cases x l
    rw [if_neg h0]
    clear H1
    unfold tlV
    generalize stErr x l = E at *
    rcases hc with rfl | rfl | rfl
    · exact absurd rfl h0
    all_goals
      clear h0
      go_enter Try.func36, Try.ntmps36
      go_wp2_with fail
      refine (H1'.out _ (by (repeat (first | exact Below.refl _ _ | refine Below.drew ?_ | refine Below.allocS ?_ _ | refine Below.step ?_ (by assumption) | refine Below.setCell ?_ (by simp <;> omega) _ | refine Below.drewN' ?_ _)))).mono ?_
      rintro e w1 ⟨rfl, hb1⟩
      have x1_0_0 : w1.cell? ⟨w.heap.size, 0, none⟩ = some (.slice x.A x.xs.length x.ca) := keep_cell hb1 (by simp [go_sem, *])
      have x1_0_1 : w1.cell? ⟨w.heap.size, 1, none⟩ = some (.int .i64 x.e) := keep_cell hb1 (by simp [go_sem, *])
      have y1_0 : w.heap.size < w1.heap.size := cell?_lt x1_0_0
      have x1_1_0 : w1.cell? ⟨w.heap.size + 1, 0, none⟩ = some (.int .i64 0) := keep_cell hb1 (by simp [go_sem, *])
      have f1_1_0 : w1.frozen? ⟨w.heap.size + 1, 0, none⟩ = false := keep_frozen hb1 (by first | omega | (simp <;> omega)) (by simp [go_sem, *])
      have x1_1_1 : w1.cell? ⟨w.heap.size + 1, 1, none⟩ = some (.int .i64 0) := keep_cell hb1 (by simp [go_sem, *])
      have f1_1_1 : w1.frozen? ⟨w.heap.size + 1, 1, none⟩ = false := keep_frozen hb1 (by first | omega | (simp <;> omega)) (by simp [go_sem, *])
      have x1_1_2 : w1.cell? ⟨w.heap.size + 1, 2, none⟩ = some (.int .i64 0) := keep_cell hb1 (by simp [go_sem, *])
      have f1_1_2 : w1.frozen? ⟨w.heap.size + 1, 2, none⟩ = false := keep_frozen hb1 (by first | omega | (simp <;> omega)) (by simp [go_sem, *])
      have x1_1_3 : w1.cell? ⟨w.heap.size + 1, 3, none⟩ = some (.int .i64 0) := keep_cell hb1 (by simp [go_sem, *])
      have f1_1_3 : w1.frozen? ⟨w.heap.size + 1, 3, none⟩ = false := keep_frozen hb1 (by first | omega | (simp <;> omega)) (by simp [go_sem, *])
      have y1_1 : w.heap.size + 1 < w1.heap.size := cell?_lt x1_1_0
      have g1 : Below w.heap.size w w1 := by (repeat (first | exact Below.refl _ _ | refine Below.drew ?_ | refine Below.allocS ?_ _ | refine Below.step ?_ (by assumption) | refine Below.setCell ?_ (by simp <;> omega) _ | refine Below.drewN' ?_ _))
      clear hb1
      go_wp2
      (try simp only [Exit.inBlock, Exit.then])
      refine bodyPost_ret (res_reach rfl _ _ (w.heap.size + 1) (.int .i64 0) (.int .i64 0) (.int .i64 0) (.int .i64 0) rfl (by simp [go_sem, *]) (by simp [go_sem, *]) (by simp [go_sem, *]) (by simp [go_sem, *])) rfl ?_
      exact ⟨rfl, by (repeat (first | (with_reducible exact Below.refl _ _) | (with_reducible assumption) | (with_reducible refine Below.drew ?_) | (with_reducible refine Below.allocS ?_ _) | (with_reducible refine Below.setCell ?_ ?_ _) | (with_reducible refine Below.step ?_ (by assumption)) | (with_reducible refine Below.drewN' ?_ _))); (try any_goals (first | (with_reducible assumption) | (simp; done) | (simp; omega) | omega))⟩
end Go.Proofs.Ytbcabckokmjelaa
