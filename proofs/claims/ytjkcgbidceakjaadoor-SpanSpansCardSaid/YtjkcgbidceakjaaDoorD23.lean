/-
  Contract of Hull of the reference.
-/
import Derived.Test.YtjkcgbidceakjaaDoorD2
namespace Go.Proofs.YtjkcgbidceakjaaDoor
open Go.RowKit
set_option linter.unusedVariables false
set_option linter.unusedSimpArgs false
theorem checked_ok (x y : Int) (h1 : -1000000000000 ≤ x) (h2 : x ≤ y) (h3 : y ≤ 1000000000000) (w : World) : Calls Tryd.prog 63 #[.int .i64 x, .int .i64 y] w fun e w' => e = .returned (.tuple #[.agg #[.int .i64 x, .int .i64 y], .int .i64 0]) ∧ Below w.heap.size w w' := by
  have := checked_c x y w
  unfold tell at this
  rwa [if_pos (by simp [okSpan]; omega)] at this
set_option maxHeartbeats 1000000 in
theorem rHull_c (a b c d : Int) (w : World) : Calls Tryd.prog 26 #[.agg #[.int .i64 a, .int .i64 b], .agg #[.int .i64 c, .int .i64 d]] w fun e w' => e = .returned (retV (hullR a b c d)) ∧ Below w.heap.size w w' := by
  unfold hullR
  have H1 := Lib.hid (fun W => rValidSpan_c a b W)
  have H2 := Lib.hid (fun W => rValidSpan_c c d W)
  have HC := Lib.hid (fun x y h1 h2 h3 W => checked_ok x y h1 h2 h3 W)
  cases h : okSpan a b
  · rw [h] at H1
    clear h
    go_enter Tryd.func26, Tryd.ntmps26
    go_wp2_with fail
    refine (H1.out _).mono ?_
    rintro e w1 ⟨rfl, hb1⟩
    have x1_0_0 : w1.cell? ⟨w.heap.size, 0, none⟩ = some (.int .i64 a) := keep_cell hb1 (by simp [go_sem, *])
    have f1_0_0 : w1.frozen? ⟨w.heap.size, 0, none⟩ = false := keep_frozen hb1 (by first | omega | (simp <;> omega)) (by simp [go_sem, *])
    have x1_0_1 : w1.cell? ⟨w.heap.size, 1, none⟩ = some (.int .i64 b) := keep_cell hb1 (by simp [go_sem, *])
    have f1_0_1 : w1.frozen? ⟨w.heap.size, 1, none⟩ = false := keep_frozen hb1 (by first | omega | (simp <;> omega)) (by simp [go_sem, *])
    have y1_0 : w.heap.size < w1.heap.size := cell?_lt x1_0_0
    have x1_1_0 : w1.cell? ⟨w.heap.size + 1, 0, none⟩ = some (.int .i64 c) := keep_cell hb1 (by simp [go_sem, *])
    have f1_1_0 : w1.frozen? ⟨w.heap.size + 1, 0, none⟩ = false := keep_frozen hb1 (by first | omega | (simp <;> omega)) (by simp [go_sem, *])
    have x1_1_1 : w1.cell? ⟨w.heap.size + 1, 1, none⟩ = some (.int .i64 d) := keep_cell hb1 (by simp [go_sem, *])
    have f1_1_1 : w1.frozen? ⟨w.heap.size + 1, 1, none⟩ = false := keep_frozen hb1 (by first | omega | (simp <;> omega)) (by simp [go_sem, *])
    have y1_1 : w.heap.size + 1 < w1.heap.size := cell?_lt x1_1_0
    have x1_2_0 : w1.cell? ⟨w.heap.size + 1 + 1, 0, none⟩ = some (.int .i64 0) := keep_cell hb1 (by simp [go_sem, *])
    have f1_2_0 : w1.frozen? ⟨w.heap.size + 1 + 1, 0, none⟩ = false := keep_frozen hb1 (by first | omega | (simp <;> omega)) (by simp [go_sem, *])
    have x1_2_1 : w1.cell? ⟨w.heap.size + 1 + 1, 1, none⟩ = some (.int .i64 0) := keep_cell hb1 (by simp [go_sem, *])
    have f1_2_1 : w1.frozen? ⟨w.heap.size + 1 + 1, 1, none⟩ = false := keep_frozen hb1 (by first | omega | (simp <;> omega)) (by simp [go_sem, *])
    have y1_2 : w.heap.size + 1 + 1 < w1.heap.size := cell?_lt x1_2_0
    have g1 : Below w.heap.size w w1 := by (repeat (first | exact Below.refl _ _ | refine Below.drew ?_ | refine Below.allocS ?_ _ | refine Below.step ?_ (by assumption) | refine Below.setCell ?_ (by simp <;> omega) _ | refine Below.drewN' ?_ _))
    clear hb1
    go_wp2
    refine bodyPost_ret (v := .tuple #[.agg #[.int .i64 0, .int .i64 0], .int .i64 1]) (by simp [results, Tryd.results26, go_sem, *] <;> (repeat' apply And.intro) <;> rfl) rfl ⟨rfl, ?_⟩
    (repeat (first | (with_reducible exact Below.refl _ _) | (with_reducible assumption) | (with_reducible refine Below.drew ?_) | (with_reducible refine Below.allocS ?_ _) | (with_reducible refine Below.setCell ?_ ?_ _) | (with_reducible refine Below.step ?_ (by assumption)) | (with_reducible refine Below.drewN' ?_ _))); (try any_goals (first | (with_reducible assumption) | (simp; done) | (simp; omega) | omega))
  · cases h' : okSpan c d
    · rw [h] at H1
      rw [h'] at H2
      clear h h'
      go_enter Tryd.func26, Tryd.ntmps26
      go_wp2_with fail
      refine (H1.out _).mono ?_
      rintro e w1 ⟨rfl, hb1⟩
      have x1_0_0 : w1.cell? ⟨w.heap.size, 0, none⟩ = some (.int .i64 a) := keep_cell hb1 (by simp [go_sem, *])
      have f1_0_0 : w1.frozen? ⟨w.heap.size, 0, none⟩ = false := keep_frozen hb1 (by first | omega | (simp <;> omega)) (by simp [go_sem, *])
      have x1_0_1 : w1.cell? ⟨w.heap.size, 1, none⟩ = some (.int .i64 b) := keep_cell hb1 (by simp [go_sem, *])
      have f1_0_1 : w1.frozen? ⟨w.heap.size, 1, none⟩ = false := keep_frozen hb1 (by first | omega | (simp <;> omega)) (by simp [go_sem, *])
      have y1_0 : w.heap.size < w1.heap.size := cell?_lt x1_0_0
      have x1_1_0 : w1.cell? ⟨w.heap.size + 1, 0, none⟩ = some (.int .i64 c) := keep_cell hb1 (by simp [go_sem, *])
      have f1_1_0 : w1.frozen? ⟨w.heap.size + 1, 0, none⟩ = false := keep_frozen hb1 (by first | omega | (simp <;> omega)) (by simp [go_sem, *])
      have x1_1_1 : w1.cell? ⟨w.heap.size + 1, 1, none⟩ = some (.int .i64 d) := keep_cell hb1 (by simp [go_sem, *])
      have f1_1_1 : w1.frozen? ⟨w.heap.size + 1, 1, none⟩ = false := keep_frozen hb1 (by first | omega | (simp <;> omega)) (by simp [go_sem, *])
      have y1_1 : w.heap.size + 1 < w1.heap.size := cell?_lt x1_1_0
      have x1_2_0 : w1.cell? ⟨w.heap.size + 1 + 1, 0, none⟩ = some (.int .i64 0) := keep_cell hb1 (by simp [go_sem, *])
      have f1_2_0 : w1.frozen? ⟨w.heap.size + 1 + 1, 0, none⟩ = false := keep_frozen hb1 (by first | omega | (simp <;> omega)) (by simp [go_sem, *])
      have x1_2_1 : w1.cell? ⟨w.heap.size + 1 + 1, 1, none⟩ = some (.int .i64 0) := keep_cell hb1 (by simp [go_sem, *])
      have f1_2_1 : w1.frozen? ⟨w.heap.size + 1 + 1, 1, none⟩ = false := keep_frozen hb1 (by first | omega | (simp <;> omega)) (by simp [go_sem, *])
      have y1_2 : w.heap.size + 1 + 1 < w1.heap.size := cell?_lt x1_2_0
      have g1 : Below w.heap.size w w1 := by (repeat (first | exact Below.refl _ _ | refine Below.drew ?_ | refine Below.allocS ?_ _ | refine Below.step ?_ (by assumption) | refine Below.setCell ?_ (by simp <;> omega) _ | refine Below.drewN' ?_ _))
      clear hb1
      go_wp2_with fail
      refine (H2.out _).mono ?_
      rintro e w2 ⟨rfl, hb2⟩
      have x2_0_0 : w2.cell? ⟨w.heap.size, 0, none⟩ = some (.int .i64 a) := keep_cell hb2 (by simp [go_sem, *])
      have f2_0_0 : w2.frozen? ⟨w.heap.size, 0, none⟩ = false := keep_frozen hb2 (by first | omega | (simp <;> omega)) (by simp [go_sem, *])
      have x2_0_1 : w2.cell? ⟨w.heap.size, 1, none⟩ = some (.int .i64 b) := keep_cell hb2 (by simp [go_sem, *])
      have f2_0_1 : w2.frozen? ⟨w.heap.size, 1, none⟩ = false := keep_frozen hb2 (by first | omega | (simp <;> omega)) (by simp [go_sem, *])
      have y2_0 : w.heap.size < w2.heap.size := cell?_lt x2_0_0
      have x2_1_0 : w2.cell? ⟨w.heap.size + 1, 0, none⟩ = some (.int .i64 c) := keep_cell hb2 (by simp [go_sem, *])
      have f2_1_0 : w2.frozen? ⟨w.heap.size + 1, 0, none⟩ = false := keep_frozen hb2 (by first | omega | (simp <;> omega)) (by simp [go_sem, *])
      have x2_1_1 : w2.cell? ⟨w.heap.size + 1, 1, none⟩ = some (.int .i64 d) := keep_cell hb2 (by simp [go_sem, *])
      have f2_1_1 : w2.frozen? ⟨w.heap.size + 1, 1, none⟩ = false := keep_frozen hb2 (by first | omega | (simp <;> omega)) (by simp [go_sem, *])
      have y2_1 : w.heap.size + 1 < w2.heap.size := cell?_lt x2_1_0
      have x2_2_0 : w2.cell? ⟨w.heap.size + 1 + 1, 0, none⟩ = some (.int .i64 0) := keep_cell hb2 (by simp [go_sem, *])
      have f2_2_0 : w2.frozen? ⟨w.heap.size + 1 + 1, 0, none⟩ = false := keep_frozen hb2 (by first | omega | (simp <;> omega)) (by simp [go_sem, *])
      have x2_2_1 : w2.cell? ⟨w.heap.size + 1 + 1, 1, none⟩ = some (.int .i64 0) := keep_cell hb2 (by simp [go_sem, *])
      have f2_2_1 : w2.frozen? ⟨w.heap.size + 1 + 1, 1, none⟩ = false := keep_frozen hb2 (by first | omega | (simp <;> omega)) (by simp [go_sem, *])
      have y2_2 : w.heap.size + 1 + 1 < w2.heap.size := cell?_lt x2_2_0
      have g2 : Below w.heap.size w w2 := by (repeat (first | exact Below.refl _ _ | refine Below.drew ?_ | refine Below.allocS ?_ _ | refine Below.step ?_ (by assumption) | refine Below.setCell ?_ (by simp <;> omega) _ | refine Below.drewN' ?_ _))
      clear hb2 g1 x1_0_0 f1_0_0 x1_0_1 f1_0_1 x1_1_0 f1_1_0 x1_1_1 f1_1_1 x1_2_0 f1_2_0 x1_2_1 f1_2_1 y1_0 y1_1 y1_2
      go_wp2
      refine bodyPost_ret (v := .tuple #[.agg #[.int .i64 0, .int .i64 0], .int .i64 1]) (by simp [results, Tryd.results26, go_sem, *] <;> (repeat' apply And.intro) <;> rfl) rfl ⟨rfl, ?_⟩
      (repeat (first | (with_reducible exact Below.refl _ _) | (with_reducible assumption) | (with_reducible refine Below.drew ?_) | (with_reducible refine Below.allocS ?_ _) | (with_reducible refine Below.setCell ?_ ?_ _) | (with_reducible refine Below.step ?_ (by assumption)) | (with_reducible refine Below.drewN' ?_ _))); (try any_goals (first | (with_reducible assumption) | (simp; done) | (simp; omega) | omega))
    · obtain ⟨h3, h4, h5⟩ := okSpan_true h
      obtain ⟨h6, h7, h8⟩ := okSpan_true h'
      rw [h] at H1
      rw [h'] at H2
      clear h h'
      unfold retV
      go_enter Tryd.func26, Tryd.ntmps26
      go_wp2_with fail
      refine (H1.out _).mono ?_
      rintro e w1 ⟨rfl, hb1⟩
      have x1_0_0 : w1.cell? ⟨w.heap.size, 0, none⟩ = some (.int .i64 a) := keep_cell hb1 (by simp [go_sem, *])
      have f1_0_0 : w1.frozen? ⟨w.heap.size, 0, none⟩ = false := keep_frozen hb1 (by first | omega | (simp <;> omega)) (by simp [go_sem, *])
      have x1_0_1 : w1.cell? ⟨w.heap.size, 1, none⟩ = some (.int .i64 b) := keep_cell hb1 (by simp [go_sem, *])
      have f1_0_1 : w1.frozen? ⟨w.heap.size, 1, none⟩ = false := keep_frozen hb1 (by first | omega | (simp <;> omega)) (by simp [go_sem, *])
      have y1_0 : w.heap.size < w1.heap.size := cell?_lt x1_0_0
      have x1_1_0 : w1.cell? ⟨w.heap.size + 1, 0, none⟩ = some (.int .i64 c) := keep_cell hb1 (by simp [go_sem, *])
      have f1_1_0 : w1.frozen? ⟨w.heap.size + 1, 0, none⟩ = false := keep_frozen hb1 (by first | omega | (simp <;> omega)) (by simp [go_sem, *])
      have x1_1_1 : w1.cell? ⟨w.heap.size + 1, 1, none⟩ = some (.int .i64 d) := keep_cell hb1 (by simp [go_sem, *])
      have f1_1_1 : w1.frozen? ⟨w.heap.size + 1, 1, none⟩ = false := keep_frozen hb1 (by first | omega | (simp <;> omega)) (by simp [go_sem, *])
      have y1_1 : w.heap.size + 1 < w1.heap.size := cell?_lt x1_1_0
      have x1_2_0 : w1.cell? ⟨w.heap.size + 1 + 1, 0, none⟩ = some (.int .i64 0) := keep_cell hb1 (by simp [go_sem, *])
      have f1_2_0 : w1.frozen? ⟨w.heap.size + 1 + 1, 0, none⟩ = false := keep_frozen hb1 (by first | omega | (simp <;> omega)) (by simp [go_sem, *])
      have x1_2_1 : w1.cell? ⟨w.heap.size + 1 + 1, 1, none⟩ = some (.int .i64 0) := keep_cell hb1 (by simp [go_sem, *])
      have f1_2_1 : w1.frozen? ⟨w.heap.size + 1 + 1, 1, none⟩ = false := keep_frozen hb1 (by first | omega | (simp <;> omega)) (by simp [go_sem, *])
      have y1_2 : w.heap.size + 1 + 1 < w1.heap.size := cell?_lt x1_2_0
      have g1 : Below w.heap.size w w1 := by (repeat (first | exact Below.refl _ _ | refine Below.drew ?_ | refine Below.allocS ?_ _ | refine Below.step ?_ (by assumption) | refine Below.setCell ?_ (by simp <;> omega) _ | refine Below.drewN' ?_ _))
      clear hb1
      go_wp2_with fail
      refine (H2.out _).mono ?_
      rintro e w2 ⟨rfl, hb2⟩
      have x2_0_0 : w2.cell? ⟨w.heap.size, 0, none⟩ = some (.int .i64 a) := keep_cell hb2 (by simp [go_sem, *])
      have f2_0_0 : w2.frozen? ⟨w.heap.size, 0, none⟩ = false := keep_frozen hb2 (by first | omega | (simp <;> omega)) (by simp [go_sem, *])
      have x2_0_1 : w2.cell? ⟨w.heap.size, 1, none⟩ = some (.int .i64 b) := keep_cell hb2 (by simp [go_sem, *])
      have f2_0_1 : w2.frozen? ⟨w.heap.size, 1, none⟩ = false := keep_frozen hb2 (by first | omega | (simp <;> omega)) (by simp [go_sem, *])
      have y2_0 : w.heap.size < w2.heap.size := cell?_lt x2_0_0
      have x2_1_0 : w2.cell? ⟨w.heap.size + 1, 0, none⟩ = some (.int .i64 c) := keep_cell hb2 (by simp [go_sem, *])
      have f2_1_0 : w2.frozen? ⟨w.heap.size + 1, 0, none⟩ = false := keep_frozen hb2 (by first | omega | (simp <;> omega)) (by simp [go_sem, *])
      have x2_1_1 : w2.cell? ⟨w.heap.size + 1, 1, none⟩ = some (.int .i64 d) := keep_cell hb2 (by simp [go_sem, *])
      have f2_1_1 : w2.frozen? ⟨w.heap.size + 1, 1, none⟩ = false := keep_frozen hb2 (by first | omega | (simp <;> omega)) (by simp [go_sem, *])
      have y2_1 : w.heap.size + 1 < w2.heap.size := cell?_lt x2_1_0
      have x2_2_0 : w2.cell? ⟨w.heap.size + 1 + 1, 0, none⟩ = some (.int .i64 0) := keep_cell hb2 (by simp [go_sem, *])
      have f2_2_0 : w2.frozen? ⟨w.heap.size + 1 + 1, 0, none⟩ = false := keep_frozen hb2 (by first | omega | (simp <;> omega)) (by simp [go_sem, *])
      have x2_2_1 : w2.cell? ⟨w.heap.size + 1 + 1, 1, none⟩ = some (.int .i64 0) := keep_cell hb2 (by simp [go_sem, *])
      have f2_2_1 : w2.frozen? ⟨w.heap.size + 1 + 1, 1, none⟩ = false := keep_frozen hb2 (by first | omega | (simp <;> omega)) (by simp [go_sem, *])
      have y2_2 : w.heap.size + 1 + 1 < w2.heap.size := cell?_lt x2_2_0
      have g2 : Below w.heap.size w w2 := by (repeat (first | exact Below.refl _ _ | refine Below.drew ?_ | refine Below.allocS ?_ _ | refine Below.step ?_ (by assumption) | refine Below.setCell ?_ (by simp <;> omega) _ | refine Below.drewN' ?_ _))
      clear hb2 g1 x1_0_0 f1_0_0 x1_0_1 f1_0_1 x1_1_0 f1_1_0 x1_1_1 f1_1_1 x1_2_0 f1_2_0 x1_2_1 f1_2_1 y1_0 y1_1 y1_2
      go_wp2_with fail
      all_goals
        refine (HC.out _ _ (by omega) (by omega) (by omega) _).mono ?_
        rintro e w3 ⟨rfl, hb3⟩
        have q0_0 : w3.cell? ⟨w.heap.size, 0, none⟩ = some (.int .i64 a) := keep_cell hb3 (by simp [go_sem, *]); have r0_0 : w3.frozen? ⟨w.heap.size, 0, none⟩ = false := keep_frozen hb3 (by first | omega | (simp <;> omega)) (by simp [go_sem, *]); have q0_1 : w3.cell? ⟨w.heap.size, 1, none⟩ = some (.int .i64 b) := keep_cell hb3 (by simp [go_sem, *]); have r0_1 : w3.frozen? ⟨w.heap.size, 1, none⟩ = false := keep_frozen hb3 (by first | omega | (simp <;> omega)) (by simp [go_sem, *]); have p0 : w.heap.size < w3.heap.size := cell?_lt q0_0; have q1_0 : w3.cell? ⟨w.heap.size + 1, 0, none⟩ = some (.int .i64 c) := keep_cell hb3 (by simp [go_sem, *]); have r1_0 : w3.frozen? ⟨w.heap.size + 1, 0, none⟩ = false := keep_frozen hb3 (by first | omega | (simp <;> omega)) (by simp [go_sem, *]); have q1_1 : w3.cell? ⟨w.heap.size + 1, 1, none⟩ = some (.int .i64 d) := keep_cell hb3 (by simp [go_sem, *]); have r1_1 : w3.frozen? ⟨w.heap.size + 1, 1, none⟩ = false := keep_frozen hb3 (by first | omega | (simp <;> omega)) (by simp [go_sem, *]); have p1 : w.heap.size + 1 < w3.heap.size := cell?_lt q1_0; have q2_0 : w3.cell? ⟨w.heap.size + 1 + 1, 0, none⟩ = some (.int .i64 0) := keep_cell hb3 (by simp [go_sem, *]); have r2_0 : w3.frozen? ⟨w.heap.size + 1 + 1, 0, none⟩ = false := keep_frozen hb3 (by first | omega | (simp <;> omega)) (by simp [go_sem, *]); have q2_1 : w3.cell? ⟨w.heap.size + 1 + 1, 1, none⟩ = some (.int .i64 0) := keep_cell hb3 (by simp [go_sem, *]); have r2_1 : w3.frozen? ⟨w.heap.size + 1 + 1, 1, none⟩ = false := keep_frozen hb3 (by first | omega | (simp <;> omega)) (by simp [go_sem, *]); have p2 : w.heap.size + 1 + 1 < w3.heap.size := cell?_lt q2_0
        have g3 : Below w.heap.size w w3 := by (repeat (first | (with_reducible exact Below.refl _ _) | (with_reducible assumption) | (with_reducible refine Below.drew ?_) | (with_reducible refine Below.allocS ?_ _) | (with_reducible refine Below.setCell ?_ ?_ _) | (with_reducible refine Below.step ?_ (by assumption)) | (with_reducible refine Below.drewN' ?_ _))); (try any_goals (first | (with_reducible assumption) | (simp; done) | (simp; omega) | omega))
        clear hb3
        go_wp2
        refine bodyPost_ret (v := .tuple #[.agg #[.int .i64 (min a c), .int .i64 (max b d)], .int .i64 0]) (by simp [results, Tryd.results26, go_sem, *] <;> (repeat' apply And.intro) <;> (first | rfl | omega)) rfl ⟨rfl, ?_⟩
        (repeat (first | (with_reducible exact Below.refl _ _) | (with_reducible assumption) | (with_reducible refine Below.drew ?_) | (with_reducible refine Below.allocS ?_ _) | (with_reducible refine Below.setCell ?_ ?_ _) | (with_reducible refine Below.step ?_ (by assumption)) | (with_reducible refine Below.drewN' ?_ _))); (try any_goals (first | (with_reducible assumption) | (simp; done) | (simp; omega) | omega))
end Go.Proofs.YtjkcgbidceakjaaDoor
