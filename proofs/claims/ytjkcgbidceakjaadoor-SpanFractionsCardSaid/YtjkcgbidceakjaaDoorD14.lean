/-
  Contract of Compare of span.
-/
import Derived.Test.YtjkcgbidceakjaaDoorD13
namespace Go.Proofs.YtjkcgbidceakjaaDoor
open Go.RowKit
set_option linter.unusedVariables false
set_option linter.unusedSimpArgs false
theorem isNaN_c (x : Int) (w : World) : Calls Tryd.prog 87 #[.int .i64 x] w fun e w' => e = .returned (.bool false) ∧ w' = w := by
  go_enter Tryd.func87, Tryd.ntmps87
  go_wp2
  go_ret
  exact ⟨(by first | rfl | (simp; done) | (simp; omega) | (simp [*]; done)), rfl⟩
theorem cmp_c (x y : Int) (w : World) : Calls Tryd.prog 80 #[.int .i64 x, .int .i64 y] w fun e w' => e = .returned (.int .i64 (sgn x y)) ∧ w' = w := by
  have H1 := Lib.hid (fun W => isNaN_c x W)
  have H2 := Lib.hid (fun W => isNaN_c y W)
  unfold sgn
  rcases Int.lt_trichotomy x y with hlt | hlt | hlt
  · rw [if_pos hlt]
    go_enter Tryd.func80, Tryd.ntmps80
    go_wp2_with fail
    refine (H1.out _).mono ?_
    rintro e w' ⟨rfl, rfl⟩
    go_wp2_with fail
    refine (H2.out _).mono ?_
    rintro e w' ⟨rfl, rfl⟩
    go_wp2
    go_ret
    exact ⟨(by first | rfl | (simp; done) | (simp; omega) | (simp [*]; done)), rfl⟩
  · subst hlt
    rw [if_neg (by omega)]
    go_enter Tryd.func80, Tryd.ntmps80
    go_wp2_with fail
    refine (H1.out _).mono ?_
    rintro e w' ⟨rfl, rfl⟩
    go_wp2_with fail
    refine (H2.out _).mono ?_
    rintro e w' ⟨rfl, rfl⟩
    go_wp2
    go_ret
    exact ⟨(by first | rfl | (simp; done) | (simp; omega) | (simp [*]; done)), rfl⟩
  · rw [if_neg (by omega), if_pos hlt]
    go_enter Tryd.func80, Tryd.ntmps80
    go_wp2_with fail
    refine (H1.out _).mono ?_
    rintro e w' ⟨rfl, rfl⟩
    go_wp2_with fail
    refine (H2.out _).mono ?_
    rintro e w' ⟨rfl, rfl⟩
    go_wp2
    go_ret
    exact ⟨(by first | rfl | (simp; done) | (simp; omega) | (simp [*]; done)), rfl⟩
theorem Compare_c (a b c d : Int) (w : World) : Calls Tryd.prog 54 #[.agg #[.int .i64 a, .int .i64 b], .agg #[.int .i64 c, .int .i64 d]] w fun e w' => e = .returned (.int .i64 (cmpR a b c d)) ∧ Below w.heap.size w w' := by
  unfold cmpR
  have H1 := Lib.hid (fun W => ValidRatio_c a b W)
  have H2 := Lib.hid (fun W => ValidRatio_c c d W)
  cases h : okRat a b
  · rw [h] at H1
    clear h
    go_enter Tryd.func54, Tryd.ntmps54
    go_wp2_with fail
    refine (H1.out _).mono ?_
    rintro e w1 ⟨rfl, hb1⟩
    have x1_0_0 : w1.cell? ⟨w.heap.size, 0, none⟩ = some (.int .i64 a) := keep_cell hb1 (by simp [go_sem, *])
    have f1_0_0 : w1.frozen? ⟨w.heap.size, 0, none⟩ = false := keep_frozen hb1 (by first | omega | (simp <;> omega)) (by simp [go_sem, *])
    have x1_0_1 : w1.cell? ⟨w.heap.size, 1, none⟩ = some (.int .i64 b) := keep_cell hb1 (by simp [go_sem, *])
    have f1_0_1 : w1.frozen? ⟨w.heap.size, 1, none⟩ = false := keep_frozen hb1 (by first | omega | (simp <;> omega)) (by simp [go_sem, *])
    have y1_0 : w.heap.size < w1.heap.size := cell?_lt x1_0_0
    have x1_1_0 : w1.cell? ⟨w.heap.size + 1, 0, none⟩ = some (.int .i64 c) := keep_cell hb1 (by simp [go_sem, *])
    have f1_1_0 : w1.frozen? ⟨w.heap.size + 1, 0, none⟩ = false := keep_frozen hb1 (by first | omega | (simp <;> omega)) (by simp [go_sem, *])
    have x1_1_1 : w1.cell? ⟨w.heap.size + 1, 1, none⟩ = some (.int .i64 d) := keep_cell hb1 (by simp [go_sem, *])
    have f1_1_1 : w1.frozen? ⟨w.heap.size + 1, 1, none⟩ = false := keep_frozen hb1 (by first | omega | (simp <;> omega)) (by simp [go_sem, *])
    have y1_1 : w.heap.size + 1 < w1.heap.size := cell?_lt x1_1_0
    have g1 : Below w.heap.size w w1 := by (repeat (first | exact Below.refl _ _ | refine Below.drew ?_ | refine Below.allocS ?_ _ | refine Below.step ?_ (by assumption) | refine Below.setCell ?_ (by simp <;> omega) _ | refine Below.drewN' ?_ _))
    clear hb1
    go_wp2
    go_ret
    exact ⟨(by first | rfl | (simp; done) | (simp; omega) | (simp [*]; done)), by (repeat (first | (with_reducible exact Below.refl _ _) | (with_reducible assumption) | (with_reducible refine Below.drew ?_) | (with_reducible refine Below.allocS ?_ _) | (with_reducible refine Below.setCell ?_ ?_ _) | (with_reducible refine Below.step ?_ (by assumption)) | (with_reducible refine Below.drewN' ?_ _))); (try any_goals (first | (with_reducible assumption) | (simp; done) | (simp; omega) | omega))⟩
  · cases h' : okRat c d
    · rw [h] at H1
      rw [h'] at H2
      clear h h'
      go_enter Tryd.func54, Tryd.ntmps54
      go_wp2_with fail
      refine (H1.out _).mono ?_
      rintro e w1 ⟨rfl, hb1⟩
      have x1_0_0 : w1.cell? ⟨w.heap.size, 0, none⟩ = some (.int .i64 a) := keep_cell hb1 (by simp [go_sem, *])
      have f1_0_0 : w1.frozen? ⟨w.heap.size, 0, none⟩ = false := keep_frozen hb1 (by first | omega | (simp <;> omega)) (by simp [go_sem, *])
      have x1_0_1 : w1.cell? ⟨w.heap.size, 1, none⟩ = some (.int .i64 b) := keep_cell hb1 (by simp [go_sem, *])
      have f1_0_1 : w1.frozen? ⟨w.heap.size, 1, none⟩ = false := keep_frozen hb1 (by first | omega | (simp <;> omega)) (by simp [go_sem, *])
      have y1_0 : w.heap.size < w1.heap.size := cell?_lt x1_0_0
      have x1_1_0 : w1.cell? ⟨w.heap.size + 1, 0, none⟩ = some (.int .i64 c) := keep_cell hb1 (by simp [go_sem, *])
      have f1_1_0 : w1.frozen? ⟨w.heap.size + 1, 0, none⟩ = false := keep_frozen hb1 (by first | omega | (simp <;> omega)) (by simp [go_sem, *])
      have x1_1_1 : w1.cell? ⟨w.heap.size + 1, 1, none⟩ = some (.int .i64 d) := keep_cell hb1 (by simp [go_sem, *])
      have f1_1_1 : w1.frozen? ⟨w.heap.size + 1, 1, none⟩ = false := keep_frozen hb1 (by first | omega | (simp <;> omega)) (by simp [go_sem, *])
      have y1_1 : w.heap.size + 1 < w1.heap.size := cell?_lt x1_1_0
      have g1 : Below w.heap.size w w1 := by (repeat (first | exact Below.refl _ _ | refine Below.drew ?_ | refine Below.allocS ?_ _ | refine Below.step ?_ (by assumption) | refine Below.setCell ?_ (by simp <;> omega) _ | refine Below.drewN' ?_ _))
      clear hb1
      go_wp2_with fail
      refine (H2.out _).mono ?_
      rintro e w2 ⟨rfl, hb2⟩
      have x2_0_0 : w2.cell? ⟨w.heap.size, 0, none⟩ = some (.int .i64 a) := keep_cell hb2 (by simp [go_sem, *])
      have f2_0_0 : w2.frozen? ⟨w.heap.size, 0, none⟩ = false := keep_frozen hb2 (by first | omega | (simp <;> omega)) (by simp [go_sem, *])
      have x2_0_1 : w2.cell? ⟨w.heap.size, 1, none⟩ = some (.int .i64 b) := keep_cell hb2 (by simp [go_sem, *])
      have f2_0_1 : w2.frozen? ⟨w.heap.size, 1, none⟩ = false := keep_frozen hb2 (by first | omega | (simp <;> omega)) (by simp [go_sem, *])
      have y2_0 : w.heap.size < w2.heap.size := cell?_lt x2_0_0
      have x2_1_0 : w2.cell? ⟨w.heap.size + 1, 0, none⟩ = some (.int .i64 c) := keep_cell hb2 (by simp [go_sem, *])
      have f2_1_0 : w2.frozen? ⟨w.heap.size + 1, 0, none⟩ = false := keep_frozen hb2 (by first | omega | (simp <;> omega)) (by simp [go_sem, *])
      have x2_1_1 : w2.cell? ⟨w.heap.size + 1, 1, none⟩ = some (.int .i64 d) := keep_cell hb2 (by simp [go_sem, *])
      have f2_1_1 : w2.frozen? ⟨w.heap.size + 1, 1, none⟩ = false := keep_frozen hb2 (by first | omega | (simp <;> omega)) (by simp [go_sem, *])
      have y2_1 : w.heap.size + 1 < w2.heap.size := cell?_lt x2_1_0
      have g2 : Below w.heap.size w w2 := by (repeat (first | exact Below.refl _ _ | refine Below.drew ?_ | refine Below.allocS ?_ _ | refine Below.step ?_ (by assumption) | refine Below.setCell ?_ (by simp <;> omega) _ | refine Below.drewN' ?_ _))
      clear hb2 g1 x1_0_0 f1_0_0 x1_0_1 f1_0_1 x1_1_0 f1_1_0 x1_1_1 f1_1_1 y1_0 y1_1
      go_wp2
      go_ret
      exact ⟨(by first | rfl | (simp; done) | (simp; omega) | (simp [*]; done)), by (repeat (first | (with_reducible exact Below.refl _ _) | (with_reducible assumption) | (with_reducible refine Below.drew ?_) | (with_reducible refine Below.allocS ?_ _) | (with_reducible refine Below.setCell ?_ ?_ _) | (with_reducible refine Below.step ?_ (by assumption)) | (with_reducible refine Below.drewN' ?_ _))); (try any_goals (first | (with_reducible assumption) | (simp; done) | (simp; omega) | omega))⟩
    · obtain ⟨x0, x1⟩ := cross_bd h h'
      obtain ⟨y0, y1⟩ := cross_bd h' h
      rw [h] at H1
      rw [h'] at H2
      clear h h'
      have m1 : IntKind.i64.wrap (a * d) = a * d := IntWalk.i64_in _ (by omega)
      have m2 : IntKind.i64.wrap (c * b) = c * b := IntWalk.i64_in _ (by omega)
      have HC := Lib.hid (fun W => cmp_c (a * d) (c * b) W)
      obtain ⟨s, hs⟩ : ∃ s, sgn (a * d) (c * b) = s := ⟨_, rfl⟩
      rw [hs] at HC
      simp only [Bool.and_self, if_true, hs]
      clear hs
      go_enter Tryd.func54, Tryd.ntmps54
      go_wp2_with fail
      refine (H1.out _).mono ?_
      rintro e w1 ⟨rfl, hb1⟩
      have x1_0_0 : w1.cell? ⟨w.heap.size, 0, none⟩ = some (.int .i64 a) := keep_cell hb1 (by simp [go_sem, *])
      have f1_0_0 : w1.frozen? ⟨w.heap.size, 0, none⟩ = false := keep_frozen hb1 (by first | omega | (simp <;> omega)) (by simp [go_sem, *])
      have x1_0_1 : w1.cell? ⟨w.heap.size, 1, none⟩ = some (.int .i64 b) := keep_cell hb1 (by simp [go_sem, *])
      have f1_0_1 : w1.frozen? ⟨w.heap.size, 1, none⟩ = false := keep_frozen hb1 (by first | omega | (simp <;> omega)) (by simp [go_sem, *])
      have y1_0 : w.heap.size < w1.heap.size := cell?_lt x1_0_0
      have x1_1_0 : w1.cell? ⟨w.heap.size + 1, 0, none⟩ = some (.int .i64 c) := keep_cell hb1 (by simp [go_sem, *])
      have f1_1_0 : w1.frozen? ⟨w.heap.size + 1, 0, none⟩ = false := keep_frozen hb1 (by first | omega | (simp <;> omega)) (by simp [go_sem, *])
      have x1_1_1 : w1.cell? ⟨w.heap.size + 1, 1, none⟩ = some (.int .i64 d) := keep_cell hb1 (by simp [go_sem, *])
      have f1_1_1 : w1.frozen? ⟨w.heap.size + 1, 1, none⟩ = false := keep_frozen hb1 (by first | omega | (simp <;> omega)) (by simp [go_sem, *])
      have y1_1 : w.heap.size + 1 < w1.heap.size := cell?_lt x1_1_0
      have g1 : Below w.heap.size w w1 := by (repeat (first | exact Below.refl _ _ | refine Below.drew ?_ | refine Below.allocS ?_ _ | refine Below.step ?_ (by assumption) | refine Below.setCell ?_ (by simp <;> omega) _ | refine Below.drewN' ?_ _))
      clear hb1
      go_wp2_with fail
      refine (H2.out _).mono ?_
      rintro e w2 ⟨rfl, hb2⟩
      have x2_0_0 : w2.cell? ⟨w.heap.size, 0, none⟩ = some (.int .i64 a) := keep_cell hb2 (by simp [go_sem, *])
      have f2_0_0 : w2.frozen? ⟨w.heap.size, 0, none⟩ = false := keep_frozen hb2 (by first | omega | (simp <;> omega)) (by simp [go_sem, *])
      have x2_0_1 : w2.cell? ⟨w.heap.size, 1, none⟩ = some (.int .i64 b) := keep_cell hb2 (by simp [go_sem, *])
      have f2_0_1 : w2.frozen? ⟨w.heap.size, 1, none⟩ = false := keep_frozen hb2 (by first | omega | (simp <;> omega)) (by simp [go_sem, *])
      have y2_0 : w.heap.size < w2.heap.size := cell?_lt x2_0_0
      have x2_1_0 : w2.cell? ⟨w.heap.size + 1, 0, none⟩ = some (.int .i64 c) := keep_cell hb2 (by simp [go_sem, *])
      have f2_1_0 : w2.frozen? ⟨w.heap.size + 1, 0, none⟩ = false := keep_frozen hb2 (by first | omega | (simp <;> omega)) (by simp [go_sem, *])
      have x2_1_1 : w2.cell? ⟨w.heap.size + 1, 1, none⟩ = some (.int .i64 d) := keep_cell hb2 (by simp [go_sem, *])
      have f2_1_1 : w2.frozen? ⟨w.heap.size + 1, 1, none⟩ = false := keep_frozen hb2 (by first | omega | (simp <;> omega)) (by simp [go_sem, *])
      have y2_1 : w.heap.size + 1 < w2.heap.size := cell?_lt x2_1_0
      have g2 : Below w.heap.size w w2 := by (repeat (first | exact Below.refl _ _ | refine Below.drew ?_ | refine Below.allocS ?_ _ | refine Below.step ?_ (by assumption) | refine Below.setCell ?_ (by simp <;> omega) _ | refine Below.drewN' ?_ _))
      clear hb2 g1 x1_0_0 f1_0_0 x1_0_1 f1_0_1 x1_1_0 f1_1_0 x1_1_1 f1_1_1 y1_0 y1_1
      go_wp2_with fail
      refine (HC.out _).mono ?_
      rintro e w' ⟨rfl, rfl⟩
      go_wp2
      go_ret
      exact ⟨(by first | rfl | (simp; done) | (simp; omega) | (simp [*]; done)), by (repeat (first | (with_reducible exact Below.refl _ _) | (with_reducible assumption) | (with_reducible refine Below.drew ?_) | (with_reducible refine Below.allocS ?_ _) | (with_reducible refine Below.setCell ?_ ?_ _) | (with_reducible refine Below.step ?_ (by assumption)) | (with_reducible refine Below.drewN' ?_ _))); (try any_goals (first | (with_reducible assumption) | (simp; done) | (simp; omega) | omega))⟩
end Go.Proofs.YtjkcgbidceakjaaDoor
