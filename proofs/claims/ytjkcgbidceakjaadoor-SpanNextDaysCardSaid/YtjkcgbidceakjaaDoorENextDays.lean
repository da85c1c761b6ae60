/-
  The walk of the law SpanNextDays: the date of a day's date is the day, the next day has the next date, weekdays go round by seven. No conditions.
-/
import Derived.Test.YtjkcgbidceakjaaDoorD24
import Derived.Test.YtjkcgbidceakjaaDoorD22
import Derived.Laws.StructEq
namespace Go.Proofs.YtjkcgbidceakjaaDoor
open Go.RowKit
set_option linter.unusedVariables false
set_option linter.unusedSimpArgs false
set_option maxHeartbeats 2000000 in
set_option maxRecDepth 100000 in
theorem SpanNextDays_walk (day : Int) (w0 : I64 day) (w : World) : Calls Tryd.prog 8 #[.int .i64 day] w fun e w' => e = .returned (.bool true) ∧ Below w.heap.size w w' := by
  have H1 := Lib.hid (fun W => DateOf_c day W)
  clear w0
  unfold dateR dtV at H1
  cases hd : dayB day
  · rw [hd] at H1
    clear hd
    simp only [Bool.false_eq_true, if_false] at H1
    go_enter Tryd.func8, Tryd.ntmps8
    go_wp2_with fail
    refine (H1.out _).mono ?_
    rintro e w1 ⟨rfl, hb1⟩
    have g1 : Below w.heap.size w w1 := by (repeat (first | exact Below.refl _ _ | refine Below.drew ?_ | refine Below.allocS ?_ _ | refine Below.step ?_ (by assumption) | refine Below.setCell ?_ (by simp <;> omega) _ | refine Below.drewN' ?_ _))
    clear hb1
    go_wp2_with fail
    refine (awake_c _).mono ?_
    rintro e w2 ⟨rfl, hb2⟩
    have x2_0_0 : w2.cell? ⟨w1.heap.size, 0, none⟩ = some (.int .i64 0) := keep_cell hb2 (by simp [go_sem, *])
    have x2_0_1 : w2.cell? ⟨w1.heap.size, 1, none⟩ = some (.int .i64 0) := keep_cell hb2 (by simp [go_sem, *])
    have x2_0_2 : w2.cell? ⟨w1.heap.size, 2, none⟩ = some (.int .i64 0) := keep_cell hb2 (by simp [go_sem, *])
    have y2_0 : w1.heap.size < w2.heap.size := cell?_lt x2_0_0
    have g2 : Below w.heap.size w w2 := by (repeat (first | exact Below.refl _ _ | refine Below.drew ?_ | refine Below.allocS ?_ _ | refine Below.step ?_ (by assumption) | refine Below.setCell ?_ (by simp <;> omega) _ | refine Below.drewN' ?_ _))
    clear hb2 g1 
    go_wp2
    go_ret
    exact ⟨(by first | rfl | (simp; done) | (simp; omega) | (simp [*]; done)), by (repeat (first | (with_reducible exact Below.refl _ _) | (with_reducible assumption) | (with_reducible refine Below.drew ?_) | (with_reducible refine Below.allocS ?_ _) | (with_reducible refine Below.setCell ?_ ?_ _) | (with_reducible refine Below.step ?_ (by assumption)) | (with_reducible refine Below.drewN' ?_ _))); (try any_goals (first | (with_reducible assumption) | (simp; done) | (simp; omega) | omega))⟩
  · rw [hd] at H1
    obtain ⟨h0, h1⟩ : 0 ≤ day ∧ day ≤ 182985 := by simpa [dayB] using hd
    simp only [if_true] at H1
    have hok := dateOf_ok h0 h1
    have hlast : day = 182985 → dateOf day = (2200, 12, 31) := fun h => dateOf_eq (by decide) (by rw [h]; decide)
    obtain ⟨⟨Y, M, D⟩, hq⟩ : ∃ q, dateOf day = q := ⟨_, rfl⟩
    rw [hq] at hok hlast H1
    simp only at hok H1
    obtain ⟨ho, hn⟩ := hok
    have H2 := Lib.hid (fun W => DayOf_c Y M D W)
    have hdr : dayR Y M D = (day, 0) := by unfold dayR; rw [ho, hn]; rfl
    rw [hdr] at H2
    simp only at H2
    obtain ⟨y0, y1, m0, m1, d0, d1⟩ := okDate_true ho
    have hml := mlen_bd Y M
    clear hdr hq
    by_cases hl : day = 182985
    · have h := hlast hl
      simp only [Prod.mk.injEq] at h
      obtain ⟨rfl, rfl, rfl⟩ := h
      have hl2 : (day == 182985) = true := by simpa using hl
      clear hlast hl ho hn hd
      go_enter Tryd.func8, Tryd.ntmps8
      go_wp2_with fail
      refine (H1.out _).mono ?_
      rintro e w1 ⟨rfl, hb1⟩
      have g1 : Below w.heap.size w w1 := by (repeat (first | exact Below.refl _ _ | refine Below.drew ?_ | refine Below.allocS ?_ _ | refine Below.step ?_ (by assumption) | refine Below.setCell ?_ (by simp <;> omega) _ | refine Below.drewN' ?_ _))
      clear hb1
      go_wp2_with fail
      refine (H2.out _).mono ?_
      rintro e w2 ⟨rfl, hb2⟩
      have x2_0_0 : w2.cell? ⟨w1.heap.size, 0, none⟩ = some (.int .i64 2200) := keep_cell hb2 (by simp [go_sem, *])
      have x2_0_1 : w2.cell? ⟨w1.heap.size, 1, none⟩ = some (.int .i64 12) := keep_cell hb2 (by simp [go_sem, *])
      have x2_0_2 : w2.cell? ⟨w1.heap.size, 2, none⟩ = some (.int .i64 31) := keep_cell hb2 (by simp [go_sem, *])
      have y2_0 : w1.heap.size < w2.heap.size := cell?_lt x2_0_0
      have g2 : Below w.heap.size w w2 := by (repeat (first | exact Below.refl _ _ | refine Below.drew ?_ | refine Below.allocS ?_ _ | refine Below.step ?_ (by assumption) | refine Below.setCell ?_ (by simp <;> omega) _ | refine Below.drewN' ?_ _))
      clear hb2 g1 
      go_wp2_with fail
      refine (awake_c _).mono ?_
      rintro e w3 ⟨rfl, hb3⟩
      have x3_0_0 : w3.cell? ⟨w1.heap.size, 0, none⟩ = some (.int .i64 2200) := keep_cell hb3 (by simp [go_sem, *])
      have x3_0_1 : w3.cell? ⟨w1.heap.size, 1, none⟩ = some (.int .i64 12) := keep_cell hb3 (by simp [go_sem, *])
      have x3_0_2 : w3.cell? ⟨w1.heap.size, 2, none⟩ = some (.int .i64 31) := keep_cell hb3 (by simp [go_sem, *])
      have y3_0 : w1.heap.size < w3.heap.size := cell?_lt x3_0_0
      have g3 : Below w.heap.size w w3 := by (repeat (first | exact Below.refl _ _ | refine Below.drew ?_ | refine Below.allocS ?_ _ | refine Below.step ?_ (by assumption) | refine Below.setCell ?_ (by simp <;> omega) _ | refine Below.drewN' ?_ _))
      clear hb3 g2 x2_0_0 x2_0_1 x2_0_2 y2_0
      go_wp2
      go_ret
      exact ⟨(by first | rfl | (simp; done) | (simp; omega) | (simp [*]; done)), by (repeat (first | (with_reducible exact Below.refl _ _) | (with_reducible assumption) | (with_reducible refine Below.drew ?_) | (with_reducible refine Below.allocS ?_ _) | (with_reducible refine Below.setCell ?_ ?_ _) | (with_reducible refine Below.step ?_ (by assumption)) | (with_reducible refine Below.drewN' ?_ _))); (try any_goals (first | (with_reducible assumption) | (simp; done) | (simp; omega) | omega))⟩
    · have hl2 : (day == 182985) = false := by simpa using hl
      have hnx := next_date ho (by omega)
      rw [hn] at hnx
      have H3 := Lib.hid (fun W => DateOf_c (day + 1) W)
      unfold dateR dtV at H3
      rw [show dayB (day + 1) = true from by simp [dayB]; omega] at H3
      simp only [if_true] at H3
      have H4 := Lib.hid (fun W => Weekday_c day W)
      have H5 := Lib.hid (fun W => Weekday_c (day + 1) W)
      unfold wdayR at H4 H5
      rw [hd] at H4
      rw [show dayB (day + 1) = true from by simp [dayB]; omega] at H5
      simp only [if_true] at H4 H5
      obtain ⟨a, ha⟩ : ∃ a, (day + 4) % 7 = a := ⟨_, rfl⟩
      rw [show (day + 1 + 4) % 7 = (a + 1) % 7 by omega] at H5
      have a0 : 0 ≤ a := by omega
      have a1 : a ≤ 6 := by omega
      rw [ha] at H4
      clear ha hlast hd hl ho hn
      rcases hnx with ⟨g, hx⟩ | ⟨g, g', hx⟩ | ⟨g, g', hx⟩
      · rw [hx] at H3
        simp only at H3
        have t0 : (1 : Int) < D + 1 := by omega
        clear hx
        go_enter Tryd.func8, Tryd.ntmps8
        go_wp2_with fail
        refine (H1.out _).mono ?_
        rintro e w1 ⟨rfl, hb1⟩
        have g1 : Below w.heap.size w w1 := by (repeat (first | exact Below.refl _ _ | refine Below.drew ?_ | refine Below.allocS ?_ _ | refine Below.step ?_ (by assumption) | refine Below.setCell ?_ (by simp <;> omega) _ | refine Below.drewN' ?_ _))
        clear hb1
        go_wp2_with fail
        refine (H2.out _).mono ?_
        rintro e w2 ⟨rfl, hb2⟩
        have x2_0_0 : w2.cell? ⟨w1.heap.size, 0, none⟩ = some (.int .i64 Y) := keep_cell hb2 (by simp [go_sem, *])
        have x2_0_1 : w2.cell? ⟨w1.heap.size, 1, none⟩ = some (.int .i64 M) := keep_cell hb2 (by simp [go_sem, *])
        have x2_0_2 : w2.cell? ⟨w1.heap.size, 2, none⟩ = some (.int .i64 D) := keep_cell hb2 (by simp [go_sem, *])
        have y2_0 : w1.heap.size < w2.heap.size := cell?_lt x2_0_0
        have g2 : Below w.heap.size w w2 := by (repeat (first | exact Below.refl _ _ | refine Below.drew ?_ | refine Below.allocS ?_ _ | refine Below.step ?_ (by assumption) | refine Below.setCell ?_ (by simp <;> omega) _ | refine Below.drewN' ?_ _))
        clear hb2 g1 
        go_wp2_with fail
        refine (H3.out _).mono ?_
        rintro e w3 ⟨rfl, hb3⟩
        have x3_0_0 : w3.cell? ⟨w1.heap.size, 0, none⟩ = some (.int .i64 Y) := keep_cell hb3 (by simp [go_sem, *])
        have x3_0_1 : w3.cell? ⟨w1.heap.size, 1, none⟩ = some (.int .i64 M) := keep_cell hb3 (by simp [go_sem, *])
        have x3_0_2 : w3.cell? ⟨w1.heap.size, 2, none⟩ = some (.int .i64 D) := keep_cell hb3 (by simp [go_sem, *])
        have y3_0 : w1.heap.size < w3.heap.size := cell?_lt x3_0_0
        have g3 : Below w.heap.size w w3 := by (repeat (first | exact Below.refl _ _ | refine Below.drew ?_ | refine Below.allocS ?_ _ | refine Below.step ?_ (by assumption) | refine Below.setCell ?_ (by simp <;> omega) _ | refine Below.drewN' ?_ _))
        clear hb3 g2 x2_0_0 x2_0_1 x2_0_2 y2_0
        go_wp2_with fail
        refine (H4.out _).mono ?_
        rintro e w' ⟨rfl, rfl⟩
        go_wp2_with fail
        refine (H5.out _).mono ?_
        rintro e w' ⟨rfl, rfl⟩
        go_wp2_with fail
        refine (awake_c _).mono ?_
        rintro e w6 ⟨rfl, hb6⟩
        have x6_0_0 : w6.cell? ⟨w1.heap.size, 0, none⟩ = some (.int .i64 Y) := keep_cell hb6 (by simp [go_sem, *])
        have x6_0_1 : w6.cell? ⟨w1.heap.size, 1, none⟩ = some (.int .i64 M) := keep_cell hb6 (by simp [go_sem, *])
        have x6_0_2 : w6.cell? ⟨w1.heap.size, 2, none⟩ = some (.int .i64 D) := keep_cell hb6 (by simp [go_sem, *])
        have y6_0 : w1.heap.size < w6.heap.size := cell?_lt x6_0_0
        have x6_1_0 : w6.cell? ⟨w3.heap.size, 0, none⟩ = some (.int .i64 Y) := keep_cell hb6 (by simp [go_sem, *])
        have x6_1_1 : w6.cell? ⟨w3.heap.size, 1, none⟩ = some (.int .i64 M) := keep_cell hb6 (by simp [go_sem, *])
        have x6_1_2 : w6.cell? ⟨w3.heap.size, 2, none⟩ = some (.int .i64 (D + 1)) := keep_cell hb6 (by simp [go_sem, *])
        have y6_1 : w3.heap.size < w6.heap.size := cell?_lt x6_1_0
        have g6 : Below w.heap.size w w6 := by (repeat (first | exact Below.refl _ _ | refine Below.drew ?_ | refine Below.allocS ?_ _ | refine Below.step ?_ (by assumption) | refine Below.setCell ?_ (by simp <;> omega) _ | refine Below.drewN' ?_ _))
        clear hb6 g3 x3_0_0 x3_0_1 x3_0_2 y3_0
        go_wp2
        go_ret
        exact ⟨(by first | rfl | (simp; done) | (simp; omega) | (simp [*]; done)), by (repeat (first | (with_reducible exact Below.refl _ _) | (with_reducible assumption) | (with_reducible refine Below.drew ?_) | (with_reducible refine Below.allocS ?_ _) | (with_reducible refine Below.setCell ?_ ?_ _) | (with_reducible refine Below.step ?_ (by assumption)) | (with_reducible refine Below.drewN' ?_ _))); (try any_goals (first | (with_reducible assumption) | (simp; done) | (simp; omega) | omega))⟩
      · rw [hx] at H3
        simp only at H3
        have t0 : (1 : Int) < M + 1 := by omega
        have t1 : (28 : Int) ≤ D := by omega
        clear hx g
        go_enter Tryd.func8, Tryd.ntmps8
        go_wp2_with fail
        refine (H1.out _).mono ?_
        rintro e w1 ⟨rfl, hb1⟩
        have g1 : Below w.heap.size w w1 := by (repeat (first | exact Below.refl _ _ | refine Below.drew ?_ | refine Below.allocS ?_ _ | refine Below.step ?_ (by assumption) | refine Below.setCell ?_ (by simp <;> omega) _ | refine Below.drewN' ?_ _))
        clear hb1
        go_wp2_with fail
        refine (H2.out _).mono ?_
        rintro e w2 ⟨rfl, hb2⟩
        have x2_0_0 : w2.cell? ⟨w1.heap.size, 0, none⟩ = some (.int .i64 Y) := keep_cell hb2 (by simp [go_sem, *])
        have x2_0_1 : w2.cell? ⟨w1.heap.size, 1, none⟩ = some (.int .i64 M) := keep_cell hb2 (by simp [go_sem, *])
        have x2_0_2 : w2.cell? ⟨w1.heap.size, 2, none⟩ = some (.int .i64 D) := keep_cell hb2 (by simp [go_sem, *])
        have y2_0 : w1.heap.size < w2.heap.size := cell?_lt x2_0_0
        have g2 : Below w.heap.size w w2 := by (repeat (first | exact Below.refl _ _ | refine Below.drew ?_ | refine Below.allocS ?_ _ | refine Below.step ?_ (by assumption) | refine Below.setCell ?_ (by simp <;> omega) _ | refine Below.drewN' ?_ _))
        clear hb2 g1 
        go_wp2_with fail
        refine (H3.out _).mono ?_
        rintro e w3 ⟨rfl, hb3⟩
        have x3_0_0 : w3.cell? ⟨w1.heap.size, 0, none⟩ = some (.int .i64 Y) := keep_cell hb3 (by simp [go_sem, *])
        have x3_0_1 : w3.cell? ⟨w1.heap.size, 1, none⟩ = some (.int .i64 M) := keep_cell hb3 (by simp [go_sem, *])
        have x3_0_2 : w3.cell? ⟨w1.heap.size, 2, none⟩ = some (.int .i64 D) := keep_cell hb3 (by simp [go_sem, *])
        have y3_0 : w1.heap.size < w3.heap.size := cell?_lt x3_0_0
        have g3 : Below w.heap.size w w3 := by (repeat (first | exact Below.refl _ _ | refine Below.drew ?_ | refine Below.allocS ?_ _ | refine Below.step ?_ (by assumption) | refine Below.setCell ?_ (by simp <;> omega) _ | refine Below.drewN' ?_ _))
        clear hb3 g2 x2_0_0 x2_0_1 x2_0_2 y2_0
        go_wp2_with fail
        refine (H4.out _).mono ?_
        rintro e w' ⟨rfl, rfl⟩
        go_wp2_with fail
        refine (H5.out _).mono ?_
        rintro e w' ⟨rfl, rfl⟩
        go_wp2_with fail
        refine (awake_c _).mono ?_
        rintro e w6 ⟨rfl, hb6⟩
        have x6_0_0 : w6.cell? ⟨w1.heap.size, 0, none⟩ = some (.int .i64 Y) := keep_cell hb6 (by simp [go_sem, *])
        have x6_0_1 : w6.cell? ⟨w1.heap.size, 1, none⟩ = some (.int .i64 M) := keep_cell hb6 (by simp [go_sem, *])
        have x6_0_2 : w6.cell? ⟨w1.heap.size, 2, none⟩ = some (.int .i64 D) := keep_cell hb6 (by simp [go_sem, *])
        have y6_0 : w1.heap.size < w6.heap.size := cell?_lt x6_0_0
        have x6_1_0 : w6.cell? ⟨w3.heap.size, 0, none⟩ = some (.int .i64 Y) := keep_cell hb6 (by simp [go_sem, *])
        have x6_1_1 : w6.cell? ⟨w3.heap.size, 1, none⟩ = some (.int .i64 (M + 1)) := keep_cell hb6 (by simp [go_sem, *])
        have x6_1_2 : w6.cell? ⟨w3.heap.size, 2, none⟩ = some (.int .i64 1) := keep_cell hb6 (by simp [go_sem, *])
        have y6_1 : w3.heap.size < w6.heap.size := cell?_lt x6_1_0
        have g6 : Below w.heap.size w w6 := by (repeat (first | exact Below.refl _ _ | refine Below.drew ?_ | refine Below.allocS ?_ _ | refine Below.step ?_ (by assumption) | refine Below.setCell ?_ (by simp <;> omega) _ | refine Below.drewN' ?_ _))
        clear hb6 g3 x3_0_0 x3_0_1 x3_0_2 y3_0
        go_wp2
        go_ret
        exact ⟨(by first | rfl | (simp; done) | (simp; omega) | (simp [*]; done)), by (repeat (first | (with_reducible exact Below.refl _ _) | (with_reducible assumption) | (with_reducible refine Below.drew ?_) | (with_reducible refine Below.allocS ?_ _) | (with_reducible refine Below.setCell ?_ ?_ _) | (with_reducible refine Below.step ?_ (by assumption)) | (with_reducible refine Below.drewN' ?_ _))); (try any_goals (first | (with_reducible assumption) | (simp; done) | (simp; omega) | omega))⟩
      · rw [hx] at H3
        simp only at H3
        subst g g'
        clear hx
        go_enter Tryd.func8, Tryd.ntmps8
        go_wp2_with fail
        refine (H1.out _).mono ?_
        rintro e w1 ⟨rfl, hb1⟩
        have g1 : Below w.heap.size w w1 := by (repeat (first | exact Below.refl _ _ | refine Below.drew ?_ | refine Below.allocS ?_ _ | refine Below.step ?_ (by assumption) | refine Below.setCell ?_ (by simp <;> omega) _ | refine Below.drewN' ?_ _))
        clear hb1
        go_wp2_with fail
        refine (H2.out _).mono ?_
        rintro e w2 ⟨rfl, hb2⟩
        have x2_0_0 : w2.cell? ⟨w1.heap.size, 0, none⟩ = some (.int .i64 Y) := keep_cell hb2 (by simp [go_sem, *])
        have x2_0_1 : w2.cell? ⟨w1.heap.size, 1, none⟩ = some (.int .i64 12) := keep_cell hb2 (by simp [go_sem, *])
        have x2_0_2 : w2.cell? ⟨w1.heap.size, 2, none⟩ = some (.int .i64 31) := keep_cell hb2 (by simp [go_sem, *])
        have y2_0 : w1.heap.size < w2.heap.size := cell?_lt x2_0_0
        have g2 : Below w.heap.size w w2 := by (repeat (first | exact Below.refl _ _ | refine Below.drew ?_ | refine Below.allocS ?_ _ | refine Below.step ?_ (by assumption) | refine Below.setCell ?_ (by simp <;> omega) _ | refine Below.drewN' ?_ _))
        clear hb2 g1 
        go_wp2_with fail
        refine (H3.out _).mono ?_
        rintro e w3 ⟨rfl, hb3⟩
        have x3_0_0 : w3.cell? ⟨w1.heap.size, 0, none⟩ = some (.int .i64 Y) := keep_cell hb3 (by simp [go_sem, *])
        have x3_0_1 : w3.cell? ⟨w1.heap.size, 1, none⟩ = some (.int .i64 12) := keep_cell hb3 (by simp [go_sem, *])
        have x3_0_2 : w3.cell? ⟨w1.heap.size, 2, none⟩ = some (.int .i64 31) := keep_cell hb3 (by simp [go_sem, *])
        have y3_0 : w1.heap.size < w3.heap.size := cell?_lt x3_0_0
        have g3 : Below w.heap.size w w3 := by (repeat (first | exact Below.refl _ _ | refine Below.drew ?_ | refine Below.allocS ?_ _ | refine Below.step ?_ (by assumption) | refine Below.setCell ?_ (by simp <;> omega) _ | refine Below.drewN' ?_ _))
        clear hb3 g2 x2_0_0 x2_0_1 x2_0_2 y2_0
        go_wp2_with fail
        refine (H4.out _).mono ?_
        rintro e w' ⟨rfl, rfl⟩
        go_wp2_with fail
        refine (H5.out _).mono ?_
        rintro e w' ⟨rfl, rfl⟩
        go_wp2_with fail
        refine (awake_c _).mono ?_
        rintro e w6 ⟨rfl, hb6⟩
        have x6_0_0 : w6.cell? ⟨w1.heap.size, 0, none⟩ = some (.int .i64 Y) := keep_cell hb6 (by simp [go_sem, *])
        have x6_0_1 : w6.cell? ⟨w1.heap.size, 1, none⟩ = some (.int .i64 12) := keep_cell hb6 (by simp [go_sem, *])
        have x6_0_2 : w6.cell? ⟨w1.heap.size, 2, none⟩ = some (.int .i64 31) := keep_cell hb6 (by simp [go_sem, *])
        have y6_0 : w1.heap.size < w6.heap.size := cell?_lt x6_0_0
        have x6_1_0 : w6.cell? ⟨w3.heap.size, 0, none⟩ = some (.int .i64 (Y + 1)) := keep_cell hb6 (by simp [go_sem, *])
        have x6_1_1 : w6.cell? ⟨w3.heap.size, 1, none⟩ = some (.int .i64 1) := keep_cell hb6 (by simp [go_sem, *])
        have x6_1_2 : w6.cell? ⟨w3.heap.size, 2, none⟩ = some (.int .i64 1) := keep_cell hb6 (by simp [go_sem, *])
        have y6_1 : w3.heap.size < w6.heap.size := cell?_lt x6_1_0
        have g6 : Below w.heap.size w w6 := by (repeat (first | exact Below.refl _ _ | refine Below.drew ?_ | refine Below.allocS ?_ _ | refine Below.step ?_ (by assumption) | refine Below.setCell ?_ (by simp <;> omega) _ | refine Below.drewN' ?_ _))
        clear hb6 g3 x3_0_0 x3_0_1 x3_0_2 y3_0
        go_wp2
        go_ret
        exact ⟨(by first | rfl | (simp; done) | (simp; omega) | (simp [*]; done)), by (repeat (first | (with_reducible exact Below.refl _ _) | (with_reducible assumption) | (with_reducible refine Below.drew ?_) | (with_reducible refine Below.allocS ?_ _) | (with_reducible refine Below.setCell ?_ ?_ _) | (with_reducible refine Below.step ?_ (by assumption)) | (with_reducible refine Below.drewN' ?_ _))); (try any_goals (first | (with_reducible assumption) | (simp; done) | (simp; omega) | omega))⟩
end Go.Proofs.YtjkcgbidceakjaaDoor
