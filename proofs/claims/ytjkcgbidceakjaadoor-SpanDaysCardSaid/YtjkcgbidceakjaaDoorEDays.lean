/-
  The walk of the law SpanDays: Leap, DayOf, DateOf and Weekday of span and of its reference answer the same. No conditions.
-/
import Derived.Test.YtjkcgbidceakjaaDoorD24
import Derived.Test.YtjkcgbidceakjaaDoorD22
import Derived.Laws.StructEq
namespace Go.Proofs.YtjkcgbidceakjaaDoor
open Go.RowKit
set_option linter.unusedVariables false
set_option linter.unusedSimpArgs false
set_option maxHeartbeats 2000000 in
set_option maxRecDepth 100000 in
theorem SpanDays_walk (y m d day year : Int) (w0 : I64 y) (w1 : I64 m) (w2 : I64 d) (w3 : I64 day) (w4 : I64 year) (w : World) : Calls Tryd.prog 7 #[.agg #[.int .i64 y, .int .i64 m, .int .i64 d], .int .i64 day, .int .i64 year] w fun e w' => e = .returned (.bool true) ∧ Below w.heap.size w w' := by
  have H1 := Lib.hid (fun W => DayOf_c y m d W)
  have H2 := Lib.hid (fun W => rDayOf_c y m d W)
  have H3 := Lib.hid (fun W => DateOf_c day W)
  have H4 := Lib.hid (fun W => rDateOf_c day W)
  have H5 := Lib.hid (fun W => Weekday_c day W)
  have H6 := Lib.hid (fun W => rWeekday_c day W)
  have H7 := Lib.hid (fun W => Leap_c year W)
  have H8 := Lib.hid (fun W => rLeap_c year W)
  clear w0 w1 w2 w3 w4
  generalize dayR y m d = r1 at *
  generalize dateR day = r2 at *
  generalize wdayR day = r3 at *
  generalize leapB year = r4 at *
  obtain ⟨n, e⟩ := r1
  obtain ⟨⟨Y, M, D⟩, z⟩ := r2
  obtain ⟨v, i⟩ := r3
  unfold dtV at *
  simp only at H1 H2 H3 H4 H5 H6
  go_enter Tryd.func7, Tryd.ntmps7
  go_wp2_with fail
  refine (H1.out _).mono ?_
  rintro e w1 ⟨rfl, hb1⟩
  have x1_0_0 : w1.cell? ⟨w.heap.size, 0, none⟩ = some (.int .i64 y) := keep_cell hb1 (by simp [go_sem, *])
  have x1_0_1 : w1.cell? ⟨w.heap.size, 1, none⟩ = some (.int .i64 m) := keep_cell hb1 (by simp [go_sem, *])
  have x1_0_2 : w1.cell? ⟨w.heap.size, 2, none⟩ = some (.int .i64 d) := keep_cell hb1 (by simp [go_sem, *])
  have y1_0 : w.heap.size < w1.heap.size := cell?_lt x1_0_0
  have g1 : Below w.heap.size w w1 := by (repeat (first | exact Below.refl _ _ | refine Below.drew ?_ | refine Below.allocS ?_ _ | refine Below.step ?_ (by assumption) | refine Below.setCell ?_ (by simp <;> omega) _ | refine Below.drewN' ?_ _))
  clear hb1
  go_wp2_with fail
  refine (H2.out _).mono ?_
  rintro e w2 ⟨rfl, hb2⟩
  have x2_0_0 : w2.cell? ⟨w.heap.size, 0, none⟩ = some (.int .i64 y) := keep_cell hb2 (by simp [go_sem, *])
  have x2_0_1 : w2.cell? ⟨w.heap.size, 1, none⟩ = some (.int .i64 m) := keep_cell hb2 (by simp [go_sem, *])
  have x2_0_2 : w2.cell? ⟨w.heap.size, 2, none⟩ = some (.int .i64 d) := keep_cell hb2 (by simp [go_sem, *])
  have y2_0 : w.heap.size < w2.heap.size := cell?_lt x2_0_0
  have g2 : Below w.heap.size w w2 := by (repeat (first | exact Below.refl _ _ | refine Below.drew ?_ | refine Below.allocS ?_ _ | refine Below.step ?_ (by assumption) | refine Below.setCell ?_ (by simp <;> omega) _ | refine Below.drewN' ?_ _))
  clear hb2 g1 x1_0_0 x1_0_1 x1_0_2 y1_0
  go_wp2_with fail
  refine (H3.out _).mono ?_
  rintro e w3 ⟨rfl, hb3⟩
  have x3_0_0 : w3.cell? ⟨w.heap.size, 0, none⟩ = some (.int .i64 y) := keep_cell hb3 (by simp [go_sem, *])
  have x3_0_1 : w3.cell? ⟨w.heap.size, 1, none⟩ = some (.int .i64 m) := keep_cell hb3 (by simp [go_sem, *])
  have x3_0_2 : w3.cell? ⟨w.heap.size, 2, none⟩ = some (.int .i64 d) := keep_cell hb3 (by simp [go_sem, *])
  have y3_0 : w.heap.size < w3.heap.size := cell?_lt x3_0_0
  have g3 : Below w.heap.size w w3 := by (repeat (first | exact Below.refl _ _ | refine Below.drew ?_ | refine Below.allocS ?_ _ | refine Below.step ?_ (by assumption) | refine Below.setCell ?_ (by simp <;> omega) _ | refine Below.drewN' ?_ _))
  clear hb3 g2 x2_0_0 x2_0_1 x2_0_2 y2_0
  go_wp2_with fail
  refine (H4.out _).mono ?_
  rintro e w4 ⟨rfl, hb4⟩
  have x4_0_0 : w4.cell? ⟨w.heap.size, 0, none⟩ = some (.int .i64 y) := keep_cell hb4 (by simp [go_sem, *])
  have x4_0_1 : w4.cell? ⟨w.heap.size, 1, none⟩ = some (.int .i64 m) := keep_cell hb4 (by simp [go_sem, *])
  have x4_0_2 : w4.cell? ⟨w.heap.size, 2, none⟩ = some (.int .i64 d) := keep_cell hb4 (by simp [go_sem, *])
  have y4_0 : w.heap.size < w4.heap.size := cell?_lt x4_0_0
  have x4_1_0 : w4.cell? ⟨w3.heap.size, 0, none⟩ = some (.int .i64 Y) := keep_cell hb4 (by simp [go_sem, *])
  have x4_1_1 : w4.cell? ⟨w3.heap.size, 1, none⟩ = some (.int .i64 M) := keep_cell hb4 (by simp [go_sem, *])
  have x4_1_2 : w4.cell? ⟨w3.heap.size, 2, none⟩ = some (.int .i64 D) := keep_cell hb4 (by simp [go_sem, *])
  have y4_1 : w3.heap.size < w4.heap.size := cell?_lt x4_1_0
  have g4 : Below w.heap.size w w4 := by (repeat (first | exact Below.refl _ _ | refine Below.drew ?_ | refine Below.allocS ?_ _ | refine Below.step ?_ (by assumption) | refine Below.setCell ?_ (by simp <;> omega) _ | refine Below.drewN' ?_ _))
  clear hb4 g3 x3_0_0 x3_0_1 x3_0_2 y3_0
  go_wp2_with fail
  refine (H5.out _).mono ?_
  rintro e w' ⟨rfl, rfl⟩
  go_wp2_with fail
  refine (H6.out _).mono ?_
  rintro e w' ⟨rfl, rfl⟩
  go_wp2_with fail
  refine (H7.out _).mono ?_
  rintro e w' ⟨rfl, rfl⟩
  go_wp2_with fail
  refine (H8.out _).mono ?_
  rintro e w' ⟨rfl, rfl⟩
  go_wp2_with fail
  refine (awake_c _).mono ?_
  rintro e w7 ⟨rfl, hb7⟩
  have x7_0_0 : w7.cell? ⟨w.heap.size, 0, none⟩ = some (.int .i64 y) := keep_cell hb7 (by simp [go_sem, *])
  have x7_0_1 : w7.cell? ⟨w.heap.size, 1, none⟩ = some (.int .i64 m) := keep_cell hb7 (by simp [go_sem, *])
  have x7_0_2 : w7.cell? ⟨w.heap.size, 2, none⟩ = some (.int .i64 d) := keep_cell hb7 (by simp [go_sem, *])
  have y7_0 : w.heap.size < w7.heap.size := cell?_lt x7_0_0
  have x7_1_0 : w7.cell? ⟨w3.heap.size, 0, none⟩ = some (.int .i64 Y) := keep_cell hb7 (by simp [go_sem, *])
  have x7_1_1 : w7.cell? ⟨w3.heap.size, 1, none⟩ = some (.int .i64 M) := keep_cell hb7 (by simp [go_sem, *])
  have x7_1_2 : w7.cell? ⟨w3.heap.size, 2, none⟩ = some (.int .i64 D) := keep_cell hb7 (by simp [go_sem, *])
  have y7_1 : w3.heap.size < w7.heap.size := cell?_lt x7_1_0
  have x7_2_0 : w7.cell? ⟨w4.heap.size, 0, none⟩ = some (.int .i64 Y) := keep_cell hb7 (by simp [go_sem, *])
  have x7_2_1 : w7.cell? ⟨w4.heap.size, 1, none⟩ = some (.int .i64 M) := keep_cell hb7 (by simp [go_sem, *])
  have x7_2_2 : w7.cell? ⟨w4.heap.size, 2, none⟩ = some (.int .i64 D) := keep_cell hb7 (by simp [go_sem, *])
  have y7_2 : w4.heap.size < w7.heap.size := cell?_lt x7_2_0
  have g7 : Below w.heap.size w w7 := by (repeat (first | exact Below.refl _ _ | refine Below.drew ?_ | refine Below.allocS ?_ _ | refine Below.step ?_ (by assumption) | refine Below.setCell ?_ (by simp <;> omega) _ | refine Below.drewN' ?_ _))
  clear hb7 g4 x4_0_0 x4_0_1 x4_0_2 x4_1_0 x4_1_1 x4_1_2 y4_0 y4_1
  go_wp2
  go_ret
  exact ⟨(by first | rfl | (simp; done) | (simp; omega) | (simp [*]; done)), by (repeat (first | (with_reducible exact Below.refl _ _) | (with_reducible assumption) | (with_reducible refine Below.drew ?_) | (with_reducible refine Below.allocS ?_ _) | (with_reducible refine Below.setCell ?_ ?_ _) | (with_reducible refine Below.step ?_ (by assumption)) | (with_reducible refine Below.drewN' ?_ _))); (try any_goals (first | (with_reducible assumption) | (simp; done) | (simp; omega) | omega))⟩
end Go.Proofs.YtjkcgbidceakjaaDoor
