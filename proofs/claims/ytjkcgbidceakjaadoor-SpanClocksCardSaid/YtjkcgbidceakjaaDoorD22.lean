/-
  The document's examples of span: awake.
-/
import Derived.Test.YtjkcgbidceakjaaDoorD21
import Derived.Test.YtjkcgbidceakjaaDoorD18
import Derived.Test.YtjkcgbidceakjaaDoorD15
import Derived.Test.YtjkcgbidceakjaaDoorD8
import Derived.Laws.StructEq
namespace Go.Proofs.YtjkcgbidceakjaaDoor
open Go.RowKit
set_option linter.unusedVariables false
set_option linter.unusedSimpArgs false
theorem ex_day : dayR 1700 3 1 = (59, 0) := by kernel_rfl
theorem ex_sca : scaR 1 2 (-1) 3 = (-1, 0, 0) := by kernel_rfl
theorem ex_sky : skyR 86400000 3662422 3652422 = (86636555, 0) := by kernel_rfl
def noonT : ByteArray := ⟨#[49, 50, 58, 51, 52, 58, 53, 54, 46, 48, 48, 55]⟩
theorem ex_clock : str (clockL 45296007) = noonT := by kernel_rfl
set_option maxHeartbeats 1000000 in
theorem awake_c (w : World) : Calls Tryd.prog 16 #[] w fun e w' => e = .returned (.bool true) ∧ Below w.heap.size w w' := by
  have H1 := Lib.hid (fun W => DayOf_c 1700 3 1 W)
  have H2 := Lib.hid (fun W => Scaled_c 1 2 (-1) 3 W)
  have H3 := Lib.hid (fun W => Sidereal_c 86400000 W)
  have H4 := Lib.hid (fun W => Clock_yes 45296007 (by omega) W (fun W' _ => itoa_small 7 (by omega) W'))
  rw [ex_day] at H1
  rw [ex_sca] at H2
  rw [ex_sky] at H3
  rw [ex_clock] at H4
  unfold noonT at H4
  go_enter Tryd.func16, Tryd.ntmps16
  go_wp2_with fail
  refine (H1.out _).mono ?_
  rintro e w1 ⟨rfl, hb1⟩
  have g1 : Below w.heap.size w w1 := by (repeat (first | exact Below.refl _ _ | refine Below.drew ?_ | refine Below.allocS ?_ _ | refine Below.step ?_ (by assumption) | refine Below.setCell ?_ (by simp <;> omega) _ | refine Below.drewN' ?_ _))
  clear hb1
  go_wp2_with fail
  refine (H2.out _).mono ?_
  rintro e w2 ⟨rfl, hb2⟩
  have g2 : Below w.heap.size w w2 := by (repeat (first | exact Below.refl _ _ | refine Below.drew ?_ | refine Below.allocS ?_ _ | refine Below.step ?_ (by assumption) | refine Below.setCell ?_ (by simp <;> omega) _ | refine Below.drewN' ?_ _))
  clear hb2 g1 
  unfold retV
  go_wp2_with fail
  refine (H3.out _).mono ?_
  rintro e w3 ⟨rfl, hb3⟩
  have x3_0_0 : w3.cell? ⟨w2.heap.size, 0, none⟩ = some (.int .i64 (-1)) := keep_cell hb3 (by simp [go_sem, *])
  have x3_0_1 : w3.cell? ⟨w2.heap.size, 1, none⟩ = some (.int .i64 0) := keep_cell hb3 (by simp [go_sem, *])
  have y3_0 : w2.heap.size < w3.heap.size := cell?_lt x3_0_0
  have g3 : Below w.heap.size w w3 := by (repeat (first | exact Below.refl _ _ | refine Below.drew ?_ | refine Below.allocS ?_ _ | refine Below.step ?_ (by assumption) | refine Below.setCell ?_ (by simp <;> omega) _ | refine Below.drewN' ?_ _))
  clear hb3
  unfold two
  go_wp2_with fail
  refine (H4.out _).mono ?_
  rintro e w4 ⟨rfl, hb4⟩
  have x4_0_0 : w4.cell? ⟨w2.heap.size, 0, none⟩ = some (.int .i64 (-1)) := keep_cell hb4 (by simp [go_sem, *])
  have x4_0_1 : w4.cell? ⟨w2.heap.size, 1, none⟩ = some (.int .i64 0) := keep_cell hb4 (by simp [go_sem, *])
  have y4_0 : w2.heap.size < w4.heap.size := cell?_lt x4_0_0
  have g4 : Below w.heap.size w w4 := by (repeat (first | exact Below.refl _ _ | refine Below.drew ?_ | refine Below.allocS ?_ _ | refine Below.step ?_ (by assumption) | refine Below.setCell ?_ (by simp <;> omega) _ | refine Below.drewN' ?_ _))
  clear hb4 g3 x3_0_0 x3_0_1 y3_0
  go_wp2
  trace_state
  go_ret
  exact ⟨(by first | rfl | (simp; done) | (simp; omega) | (simp [*]; done)), by (repeat (first | (with_reducible exact Below.refl _ _) | (with_reducible assumption) | (with_reducible refine Below.drew ?_) | (with_reducible refine Below.allocS ?_ _) | (with_reducible refine Below.setCell ?_ ?_ _) | (with_reducible refine Below.step ?_ (by assumption)) | (with_reducible refine Below.drewN' ?_ _))); (try any_goals (first | (with_reducible assumption) | (simp; done) | (simp; omega) | omega))⟩
end Go.Proofs.YtjkcgbidceakjaaDoor
