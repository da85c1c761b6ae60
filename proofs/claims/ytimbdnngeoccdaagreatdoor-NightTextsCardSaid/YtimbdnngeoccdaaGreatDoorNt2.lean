/-
  Valid chances of both: valid of night, ValidChance of the reference. No conditions.
-/
import Derived.Test.YtimbdnngeoccdaaGreatDoorNt1
namespace Go.Proofs.YtimbdnngeoccdaaGreatDoor
open Go.RowKit
set_option linter.unusedVariables false
set_option linter.unusedSimpArgs false
/-- Valid chances. -/
def okC (n : ByteArray) (a b t v : Int) : Bool := nameB n && (decide (0 ≤ a) && (decide (a < b) && (decide (b ≤ 86400000) && (within t (-90000) 90000 && within v 0 1000000))))
set_option maxHeartbeats 2000000 in
theorem valid_c (n : ByteArray) (a b t v : Int) (hn : n.size ≤ 9223372036854775807) (w : World) : Calls Tryz.prog 41 #[.agg #[.string n, .int .i64 a, .int .i64 b, .int .i64 t, .int .i64 v]] w fun e w' => e = .returned (.bool (okC n a b t v)) ∧ Below w.heap.size w w' := by
  have H0 := Lib.hid (fun W => name_c n hn W)
  have H4 := Lib.hid (fun W => within_c t (-90000) 90000 W)
  have H5 := Lib.hid (fun W => within_c v 0 1000000 W)
  cases h0 : nameB n
  · have HE := Lib.hid (show okC n a b t v = false by unfold okC; rw [h0]; rfl)
    rw [h0] at H0
    clear h0
    go_enter Tryz.func41, Tryz.ntmps41
    go_wp2_with fail
    refine (H0.out _).mono ?_
    rintro e w1 ⟨rfl, hb1⟩
    have x1_0_0 : w1.cell? ⟨w.heap.size, 0, none⟩ = some (.string n) := keep_cell hb1 (by simp [go_sem, *])
    have x1_0_1 : w1.cell? ⟨w.heap.size, 1, none⟩ = some (.int .i64 a) := keep_cell hb1 (by simp [go_sem, *])
    have x1_0_2 : w1.cell? ⟨w.heap.size, 2, none⟩ = some (.int .i64 b) := keep_cell hb1 (by simp [go_sem, *])
    have x1_0_3 : w1.cell? ⟨w.heap.size, 3, none⟩ = some (.int .i64 t) := keep_cell hb1 (by simp [go_sem, *])
    have x1_0_4 : w1.cell? ⟨w.heap.size, 4, none⟩ = some (.int .i64 v) := keep_cell hb1 (by simp [go_sem, *])
    have y1_0 : w.heap.size < w1.heap.size := cell?_lt x1_0_0
    have g1 : Below w.heap.size w w1 := by (repeat (first | exact Below.refl _ _ | refine Below.drew ?_ | refine Below.allocS ?_ _ | refine Below.step ?_ (by assumption) | refine Below.setCell ?_ (by simp <;> omega) _ | refine Below.drewN' ?_ _))
    clear hb1
    go_wp2
    go_ret
    exact ⟨by rw [HE.out]; first | rfl | (simp; done) | (simp; omega), by (repeat (first | exact Below.refl _ _ | refine Below.drew ?_ | refine Below.allocS ?_ _ | refine Below.step ?_ (by assumption) | refine Below.setCell ?_ (by simp <;> omega) _ | refine Below.drewN' ?_ _))⟩
  by_cases h1 : 0 ≤ a
  case neg =>
    have HE := Lib.hid (show okC n a b t v = false by unfold okC within; simp; omega)
    rw [h0] at H0
    have d1 : decide (0 ≤ a) = false := decide_eq_false h1
    have e1 : decide (a ≥ 0) = false := decide_eq_false h1
    clear h0 
    go_enter Tryz.func41, Tryz.ntmps41
    go_wp2_with fail
    refine (H0.out _).mono ?_
    rintro e w1 ⟨rfl, hb1⟩
    have x1_0_0 : w1.cell? ⟨w.heap.size, 0, none⟩ = some (.string n) := keep_cell hb1 (by simp [go_sem, *])
    have x1_0_1 : w1.cell? ⟨w.heap.size, 1, none⟩ = some (.int .i64 a) := keep_cell hb1 (by simp [go_sem, *])
    have x1_0_2 : w1.cell? ⟨w.heap.size, 2, none⟩ = some (.int .i64 b) := keep_cell hb1 (by simp [go_sem, *])
    have x1_0_3 : w1.cell? ⟨w.heap.size, 3, none⟩ = some (.int .i64 t) := keep_cell hb1 (by simp [go_sem, *])
    have x1_0_4 : w1.cell? ⟨w.heap.size, 4, none⟩ = some (.int .i64 v) := keep_cell hb1 (by simp [go_sem, *])
    have y1_0 : w.heap.size < w1.heap.size := cell?_lt x1_0_0
    have g1 : Below w.heap.size w w1 := by (repeat (first | exact Below.refl _ _ | refine Below.drew ?_ | refine Below.allocS ?_ _ | refine Below.step ?_ (by assumption) | refine Below.setCell ?_ (by simp <;> omega) _ | refine Below.drewN' ?_ _))
    clear hb1
    go_wp2
    go_ret
    exact ⟨by rw [HE.out]; first | rfl | (simp; done) | (simp; omega), by (repeat (first | exact Below.refl _ _ | refine Below.drew ?_ | refine Below.allocS ?_ _ | refine Below.step ?_ (by assumption) | refine Below.setCell ?_ (by simp <;> omega) _ | refine Below.drewN' ?_ _))⟩
  by_cases h2 : a < b
  case neg =>
    have HE := Lib.hid (show okC n a b t v = false by unfold okC within; simp; omega)
    rw [h0] at H0
    have d1 : decide (0 ≤ a) = true := decide_eq_true h1
    have e1 : decide (a ≥ 0) = true := decide_eq_true h1
    have d2 : decide (a < b) = false := decide_eq_false h2
    clear h0 
    go_enter Tryz.func41, Tryz.ntmps41
    go_wp2_with fail
    refine (H0.out _).mono ?_
    rintro e w1 ⟨rfl, hb1⟩
    have x1_0_0 : w1.cell? ⟨w.heap.size, 0, none⟩ = some (.string n) := keep_cell hb1 (by simp [go_sem, *])
    have x1_0_1 : w1.cell? ⟨w.heap.size, 1, none⟩ = some (.int .i64 a) := keep_cell hb1 (by simp [go_sem, *])
    have x1_0_2 : w1.cell? ⟨w.heap.size, 2, none⟩ = some (.int .i64 b) := keep_cell hb1 (by simp [go_sem, *])
    have x1_0_3 : w1.cell? ⟨w.heap.size, 3, none⟩ = some (.int .i64 t) := keep_cell hb1 (by simp [go_sem, *])
    have x1_0_4 : w1.cell? ⟨w.heap.size, 4, none⟩ = some (.int .i64 v) := keep_cell hb1 (by simp [go_sem, *])
    have y1_0 : w.heap.size < w1.heap.size := cell?_lt x1_0_0
    have g1 : Below w.heap.size w w1 := by (repeat (first | exact Below.refl _ _ | refine Below.drew ?_ | refine Below.allocS ?_ _ | refine Below.step ?_ (by assumption) | refine Below.setCell ?_ (by simp <;> omega) _ | refine Below.drewN' ?_ _))
    clear hb1
    go_wp2
    go_ret
    exact ⟨by rw [HE.out]; first | rfl | (simp; done) | (simp; omega), by (repeat (first | exact Below.refl _ _ | refine Below.drew ?_ | refine Below.allocS ?_ _ | refine Below.step ?_ (by assumption) | refine Below.setCell ?_ (by simp <;> omega) _ | refine Below.drewN' ?_ _))⟩
  by_cases h3 : b ≤ 86400000
  case neg =>
    have HE := Lib.hid (show okC n a b t v = false by unfold okC within; simp; omega)
    rw [h0] at H0
    have d1 : decide (0 ≤ a) = true := decide_eq_true h1
    have e1 : decide (a ≥ 0) = true := decide_eq_true h1
    have d2 : decide (a < b) = true := decide_eq_true h2
    have d3 : decide (b ≤ 86400000) = false := decide_eq_false h3
    clear h0 
    go_enter Tryz.func41, Tryz.ntmps41
    go_wp2_with fail
    refine (H0.out _).mono ?_
    rintro e w1 ⟨rfl, hb1⟩
    have x1_0_0 : w1.cell? ⟨w.heap.size, 0, none⟩ = some (.string n) := keep_cell hb1 (by simp [go_sem, *])
    have x1_0_1 : w1.cell? ⟨w.heap.size, 1, none⟩ = some (.int .i64 a) := keep_cell hb1 (by simp [go_sem, *])
    have x1_0_2 : w1.cell? ⟨w.heap.size, 2, none⟩ = some (.int .i64 b) := keep_cell hb1 (by simp [go_sem, *])
    have x1_0_3 : w1.cell? ⟨w.heap.size, 3, none⟩ = some (.int .i64 t) := keep_cell hb1 (by simp [go_sem, *])
    have x1_0_4 : w1.cell? ⟨w.heap.size, 4, none⟩ = some (.int .i64 v) := keep_cell hb1 (by simp [go_sem, *])
    have y1_0 : w.heap.size < w1.heap.size := cell?_lt x1_0_0
    have g1 : Below w.heap.size w w1 := by (repeat (first | exact Below.refl _ _ | refine Below.drew ?_ | refine Below.allocS ?_ _ | refine Below.step ?_ (by assumption) | refine Below.setCell ?_ (by simp <;> omega) _ | refine Below.drewN' ?_ _))
    clear hb1
    go_wp2
    go_ret
    exact ⟨by rw [HE.out]; first | rfl | (simp; done) | (simp; omega), by (repeat (first | exact Below.refl _ _ | refine Below.drew ?_ | refine Below.allocS ?_ _ | refine Below.step ?_ (by assumption) | refine Below.setCell ?_ (by simp <;> omega) _ | refine Below.drewN' ?_ _))⟩
  cases h4 : within t (-90000) 90000
  · have HE := Lib.hid (show okC n a b t v = false by unfold okC; rw [h4]; simp)
    rw [h0] at H0
    have d1 : decide (0 ≤ a) = true := decide_eq_true h1
    have e1 : decide (a ≥ 0) = true := decide_eq_true h1
    have d2 : decide (a < b) = true := decide_eq_true h2
    have d3 : decide (b ≤ 86400000) = true := decide_eq_true h3
    rw [h4] at H4
    clear h0 h4
    go_enter Tryz.func41, Tryz.ntmps41
    go_wp2_with fail
    refine (H0.out _).mono ?_
    rintro e w1 ⟨rfl, hb1⟩
    have x1_0_0 : w1.cell? ⟨w.heap.size, 0, none⟩ = some (.string n) := keep_cell hb1 (by simp [go_sem, *])
    have x1_0_1 : w1.cell? ⟨w.heap.size, 1, none⟩ = some (.int .i64 a) := keep_cell hb1 (by simp [go_sem, *])
    have x1_0_2 : w1.cell? ⟨w.heap.size, 2, none⟩ = some (.int .i64 b) := keep_cell hb1 (by simp [go_sem, *])
    have x1_0_3 : w1.cell? ⟨w.heap.size, 3, none⟩ = some (.int .i64 t) := keep_cell hb1 (by simp [go_sem, *])
    have x1_0_4 : w1.cell? ⟨w.heap.size, 4, none⟩ = some (.int .i64 v) := keep_cell hb1 (by simp [go_sem, *])
    have y1_0 : w.heap.size < w1.heap.size := cell?_lt x1_0_0
    have g1 : Below w.heap.size w w1 := by (repeat (first | exact Below.refl _ _ | refine Below.drew ?_ | refine Below.allocS ?_ _ | refine Below.step ?_ (by assumption) | refine Below.setCell ?_ (by simp <;> omega) _ | refine Below.drewN' ?_ _))
    clear hb1
    go_wp2_with fail
    refine (H4.out _).mono ?_
    rintro e w' ⟨rfl, hw'⟩; replace hw' := hw'.symm; subst hw'
    go_wp2
    go_ret
    exact ⟨by rw [HE.out]; first | rfl | (simp; done) | (simp; omega), by (repeat (first | exact Below.refl _ _ | refine Below.drew ?_ | refine Below.allocS ?_ _ | refine Below.step ?_ (by assumption) | refine Below.setCell ?_ (by simp <;> omega) _ | refine Below.drewN' ?_ _))⟩
  cases h5 : within v 0 1000000
  · have HE := Lib.hid (show okC n a b t v = false by unfold okC; rw [h5]; simp)
    rw [h0] at H0
    have d1 : decide (0 ≤ a) = true := decide_eq_true h1
    have e1 : decide (a ≥ 0) = true := decide_eq_true h1
    have d2 : decide (a < b) = true := decide_eq_true h2
    have d3 : decide (b ≤ 86400000) = true := decide_eq_true h3
    rw [h4] at H4
    rw [h5] at H5
    clear h0 h4 h5
    go_enter Tryz.func41, Tryz.ntmps41
    go_wp2_with fail
    refine (H0.out _).mono ?_
    rintro e w1 ⟨rfl, hb1⟩
    have x1_0_0 : w1.cell? ⟨w.heap.size, 0, none⟩ = some (.string n) := keep_cell hb1 (by simp [go_sem, *])
    have x1_0_1 : w1.cell? ⟨w.heap.size, 1, none⟩ = some (.int .i64 a) := keep_cell hb1 (by simp [go_sem, *])
    have x1_0_2 : w1.cell? ⟨w.heap.size, 2, none⟩ = some (.int .i64 b) := keep_cell hb1 (by simp [go_sem, *])
    have x1_0_3 : w1.cell? ⟨w.heap.size, 3, none⟩ = some (.int .i64 t) := keep_cell hb1 (by simp [go_sem, *])
    have x1_0_4 : w1.cell? ⟨w.heap.size, 4, none⟩ = some (.int .i64 v) := keep_cell hb1 (by simp [go_sem, *])
    have y1_0 : w.heap.size < w1.heap.size := cell?_lt x1_0_0
    have g1 : Below w.heap.size w w1 := by (repeat (first | exact Below.refl _ _ | refine Below.drew ?_ | refine Below.allocS ?_ _ | refine Below.step ?_ (by assumption) | refine Below.setCell ?_ (by simp <;> omega) _ | refine Below.drewN' ?_ _))
    clear hb1
    go_wp2_with fail
    refine (H4.out _).mono ?_
    rintro e w' ⟨rfl, hw'⟩; replace hw' := hw'.symm; subst hw'
    go_wp2_with fail
    refine (H5.out _).mono ?_
    rintro e w' ⟨rfl, hw'⟩; replace hw' := hw'.symm; subst hw'
    go_wp2
    go_ret
    exact ⟨by rw [HE.out]; first | rfl | (simp; done) | (simp; omega), by (repeat (first | exact Below.refl _ _ | refine Below.drew ?_ | refine Below.allocS ?_ _ | refine Below.step ?_ (by assumption) | refine Below.setCell ?_ (by simp <;> omega) _ | refine Below.drewN' ?_ _))⟩
  have HE := Lib.hid (show okC n a b t v = true by unfold okC; rw [h0, h4, h5]; simp; omega)
  rw [h0] at H0
  have d1 : decide (0 ≤ a) = true := decide_eq_true h1
  have e1 : decide (a ≥ 0) = true := decide_eq_true h1
  have d2 : decide (a < b) = true := decide_eq_true h2
  have d3 : decide (b ≤ 86400000) = true := decide_eq_true h3
  rw [h4] at H4
  rw [h5] at H5
  clear h0 h4 h5
  go_enter Tryz.func41, Tryz.ntmps41
  go_wp2_with fail
  refine (H0.out _).mono ?_
  rintro e w1 ⟨rfl, hb1⟩
  have x1_0_0 : w1.cell? ⟨w.heap.size, 0, none⟩ = some (.string n) := keep_cell hb1 (by simp [go_sem, *])
  have x1_0_1 : w1.cell? ⟨w.heap.size, 1, none⟩ = some (.int .i64 a) := keep_cell hb1 (by simp [go_sem, *])
  have x1_0_2 : w1.cell? ⟨w.heap.size, 2, none⟩ = some (.int .i64 b) := keep_cell hb1 (by simp [go_sem, *])
  have x1_0_3 : w1.cell? ⟨w.heap.size, 3, none⟩ = some (.int .i64 t) := keep_cell hb1 (by simp [go_sem, *])
  have x1_0_4 : w1.cell? ⟨w.heap.size, 4, none⟩ = some (.int .i64 v) := keep_cell hb1 (by simp [go_sem, *])
  have y1_0 : w.heap.size < w1.heap.size := cell?_lt x1_0_0
  have g1 : Below w.heap.size w w1 := by (repeat (first | exact Below.refl _ _ | refine Below.drew ?_ | refine Below.allocS ?_ _ | refine Below.step ?_ (by assumption) | refine Below.setCell ?_ (by simp <;> omega) _ | refine Below.drewN' ?_ _))
  clear hb1
  go_wp2_with fail
  refine (H4.out _).mono ?_
  rintro e w' ⟨rfl, hw'⟩; replace hw' := hw'.symm; subst hw'
  go_wp2_with fail
  refine (H5.out _).mono ?_
  rintro e w' ⟨rfl, hw'⟩; replace hw' := hw'.symm; subst hw'
  go_wp2
  go_ret
  exact ⟨by rw [HE.out]; first | rfl | (simp; done) | (simp; omega), by (repeat (first | exact Below.refl _ _ | refine Below.drew ?_ | refine Below.allocS ?_ _ | refine Below.step ?_ (by assumption) | refine Below.setCell ?_ (by simp <;> omega) _ | refine Below.drewN' ?_ _))⟩
set_option maxHeartbeats 2000000 in
theorem rvalid_c (n : ByteArray) (a b t v : Int) (hn : n.size ≤ 9223372036854775807) (w : World) : Calls Tryz.prog 63 #[.agg #[.string n, .int .i64 a, .int .i64 b, .int .i64 t, .int .i64 v]] w fun e w' => e = .returned (.bool (okC n a b t v)) ∧ Below w.heap.size w w' := by
  have H0 := Lib.hid (fun W => rname_c n hn W)
  cases h0 : nameB n
  · have HE := Lib.hid (show okC n a b t v = false by unfold okC; rw [h0]; rfl)
    rw [h0] at H0
    clear h0
    go_enter Tryz.func63, Tryz.ntmps63
    go_wp2_with fail
    refine (H0.out _).mono ?_
    rintro e w1 ⟨rfl, hb1⟩
    have x1_0_0 : w1.cell? ⟨w.heap.size, 0, none⟩ = some (.string n) := keep_cell hb1 (by simp [go_sem, *])
    have x1_0_1 : w1.cell? ⟨w.heap.size, 1, none⟩ = some (.int .i64 a) := keep_cell hb1 (by simp [go_sem, *])
    have x1_0_2 : w1.cell? ⟨w.heap.size, 2, none⟩ = some (.int .i64 b) := keep_cell hb1 (by simp [go_sem, *])
    have x1_0_3 : w1.cell? ⟨w.heap.size, 3, none⟩ = some (.int .i64 t) := keep_cell hb1 (by simp [go_sem, *])
    have x1_0_4 : w1.cell? ⟨w.heap.size, 4, none⟩ = some (.int .i64 v) := keep_cell hb1 (by simp [go_sem, *])
    have y1_0 : w.heap.size < w1.heap.size := cell?_lt x1_0_0
    have g1 : Below w.heap.size w w1 := by (repeat (first | exact Below.refl _ _ | refine Below.drew ?_ | refine Below.allocS ?_ _ | refine Below.step ?_ (by assumption) | refine Below.setCell ?_ (by simp <;> omega) _ | refine Below.drewN' ?_ _))
    clear hb1
    go_wp2
    go_ret
    exact ⟨by rw [HE.out]; first | rfl | (simp; done) | (simp; omega), by (repeat (first | exact Below.refl _ _ | refine Below.drew ?_ | refine Below.allocS ?_ _ | refine Below.step ?_ (by assumption) | refine Below.setCell ?_ (by simp <;> omega) _ | refine Below.drewN' ?_ _))⟩
  by_cases h1 : 0 ≤ a
  case neg =>
    have HE := Lib.hid (show okC n a b t v = false by unfold okC within; simp; omega)
    rw [h0] at H0
    have d1 : decide (0 ≤ a) = false := decide_eq_false h1
    have e1 : decide (a ≥ 0) = false := decide_eq_false h1
    clear h0 
    go_enter Tryz.func63, Tryz.ntmps63
    go_wp2_with fail
    refine (H0.out _).mono ?_
    rintro e w1 ⟨rfl, hb1⟩
    have x1_0_0 : w1.cell? ⟨w.heap.size, 0, none⟩ = some (.string n) := keep_cell hb1 (by simp [go_sem, *])
    have x1_0_1 : w1.cell? ⟨w.heap.size, 1, none⟩ = some (.int .i64 a) := keep_cell hb1 (by simp [go_sem, *])
    have x1_0_2 : w1.cell? ⟨w.heap.size, 2, none⟩ = some (.int .i64 b) := keep_cell hb1 (by simp [go_sem, *])
    have x1_0_3 : w1.cell? ⟨w.heap.size, 3, none⟩ = some (.int .i64 t) := keep_cell hb1 (by simp [go_sem, *])
    have x1_0_4 : w1.cell? ⟨w.heap.size, 4, none⟩ = some (.int .i64 v) := keep_cell hb1 (by simp [go_sem, *])
    have y1_0 : w.heap.size < w1.heap.size := cell?_lt x1_0_0
    have g1 : Below w.heap.size w w1 := by (repeat (first | exact Below.refl _ _ | refine Below.drew ?_ | refine Below.allocS ?_ _ | refine Below.step ?_ (by assumption) | refine Below.setCell ?_ (by simp <;> omega) _ | refine Below.drewN' ?_ _))
    clear hb1
    go_wp2
    go_ret
    exact ⟨by rw [HE.out]; first | rfl | (simp; done) | (simp; omega), by (repeat (first | exact Below.refl _ _ | refine Below.drew ?_ | refine Below.allocS ?_ _ | refine Below.step ?_ (by assumption) | refine Below.setCell ?_ (by simp <;> omega) _ | refine Below.drewN' ?_ _))⟩
  by_cases h2 : a < b
  case neg =>
    have HE := Lib.hid (show okC n a b t v = false by unfold okC within; simp; omega)
    rw [h0] at H0
    have d1 : decide (0 ≤ a) = true := decide_eq_true h1
    have e1 : decide (a ≥ 0) = true := decide_eq_true h1
    have d2 : decide (a < b) = false := decide_eq_false h2
    clear h0 
    go_enter Tryz.func63, Tryz.ntmps63
    go_wp2_with fail
    refine (H0.out _).mono ?_
    rintro e w1 ⟨rfl, hb1⟩
    have x1_0_0 : w1.cell? ⟨w.heap.size, 0, none⟩ = some (.string n) := keep_cell hb1 (by simp [go_sem, *])
    have x1_0_1 : w1.cell? ⟨w.heap.size, 1, none⟩ = some (.int .i64 a) := keep_cell hb1 (by simp [go_sem, *])
    have x1_0_2 : w1.cell? ⟨w.heap.size, 2, none⟩ = some (.int .i64 b) := keep_cell hb1 (by simp [go_sem, *])
    have x1_0_3 : w1.cell? ⟨w.heap.size, 3, none⟩ = some (.int .i64 t) := keep_cell hb1 (by simp [go_sem, *])
    have x1_0_4 : w1.cell? ⟨w.heap.size, 4, none⟩ = some (.int .i64 v) := keep_cell hb1 (by simp [go_sem, *])
    have y1_0 : w.heap.size < w1.heap.size := cell?_lt x1_0_0
    have g1 : Below w.heap.size w w1 := by (repeat (first | exact Below.refl _ _ | refine Below.drew ?_ | refine Below.allocS ?_ _ | refine Below.step ?_ (by assumption) | refine Below.setCell ?_ (by simp <;> omega) _ | refine Below.drewN' ?_ _))
    clear hb1
    go_wp2
    go_ret
    exact ⟨by rw [HE.out]; first | rfl | (simp; done) | (simp; omega), by (repeat (first | exact Below.refl _ _ | refine Below.drew ?_ | refine Below.allocS ?_ _ | refine Below.step ?_ (by assumption) | refine Below.setCell ?_ (by simp <;> omega) _ | refine Below.drewN' ?_ _))⟩
  by_cases h3 : b ≤ 86400000
  case neg =>
    have HE := Lib.hid (show okC n a b t v = false by unfold okC within; simp; omega)
    rw [h0] at H0
    have d1 : decide (0 ≤ a) = true := decide_eq_true h1
    have e1 : decide (a ≥ 0) = true := decide_eq_true h1
    have d2 : decide (a < b) = true := decide_eq_true h2
    have d3 : decide (b ≤ 86400000) = false := decide_eq_false h3
    clear h0 
    go_enter Tryz.func63, Tryz.ntmps63
    go_wp2_with fail
    refine (H0.out _).mono ?_
    rintro e w1 ⟨rfl, hb1⟩
    have x1_0_0 : w1.cell? ⟨w.heap.size, 0, none⟩ = some (.string n) := keep_cell hb1 (by simp [go_sem, *])
    have x1_0_1 : w1.cell? ⟨w.heap.size, 1, none⟩ = some (.int .i64 a) := keep_cell hb1 (by simp [go_sem, *])
    have x1_0_2 : w1.cell? ⟨w.heap.size, 2, none⟩ = some (.int .i64 b) := keep_cell hb1 (by simp [go_sem, *])
    have x1_0_3 : w1.cell? ⟨w.heap.size, 3, none⟩ = some (.int .i64 t) := keep_cell hb1 (by simp [go_sem, *])
    have x1_0_4 : w1.cell? ⟨w.heap.size, 4, none⟩ = some (.int .i64 v) := keep_cell hb1 (by simp [go_sem, *])
    have y1_0 : w.heap.size < w1.heap.size := cell?_lt x1_0_0
    have g1 : Below w.heap.size w w1 := by (repeat (first | exact Below.refl _ _ | refine Below.drew ?_ | refine Below.allocS ?_ _ | refine Below.step ?_ (by assumption) | refine Below.setCell ?_ (by simp <;> omega) _ | refine Below.drewN' ?_ _))
    clear hb1
    go_wp2
    go_ret
    exact ⟨by rw [HE.out]; first | rfl | (simp; done) | (simp; omega), by (repeat (first | exact Below.refl _ _ | refine Below.drew ?_ | refine Below.allocS ?_ _ | refine Below.step ?_ (by assumption) | refine Below.setCell ?_ (by simp <;> omega) _ | refine Below.drewN' ?_ _))⟩
  by_cases h4 : -90000 ≤ t
  case neg =>
    have HE := Lib.hid (show okC n a b t v = false by unfold okC within; simp; omega)
    rw [h0] at H0
    have d1 : decide (0 ≤ a) = true := decide_eq_true h1
    have e1 : decide (a ≥ 0) = true := decide_eq_true h1
    have d2 : decide (a < b) = true := decide_eq_true h2
    have d3 : decide (b ≤ 86400000) = true := decide_eq_true h3
    have d4 : decide (-90000 ≤ t) = false := decide_eq_false h4
    have e4 : decide (t ≥ -90000) = false := decide_eq_false h4
    clear h0 
    go_enter Tryz.func63, Tryz.ntmps63
    go_wp2_with fail
    refine (H0.out _).mono ?_
    rintro e w1 ⟨rfl, hb1⟩
    have x1_0_0 : w1.cell? ⟨w.heap.size, 0, none⟩ = some (.string n) := keep_cell hb1 (by simp [go_sem, *])
    have x1_0_1 : w1.cell? ⟨w.heap.size, 1, none⟩ = some (.int .i64 a) := keep_cell hb1 (by simp [go_sem, *])
    have x1_0_2 : w1.cell? ⟨w.heap.size, 2, none⟩ = some (.int .i64 b) := keep_cell hb1 (by simp [go_sem, *])
    have x1_0_3 : w1.cell? ⟨w.heap.size, 3, none⟩ = some (.int .i64 t) := keep_cell hb1 (by simp [go_sem, *])
    have x1_0_4 : w1.cell? ⟨w.heap.size, 4, none⟩ = some (.int .i64 v) := keep_cell hb1 (by simp [go_sem, *])
    have y1_0 : w.heap.size < w1.heap.size := cell?_lt x1_0_0
    have g1 : Below w.heap.size w w1 := by (repeat (first | exact Below.refl _ _ | refine Below.drew ?_ | refine Below.allocS ?_ _ | refine Below.step ?_ (by assumption) | refine Below.setCell ?_ (by simp <;> omega) _ | refine Below.drewN' ?_ _))
    clear hb1
    go_wp2
    go_ret
    exact ⟨by rw [HE.out]; first | rfl | (simp; done) | (simp; omega), by (repeat (first | exact Below.refl _ _ | refine Below.drew ?_ | refine Below.allocS ?_ _ | refine Below.step ?_ (by assumption) | refine Below.setCell ?_ (by simp <;> omega) _ | refine Below.drewN' ?_ _))⟩
  by_cases h5 : t ≤ 90000
  case neg =>
    have HE := Lib.hid (show okC n a b t v = false by unfold okC within; simp; omega)
    rw [h0] at H0
    have d1 : decide (0 ≤ a) = true := decide_eq_true h1
    have e1 : decide (a ≥ 0) = true := decide_eq_true h1
    have d2 : decide (a < b) = true := decide_eq_true h2
    have d3 : decide (b ≤ 86400000) = true := decide_eq_true h3
    have d4 : decide (-90000 ≤ t) = true := decide_eq_true h4
    have e4 : decide (t ≥ -90000) = true := decide_eq_true h4
    have d5 : decide (t ≤ 90000) = false := decide_eq_false h5
    clear h0 
    go_enter Tryz.func63, Tryz.ntmps63
    go_wp2_with fail
    refine (H0.out _).mono ?_
    rintro e w1 ⟨rfl, hb1⟩
    have x1_0_0 : w1.cell? ⟨w.heap.size, 0, none⟩ = some (.string n) := keep_cell hb1 (by simp [go_sem, *])
    have x1_0_1 : w1.cell? ⟨w.heap.size, 1, none⟩ = some (.int .i64 a) := keep_cell hb1 (by simp [go_sem, *])
    have x1_0_2 : w1.cell? ⟨w.heap.size, 2, none⟩ = some (.int .i64 b) := keep_cell hb1 (by simp [go_sem, *])
    have x1_0_3 : w1.cell? ⟨w.heap.size, 3, none⟩ = some (.int .i64 t) := keep_cell hb1 (by simp [go_sem, *])
    have x1_0_4 : w1.cell? ⟨w.heap.size, 4, none⟩ = some (.int .i64 v) := keep_cell hb1 (by simp [go_sem, *])
    have y1_0 : w.heap.size < w1.heap.size := cell?_lt x1_0_0
    have g1 : Below w.heap.size w w1 := by (repeat (first | exact Below.refl _ _ | refine Below.drew ?_ | refine Below.allocS ?_ _ | refine Below.step ?_ (by assumption) | refine Below.setCell ?_ (by simp <;> omega) _ | refine Below.drewN' ?_ _))
    clear hb1
    go_wp2
    go_ret
    exact ⟨by rw [HE.out]; first | rfl | (simp; done) | (simp; omega), by (repeat (first | exact Below.refl _ _ | refine Below.drew ?_ | refine Below.allocS ?_ _ | refine Below.step ?_ (by assumption) | refine Below.setCell ?_ (by simp <;> omega) _ | refine Below.drewN' ?_ _))⟩
  by_cases h6 : 0 ≤ v
  case neg =>
    have HE := Lib.hid (show okC n a b t v = false by unfold okC within; simp; omega)
    rw [h0] at H0
    have d1 : decide (0 ≤ a) = true := decide_eq_true h1
    have e1 : decide (a ≥ 0) = true := decide_eq_true h1
    have d2 : decide (a < b) = true := decide_eq_true h2
    have d3 : decide (b ≤ 86400000) = true := decide_eq_true h3
    have d4 : decide (-90000 ≤ t) = true := decide_eq_true h4
    have e4 : decide (t ≥ -90000) = true := decide_eq_true h4
    have d5 : decide (t ≤ 90000) = true := decide_eq_true h5
    have d6 : decide (0 ≤ v) = false := decide_eq_false h6
    have e6 : decide (v ≥ 0) = false := decide_eq_false h6
    clear h0 
    go_enter Tryz.func63, Tryz.ntmps63
    go_wp2_with fail
    refine (H0.out _).mono ?_
    rintro e w1 ⟨rfl, hb1⟩
    have x1_0_0 : w1.cell? ⟨w.heap.size, 0, none⟩ = some (.string n) := keep_cell hb1 (by simp [go_sem, *])
    have x1_0_1 : w1.cell? ⟨w.heap.size, 1, none⟩ = some (.int .i64 a) := keep_cell hb1 (by simp [go_sem, *])
    have x1_0_2 : w1.cell? ⟨w.heap.size, 2, none⟩ = some (.int .i64 b) := keep_cell hb1 (by simp [go_sem, *])
    have x1_0_3 : w1.cell? ⟨w.heap.size, 3, none⟩ = some (.int .i64 t) := keep_cell hb1 (by simp [go_sem, *])
    have x1_0_4 : w1.cell? ⟨w.heap.size, 4, none⟩ = some (.int .i64 v) := keep_cell hb1 (by simp [go_sem, *])
    have y1_0 : w.heap.size < w1.heap.size := cell?_lt x1_0_0
    have g1 : Below w.heap.size w w1 := by (repeat (first | exact Below.refl _ _ | refine Below.drew ?_ | refine Below.allocS ?_ _ | refine Below.step ?_ (by assumption) | refine Below.setCell ?_ (by simp <;> omega) _ | refine Below.drewN' ?_ _))
    clear hb1
    go_wp2
    go_ret
    exact ⟨by rw [HE.out]; first | rfl | (simp; done) | (simp; omega), by (repeat (first | exact Below.refl _ _ | refine Below.drew ?_ | refine Below.allocS ?_ _ | refine Below.step ?_ (by assumption) | refine Below.setCell ?_ (by simp <;> omega) _ | refine Below.drewN' ?_ _))⟩
  by_cases h7 : v ≤ 1000000
  case neg =>
    have HE := Lib.hid (show okC n a b t v = false by unfold okC within; simp; omega)
    rw [h0] at H0
    have d1 : decide (0 ≤ a) = true := decide_eq_true h1
    have e1 : decide (a ≥ 0) = true := decide_eq_true h1
    have d2 : decide (a < b) = true := decide_eq_true h2
    have d3 : decide (b ≤ 86400000) = true := decide_eq_true h3
    have d4 : decide (-90000 ≤ t) = true := decide_eq_true h4
    have e4 : decide (t ≥ -90000) = true := decide_eq_true h4
    have d5 : decide (t ≤ 90000) = true := decide_eq_true h5
    have d6 : decide (0 ≤ v) = true := decide_eq_true h6
    have e6 : decide (v ≥ 0) = true := decide_eq_true h6
    have d7 : decide (v ≤ 1000000) = false := decide_eq_false h7
    clear h0 
    go_enter Tryz.func63, Tryz.ntmps63
    go_wp2_with fail
    refine (H0.out _).mono ?_
    rintro e w1 ⟨rfl, hb1⟩
    have x1_0_0 : w1.cell? ⟨w.heap.size, 0, none⟩ = some (.string n) := keep_cell hb1 (by simp [go_sem, *])
    have x1_0_1 : w1.cell? ⟨w.heap.size, 1, none⟩ = some (.int .i64 a) := keep_cell hb1 (by simp [go_sem, *])
    have x1_0_2 : w1.cell? ⟨w.heap.size, 2, none⟩ = some (.int .i64 b) := keep_cell hb1 (by simp [go_sem, *])
    have x1_0_3 : w1.cell? ⟨w.heap.size, 3, none⟩ = some (.int .i64 t) := keep_cell hb1 (by simp [go_sem, *])
    have x1_0_4 : w1.cell? ⟨w.heap.size, 4, none⟩ = some (.int .i64 v) := keep_cell hb1 (by simp [go_sem, *])
    have y1_0 : w.heap.size < w1.heap.size := cell?_lt x1_0_0
    have g1 : Below w.heap.size w w1 := by (repeat (first | exact Below.refl _ _ | refine Below.drew ?_ | refine Below.allocS ?_ _ | refine Below.step ?_ (by assumption) | refine Below.setCell ?_ (by simp <;> omega) _ | refine Below.drewN' ?_ _))
    clear hb1
    go_wp2
    go_ret
    exact ⟨by rw [HE.out]; first | rfl | (simp; done) | (simp; omega), by (repeat (first | exact Below.refl _ _ | refine Below.drew ?_ | refine Below.allocS ?_ _ | refine Below.step ?_ (by assumption) | refine Below.setCell ?_ (by simp <;> omega) _ | refine Below.drewN' ?_ _))⟩
  have HE := Lib.hid (show okC n a b t v = true by unfold okC within; rw [h0]; simp; omega)
  rw [h0] at H0
  have d1 : decide (0 ≤ a) = true := decide_eq_true h1
  have e1 : decide (a ≥ 0) = true := decide_eq_true h1
  have d2 : decide (a < b) = true := decide_eq_true h2
  have d3 : decide (b ≤ 86400000) = true := decide_eq_true h3
  have d4 : decide (-90000 ≤ t) = true := decide_eq_true h4
  have e4 : decide (t ≥ -90000) = true := decide_eq_true h4
  have d5 : decide (t ≤ 90000) = true := decide_eq_true h5
  have d6 : decide (0 ≤ v) = true := decide_eq_true h6
  have e6 : decide (v ≥ 0) = true := decide_eq_true h6
  have d7 : decide (v ≤ 1000000) = true := decide_eq_true h7
  clear h0 
  go_enter Tryz.func63, Tryz.ntmps63
  go_wp2_with fail
  refine (H0.out _).mono ?_
  rintro e w1 ⟨rfl, hb1⟩
  have x1_0_0 : w1.cell? ⟨w.heap.size, 0, none⟩ = some (.string n) := keep_cell hb1 (by simp [go_sem, *])
  have x1_0_1 : w1.cell? ⟨w.heap.size, 1, none⟩ = some (.int .i64 a) := keep_cell hb1 (by simp [go_sem, *])
  have x1_0_2 : w1.cell? ⟨w.heap.size, 2, none⟩ = some (.int .i64 b) := keep_cell hb1 (by simp [go_sem, *])
  have x1_0_3 : w1.cell? ⟨w.heap.size, 3, none⟩ = some (.int .i64 t) := keep_cell hb1 (by simp [go_sem, *])
  have x1_0_4 : w1.cell? ⟨w.heap.size, 4, none⟩ = some (.int .i64 v) := keep_cell hb1 (by simp [go_sem, *])
  have y1_0 : w.heap.size < w1.heap.size := cell?_lt x1_0_0
  have g1 : Below w.heap.size w w1 := by (repeat (first | exact Below.refl _ _ | refine Below.drew ?_ | refine Below.allocS ?_ _ | refine Below.step ?_ (by assumption) | refine Below.setCell ?_ (by simp <;> omega) _ | refine Below.drewN' ?_ _))
  clear hb1
  go_wp2
  go_ret
  exact ⟨by rw [HE.out]; first | rfl | (simp; done) | (simp; omega), by (repeat (first | exact Below.refl _ _ | refine Below.drew ?_ | refine Below.allocS ?_ _ | refine Below.step ?_ (by assumption) | refine Below.setCell ?_ (by simp <;> omega) _ | refine Below.drewN' ?_ _))⟩
end Go.Proofs.YtimbdnngeoccdaaGreatDoor
