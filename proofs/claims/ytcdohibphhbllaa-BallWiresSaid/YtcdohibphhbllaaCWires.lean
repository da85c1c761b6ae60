/-
  The walk of the law BallWires: ValidWire, Lag, Send and Falls of ball and of its reference answer the same. No conditions.
-/
import Derived.Test.YtcdohibphhbllaaC0
namespace Go.Proofs.Ytcdohibphhbllaa
open Go.RowKit
set_option linter.unusedVariables false
set_option maxHeartbeats 1000000 in
theorem BallWires_walk (w : World) (A0 : Option Addr) (c0 : Nat) (l0 : List Rl) (t : Int) (n0 : l0.length ≤ c0) (m0 : c0 ≤ maxLen) (r0 : RdL w w.heap.size rlE 2 A0 l0) (w0 : ∀ x ∈ l0, ∃ g : Nat → Int, x = (fun g => (⟨g 0, g 1⟩ : Rl)) g ∧ ∀ j, j < 2 → I64 (g j)) (w1 : I64 t) :
    Calls Try.prog 9 #[.slice A0 l0.length c0, .int .i64 t] w fun e w' => e = .returned (.bool true) ∧ Below w.heap.size w w' := by
  have hl : l0.length ≤ 9223372036854775807 := by unfold maxLen at m0; omega
  have H1 := Lib.hid (fun W (hb : Below w.heap.size w W) => Lag_c l0 A0 c0 hl W (r0.step hb))
  have H2 := Lib.hid (fun W (hb : Below w.heap.size w W) => rLag_c l0 A0 c0 hl W (r0.step hb))
  have H3 := Lib.hid (fun W (hb : Below w.heap.size w W) => Send_c l0 t A0 c0 hl W (r0.step hb))
  have H4 := Lib.hid (fun W (hb : Below w.heap.size w W) => rSend_c l0 t A0 c0 hl W (r0.step hb))
  have H5 := Lib.hid (fun W (hb : Below w.heap.size w W) => Falls_c l0 t A0 c0 hl W (r0.step hb))
  have H6 := Lib.hid (fun W (hb : Below w.heap.size w W) => rFalls_c l0 t A0 c0 hl W (r0.step hb))
  have H7 := Lib.hid (fun W (hb : Below w.heap.size w W) => ValidWire_c l0 A0 c0 hl W (r0.step hb))
  have H8 := Lib.hid (fun W (hb : Below w.heap.size w W) => rValidWire_c l0 A0 c0 hl W (r0.step hb))
  clear r0 w0 w1 m0 n0
  generalize lagLo l0 = v1 at *
  generalize lagHi l0 = v2 at *
  generalize lagE l0 = v3 at *
  generalize sendV l0 t = v4 at *
  generalize sendE l0 t = v5 at *
  generalize fallLo l0 t = v6 at *
  generalize fallHi l0 t = v7 at *
  generalize fallE l0 t = v8 at *
  generalize okWire l0 = v9 at *
  by_cases hlong : 100 < (l0.length : Int)
  · go_enter Try.func9, Try.ntmps9
    go_wp2_with (go_at_call 14; (with_reducible refine (awake_c _).mono ?_); rintro e w1 ⟨rfl, hb⟩; obtain ⟨hc, hf⟩ := bcell hb; have hz := hb.size; (try simp at hz); (try have hz0 : w.heap.size < w1.heap.size := by omega); (try have hz1 : w.heap.size + 1 < w1.heap.size := by omega); (try have hz2 : w.heap.size + 1 + 1 < w1.heap.size := by omega); (try have hz3 : w.heap.size + 1 + 1 + 1 < w1.heap.size := by omega); (try have hz4 : w.heap.size + 1 + 1 + 1 + 1 < w1.heap.size := by omega); (try have hz5 : w.heap.size + 1 + 1 + 1 + 1 + 1 < w1.heap.size := by omega))
    go_ret
    exact ⟨rfl, by (repeat (first | (with_reducible exact Below.refl _ _) | (with_reducible assumption) | (with_reducible refine Below.drew ?_) | (with_reducible refine Below.allocS ?_ _) | (with_reducible refine Below.setCell ?_ ?_ _) | (with_reducible refine Below.step ?_ (by assumption)) | (with_reducible refine Below.drewN' ?_ _))); (try any_goals (first | (with_reducible assumption) | (simp; done) | (simp; omega) | omega))⟩
  · have hd : decide (100 < (l0.length : Int)) = false := by simpa using hlong
    go_enter Try.func9, Try.ntmps9
    go_wp2_with fail
    refine (H1.out _ (by (repeat (first | (with_reducible exact Below.refl _ _) | (with_reducible assumption) | (with_reducible refine Below.drew ?_) | (with_reducible refine Below.allocS ?_ _) | (with_reducible refine Below.setCell ?_ ?_ _) | (with_reducible refine Below.step ?_ (by assumption)) | (with_reducible refine Below.drewN' ?_ _))); (try any_goals (first | (with_reducible assumption) | (simp; done) | (simp; omega) | omega)))).mono ?_
    rintro e w1 ⟨rfl, hb1⟩
    have g1 : Below w.heap.size w w1 := by (repeat (first | exact Below.refl _ _ | refine Below.drew ?_ | refine Below.allocS ?_ _ | refine Below.step ?_ (by assumption) | refine Below.setCell ?_ (by simp <;> omega) _ | refine Below.drewN' ?_ _))
    clear hb1
    go_wp2_with fail
    refine (H2.out _ (by (repeat (first | (with_reducible exact Below.refl _ _) | (with_reducible assumption) | (with_reducible refine Below.drew ?_) | (with_reducible refine Below.allocS ?_ _) | (with_reducible refine Below.setCell ?_ ?_ _) | (with_reducible refine Below.step ?_ (by assumption)) | (with_reducible refine Below.drewN' ?_ _))); (try any_goals (first | (with_reducible assumption) | (simp; done) | (simp; omega) | omega)))).mono ?_
    rintro e w2 ⟨rfl, hb2⟩
    have x2_0_0 : w2.cell? ⟨w1.heap.size, 0, none⟩ = some (.int .i64 v1) := keep_cell hb2 (by simp [go_sem, *])
    have x2_0_1 : w2.cell? ⟨w1.heap.size, 1, none⟩ = some (.int .i64 v2) := keep_cell hb2 (by simp [go_sem, *])
    have y2_0 : w1.heap.size < w2.heap.size := cell?_lt x2_0_0
    have g2 : Below w.heap.size w w2 := by (repeat (first | exact Below.refl _ _ | refine Below.drew ?_ | refine Below.allocS ?_ _ | refine Below.step ?_ (by assumption) | refine Below.setCell ?_ (by simp <;> omega) _ | refine Below.drewN' ?_ _))
    clear hb2
    go_wp2_with fail
    refine (H3.out _ (by (repeat (first | (with_reducible exact Below.refl _ _) | (with_reducible assumption) | (with_reducible refine Below.drew ?_) | (with_reducible refine Below.allocS ?_ _) | (with_reducible refine Below.setCell ?_ ?_ _) | (with_reducible refine Below.step ?_ (by assumption)) | (with_reducible refine Below.drewN' ?_ _))); (try any_goals (first | (with_reducible assumption) | (simp; done) | (simp; omega) | omega)))).mono ?_
    rintro e w3 ⟨rfl, hb3⟩
    have x3_0_0 : w3.cell? ⟨w1.heap.size, 0, none⟩ = some (.int .i64 v1) := keep_cell hb3 (by simp [go_sem, *])
    have x3_0_1 : w3.cell? ⟨w1.heap.size, 1, none⟩ = some (.int .i64 v2) := keep_cell hb3 (by simp [go_sem, *])
    have y3_0 : w1.heap.size < w3.heap.size := cell?_lt x3_0_0
    have x3_1_0 : w3.cell? ⟨w2.heap.size, 0, none⟩ = some (.int .i64 v1) := keep_cell hb3 (by simp [go_sem, *])
    have x3_1_1 : w3.cell? ⟨w2.heap.size, 1, none⟩ = some (.int .i64 v2) := keep_cell hb3 (by simp [go_sem, *])
    have y3_1 : w2.heap.size < w3.heap.size := cell?_lt x3_1_0
    have g3 : Below w.heap.size w w3 := by (repeat (first | exact Below.refl _ _ | refine Below.drew ?_ | refine Below.allocS ?_ _ | refine Below.step ?_ (by assumption) | refine Below.setCell ?_ (by simp <;> omega) _ | refine Below.drewN' ?_ _))
    clear hb3 g2 x2_0_0 x2_0_1 y2_0
    go_wp2_with fail
    refine (H4.out _ (by (repeat (first | (with_reducible exact Below.refl _ _) | (with_reducible assumption) | (with_reducible refine Below.drew ?_) | (with_reducible refine Below.allocS ?_ _) | (with_reducible refine Below.setCell ?_ ?_ _) | (with_reducible refine Below.step ?_ (by assumption)) | (with_reducible refine Below.drewN' ?_ _))); (try any_goals (first | (with_reducible assumption) | (simp; done) | (simp; omega) | omega)))).mono ?_
    rintro e w4 ⟨rfl, hb4⟩
    have x4_0_0 : w4.cell? ⟨w1.heap.size, 0, none⟩ = some (.int .i64 v1) := keep_cell hb4 (by simp [go_sem, *])
    have x4_0_1 : w4.cell? ⟨w1.heap.size, 1, none⟩ = some (.int .i64 v2) := keep_cell hb4 (by simp [go_sem, *])
    have y4_0 : w1.heap.size < w4.heap.size := cell?_lt x4_0_0
    have x4_1_0 : w4.cell? ⟨w2.heap.size, 0, none⟩ = some (.int .i64 v1) := keep_cell hb4 (by simp [go_sem, *])
    have x4_1_1 : w4.cell? ⟨w2.heap.size, 1, none⟩ = some (.int .i64 v2) := keep_cell hb4 (by simp [go_sem, *])
    have y4_1 : w2.heap.size < w4.heap.size := cell?_lt x4_1_0
    have g4 : Below w.heap.size w w4 := by (repeat (first | exact Below.refl _ _ | refine Below.drew ?_ | refine Below.allocS ?_ _ | refine Below.step ?_ (by assumption) | refine Below.setCell ?_ (by simp <;> omega) _ | refine Below.drewN' ?_ _))
    clear hb4 g3 x3_0_0 x3_0_1 x3_1_0 x3_1_1 y3_0 y3_1
    go_wp2_with fail
    refine (H5.out _ (by (repeat (first | (with_reducible exact Below.refl _ _) | (with_reducible assumption) | (with_reducible refine Below.drew ?_) | (with_reducible refine Below.allocS ?_ _) | (with_reducible refine Below.setCell ?_ ?_ _) | (with_reducible refine Below.step ?_ (by assumption)) | (with_reducible refine Below.drewN' ?_ _))); (try any_goals (first | (with_reducible assumption) | (simp; done) | (simp; omega) | omega)))).mono ?_
    rintro e w5 ⟨rfl, hb5⟩
    have x5_0_0 : w5.cell? ⟨w1.heap.size, 0, none⟩ = some (.int .i64 v1) := keep_cell hb5 (by simp [go_sem, *])
    have x5_0_1 : w5.cell? ⟨w1.heap.size, 1, none⟩ = some (.int .i64 v2) := keep_cell hb5 (by simp [go_sem, *])
    have y5_0 : w1.heap.size < w5.heap.size := cell?_lt x5_0_0
    have x5_1_0 : w5.cell? ⟨w2.heap.size, 0, none⟩ = some (.int .i64 v1) := keep_cell hb5 (by simp [go_sem, *])
    have x5_1_1 : w5.cell? ⟨w2.heap.size, 1, none⟩ = some (.int .i64 v2) := keep_cell hb5 (by simp [go_sem, *])
    have y5_1 : w2.heap.size < w5.heap.size := cell?_lt x5_1_0
    have g5 : Below w.heap.size w w5 := by (repeat (first | exact Below.refl _ _ | refine Below.drew ?_ | refine Below.allocS ?_ _ | refine Below.step ?_ (by assumption) | refine Below.setCell ?_ (by simp <;> omega) _ | refine Below.drewN' ?_ _))
    clear hb5 g4 x4_0_0 x4_0_1 x4_1_0 x4_1_1 y4_0 y4_1
    go_wp2_with fail
    refine (H6.out _ (by (repeat (first | (with_reducible exact Below.refl _ _) | (with_reducible assumption) | (with_reducible refine Below.drew ?_) | (with_reducible refine Below.allocS ?_ _) | (with_reducible refine Below.setCell ?_ ?_ _) | (with_reducible refine Below.step ?_ (by assumption)) | (with_reducible refine Below.drewN' ?_ _))); (try any_goals (first | (with_reducible assumption) | (simp; done) | (simp; omega) | omega)))).mono ?_
    rintro e w6 ⟨rfl, hb6⟩
    have x6_0_0 : w6.cell? ⟨w1.heap.size, 0, none⟩ = some (.int .i64 v1) := keep_cell hb6 (by simp [go_sem, *])
    have x6_0_1 : w6.cell? ⟨w1.heap.size, 1, none⟩ = some (.int .i64 v2) := keep_cell hb6 (by simp [go_sem, *])
    have y6_0 : w1.heap.size < w6.heap.size := cell?_lt x6_0_0
    have x6_1_0 : w6.cell? ⟨w2.heap.size, 0, none⟩ = some (.int .i64 v1) := keep_cell hb6 (by simp [go_sem, *])
    have x6_1_1 : w6.cell? ⟨w2.heap.size, 1, none⟩ = some (.int .i64 v2) := keep_cell hb6 (by simp [go_sem, *])
    have y6_1 : w2.heap.size < w6.heap.size := cell?_lt x6_1_0
    have x6_2_0 : w6.cell? ⟨w5.heap.size, 0, none⟩ = some (.int .i64 v6) := keep_cell hb6 (by simp [go_sem, *])
    have x6_2_1 : w6.cell? ⟨w5.heap.size, 1, none⟩ = some (.int .i64 v7) := keep_cell hb6 (by simp [go_sem, *])
    have y6_2 : w5.heap.size < w6.heap.size := cell?_lt x6_2_0
    have g6 : Below w.heap.size w w6 := by (repeat (first | exact Below.refl _ _ | refine Below.drew ?_ | refine Below.allocS ?_ _ | refine Below.step ?_ (by assumption) | refine Below.setCell ?_ (by simp <;> omega) _ | refine Below.drewN' ?_ _))
    clear hb6 g5 x5_0_0 x5_0_1 x5_1_0 x5_1_1 y5_0 y5_1
    go_wp2_with fail
    refine (H7.out _ (by (repeat (first | (with_reducible exact Below.refl _ _) | (with_reducible assumption) | (with_reducible refine Below.drew ?_) | (with_reducible refine Below.allocS ?_ _) | (with_reducible refine Below.setCell ?_ ?_ _) | (with_reducible refine Below.step ?_ (by assumption)) | (with_reducible refine Below.drewN' ?_ _))); (try any_goals (first | (with_reducible assumption) | (simp; done) | (simp; omega) | omega)))).mono ?_
    rintro e w7 ⟨rfl, hb7⟩
    have x7_0_0 : w7.cell? ⟨w1.heap.size, 0, none⟩ = some (.int .i64 v1) := keep_cell hb7 (by simp [go_sem, *])
    have x7_0_1 : w7.cell? ⟨w1.heap.size, 1, none⟩ = some (.int .i64 v2) := keep_cell hb7 (by simp [go_sem, *])
    have y7_0 : w1.heap.size < w7.heap.size := cell?_lt x7_0_0
    have x7_1_0 : w7.cell? ⟨w2.heap.size, 0, none⟩ = some (.int .i64 v1) := keep_cell hb7 (by simp [go_sem, *])
    have x7_1_1 : w7.cell? ⟨w2.heap.size, 1, none⟩ = some (.int .i64 v2) := keep_cell hb7 (by simp [go_sem, *])
    have y7_1 : w2.heap.size < w7.heap.size := cell?_lt x7_1_0
    have x7_2_0 : w7.cell? ⟨w5.heap.size, 0, none⟩ = some (.int .i64 v6) := keep_cell hb7 (by simp [go_sem, *])
    have x7_2_1 : w7.cell? ⟨w5.heap.size, 1, none⟩ = some (.int .i64 v7) := keep_cell hb7 (by simp [go_sem, *])
    have y7_2 : w5.heap.size < w7.heap.size := cell?_lt x7_2_0
    have x7_3_0 : w7.cell? ⟨w6.heap.size, 0, none⟩ = some (.int .i64 v6) := keep_cell hb7 (by simp [go_sem, *])
    have x7_3_1 : w7.cell? ⟨w6.heap.size, 1, none⟩ = some (.int .i64 v7) := keep_cell hb7 (by simp [go_sem, *])
    have y7_3 : w6.heap.size < w7.heap.size := cell?_lt x7_3_0
    have g7 : Below w.heap.size w w7 := by (repeat (first | exact Below.refl _ _ | refine Below.drew ?_ | refine Below.allocS ?_ _ | refine Below.step ?_ (by assumption) | refine Below.setCell ?_ (by simp <;> omega) _ | refine Below.drewN' ?_ _))
    clear hb7 g6 x6_0_0 x6_0_1 x6_1_0 x6_1_1 x6_2_0 x6_2_1 y6_0 y6_1 y6_2
    go_wp2_with fail
    refine (H8.out _ (by (repeat (first | (with_reducible exact Below.refl _ _) | (with_reducible assumption) | (with_reducible refine Below.drew ?_) | (with_reducible refine Below.allocS ?_ _) | (with_reducible refine Below.setCell ?_ ?_ _) | (with_reducible refine Below.step ?_ (by assumption)) | (with_reducible refine Below.drewN' ?_ _))); (try any_goals (first | (with_reducible assumption) | (simp; done) | (simp; omega) | omega)))).mono ?_
    rintro e w8 ⟨rfl, hb8⟩
    have x8_0_0 : w8.cell? ⟨w1.heap.size, 0, none⟩ = some (.int .i64 v1) := keep_cell hb8 (by simp [go_sem, *])
    have x8_0_1 : w8.cell? ⟨w1.heap.size, 1, none⟩ = some (.int .i64 v2) := keep_cell hb8 (by simp [go_sem, *])
    have y8_0 : w1.heap.size < w8.heap.size := cell?_lt x8_0_0
    have x8_1_0 : w8.cell? ⟨w2.heap.size, 0, none⟩ = some (.int .i64 v1) := keep_cell hb8 (by simp [go_sem, *])
    have x8_1_1 : w8.cell? ⟨w2.heap.size, 1, none⟩ = some (.int .i64 v2) := keep_cell hb8 (by simp [go_sem, *])
    have y8_1 : w2.heap.size < w8.heap.size := cell?_lt x8_1_0
    have x8_2_0 : w8.cell? ⟨w5.heap.size, 0, none⟩ = some (.int .i64 v6) := keep_cell hb8 (by simp [go_sem, *])
    have x8_2_1 : w8.cell? ⟨w5.heap.size, 1, none⟩ = some (.int .i64 v7) := keep_cell hb8 (by simp [go_sem, *])
    have y8_2 : w5.heap.size < w8.heap.size := cell?_lt x8_2_0
    have x8_3_0 : w8.cell? ⟨w6.heap.size, 0, none⟩ = some (.int .i64 v6) := keep_cell hb8 (by simp [go_sem, *])
    have x8_3_1 : w8.cell? ⟨w6.heap.size, 1, none⟩ = some (.int .i64 v7) := keep_cell hb8 (by simp [go_sem, *])
    have y8_3 : w6.heap.size < w8.heap.size := cell?_lt x8_3_0
    have g8 : Below w.heap.size w w8 := by (repeat (first | exact Below.refl _ _ | refine Below.drew ?_ | refine Below.allocS ?_ _ | refine Below.step ?_ (by assumption) | refine Below.setCell ?_ (by simp <;> omega) _ | refine Below.drewN' ?_ _))
    clear hb8 g7 x7_0_0 x7_0_1 x7_1_0 x7_1_1 x7_2_0 x7_2_1 x7_3_0 x7_3_1 y7_0 y7_1 y7_2 y7_3
    go_wp2_with (go_at_call 14; (with_reducible refine (awake_c _).mono ?_); rintro e w1 ⟨rfl, hb⟩; obtain ⟨hc, hf⟩ := bcell hb; have hz := hb.size; (try simp at hz); (try have hz0 : w.heap.size < w1.heap.size := by omega); (try have hz1 : w.heap.size + 1 < w1.heap.size := by omega); (try have hz2 : w.heap.size + 1 + 1 < w1.heap.size := by omega); (try have hz3 : w.heap.size + 1 + 1 + 1 < w1.heap.size := by omega); (try have hz4 : w.heap.size + 1 + 1 + 1 + 1 < w1.heap.size := by omega); (try have hz5 : w.heap.size + 1 + 1 + 1 + 1 + 1 < w1.heap.size := by omega))
    go_ret
    exact ⟨rfl, by (repeat (first | (with_reducible exact Below.refl _ _) | (with_reducible assumption) | (with_reducible refine Below.drew ?_) | (with_reducible refine Below.allocS ?_ _) | (with_reducible refine Below.setCell ?_ ?_ _) | (with_reducible refine Below.step ?_ (by assumption)) | (with_reducible refine Below.drewN' ?_ _))); (try any_goals (first | (with_reducible assumption) | (simp; done) | (simp; omega) | omega))⟩
end Go.Proofs.Ytcdohibphhbllaa
