/-
  TransitAgrees: the walk.
-/
import Derived.Test.YtbcabckokmjelaaQ17
import Derived.Test.YtbcabckokmjelaaQ13
namespace Go.Proofs.Ytbcabckokmjelaa
open Go.RowKit
set_option linter.unusedVariables false
set_option linter.unusedSimpArgs false
theorem eqReach (a b c d : Int) (W : World) : (binOp .eql 54 (.agg #[.int .i64 a, .int .i64 b, .int .i64 c, .int .i64 d]) (.agg #[.int .i64 a, .int .i64 b, .int .i64 c, .int .i64 d])).run Try.prog W = .ok (.bool true) W := by
  simp [go_sem]
set_option maxHeartbeats 2000000 in
set_option maxRecDepth 100000 in
theorem TransitAgrees_walk (w : World) (x : Tb) (A : Option Addr) (cap : Nat) (l : List Tr) (hx : TbAt w x) (hl : l.length ≤ cap) (hm : cap ≤ maxLen) (hr : RdL w w.heap.size trE 5 A l) (ht : ∀ t ∈ l, TrAt w t) :
    Calls Try.prog 7 #[.agg #[.slice x.A x.xs.length x.ca, .int .i64 x.e], .slice A l.length cap] w fun e w' => e = .returned (.bool true) ∧ Below w.heap.size w w' := by
  have HW := Lib.hid (fun W (hb : Below w.heap.size w W) => wide_c x l A cap W (hx.step hb) hl hm (hr.step hb))
  have H1 := Lib.hid (fun W (hb : Below w.heap.size w W) => Agree_c x l A cap W (hx.step hb) hl hm (hr.step hb) (fun t h => (ht t h).step hb))
  have H2 := Lib.hid (fun W (hb : Below w.heap.size w W) => rAgree_c x l A cap W (hx.step hb) hl hm (hr.step hb) (fun t h => (ht t h).step hb))
  have H3 := Lib.hid (fun W (hb : Below w.heap.size w W) => Reach_c x l A cap W (hx.step hb) hl hm (hr.step hb) (fun t h => (ht t h).step hb))
  have H4 := Lib.hid (fun W (hb : Below w.heap.size w W) => rReach_c x l A cap W (hx.step hb) hl hm (hr.step hb) (fun t h => (ht t h).step hb))
  have H5 := Lib.hid (fun W (hb : Below w.heap.size w W) => Azimuth_c x l A cap W (hx.step hb) hl hm (hr.step hb) (fun t h => (ht t h).step hb))
  have H6 := Lib.hid (fun W (hb : Below w.heap.size w W) => rAzimuth_c x l A cap W (hx.step hb) hl hm (hr.step hb) (fun t h => (ht t h).step hb))
  clear hx hl hm hr ht
  unfold tlV at H3 H4 H5 H6
  generalize agE x l = vA at *
  generalize stErr x l = vE at *
  generalize reT x l = vR at *
  generalize azT x l = vZ at *
  have q1 := eqReach vR.a vR.b vR.c vR.d
  have q2 := eqReach vZ.a vZ.b vZ.c vZ.d
  go_enter Try.func7, Try.ntmps7
  go_wp2_with fail
  refine (HW.out _ (by (repeat (first | exact Below.refl _ _ | refine Below.drew ?_ | refine Below.allocS ?_ _ | refine Below.step ?_ (by assumption) | refine Below.setCell ?_ (by simp <;> omega) _ | refine Below.drewN' ?_ _)))).mono ?_
  rintro r0 w1 ⟨⟨X, rfl, -⟩, hb1⟩
  have x1_0_0 : w1.cell? ⟨w.heap.size, 0, none⟩ = some (.slice x.A x.xs.length x.ca) := keep_cell hb1 (by simp [go_sem, *])
  have x1_0_1 : w1.cell? ⟨w.heap.size, 1, none⟩ = some (.int .i64 x.e) := keep_cell hb1 (by simp [go_sem, *])
  have y1_0 : w.heap.size < w1.heap.size := cell?_lt x1_0_0
  have g1 : Below w.heap.size w w1 := by (repeat (first | exact Below.refl _ _ | refine Below.drew ?_ | refine Below.allocS ?_ _ | refine Below.step ?_ (by assumption) | refine Below.setCell ?_ (by simp <;> omega) _ | refine Below.drewN' ?_ _))
  clear hb1 HW
  cases X
  case true =>
    go_wp2_with fail
    refine (awake_c _).mono ?_
    rintro e w2 ⟨rfl, hb2⟩
    go_wp2
    go_ret
    exact ⟨rfl, by (repeat (first | exact Below.refl _ _ | refine Below.drew ?_ | refine Below.allocS ?_ _ | refine Below.step ?_ (by assumption) | refine Below.setCell ?_ (by simp <;> omega) _ | refine Below.drewN' ?_ _))⟩
  go_wp2_with fail
  refine (H1.out _ (by (repeat (first | exact Below.refl _ _ | refine Below.drew ?_ | refine Below.allocS ?_ _ | refine Below.step ?_ (by assumption) | refine Below.setCell ?_ (by simp <;> omega) _ | refine Below.drewN' ?_ _)))).mono ?_
  rintro e w2 ⟨rfl, hb2⟩
  have x2_0_0 : w2.cell? ⟨w.heap.size, 0, none⟩ = some (.slice x.A x.xs.length x.ca) := keep_cell hb2 (by simp [go_sem, *])
  have x2_0_1 : w2.cell? ⟨w.heap.size, 1, none⟩ = some (.int .i64 x.e) := keep_cell hb2 (by simp [go_sem, *])
  have y2_0 : w.heap.size < w2.heap.size := cell?_lt x2_0_0
  have g2 : Below w.heap.size w w2 := by (repeat (first | exact Below.refl _ _ | refine Below.drew ?_ | refine Below.allocS ?_ _ | refine Below.step ?_ (by assumption) | refine Below.setCell ?_ (by simp <;> omega) _ | refine Below.drewN' ?_ _))
  clear hb2
  go_wp2_with fail
  refine (H2.out _ (by (repeat (first | exact Below.refl _ _ | refine Below.drew ?_ | refine Below.allocS ?_ _ | refine Below.step ?_ (by assumption) | refine Below.setCell ?_ (by simp <;> omega) _ | refine Below.drewN' ?_ _)))).mono ?_
  rintro e w3 ⟨rfl, hb3⟩
  have x3_0_0 : w3.cell? ⟨w.heap.size, 0, none⟩ = some (.slice x.A x.xs.length x.ca) := keep_cell hb3 (by simp [go_sem, *])
  have x3_0_1 : w3.cell? ⟨w.heap.size, 1, none⟩ = some (.int .i64 x.e) := keep_cell hb3 (by simp [go_sem, *])
  have y3_0 : w.heap.size < w3.heap.size := cell?_lt x3_0_0
  have g3 : Below w.heap.size w w3 := by (repeat (first | exact Below.refl _ _ | refine Below.drew ?_ | refine Below.allocS ?_ _ | refine Below.step ?_ (by assumption) | refine Below.setCell ?_ (by simp <;> omega) _ | refine Below.drewN' ?_ _))
  clear hb3 g2 x2_0_0 x2_0_1 y2_0
  go_wp2_with fail
  refine (H3.out _ (by (repeat (first | exact Below.refl _ _ | refine Below.drew ?_ | refine Below.allocS ?_ _ | refine Below.step ?_ (by assumption) | refine Below.setCell ?_ (by simp <;> omega) _ | refine Below.drewN' ?_ _)))).mono ?_
  rintro e w4 ⟨rfl, hb4⟩
  have x4_0_0 : w4.cell? ⟨w.heap.size, 0, none⟩ = some (.slice x.A x.xs.length x.ca) := keep_cell hb4 (by simp [go_sem, *])
  have x4_0_1 : w4.cell? ⟨w.heap.size, 1, none⟩ = some (.int .i64 x.e) := keep_cell hb4 (by simp [go_sem, *])
  have y4_0 : w.heap.size < w4.heap.size := cell?_lt x4_0_0
  have g4 : Below w.heap.size w w4 := by (repeat (first | exact Below.refl _ _ | refine Below.drew ?_ | refine Below.allocS ?_ _ | refine Below.step ?_ (by assumption) | refine Below.setCell ?_ (by simp <;> omega) _ | refine Below.drewN' ?_ _))
  clear hb4 g3 x3_0_0 x3_0_1 y3_0
  go_wp2_with fail
  refine (H4.out _ (by (repeat (first | exact Below.refl _ _ | refine Below.drew ?_ | refine Below.allocS ?_ _ | refine Below.step ?_ (by assumption) | refine Below.setCell ?_ (by simp <;> omega) _ | refine Below.drewN' ?_ _)))).mono ?_
  rintro e w5 ⟨rfl, hb5⟩
  have x5_0_0 : w5.cell? ⟨w.heap.size, 0, none⟩ = some (.slice x.A x.xs.length x.ca) := keep_cell hb5 (by simp [go_sem, *])
  have x5_0_1 : w5.cell? ⟨w.heap.size, 1, none⟩ = some (.int .i64 x.e) := keep_cell hb5 (by simp [go_sem, *])
  have y5_0 : w.heap.size < w5.heap.size := cell?_lt x5_0_0
  have x5_1_0 : w5.cell? ⟨w4.heap.size, 0, none⟩ = some (.int .i64 vR.a) := keep_cell hb5 (by simp [go_sem, *])
  have x5_1_1 : w5.cell? ⟨w4.heap.size, 1, none⟩ = some (.int .i64 vR.b) := keep_cell hb5 (by simp [go_sem, *])
  have x5_1_2 : w5.cell? ⟨w4.heap.size, 2, none⟩ = some (.int .i64 vR.c) := keep_cell hb5 (by simp [go_sem, *])
  have x5_1_3 : w5.cell? ⟨w4.heap.size, 3, none⟩ = some (.int .i64 vR.d) := keep_cell hb5 (by simp [go_sem, *])
  have y5_1 : w4.heap.size < w5.heap.size := cell?_lt x5_1_0
  have g5 : Below w.heap.size w w5 := by (repeat (first | exact Below.refl _ _ | refine Below.drew ?_ | refine Below.allocS ?_ _ | refine Below.step ?_ (by assumption) | refine Below.setCell ?_ (by simp <;> omega) _ | refine Below.drewN' ?_ _))
  clear hb5 g4 x4_0_0 x4_0_1 y4_0
  go_wp2_with fail
  refine (H5.out _ (by (repeat (first | exact Below.refl _ _ | refine Below.drew ?_ | refine Below.allocS ?_ _ | refine Below.step ?_ (by assumption) | refine Below.setCell ?_ (by simp <;> omega) _ | refine Below.drewN' ?_ _)))).mono ?_
  rintro e w6 ⟨rfl, hb6⟩
  have x6_0_0 : w6.cell? ⟨w.heap.size, 0, none⟩ = some (.slice x.A x.xs.length x.ca) := keep_cell hb6 (by simp [go_sem, *])
  have x6_0_1 : w6.cell? ⟨w.heap.size, 1, none⟩ = some (.int .i64 x.e) := keep_cell hb6 (by simp [go_sem, *])
  have y6_0 : w.heap.size < w6.heap.size := cell?_lt x6_0_0
  have x6_1_0 : w6.cell? ⟨w4.heap.size, 0, none⟩ = some (.int .i64 vR.a) := keep_cell hb6 (by simp [go_sem, *])
  have x6_1_1 : w6.cell? ⟨w4.heap.size, 1, none⟩ = some (.int .i64 vR.b) := keep_cell hb6 (by simp [go_sem, *])
  have x6_1_2 : w6.cell? ⟨w4.heap.size, 2, none⟩ = some (.int .i64 vR.c) := keep_cell hb6 (by simp [go_sem, *])
  have x6_1_3 : w6.cell? ⟨w4.heap.size, 3, none⟩ = some (.int .i64 vR.d) := keep_cell hb6 (by simp [go_sem, *])
  have y6_1 : w4.heap.size < w6.heap.size := cell?_lt x6_1_0
  have x6_2_0 : w6.cell? ⟨w5.heap.size, 0, none⟩ = some (.int .i64 vR.a) := keep_cell hb6 (by simp [go_sem, *])
  have x6_2_1 : w6.cell? ⟨w5.heap.size, 1, none⟩ = some (.int .i64 vR.b) := keep_cell hb6 (by simp [go_sem, *])
  have x6_2_2 : w6.cell? ⟨w5.heap.size, 2, none⟩ = some (.int .i64 vR.c) := keep_cell hb6 (by simp [go_sem, *])
  have x6_2_3 : w6.cell? ⟨w5.heap.size, 3, none⟩ = some (.int .i64 vR.d) := keep_cell hb6 (by simp [go_sem, *])
  have y6_2 : w5.heap.size < w6.heap.size := cell?_lt x6_2_0
  have g6 : Below w.heap.size w w6 := by (repeat (first | exact Below.refl _ _ | refine Below.drew ?_ | refine Below.allocS ?_ _ | refine Below.step ?_ (by assumption) | refine Below.setCell ?_ (by simp <;> omega) _ | refine Below.drewN' ?_ _))
  clear hb6 g5 x5_0_0 x5_0_1 x5_1_0 x5_1_1 x5_1_2 x5_1_3 y5_0 y5_1
  go_wp2_with fail
  refine (H6.out _ (by (repeat (first | exact Below.refl _ _ | refine Below.drew ?_ | refine Below.allocS ?_ _ | refine Below.step ?_ (by assumption) | refine Below.setCell ?_ (by simp <;> omega) _ | refine Below.drewN' ?_ _)))).mono ?_
  rintro e w7 ⟨rfl, hb7⟩
  have x7_0_0 : w7.cell? ⟨w.heap.size, 0, none⟩ = some (.slice x.A x.xs.length x.ca) := keep_cell hb7 (by simp [go_sem, *])
  have x7_0_1 : w7.cell? ⟨w.heap.size, 1, none⟩ = some (.int .i64 x.e) := keep_cell hb7 (by simp [go_sem, *])
  have y7_0 : w.heap.size < w7.heap.size := cell?_lt x7_0_0
  have x7_1_0 : w7.cell? ⟨w4.heap.size, 0, none⟩ = some (.int .i64 vR.a) := keep_cell hb7 (by simp [go_sem, *])
  have x7_1_1 : w7.cell? ⟨w4.heap.size, 1, none⟩ = some (.int .i64 vR.b) := keep_cell hb7 (by simp [go_sem, *])
  have x7_1_2 : w7.cell? ⟨w4.heap.size, 2, none⟩ = some (.int .i64 vR.c) := keep_cell hb7 (by simp [go_sem, *])
  have x7_1_3 : w7.cell? ⟨w4.heap.size, 3, none⟩ = some (.int .i64 vR.d) := keep_cell hb7 (by simp [go_sem, *])
  have y7_1 : w4.heap.size < w7.heap.size := cell?_lt x7_1_0
  have x7_2_0 : w7.cell? ⟨w5.heap.size, 0, none⟩ = some (.int .i64 vR.a) := keep_cell hb7 (by simp [go_sem, *])
  have x7_2_1 : w7.cell? ⟨w5.heap.size, 1, none⟩ = some (.int .i64 vR.b) := keep_cell hb7 (by simp [go_sem, *])
  have x7_2_2 : w7.cell? ⟨w5.heap.size, 2, none⟩ = some (.int .i64 vR.c) := keep_cell hb7 (by simp [go_sem, *])
  have x7_2_3 : w7.cell? ⟨w5.heap.size, 3, none⟩ = some (.int .i64 vR.d) := keep_cell hb7 (by simp [go_sem, *])
  have y7_2 : w5.heap.size < w7.heap.size := cell?_lt x7_2_0
  have x7_3_0 : w7.cell? ⟨w6.heap.size, 0, none⟩ = some (.int .i64 vZ.a) := keep_cell hb7 (by simp [go_sem, *])
  have x7_3_1 : w7.cell? ⟨w6.heap.size, 1, none⟩ = some (.int .i64 vZ.b) := keep_cell hb7 (by simp [go_sem, *])
  have x7_3_2 : w7.cell? ⟨w6.heap.size, 2, none⟩ = some (.int .i64 vZ.c) := keep_cell hb7 (by simp [go_sem, *])
  have x7_3_3 : w7.cell? ⟨w6.heap.size, 3, none⟩ = some (.int .i64 vZ.d) := keep_cell hb7 (by simp [go_sem, *])
  have y7_3 : w6.heap.size < w7.heap.size := cell?_lt x7_3_0
  have g7 : Below w.heap.size w w7 := by (repeat (first | exact Below.refl _ _ | refine Below.drew ?_ | refine Below.allocS ?_ _ | refine Below.step ?_ (by assumption) | refine Below.setCell ?_ (by simp <;> omega) _ | refine Below.drewN' ?_ _))
  clear hb7 g6 x6_0_0 x6_0_1 x6_1_0 x6_1_1 x6_1_2 x6_1_3 x6_2_0 x6_2_1 x6_2_2 x6_2_3 y6_0 y6_1 y6_2
  go_wp2_with fail
  refine (awake_c _).mono ?_
  rintro e w8 ⟨rfl, hb8⟩
  go_wp2
  go_ret
  exact ⟨rfl, by (repeat (first | exact Below.refl _ _ | refine Below.drew ?_ | refine Below.allocS ?_ _ | refine Below.step ?_ (by assumption) | refine Below.setCell ?_ (by simp <;> omega) _ | refine Below.drewN' ?_ _))⟩
end Go.Proofs.Ytbcabckokmjelaa
