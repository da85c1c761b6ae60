/-
  TransitSuits: the walk. Printed by gen_suits.py.
-/
import Derived.Test.YtbcabckokmjelaaK7
import Derived.Test.YtbcabckokmjelaaEFits
namespace Go.Proofs.Ytbcabckokmjelaa
open Go.RowKit
set_option linter.unusedVariables false
set_option linter.unusedSimpArgs false
set_option maxHeartbeats 4000000 in
set_option maxRecDepth 100000 in
theorem TransitSuits_walk (w : World) (x : Tb) (A : Option Addr) (cap : Nat) (l : List Tr) (en ed an ad : Int) (hx : TbAt w x) (hl : l.length ≤ cap) (hm : cap ≤ maxLen) (hr : RdL w w.heap.size trE 5 A l) (hls : ∀ t ∈ l, TrAt w t) (y0 : I64 en) (y1 : I64 ed) (y2 : I64 an) (y3 : I64 ad) :
    Calls Try.prog 10 #[.agg #[.slice x.A x.xs.length x.ca, .int .i64 x.e], .slice A l.length cap, .agg #[.int .i64 en, .int .i64 ed, .int .i64 an, .int .i64 ad]] w fun e w' => e = .returned (.bool true) ∧ Below w.heap.size w w' := by
  have HW := Lib.hid (fun W (hb : Below w.heap.size w W) => wide_c x l A cap W (hx.step hb) hl hm (hr.step hb))
  have H1 := Lib.hid (fun W (hb : Below w.heap.size w W) => Suits_c x l en ed an ad A cap W (hx.step hb) hl hm (hr.step hb) (fun t h => (hls t h).step hb))
  have H2 := Lib.hid (fun W (hb : Below w.heap.size w W) => rSuits_c x l en ed an ad A cap W (hx.step hb) hl hm (hr.step hb) (fun t h => (hls t h).step hb))
  have H3 := Lib.hid (fun W (hb : Below w.heap.size w W) => Agree_c x l A cap W (hx.step hb) hl hm (hr.step hb) (fun t h => (hls t h).step hb))
  have H4 := Lib.hid (fun W (hb : Below w.heap.size w W) => Reach_c x l A cap W (hx.step hb) hl hm (hr.step hb) (fun t h => (hls t h).step hb))
  have H5 := Lib.hid (fun W (hb : Below w.heap.size w W) => Azimuth_c x l A cap W (hx.step hb) hl hm (hr.step hb) (fun t h => (hls t h).step hb))
  obtain ⟨n1, n2, n3⟩ := suit_r x l en ed an ad
  clear hx hl hm hr hls y0 y1 y2 y3
  unfold tlV at H4 H5
  generalize suB x l en ed an ad = su at *
  generalize suE x l en ed an ad = se at *
  generalize reT x l = R1 at *
  generalize azT x l = R2 at *
  generalize agE x l = a1 at *
  generalize stErr x l = e1 at *
  have HC1 := Lib.hid (fun W => Compare_c R1.a R1.b en ed W)
  have HC2 := Lib.hid (fun W => Compare_c en ed R1.c R1.d W)
  have HC3 := Lib.hid (fun W => Compare_c R2.a R2.b an ad W)
  have HC4 := Lib.hid (fun W => Compare_c an ad R2.c R2.d W)
  generalize cmpR R1.a R1.b en ed = v1 at *
  generalize cmpR en ed R1.c R1.d = v2 at *
  generalize cmpR R2.a R2.b an ad = v3 at *
  generalize cmpR an ad R2.c R2.d = v4 at *
  obtain ⟨ra, rb, rc, rd, re⟩ := R1
  obtain ⟨sa, sb, sc, sd, sf⟩ := R2
  simp only at H4 H5 HC1 HC2 HC3 HC4 n2 n3
  cases su
  case false =>
    clear n1 n2 n3 H3 H4 H5 HC1 HC2 HC3 HC4
    go_enter Try.func10, Try.ntmps10
    go_wp2_with fail
    refine (HW.out _ (by (repeat (first | exact Below.refl _ _ | refine Below.drew ?_ | refine Below.allocS ?_ _ | refine Below.step ?_ (by assumption) | refine Below.setCell ?_ (by simp <;> omega) _ | refine Below.drewN' ?_ _)))).mono ?_
    rintro e w1 ⟨⟨X, rfl, -⟩, hb1⟩
    have x1_0_0 : w1.cell? ⟨w.heap.size, 0, none⟩ = some (.slice x.A x.xs.length x.ca) := keep_cell hb1 (by simp [go_sem, *])
    have x1_0_1 : w1.cell? ⟨w.heap.size, 1, none⟩ = some (.int .i64 x.e) := keep_cell hb1 (by simp [go_sem, *])
    have y1_0 : w.heap.size < w1.heap.size := cell?_lt x1_0_0
    have x1_1_0 : w1.cell? ⟨w.heap.size + 1, 0, none⟩ = some (.int .i64 en) := keep_cell hb1 (by simp [go_sem, *])
    have x1_1_1 : w1.cell? ⟨w.heap.size + 1, 1, none⟩ = some (.int .i64 ed) := keep_cell hb1 (by simp [go_sem, *])
    have x1_1_2 : w1.cell? ⟨w.heap.size + 1, 2, none⟩ = some (.int .i64 an) := keep_cell hb1 (by simp [go_sem, *])
    have x1_1_3 : w1.cell? ⟨w.heap.size + 1, 3, none⟩ = some (.int .i64 ad) := keep_cell hb1 (by simp [go_sem, *])
    have y1_1 : w.heap.size + 1 < w1.heap.size := cell?_lt x1_1_0
    have g1 : Below w.heap.size w w1 := by (repeat (first | exact Below.refl _ _ | refine Below.drew ?_ | refine Below.allocS ?_ _ | refine Below.step ?_ (by assumption) | refine Below.setCell ?_ (by simp <;> omega) _ | refine Below.drewN' ?_ _))
    clear hb1
    cases X
    case true =>
      go_wp2_with fail
      refine (awake_c _).mono ?_
      rintro e w2 ⟨rfl, hb2⟩
      go_wp2
      go_ret
      exact ⟨rfl, by (repeat (first | exact Below.refl _ _ | refine Below.drew ?_ | refine Below.allocS ?_ _ | refine Below.step ?_ (by assumption) | refine Below.setCell ?_ (by simp <;> omega) _ | refine Below.drewN' ?_ _))⟩
    go_wp2_with fail
    refine (H1.out _ (by (repeat (first | exact Below.refl _ _ | refine Below.drew ?_ | refine Below.allocS ?_ _ | refine Below.step ?_ (by assumption) | refine Below.setCell ?_ (by simp <;> omega) _ | refine Below.drewN' ?_ _)))).mono ?_
    rintro e w2 ⟨rfl, hb2⟩
    have x2_0_0 : w2.cell? ⟨w.heap.size, 0, none⟩ = some (.slice x.A x.xs.length x.ca) := keep_cell hb2 (by simp [go_sem, *])
    have x2_0_1 : w2.cell? ⟨w.heap.size, 1, none⟩ = some (.int .i64 x.e) := keep_cell hb2 (by simp [go_sem, *])
    have y2_0 : w.heap.size < w2.heap.size := cell?_lt x2_0_0
    have x2_1_0 : w2.cell? ⟨w.heap.size + 1, 0, none⟩ = some (.int .i64 en) := keep_cell hb2 (by simp [go_sem, *])
    have x2_1_1 : w2.cell? ⟨w.heap.size + 1, 1, none⟩ = some (.int .i64 ed) := keep_cell hb2 (by simp [go_sem, *])
    have x2_1_2 : w2.cell? ⟨w.heap.size + 1, 2, none⟩ = some (.int .i64 an) := keep_cell hb2 (by simp [go_sem, *])
    have x2_1_3 : w2.cell? ⟨w.heap.size + 1, 3, none⟩ = some (.int .i64 ad) := keep_cell hb2 (by simp [go_sem, *])
    have y2_1 : w.heap.size + 1 < w2.heap.size := cell?_lt x2_1_0
    have g2 : Below w.heap.size w w2 := by (repeat (first | exact Below.refl _ _ | refine Below.drew ?_ | refine Below.allocS ?_ _ | refine Below.step ?_ (by assumption) | refine Below.setCell ?_ (by simp <;> omega) _ | refine Below.drewN' ?_ _))
    clear hb2 g1 x1_0_0 x1_0_1 x1_1_0 x1_1_1 x1_1_2 x1_1_3 y1_0 y1_1
    go_wp2_with fail
    refine (H2.out _ (by (repeat (first | exact Below.refl _ _ | refine Below.drew ?_ | refine Below.allocS ?_ _ | refine Below.step ?_ (by assumption) | refine Below.setCell ?_ (by simp <;> omega) _ | refine Below.drewN' ?_ _)))).mono ?_
    rintro e w3 ⟨rfl, hb3⟩
    have x3_0_0 : w3.cell? ⟨w.heap.size, 0, none⟩ = some (.slice x.A x.xs.length x.ca) := keep_cell hb3 (by simp [go_sem, *])
    have x3_0_1 : w3.cell? ⟨w.heap.size, 1, none⟩ = some (.int .i64 x.e) := keep_cell hb3 (by simp [go_sem, *])
    have y3_0 : w.heap.size < w3.heap.size := cell?_lt x3_0_0
    have x3_1_0 : w3.cell? ⟨w.heap.size + 1, 0, none⟩ = some (.int .i64 en) := keep_cell hb3 (by simp [go_sem, *])
    have x3_1_1 : w3.cell? ⟨w.heap.size + 1, 1, none⟩ = some (.int .i64 ed) := keep_cell hb3 (by simp [go_sem, *])
    have x3_1_2 : w3.cell? ⟨w.heap.size + 1, 2, none⟩ = some (.int .i64 an) := keep_cell hb3 (by simp [go_sem, *])
    have x3_1_3 : w3.cell? ⟨w.heap.size + 1, 3, none⟩ = some (.int .i64 ad) := keep_cell hb3 (by simp [go_sem, *])
    have y3_1 : w.heap.size + 1 < w3.heap.size := cell?_lt x3_1_0
    have g3 : Below w.heap.size w w3 := by (repeat (first | exact Below.refl _ _ | refine Below.drew ?_ | refine Below.allocS ?_ _ | refine Below.step ?_ (by assumption) | refine Below.setCell ?_ (by simp <;> omega) _ | refine Below.drewN' ?_ _))
    clear hb3 g2 x2_0_0 x2_0_1 x2_1_0 x2_1_1 x2_1_2 x2_1_3 y2_0 y2_1
    go_wp2_with fail
    refine (awake_c _).mono ?_
    rintro e w4 ⟨rfl, hb4⟩
    go_wp2
    go_ret
    exact ⟨rfl, by (repeat (first | exact Below.refl _ _ | refine Below.drew ?_ | refine Below.allocS ?_ _ | refine Below.step ?_ (by assumption) | refine Below.setCell ?_ (by simp <;> omega) _ | refine Below.drewN' ?_ _))⟩
  case true =>
    obtain ⟨rfl, rfl⟩ := n1 rfl
    replace n2 := n2 rfl
    replace n3 := n3 rfl
    clear n1
    go_enter Try.func10, Try.ntmps10
    go_wp2_with fail
    refine (HW.out _ (by (repeat (first | exact Below.refl _ _ | refine Below.drew ?_ | refine Below.allocS ?_ _ | refine Below.step ?_ (by assumption) | refine Below.setCell ?_ (by simp <;> omega) _ | refine Below.drewN' ?_ _)))).mono ?_
    rintro e w1 ⟨⟨X, rfl, -⟩, hb1⟩
    have x1_0_0 : w1.cell? ⟨w.heap.size, 0, none⟩ = some (.slice x.A x.xs.length x.ca) := keep_cell hb1 (by simp [go_sem, *])
    have x1_0_1 : w1.cell? ⟨w.heap.size, 1, none⟩ = some (.int .i64 x.e) := keep_cell hb1 (by simp [go_sem, *])
    have y1_0 : w.heap.size < w1.heap.size := cell?_lt x1_0_0
    have x1_1_0 : w1.cell? ⟨w.heap.size + 1, 0, none⟩ = some (.int .i64 en) := keep_cell hb1 (by simp [go_sem, *])
    have x1_1_1 : w1.cell? ⟨w.heap.size + 1, 1, none⟩ = some (.int .i64 ed) := keep_cell hb1 (by simp [go_sem, *])
    have x1_1_2 : w1.cell? ⟨w.heap.size + 1, 2, none⟩ = some (.int .i64 an) := keep_cell hb1 (by simp [go_sem, *])
    have x1_1_3 : w1.cell? ⟨w.heap.size + 1, 3, none⟩ = some (.int .i64 ad) := keep_cell hb1 (by simp [go_sem, *])
    have y1_1 : w.heap.size + 1 < w1.heap.size := cell?_lt x1_1_0
    have g1 : Below w.heap.size w w1 := by (repeat (first | exact Below.refl _ _ | refine Below.drew ?_ | refine Below.allocS ?_ _ | refine Below.step ?_ (by assumption) | refine Below.setCell ?_ (by simp <;> omega) _ | refine Below.drewN' ?_ _))
    clear hb1
    cases X
    case true =>
      clear n2 n3
      go_wp2_with fail
      refine (awake_c _).mono ?_
      rintro e w2 ⟨rfl, hb2⟩
      go_wp2
      go_ret
      exact ⟨rfl, by (repeat (first | exact Below.refl _ _ | refine Below.drew ?_ | refine Below.allocS ?_ _ | refine Below.step ?_ (by assumption) | refine Below.setCell ?_ (by simp <;> omega) _ | refine Below.drewN' ?_ _))⟩
    go_wp2_with fail
    refine (H1.out _ (by (repeat (first | exact Below.refl _ _ | refine Below.drew ?_ | refine Below.allocS ?_ _ | refine Below.step ?_ (by assumption) | refine Below.setCell ?_ (by simp <;> omega) _ | refine Below.drewN' ?_ _)))).mono ?_
    rintro e w2 ⟨rfl, hb2⟩
    have x2_0_0 : w2.cell? ⟨w.heap.size, 0, none⟩ = some (.slice x.A x.xs.length x.ca) := keep_cell hb2 (by simp [go_sem, *])
    have x2_0_1 : w2.cell? ⟨w.heap.size, 1, none⟩ = some (.int .i64 x.e) := keep_cell hb2 (by simp [go_sem, *])
    have y2_0 : w.heap.size < w2.heap.size := cell?_lt x2_0_0
    have x2_1_0 : w2.cell? ⟨w.heap.size + 1, 0, none⟩ = some (.int .i64 en) := keep_cell hb2 (by simp [go_sem, *])
    have x2_1_1 : w2.cell? ⟨w.heap.size + 1, 1, none⟩ = some (.int .i64 ed) := keep_cell hb2 (by simp [go_sem, *])
    have x2_1_2 : w2.cell? ⟨w.heap.size + 1, 2, none⟩ = some (.int .i64 an) := keep_cell hb2 (by simp [go_sem, *])
    have x2_1_3 : w2.cell? ⟨w.heap.size + 1, 3, none⟩ = some (.int .i64 ad) := keep_cell hb2 (by simp [go_sem, *])
    have y2_1 : w.heap.size + 1 < w2.heap.size := cell?_lt x2_1_0
    have g2 : Below w.heap.size w w2 := by (repeat (first | exact Below.refl _ _ | refine Below.drew ?_ | refine Below.allocS ?_ _ | refine Below.step ?_ (by assumption) | refine Below.setCell ?_ (by simp <;> omega) _ | refine Below.drewN' ?_ _))
    clear hb2 g1 x1_0_0 x1_0_1 x1_1_0 x1_1_1 x1_1_2 x1_1_3 y1_0 y1_1
    go_wp2_with fail
    refine (H2.out _ (by (repeat (first | exact Below.refl _ _ | refine Below.drew ?_ | refine Below.allocS ?_ _ | refine Below.step ?_ (by assumption) | refine Below.setCell ?_ (by simp <;> omega) _ | refine Below.drewN' ?_ _)))).mono ?_
    rintro e w3 ⟨rfl, hb3⟩
    have x3_0_0 : w3.cell? ⟨w.heap.size, 0, none⟩ = some (.slice x.A x.xs.length x.ca) := keep_cell hb3 (by simp [go_sem, *])
    have x3_0_1 : w3.cell? ⟨w.heap.size, 1, none⟩ = some (.int .i64 x.e) := keep_cell hb3 (by simp [go_sem, *])
    have y3_0 : w.heap.size < w3.heap.size := cell?_lt x3_0_0
    have x3_1_0 : w3.cell? ⟨w.heap.size + 1, 0, none⟩ = some (.int .i64 en) := keep_cell hb3 (by simp [go_sem, *])
    have x3_1_1 : w3.cell? ⟨w.heap.size + 1, 1, none⟩ = some (.int .i64 ed) := keep_cell hb3 (by simp [go_sem, *])
    have x3_1_2 : w3.cell? ⟨w.heap.size + 1, 2, none⟩ = some (.int .i64 an) := keep_cell hb3 (by simp [go_sem, *])
    have x3_1_3 : w3.cell? ⟨w.heap.size + 1, 3, none⟩ = some (.int .i64 ad) := keep_cell hb3 (by simp [go_sem, *])
    have y3_1 : w.heap.size + 1 < w3.heap.size := cell?_lt x3_1_0
    have g3 : Below w.heap.size w w3 := by (repeat (first | exact Below.refl _ _ | refine Below.drew ?_ | refine Below.allocS ?_ _ | refine Below.step ?_ (by assumption) | refine Below.setCell ?_ (by simp <;> omega) _ | refine Below.drewN' ?_ _))
    clear hb3 g2 x2_0_0 x2_0_1 x2_1_0 x2_1_1 x2_1_2 x2_1_3 y2_0 y2_1
    go_wp2_with fail
    refine (H3.out _ (by (repeat (first | exact Below.refl _ _ | refine Below.drew ?_ | refine Below.allocS ?_ _ | refine Below.step ?_ (by assumption) | refine Below.setCell ?_ (by simp <;> omega) _ | refine Below.drewN' ?_ _)))).mono ?_
    rintro e w4 ⟨rfl, hb4⟩
    have x4_0_0 : w4.cell? ⟨w.heap.size, 0, none⟩ = some (.slice x.A x.xs.length x.ca) := keep_cell hb4 (by simp [go_sem, *])
    have x4_0_1 : w4.cell? ⟨w.heap.size, 1, none⟩ = some (.int .i64 x.e) := keep_cell hb4 (by simp [go_sem, *])
    have y4_0 : w.heap.size < w4.heap.size := cell?_lt x4_0_0
    have x4_1_0 : w4.cell? ⟨w.heap.size + 1, 0, none⟩ = some (.int .i64 en) := keep_cell hb4 (by simp [go_sem, *])
    have x4_1_1 : w4.cell? ⟨w.heap.size + 1, 1, none⟩ = some (.int .i64 ed) := keep_cell hb4 (by simp [go_sem, *])
    have x4_1_2 : w4.cell? ⟨w.heap.size + 1, 2, none⟩ = some (.int .i64 an) := keep_cell hb4 (by simp [go_sem, *])
    have x4_1_3 : w4.cell? ⟨w.heap.size + 1, 3, none⟩ = some (.int .i64 ad) := keep_cell hb4 (by simp [go_sem, *])
    have y4_1 : w.heap.size + 1 < w4.heap.size := cell?_lt x4_1_0
    have g4 : Below w.heap.size w w4 := by (repeat (first | exact Below.refl _ _ | refine Below.drew ?_ | refine Below.allocS ?_ _ | refine Below.step ?_ (by assumption) | refine Below.setCell ?_ (by simp <;> omega) _ | refine Below.drewN' ?_ _))
    clear hb4 g3 x3_0_0 x3_0_1 x3_1_0 x3_1_1 x3_1_2 x3_1_3 y3_0 y3_1
    go_wp2_with fail
    refine (H4.out _ (by (repeat (first | exact Below.refl _ _ | refine Below.drew ?_ | refine Below.allocS ?_ _ | refine Below.step ?_ (by assumption) | refine Below.setCell ?_ (by simp <;> omega) _ | refine Below.drewN' ?_ _)))).mono ?_
    rintro e w5 ⟨rfl, hb5⟩
    have x5_0_0 : w5.cell? ⟨w.heap.size, 0, none⟩ = some (.slice x.A x.xs.length x.ca) := keep_cell hb5 (by simp [go_sem, *])
    have x5_0_1 : w5.cell? ⟨w.heap.size, 1, none⟩ = some (.int .i64 x.e) := keep_cell hb5 (by simp [go_sem, *])
    have y5_0 : w.heap.size < w5.heap.size := cell?_lt x5_0_0
    have x5_1_0 : w5.cell? ⟨w.heap.size + 1, 0, none⟩ = some (.int .i64 en) := keep_cell hb5 (by simp [go_sem, *])
    have x5_1_1 : w5.cell? ⟨w.heap.size + 1, 1, none⟩ = some (.int .i64 ed) := keep_cell hb5 (by simp [go_sem, *])
    have x5_1_2 : w5.cell? ⟨w.heap.size + 1, 2, none⟩ = some (.int .i64 an) := keep_cell hb5 (by simp [go_sem, *])
    have x5_1_3 : w5.cell? ⟨w.heap.size + 1, 3, none⟩ = some (.int .i64 ad) := keep_cell hb5 (by simp [go_sem, *])
    have y5_1 : w.heap.size + 1 < w5.heap.size := cell?_lt x5_1_0
    have g5 : Below w.heap.size w w5 := by (repeat (first | exact Below.refl _ _ | refine Below.drew ?_ | refine Below.allocS ?_ _ | refine Below.step ?_ (by assumption) | refine Below.setCell ?_ (by simp <;> omega) _ | refine Below.drewN' ?_ _))
    clear hb5 g4 x4_0_0 x4_0_1 x4_1_0 x4_1_1 x4_1_2 x4_1_3 y4_0 y4_1
    have HN3 := Lib.hid n3
    clear n3
    by_cases hre : re = 0
    · subst hre
      obtain ⟨k1, k2⟩ := n2 rfl
      have t1 : decide (0 < v1) = false := decide_eq_false (by omega)
      have t2 : decide (0 < v2) = false := decide_eq_false (by omega)
      clear n2 k1 k2
      go_wp2_with fail
      refine (HC1.out _).mono ?_
      rintro e w6 ⟨rfl, hb6⟩
      have x6_0_0 : w6.cell? ⟨w.heap.size, 0, none⟩ = some (.slice x.A x.xs.length x.ca) := keep_cell hb6 (by simp [go_sem, *])
      have x6_0_1 : w6.cell? ⟨w.heap.size, 1, none⟩ = some (.int .i64 x.e) := keep_cell hb6 (by simp [go_sem, *])
      have y6_0 : w.heap.size < w6.heap.size := cell?_lt x6_0_0
      have x6_1_0 : w6.cell? ⟨w.heap.size + 1, 0, none⟩ = some (.int .i64 en) := keep_cell hb6 (by simp [go_sem, *])
      have x6_1_1 : w6.cell? ⟨w.heap.size + 1, 1, none⟩ = some (.int .i64 ed) := keep_cell hb6 (by simp [go_sem, *])
      have x6_1_2 : w6.cell? ⟨w.heap.size + 1, 2, none⟩ = some (.int .i64 an) := keep_cell hb6 (by simp [go_sem, *])
      have x6_1_3 : w6.cell? ⟨w.heap.size + 1, 3, none⟩ = some (.int .i64 ad) := keep_cell hb6 (by simp [go_sem, *])
      have y6_1 : w.heap.size + 1 < w6.heap.size := cell?_lt x6_1_0
      have x6_2_0 : w6.cell? ⟨w5.heap.size, 0, none⟩ = some (.int .i64 ra) := keep_cell hb6 (by simp [go_sem, *])
      have x6_2_1 : w6.cell? ⟨w5.heap.size, 1, none⟩ = some (.int .i64 rb) := keep_cell hb6 (by simp [go_sem, *])
      have x6_2_2 : w6.cell? ⟨w5.heap.size, 2, none⟩ = some (.int .i64 rc) := keep_cell hb6 (by simp [go_sem, *])
      have x6_2_3 : w6.cell? ⟨w5.heap.size, 3, none⟩ = some (.int .i64 rd) := keep_cell hb6 (by simp [go_sem, *])
      have y6_2 : w5.heap.size < w6.heap.size := cell?_lt x6_2_0
      have g6 : Below w.heap.size w w6 := by (repeat (first | exact Below.refl _ _ | refine Below.drew ?_ | refine Below.allocS ?_ _ | refine Below.step ?_ (by assumption) | refine Below.setCell ?_ (by simp <;> omega) _ | refine Below.drewN' ?_ _))
      clear hb6 g5 x5_0_0 x5_0_1 x5_1_0 x5_1_1 x5_1_2 x5_1_3 y5_0 y5_1
      go_wp2_with fail
      refine (HC2.out _).mono ?_
      rintro e w7 ⟨rfl, hb7⟩
      have x7_0_0 : w7.cell? ⟨w.heap.size, 0, none⟩ = some (.slice x.A x.xs.length x.ca) := keep_cell hb7 (by simp [go_sem, *])
      have x7_0_1 : w7.cell? ⟨w.heap.size, 1, none⟩ = some (.int .i64 x.e) := keep_cell hb7 (by simp [go_sem, *])
      have y7_0 : w.heap.size < w7.heap.size := cell?_lt x7_0_0
      have x7_1_0 : w7.cell? ⟨w.heap.size + 1, 0, none⟩ = some (.int .i64 en) := keep_cell hb7 (by simp [go_sem, *])
      have x7_1_1 : w7.cell? ⟨w.heap.size + 1, 1, none⟩ = some (.int .i64 ed) := keep_cell hb7 (by simp [go_sem, *])
      have x7_1_2 : w7.cell? ⟨w.heap.size + 1, 2, none⟩ = some (.int .i64 an) := keep_cell hb7 (by simp [go_sem, *])
      have x7_1_3 : w7.cell? ⟨w.heap.size + 1, 3, none⟩ = some (.int .i64 ad) := keep_cell hb7 (by simp [go_sem, *])
      have y7_1 : w.heap.size + 1 < w7.heap.size := cell?_lt x7_1_0
      have x7_2_0 : w7.cell? ⟨w5.heap.size, 0, none⟩ = some (.int .i64 ra) := keep_cell hb7 (by simp [go_sem, *])
      have x7_2_1 : w7.cell? ⟨w5.heap.size, 1, none⟩ = some (.int .i64 rb) := keep_cell hb7 (by simp [go_sem, *])
      have x7_2_2 : w7.cell? ⟨w5.heap.size, 2, none⟩ = some (.int .i64 rc) := keep_cell hb7 (by simp [go_sem, *])
      have x7_2_3 : w7.cell? ⟨w5.heap.size, 3, none⟩ = some (.int .i64 rd) := keep_cell hb7 (by simp [go_sem, *])
      have y7_2 : w5.heap.size < w7.heap.size := cell?_lt x7_2_0
      have g7 : Below w.heap.size w w7 := by (repeat (first | exact Below.refl _ _ | refine Below.drew ?_ | refine Below.allocS ?_ _ | refine Below.step ?_ (by assumption) | refine Below.setCell ?_ (by simp <;> omega) _ | refine Below.drewN' ?_ _))
      clear hb7 g6 x6_0_0 x6_0_1 x6_1_0 x6_1_1 x6_1_2 x6_1_3 x6_2_0 x6_2_1 x6_2_2 x6_2_3 y6_0 y6_1 y6_2
      go_wp2_with fail
      refine (H5.out _ (by (repeat (first | exact Below.refl _ _ | refine Below.drew ?_ | refine Below.allocS ?_ _ | refine Below.step ?_ (by assumption) | refine Below.setCell ?_ (by simp <;> omega) _ | refine Below.drewN' ?_ _)))).mono ?_
      rintro e w8 ⟨rfl, hb8⟩
      have x8_0_0 : w8.cell? ⟨w.heap.size, 0, none⟩ = some (.slice x.A x.xs.length x.ca) := keep_cell hb8 (by simp [go_sem, *])
      have x8_0_1 : w8.cell? ⟨w.heap.size, 1, none⟩ = some (.int .i64 x.e) := keep_cell hb8 (by simp [go_sem, *])
      have y8_0 : w.heap.size < w8.heap.size := cell?_lt x8_0_0
      have x8_1_0 : w8.cell? ⟨w.heap.size + 1, 0, none⟩ = some (.int .i64 en) := keep_cell hb8 (by simp [go_sem, *])
      have x8_1_1 : w8.cell? ⟨w.heap.size + 1, 1, none⟩ = some (.int .i64 ed) := keep_cell hb8 (by simp [go_sem, *])
      have x8_1_2 : w8.cell? ⟨w.heap.size + 1, 2, none⟩ = some (.int .i64 an) := keep_cell hb8 (by simp [go_sem, *])
      have x8_1_3 : w8.cell? ⟨w.heap.size + 1, 3, none⟩ = some (.int .i64 ad) := keep_cell hb8 (by simp [go_sem, *])
      have y8_1 : w.heap.size + 1 < w8.heap.size := cell?_lt x8_1_0
      have x8_2_0 : w8.cell? ⟨w5.heap.size, 0, none⟩ = some (.int .i64 ra) := keep_cell hb8 (by simp [go_sem, *])
      have x8_2_1 : w8.cell? ⟨w5.heap.size, 1, none⟩ = some (.int .i64 rb) := keep_cell hb8 (by simp [go_sem, *])
      have x8_2_2 : w8.cell? ⟨w5.heap.size, 2, none⟩ = some (.int .i64 rc) := keep_cell hb8 (by simp [go_sem, *])
      have x8_2_3 : w8.cell? ⟨w5.heap.size, 3, none⟩ = some (.int .i64 rd) := keep_cell hb8 (by simp [go_sem, *])
      have y8_2 : w5.heap.size < w8.heap.size := cell?_lt x8_2_0
      have g8 : Below w.heap.size w w8 := by (repeat (first | exact Below.refl _ _ | refine Below.drew ?_ | refine Below.allocS ?_ _ | refine Below.step ?_ (by assumption) | refine Below.setCell ?_ (by simp <;> omega) _ | refine Below.drewN' ?_ _))
      clear hb8 g7 x7_0_0 x7_0_1 x7_1_0 x7_1_1 x7_1_2 x7_1_3 x7_2_0 x7_2_1 x7_2_2 x7_2_3 y7_0 y7_1 y7_2
      have hcs : sf = 0 ∧ decide (v3 ≤ 0) = true ∧ decide (v4 ≤ 0) = true ∨ (sf != 0) = true := by
        by_cases h : sf = 0
        · obtain ⟨k1, k2⟩ := HN3.out h
          exact .inl ⟨h, decide_eq_true k1, decide_eq_true k2⟩
        · exact .inr (by simpa using h)
      clear HN3
      rcases hcs with ⟨rfl, t3, t4⟩ | t3
      · go_wp2_with fail
        refine (HC3.out _).mono ?_
        rintro e w9 ⟨rfl, hb9⟩
        have o0 : w9.cell? ⟨w8.heap.size, 2, none⟩ = some (.int .i64 sc) := keep_cell hb9 (by simp [go_sem, *])
        have o1 : w9.cell? ⟨w8.heap.size, 3, none⟩ = some (.int .i64 sd) := keep_cell hb9 (by simp [go_sem, *])
        have o2 : w9.cell? ⟨w.heap.size + 1, 2, none⟩ = some (.int .i64 an) := keep_cell hb9 (by simp [go_sem, *])
        have o3 : w9.cell? ⟨w.heap.size + 1, 3, none⟩ = some (.int .i64 ad) := keep_cell hb9 (by simp [go_sem, *])
        have g9 : Below w.heap.size w w9 := by (repeat (first | exact Below.refl _ _ | refine Below.drew ?_ | refine Below.allocS ?_ _ | refine Below.step ?_ (by assumption) | refine Below.setCell ?_ (by simp <;> omega) _ | refine Below.drewN' ?_ _))
        clear hb9
        go_wp2_with fail
        refine (HC4.out _).mono ?_
        rintro e w10 ⟨rfl, hb10⟩
        go_wp2_with fail
        refine (awake_c _).mono ?_
        rintro e w11 ⟨rfl, hb11⟩
        go_wp2
        go_ret
        exact ⟨rfl, by (repeat (first | exact Below.refl _ _ | refine Below.drew ?_ | refine Below.allocS ?_ _ | refine Below.step ?_ (by assumption) | refine Below.setCell ?_ (by simp <;> omega) _ | refine Below.drewN' ?_ _))⟩
      · go_wp2_with fail
        refine (awake_c _).mono ?_
        rintro e w9 ⟨rfl, hb9⟩
        go_wp2
        go_ret
        exact ⟨rfl, by (repeat (first | exact Below.refl _ _ | refine Below.drew ?_ | refine Below.allocS ?_ _ | refine Below.step ?_ (by assumption) | refine Below.setCell ?_ (by simp <;> omega) _ | refine Below.drewN' ?_ _))⟩
    · have hre' : (re == 0) = false := by simpa using hre
      clear n2 hre
      go_wp2_with fail
      refine (H5.out _ (by (repeat (first | exact Below.refl _ _ | refine Below.drew ?_ | refine Below.allocS ?_ _ | refine Below.step ?_ (by assumption) | refine Below.setCell ?_ (by simp <;> omega) _ | refine Below.drewN' ?_ _)))).mono ?_
      rintro e w8 ⟨rfl, hb8⟩
      have x8_0_0 : w8.cell? ⟨w.heap.size, 0, none⟩ = some (.slice x.A x.xs.length x.ca) := keep_cell hb8 (by simp [go_sem, *])
      have x8_0_1 : w8.cell? ⟨w.heap.size, 1, none⟩ = some (.int .i64 x.e) := keep_cell hb8 (by simp [go_sem, *])
      have y8_0 : w.heap.size < w8.heap.size := cell?_lt x8_0_0
      have x8_1_0 : w8.cell? ⟨w.heap.size + 1, 0, none⟩ = some (.int .i64 en) := keep_cell hb8 (by simp [go_sem, *])
      have x8_1_1 : w8.cell? ⟨w.heap.size + 1, 1, none⟩ = some (.int .i64 ed) := keep_cell hb8 (by simp [go_sem, *])
      have x8_1_2 : w8.cell? ⟨w.heap.size + 1, 2, none⟩ = some (.int .i64 an) := keep_cell hb8 (by simp [go_sem, *])
      have x8_1_3 : w8.cell? ⟨w.heap.size + 1, 3, none⟩ = some (.int .i64 ad) := keep_cell hb8 (by simp [go_sem, *])
      have y8_1 : w.heap.size + 1 < w8.heap.size := cell?_lt x8_1_0
      have x8_2_0 : w8.cell? ⟨w5.heap.size, 0, none⟩ = some (.int .i64 ra) := keep_cell hb8 (by simp [go_sem, *])
      have x8_2_1 : w8.cell? ⟨w5.heap.size, 1, none⟩ = some (.int .i64 rb) := keep_cell hb8 (by simp [go_sem, *])
      have x8_2_2 : w8.cell? ⟨w5.heap.size, 2, none⟩ = some (.int .i64 rc) := keep_cell hb8 (by simp [go_sem, *])
      have x8_2_3 : w8.cell? ⟨w5.heap.size, 3, none⟩ = some (.int .i64 rd) := keep_cell hb8 (by simp [go_sem, *])
      have y8_2 : w5.heap.size < w8.heap.size := cell?_lt x8_2_0
      have g8 : Below w.heap.size w w8 := by (repeat (first | exact Below.refl _ _ | refine Below.drew ?_ | refine Below.allocS ?_ _ | refine Below.step ?_ (by assumption) | refine Below.setCell ?_ (by simp <;> omega) _ | refine Below.drewN' ?_ _))
      clear hb8 g5 x5_0_0 x5_0_1 x5_1_0 x5_1_1 x5_1_2 x5_1_3 y5_0 y5_1
      have hcs : sf = 0 ∧ decide (v3 ≤ 0) = true ∧ decide (v4 ≤ 0) = true ∨ (sf != 0) = true := by
        by_cases h : sf = 0
        · obtain ⟨k1, k2⟩ := HN3.out h
          exact .inl ⟨h, decide_eq_true k1, decide_eq_true k2⟩
        · exact .inr (by simpa using h)
      clear HN3
      rcases hcs with ⟨rfl, t3, t4⟩ | t3
      · go_wp2_with fail
        refine (HC3.out _).mono ?_
        rintro e w9 ⟨rfl, hb9⟩
        have o0 : w9.cell? ⟨w8.heap.size, 2, none⟩ = some (.int .i64 sc) := keep_cell hb9 (by simp [go_sem, *])
        have o1 : w9.cell? ⟨w8.heap.size, 3, none⟩ = some (.int .i64 sd) := keep_cell hb9 (by simp [go_sem, *])
        have o2 : w9.cell? ⟨w.heap.size + 1, 2, none⟩ = some (.int .i64 an) := keep_cell hb9 (by simp [go_sem, *])
        have o3 : w9.cell? ⟨w.heap.size + 1, 3, none⟩ = some (.int .i64 ad) := keep_cell hb9 (by simp [go_sem, *])
        have g9 : Below w.heap.size w w9 := by (repeat (first | exact Below.refl _ _ | refine Below.drew ?_ | refine Below.allocS ?_ _ | refine Below.step ?_ (by assumption) | refine Below.setCell ?_ (by simp <;> omega) _ | refine Below.drewN' ?_ _))
        clear hb9
        go_wp2_with fail
        refine (HC4.out _).mono ?_
        rintro e w10 ⟨rfl, hb10⟩
        go_wp2_with fail
        refine (awake_c _).mono ?_
        rintro e w11 ⟨rfl, hb11⟩
        go_wp2
        go_ret
        exact ⟨rfl, by (repeat (first | exact Below.refl _ _ | refine Below.drew ?_ | refine Below.allocS ?_ _ | refine Below.step ?_ (by assumption) | refine Below.setCell ?_ (by simp <;> omega) _ | refine Below.drewN' ?_ _))⟩
      · go_wp2_with fail
        refine (awake_c _).mono ?_
        rintro e w9 ⟨rfl, hb9⟩
        go_wp2
        go_ret
        exact ⟨rfl, by (repeat (first | exact Below.refl _ _ | refine Below.drew ?_ | refine Below.allocS ?_ _ | refine Below.step ?_ (by assumption) | refine Below.setCell ?_ (by simp <;> omega) _ | refine Below.drewN' ?_ _))⟩
end Go.Proofs.Ytbcabckokmjelaa
