/-
  TransitEnds: the walk. Printed by gen_ends.py.
-/
import Derived.Test.YtbcabckokmjelaaQ27
import Derived.Test.YtbcabckokmjelaaEFits
namespace Go.Proofs.Ytbcabckokmjelaa
open Go.RowKit
set_option linter.unusedVariables false
set_option linter.unusedSimpArgs false
theorem three_of {P : Nat → Prop} (h0 : P 0) (h1 : P 1) (h2 : P 2) : ∀ k, k < 3 → P k
  | 0, _ => h0
  | 1, _ => h1
  | 2, _ => h2
  | n + 3, h => absurd h (by omega)
set_option maxHeartbeats 4000000 in
set_option maxRecDepth 100000 in
theorem TransitEnds_walk (w : World) (x : Tb) (A : Option Addr) (cap : Nat) (l : List Tr) (y : Int) (hx : TbAt w x) (hl : l.length ≤ cap) (hm : cap ≤ maxLen) (hr : RdL w w.heap.size trE 5 A l) (hls : ∀ t ∈ l, TrAt w t) (y0 : I64 y) :
    Calls Try.prog 11 #[.agg #[.slice x.A x.xs.length x.ca, .int .i64 x.e], .slice A l.length cap, .int .i64 y] w fun e w' => e = .returned (.bool true) ∧ Below w.heap.size w w' := by
  have HW := Lib.hid (fun W (hb : Below w.heap.size w W) => wide_c x l A cap W (hx.step hb) hl hm (hr.step hb))
  have H1 := Lib.hid (fun en ed an ad W (hb : Below w.heap.size w W) => Suits_c x l en ed an ad A cap W (hx.step hb) hl hm (hr.step hb) (fun t h => (hls t h).step hb))
  have H4 := Lib.hid (fun W (hb : Below w.heap.size w W) => Reach_c x l A cap W (hx.step hb) hl hm (hr.step hb) (fun t h => (hls t h).step hb))
  have H5 := Lib.hid (fun W (hb : Below w.heap.size w W) => Azimuth_c x l A cap W (hx.step hb) hl hm (hr.step hb) (fun t h => (hls t h).step hb))
  obtain ⟨n1, n2, n3, n4⟩ := ends_r x l y
  clear hx hl hm hr hls y0
  unfold tlV at H4 H5
  have HS : Hid (((reT x l).e = 0 → 1 ≤ y ∧ y ≤ 1000 → (subR (reT x l).a (reT x l).b 1 y).2.2 = 0 → ∀ an ad, okRat an ad = true → ∀ W, Below w.heap.size w W → Calls Try.prog 46 #[.agg #[.slice x.A x.xs.length x.ca, .int .i64 x.e], .slice A l.length cap, .agg #[.int .i64 ((subR (reT x l).a (reT x l).b 1 y).1), .int .i64 ((subR (reT x l).a (reT x l).b 1 y).2.1)], .agg #[.int .i64 an, .int .i64 ad]] W fun e w' => e = .returned (.tuple #[.bool false, .int .i64 0]) ∧ Below W.heap.size W w') ∧
      ((reT x l).e = 0 → 1 ≤ y ∧ y ≤ 1000 → (addR (reT x l).c (reT x l).d 1 y).2.2 = 0 → ∀ an ad, okRat an ad = true → ∀ W, Below w.heap.size w W → Calls Try.prog 46 #[.agg #[.slice x.A x.xs.length x.ca, .int .i64 x.e], .slice A l.length cap, .agg #[.int .i64 ((addR (reT x l).c (reT x l).d 1 y).1), .int .i64 ((addR (reT x l).c (reT x l).d 1 y).2.1)], .agg #[.int .i64 an, .int .i64 ad]] W fun e w' => e = .returned (.tuple #[.bool false, .int .i64 0]) ∧ Below W.heap.size W w')) := by
    refine Lib.hid ⟨fun a1 a2 a3 an ad a4 W hb => ?_, fun a1 a2 a3 an ad a4 W hb => ?_⟩
    · obtain ⟨k1, k2⟩ := n2 a1 a2 a3 an ad a4
      have := H1.out (subR (reT x l).a (reT x l).b 1 y).1 (subR (reT x l).a (reT x l).b 1 y).2.1 an ad W hb
      rw [k1, k2] at this
      exact this
    · obtain ⟨k1, k2⟩ := n3 a1 a2 a3 an ad a4
      have := H1.out (addR (reT x l).c (reT x l).d 1 y).1 (addR (reT x l).c (reT x l).d 1 y).2.1 an ad W hb
      rw [k1, k2] at this
      exact this
  clear n2 n3 H1
  have HC1 := Lib.hid (fun W => Compare_c (reT x l).a (reT x l).b (reT x l).c (reT x l).d W)
  have HC2 := Lib.hid (fun W => Sub_c (reT x l).a (reT x l).b 1 y W)
  have HC3 := Lib.hid (fun W => Add_c (reT x l).c (reT x l).d 1 y W)
  unfold retV at HC2 HC3
  generalize cmpR (reT x l).a (reT x l).b (reT x l).c (reT x l).d = v1 at *
  generalize subR (reT x l).a (reT x l).b 1 y = S1 at *
  generalize addR (reT x l).c (reT x l).d 1 y = S2 at *
  generalize reT x l = R1 at *
  generalize azT x l = R2 at *
  obtain ⟨ra, rb, rc, rd, re⟩ := R1
  obtain ⟨za, zb, zc, zd, zf⟩ := R2
  obtain ⟨p, q, f⟩ := S1
  obtain ⟨r, s, g⟩ := S2
  simp only at H4 H5 HC1 HC2 HC3 n1 n4 HS
  obtain ⟨HS1, HS2⟩ := HS.out
  clear HS
  replace HS1 := Lib.hid HS1
  replace HS2 := Lib.hid HS2
  have N1 := Lib.hid n1
  have N4 := Lib.hid n4
  clear n1 n4
  go_enter Try.func11, Try.ntmps11
  go_wp2_with fail
  refine (HW.out _ (by (repeat (first | exact Below.refl _ _ | refine Below.drew ?_ | refine Below.allocS ?_ _ | refine Below.step ?_ (by assumption) | refine Below.setCell ?_ (by simp <;> omega) _ | refine Below.drewN' ?_ _)))).mono ?_
  rintro e w1 ⟨⟨X, rfl, -⟩, hb1⟩
  have x1_0_0 : w1.cell? ⟨w.heap.size, 0, none⟩ = some (.slice x.A x.xs.length x.ca) := keep_cell hb1 (by simp [go_sem, *])
  have x1_0_1 : w1.cell? ⟨w.heap.size, 1, none⟩ = some (.int .i64 x.e) := keep_cell hb1 (by simp [go_sem, *])
  have y1_0 : w.heap.size < w1.heap.size := cell?_lt x1_0_0
  have g1 : Below w.heap.size w w1 := by (repeat (first | exact Below.refl _ _ | refine Below.drew ?_ | refine Below.allocS ?_ _ | refine Below.step ?_ (by assumption) | refine Below.setCell ?_ (by simp <;> omega) _ | refine Below.drewN' ?_ _))
  clear hb1
  cases X
  case true =>
    go_wp2_with fail
    refine (awake_c _).mono ?_
    rintro e w2 ⟨rfl, hb2⟩
    go_wp2
    go_ret
    exact ⟨rfl, by (repeat (first | exact Below.refl _ _ | refine Below.drew ?_ | refine Below.allocS ?_ _ | refine Below.step ?_ (by assumption) | refine Below.setCell ?_ (by simp <;> omega) _ | refine Below.drewN' ?_ _))⟩
  by_cases h1 : y < 1
  · have h1' : decide (y < 1) = true := decide_eq_true h1
    go_wp2_with fail
    refine (awake_c _).mono ?_
    rintro e w2 ⟨rfl, hb2⟩
    go_wp2
    go_ret
    exact ⟨rfl, by (repeat (first | exact Below.refl _ _ | refine Below.drew ?_ | refine Below.allocS ?_ _ | refine Below.step ?_ (by assumption) | refine Below.setCell ?_ (by simp <;> omega) _ | refine Below.drewN' ?_ _))⟩
  by_cases h2 : 1000 < y
  · have h1' : decide (y < 1) = false := decide_eq_false h1
    have h2' : decide (1000 < y) = true := decide_eq_true h2
    clear h1 h2
    go_wp2_with fail
    refine (awake_c _).mono ?_
    rintro e w2 ⟨rfl, hb2⟩
    go_wp2
    go_ret
    exact ⟨rfl, by (repeat (first | exact Below.refl _ _ | refine Below.drew ?_ | refine Below.allocS ?_ _ | refine Below.step ?_ (by assumption) | refine Below.setCell ?_ (by simp <;> omega) _ | refine Below.drewN' ?_ _))⟩
  have h1' : decide (y < 1) = false := decide_eq_false h1
  have h2' : decide (1000 < y) = false := decide_eq_false h2
  have HY := Lib.hid (show 1 ≤ y ∧ y ≤ 1000 by omega)
  clear h1 h2
  go_wp2_with fail
  refine (H4.out _ (by (repeat (first | exact Below.refl _ _ | refine Below.drew ?_ | refine Below.allocS ?_ _ | refine Below.step ?_ (by assumption) | refine Below.setCell ?_ (by simp <;> omega) _ | refine Below.drewN' ?_ _)))).mono ?_
  rintro e w2 ⟨rfl, hb2⟩
  have x2_0_0 : w2.cell? ⟨w.heap.size, 0, none⟩ = some (.slice x.A x.xs.length x.ca) := keep_cell hb2 (by simp [go_sem, *])
  have x2_0_1 : w2.cell? ⟨w.heap.size, 1, none⟩ = some (.int .i64 x.e) := keep_cell hb2 (by simp [go_sem, *])
  have y2_0 : w.heap.size < w2.heap.size := cell?_lt x2_0_0
  have g2 : Below w.heap.size w w2 := by (repeat (first | exact Below.refl _ _ | refine Below.drew ?_ | refine Below.allocS ?_ _ | refine Below.step ?_ (by assumption) | refine Below.setCell ?_ (by simp <;> omega) _ | refine Below.drewN' ?_ _))
  clear hb2 g1 x1_0_0 x1_0_1 y1_0
  clear h1' h2' HW H4
  by_cases hre : re = 0
  case neg =>
    have hre' : (re != 0) = true := by simpa using hre
    clear hre
    go_wp2_with fail
    refine (awake_c _).mono ?_
    rintro e w3 ⟨rfl, hb3⟩
    go_wp2
    go_ret
    exact ⟨rfl, by (repeat (first | exact Below.refl _ _ | refine Below.drew ?_ | refine Below.allocS ?_ _ | refine Below.step ?_ (by assumption) | refine Below.setCell ?_ (by simp <;> omega) _ | refine Below.drewN' ?_ _))⟩
  subst hre
  have k1 := N1.out rfl
  have t1 : decide (0 < v1) = false := decide_eq_false (by omega)
  clear N1 k1
  go_wp2_with fail
  refine (HC1.out _).mono ?_
  rintro e w3 ⟨rfl, hb3⟩
  have x3_0_0 : w3.cell? ⟨w.heap.size, 0, none⟩ = some (.slice x.A x.xs.length x.ca) := keep_cell hb3 (by simp [go_sem, *])
  have x3_0_1 : w3.cell? ⟨w.heap.size, 1, none⟩ = some (.int .i64 x.e) := keep_cell hb3 (by simp [go_sem, *])
  have y3_0 : w.heap.size < w3.heap.size := cell?_lt x3_0_0
  have x3_1_0 : w3.cell? ⟨w2.heap.size, 0, none⟩ = some (.int .i64 ra) := keep_cell hb3 (by simp [go_sem, *])
  have x3_1_1 : w3.cell? ⟨w2.heap.size, 1, none⟩ = some (.int .i64 rb) := keep_cell hb3 (by simp [go_sem, *])
  have x3_1_2 : w3.cell? ⟨w2.heap.size, 2, none⟩ = some (.int .i64 rc) := keep_cell hb3 (by simp [go_sem, *])
  have x3_1_3 : w3.cell? ⟨w2.heap.size, 3, none⟩ = some (.int .i64 rd) := keep_cell hb3 (by simp [go_sem, *])
  have y3_1 : w2.heap.size < w3.heap.size := cell?_lt x3_1_0
  have g3 : Below w.heap.size w w3 := by (repeat (first | exact Below.refl _ _ | refine Below.drew ?_ | refine Below.allocS ?_ _ | refine Below.step ?_ (by assumption) | refine Below.setCell ?_ (by simp <;> omega) _ | refine Below.drewN' ?_ _))
  clear hb3 g2 x2_0_0 x2_0_1 y2_0
  go_wp2_with fail
  refine (HC2.out _).mono ?_
  rintro e w4 ⟨rfl, hb4⟩
  have x4_0_0 : w4.cell? ⟨w.heap.size, 0, none⟩ = some (.slice x.A x.xs.length x.ca) := keep_cell hb4 (by simp [go_sem, *])
  have x4_0_1 : w4.cell? ⟨w.heap.size, 1, none⟩ = some (.int .i64 x.e) := keep_cell hb4 (by simp [go_sem, *])
  have y4_0 : w.heap.size < w4.heap.size := cell?_lt x4_0_0
  have x4_1_0 : w4.cell? ⟨w2.heap.size, 0, none⟩ = some (.int .i64 ra) := keep_cell hb4 (by simp [go_sem, *])
  have x4_1_1 : w4.cell? ⟨w2.heap.size, 1, none⟩ = some (.int .i64 rb) := keep_cell hb4 (by simp [go_sem, *])
  have x4_1_2 : w4.cell? ⟨w2.heap.size, 2, none⟩ = some (.int .i64 rc) := keep_cell hb4 (by simp [go_sem, *])
  have x4_1_3 : w4.cell? ⟨w2.heap.size, 3, none⟩ = some (.int .i64 rd) := keep_cell hb4 (by simp [go_sem, *])
  have y4_1 : w2.heap.size < w4.heap.size := cell?_lt x4_1_0
  have x4_2_0 : w4.cell? ⟨w3.heap.size, 0, none⟩ = some (.int .i64 1) := keep_cell hb4 (by simp [go_sem, *])
  have x4_2_1 : w4.cell? ⟨w3.heap.size, 1, none⟩ = some (.int .i64 y) := keep_cell hb4 (by simp [go_sem, *])
  have y4_2 : w3.heap.size < w4.heap.size := cell?_lt x4_2_0
  have g4 : Below w.heap.size w w4 := by (repeat (first | exact Below.refl _ _ | refine Below.drew ?_ | refine Below.allocS ?_ _ | refine Below.step ?_ (by assumption) | refine Below.setCell ?_ (by simp <;> omega) _ | refine Below.drewN' ?_ _))
  clear hb4 g3 x3_0_0 x3_0_1 x3_1_0 x3_1_1 x3_1_2 x3_1_3 y3_0 y3_1
  go_wp2_with fail
  refine (HC3.out _).mono ?_
  rintro e w5 ⟨rfl, hb5⟩
  have x5_0_0 : w5.cell? ⟨w.heap.size, 0, none⟩ = some (.slice x.A x.xs.length x.ca) := keep_cell hb5 (by simp [go_sem, *])
  have x5_0_1 : w5.cell? ⟨w.heap.size, 1, none⟩ = some (.int .i64 x.e) := keep_cell hb5 (by simp [go_sem, *])
  have y5_0 : w.heap.size < w5.heap.size := cell?_lt x5_0_0
  have x5_1_0 : w5.cell? ⟨w2.heap.size, 0, none⟩ = some (.int .i64 ra) := keep_cell hb5 (by simp [go_sem, *])
  have x5_1_1 : w5.cell? ⟨w2.heap.size, 1, none⟩ = some (.int .i64 rb) := keep_cell hb5 (by simp [go_sem, *])
  have x5_1_2 : w5.cell? ⟨w2.heap.size, 2, none⟩ = some (.int .i64 rc) := keep_cell hb5 (by simp [go_sem, *])
  have x5_1_3 : w5.cell? ⟨w2.heap.size, 3, none⟩ = some (.int .i64 rd) := keep_cell hb5 (by simp [go_sem, *])
  have y5_1 : w2.heap.size < w5.heap.size := cell?_lt x5_1_0
  have x5_2_0 : w5.cell? ⟨w3.heap.size, 0, none⟩ = some (.int .i64 1) := keep_cell hb5 (by simp [go_sem, *])
  have x5_2_1 : w5.cell? ⟨w3.heap.size, 1, none⟩ = some (.int .i64 y) := keep_cell hb5 (by simp [go_sem, *])
  have y5_2 : w3.heap.size < w5.heap.size := cell?_lt x5_2_0
  have x5_3_0 : w5.cell? ⟨w4.heap.size, 0, none⟩ = some (.int .i64 p) := keep_cell hb5 (by simp [go_sem, *])
  have x5_3_1 : w5.cell? ⟨w4.heap.size, 1, none⟩ = some (.int .i64 q) := keep_cell hb5 (by simp [go_sem, *])
  have y5_3 : w4.heap.size < w5.heap.size := cell?_lt x5_3_0
  have g5 : Below w.heap.size w w5 := by (repeat (first | exact Below.refl _ _ | refine Below.drew ?_ | refine Below.allocS ?_ _ | refine Below.step ?_ (by assumption) | refine Below.setCell ?_ (by simp <;> omega) _ | refine Below.drewN' ?_ _))
  clear hb5 g4 x4_0_0 x4_0_1 x4_1_0 x4_1_1 x4_1_2 x4_1_3 x4_2_0 x4_2_1 y4_0 y4_1 y4_2
  go_wp2_with fail
  refine (H5.out _ (by (repeat (first | exact Below.refl _ _ | refine Below.drew ?_ | refine Below.allocS ?_ _ | refine Below.step ?_ (by assumption) | refine Below.setCell ?_ (by simp <;> omega) _ | refine Below.drewN' ?_ _)))).mono ?_
  rintro e w6 ⟨rfl, hb6⟩
  have x6_0_0 : w6.cell? ⟨w.heap.size, 0, none⟩ = some (.slice x.A x.xs.length x.ca) := keep_cell hb6 (by simp [go_sem, *])
  have x6_0_1 : w6.cell? ⟨w.heap.size, 1, none⟩ = some (.int .i64 x.e) := keep_cell hb6 (by simp [go_sem, *])
  have y6_0 : w.heap.size < w6.heap.size := cell?_lt x6_0_0
  have x6_1_0 : w6.cell? ⟨w2.heap.size, 0, none⟩ = some (.int .i64 ra) := keep_cell hb6 (by simp [go_sem, *])
  have x6_1_1 : w6.cell? ⟨w2.heap.size, 1, none⟩ = some (.int .i64 rb) := keep_cell hb6 (by simp [go_sem, *])
  have x6_1_2 : w6.cell? ⟨w2.heap.size, 2, none⟩ = some (.int .i64 rc) := keep_cell hb6 (by simp [go_sem, *])
  have x6_1_3 : w6.cell? ⟨w2.heap.size, 3, none⟩ = some (.int .i64 rd) := keep_cell hb6 (by simp [go_sem, *])
  have y6_1 : w2.heap.size < w6.heap.size := cell?_lt x6_1_0
  have x6_2_0 : w6.cell? ⟨w3.heap.size, 0, none⟩ = some (.int .i64 1) := keep_cell hb6 (by simp [go_sem, *])
  have x6_2_1 : w6.cell? ⟨w3.heap.size, 1, none⟩ = some (.int .i64 y) := keep_cell hb6 (by simp [go_sem, *])
  have y6_2 : w3.heap.size < w6.heap.size := cell?_lt x6_2_0
  have x6_3_0 : w6.cell? ⟨w4.heap.size, 0, none⟩ = some (.int .i64 p) := keep_cell hb6 (by simp [go_sem, *])
  have x6_3_1 : w6.cell? ⟨w4.heap.size, 1, none⟩ = some (.int .i64 q) := keep_cell hb6 (by simp [go_sem, *])
  have y6_3 : w4.heap.size < w6.heap.size := cell?_lt x6_3_0
  have x6_4_0 : w6.cell? ⟨w5.heap.size, 0, none⟩ = some (.int .i64 r) := keep_cell hb6 (by simp [go_sem, *])
  have x6_4_1 : w6.cell? ⟨w5.heap.size, 1, none⟩ = some (.int .i64 s) := keep_cell hb6 (by simp [go_sem, *])
  have y6_4 : w5.heap.size < w6.heap.size := cell?_lt x6_4_0
  have g6 : Below w.heap.size w w6 := by (repeat (first | exact Below.refl _ _ | refine Below.drew ?_ | refine Below.allocS ?_ _ | refine Below.step ?_ (by assumption) | refine Below.setCell ?_ (by simp <;> omega) _ | refine Below.drewN' ?_ _))
  clear hb6 g5 x5_0_0 x5_0_1 x5_1_0 x5_1_1 x5_1_2 x5_1_3 x5_2_0 x5_2_1 x5_3_0 x5_3_1 y5_0 y5_1 y5_2 y5_3
  clear HC1 HC2 HC3 H5 t1
  by_cases hze : zf = 0
  case neg =>
    have hze' : (zf != 0) = true := by simpa using hze
    clear hze
    go_wp2_with fail
    refine (awake_c _).mono ?_
    rintro e w7 ⟨rfl, hb7⟩
    go_wp2
    go_ret
    exact ⟨rfl, by (repeat (first | exact Below.refl _ _ | refine Below.drew ?_ | refine Below.allocS ?_ _ | refine Below.step ?_ (by assumption) | refine Below.setCell ?_ (by simp <;> omega) _ | refine Below.drewN' ?_ _))⟩
  subst hze
  obtain ⟨o1, o2⟩ := N4.out rfl
  have o3 : okRat 0 1 = true := by decide +kernel
  have HO := Lib.hid (show okRat za zb = true ∧ okRat zc zd = true ∧ okRat 0 1 = true from ⟨o1, o2, o3⟩)
  clear N4 o1 o2 o3
  have HSa := Lib.hid (fun h => HS1.out (by trivial) HY.out h)
  have HSb := Lib.hid (fun h => HS2.out (by trivial) HY.out h)
  clear HS1 HS2 HY
  go_wp2
  go_loopw [81] (fun i wr => ∃ k : Nat, k ≤ 3 ∧ i = .int .i64 k ∧ Below w.heap.size w wr ∧ wr.cell? ⟨w.heap.size, 0, none⟩ = some (.slice x.A x.xs.length x.ca) ∧ wr.cell? ⟨w.heap.size, 1, none⟩ = some (.int .i64 x.e) ∧ wr.cell? ⟨w4.heap.size, 0, none⟩ = some (.int .i64 p) ∧ wr.cell? ⟨w4.heap.size, 1, none⟩ = some (.int .i64 q) ∧ wr.cell? ⟨w5.heap.size, 0, none⟩ = some (.int .i64 r) ∧ wr.cell? ⟨w5.heap.size, 1, none⟩ = some (.int .i64 s) ∧ (∀ j, j < 3 → ∃ an ad, okRat an ad = true ∧ wr.cell? ⟨(w6.heap.size + 1), j * 2, none⟩ = some (.int .i64 an) ∧ wr.cell? ⟨(w6.heap.size + 1), j * 2 + 1, none⟩ = some (.int .i64 ad))) (fun i _ => 3 - (intOf i).toNat)
  case atStart => exact ⟨0, by decide, rfl, by (repeat (first | (with_reducible exact Below.refl _ _) | (with_reducible assumption) | (with_reducible refine Below.drew ?_) | (with_reducible refine Below.allocS ?_ _) | (with_reducible refine Below.setCell ?_ ?_ _) | (with_reducible refine Below.step ?_ (by assumption)) | (with_reducible refine Below.drewN' ?_ _))); (try any_goals (first | (with_reducible assumption) | (simp; done) | (simp; omega) | omega)), by simp [go_sem, *], by simp [go_sem, *], by simp [go_sem, *], by simp [go_sem, *], by simp [go_sem, *], by simp [go_sem, *], three_of ⟨za, zb, HO.out.1, by simp [go_sem, *], by simp [go_sem, *]⟩ ⟨zc, zd, HO.out.2.1, by simp [go_sem, *], by simp [go_sem, *]⟩ ⟨0, 1, HO.out.2.2, by simp [go_sem, *], by simp [go_sem, *]⟩⟩
  case round =>
    rename World => V
    obtain ⟨k, hk, rfl, hbw, m0, m1, m2, m3, m4, m5, hC⟩ := hrel
    have HCC := Lib.hid hC
    clear hC HO
    have n0 : w.heap.size < V.heap.size := cell?_lt m0
    have n1 : w4.heap.size < V.heap.size := cell?_lt m2
    have n2 : w5.heap.size < V.heap.size := cell?_lt m4
    by_cases hlt : k < 3
    · obtain ⟨an, ad, ok, c0, c1⟩ := HCC.out k hlt
      have nb : w6.heap.size + 1 < V.heap.size := cell?_lt c0
      have OK := Lib.hid ok
      clear ok
      have hf : f = 0 ∨ (f == 0) = false := by by_cases h : f = 0; exact .inl h; exact .inr (by simpa using h)
      have hg : g = 0 ∨ (g == 0) = false := by by_cases h : g = 0; exact .inl h; exact .inr (by simpa using h)
      rcases hf with rfl | hf
      · rcases hg with rfl | hg
        · skip
          go_wp2_with fail
          refine (HSa.out (by trivial) an ad OK.out _ (by (repeat (first | exact Below.refl _ _ | refine Below.drew ?_ | refine Below.allocS ?_ _ | refine Below.step ?_ (by assumption) | refine Below.setCell ?_ (by simp <;> omega) _ | refine Below.drewN' ?_ _)))).mono ?_
          rintro e v7 ⟨rfl, hb7⟩
          have v7m0 : v7.cell? ⟨w.heap.size, 0, none⟩ = some (.slice x.A x.xs.length x.ca) := keep_cell hb7 (by simp [go_sem, *])
          have v7m1 : v7.cell? ⟨w.heap.size, 1, none⟩ = some (.int .i64 x.e) := keep_cell hb7 (by simp [go_sem, *])
          have v7m2 : v7.cell? ⟨w4.heap.size, 0, none⟩ = some (.int .i64 p) := keep_cell hb7 (by simp [go_sem, *])
          have v7m3 : v7.cell? ⟨w4.heap.size, 1, none⟩ = some (.int .i64 q) := keep_cell hb7 (by simp [go_sem, *])
          have v7m4 : v7.cell? ⟨w5.heap.size, 0, none⟩ = some (.int .i64 r) := keep_cell hb7 (by simp [go_sem, *])
          have v7m5 : v7.cell? ⟨w5.heap.size, 1, none⟩ = some (.int .i64 s) := keep_cell hb7 (by simp [go_sem, *])
          have v7c0 : v7.cell? ⟨V.heap.size, 0, none⟩ = some (.int .i64 an) := keep_cell hb7 (by simp [go_sem, *])
          have v7c1 : v7.cell? ⟨V.heap.size, 1, none⟩ = some (.int .i64 ad) := keep_cell hb7 (by simp [go_sem, *])
          have g7 : Below V.heap.size V v7 := by (repeat (first | exact Below.refl _ _ | refine Below.drew ?_ | refine Below.allocS ?_ _ | refine Below.step ?_ (by assumption) | refine Below.setCell ?_ (by simp <;> omega) _ | refine Below.drewN' ?_ _))
          clear hb7
          go_wp2_with fail
          refine (HSb.out (by trivial) an ad OK.out _ (by (repeat (first | exact Below.refl _ _ | refine Below.drew ?_ | refine Below.allocS ?_ _ | refine Below.step ?_ (by assumption) | refine Below.setCell ?_ (by simp <;> omega) _ | refine Below.drewN' ?_ _)))).mono ?_
          rintro e v8 ⟨rfl, hb8⟩
          have g8 : Below V.heap.size V v8 := by (repeat (first | exact Below.refl _ _ | refine Below.drew ?_ | refine Below.allocS ?_ _ | refine Below.step ?_ (by assumption) | refine Below.setCell ?_ (by simp <;> omega) _ | refine Below.drewN' ?_ _))
          clear hb8
          go_wp2
          go_roundw
          case rel => exact ⟨k + 1, by omega, by go_num, Below.step hbw g8, keep_cell g8 m0, keep_cell g8 m1, keep_cell g8 m2, keep_cell g8 m3, keep_cell g8 m4, keep_cell g8 m5, fun j hj => by
            obtain ⟨p1, p2, p3, p4, p5⟩ := HCC.out j hj
            exact ⟨p1, p2, p3, keep_cell g8 p4, keep_cell g8 p5⟩⟩
          case measure => simp [intOf]; omega
        · skip
          go_wp2_with fail
          refine (HSa.out (by trivial) an ad OK.out _ (by (repeat (first | exact Below.refl _ _ | refine Below.drew ?_ | refine Below.allocS ?_ _ | refine Below.step ?_ (by assumption) | refine Below.setCell ?_ (by simp <;> omega) _ | refine Below.drewN' ?_ _)))).mono ?_
          rintro e v7 ⟨rfl, hb7⟩
          have v7m0 : v7.cell? ⟨w.heap.size, 0, none⟩ = some (.slice x.A x.xs.length x.ca) := keep_cell hb7 (by simp [go_sem, *])
          have v7m1 : v7.cell? ⟨w.heap.size, 1, none⟩ = some (.int .i64 x.e) := keep_cell hb7 (by simp [go_sem, *])
          have v7m2 : v7.cell? ⟨w4.heap.size, 0, none⟩ = some (.int .i64 p) := keep_cell hb7 (by simp [go_sem, *])
          have v7m3 : v7.cell? ⟨w4.heap.size, 1, none⟩ = some (.int .i64 q) := keep_cell hb7 (by simp [go_sem, *])
          have v7m4 : v7.cell? ⟨w5.heap.size, 0, none⟩ = some (.int .i64 r) := keep_cell hb7 (by simp [go_sem, *])
          have v7m5 : v7.cell? ⟨w5.heap.size, 1, none⟩ = some (.int .i64 s) := keep_cell hb7 (by simp [go_sem, *])
          have v7c0 : v7.cell? ⟨V.heap.size, 0, none⟩ = some (.int .i64 an) := keep_cell hb7 (by simp [go_sem, *])
          have v7c1 : v7.cell? ⟨V.heap.size, 1, none⟩ = some (.int .i64 ad) := keep_cell hb7 (by simp [go_sem, *])
          have g7 : Below V.heap.size V v7 := by (repeat (first | exact Below.refl _ _ | refine Below.drew ?_ | refine Below.allocS ?_ _ | refine Below.step ?_ (by assumption) | refine Below.setCell ?_ (by simp <;> omega) _ | refine Below.drewN' ?_ _))
          clear hb7
          go_wp2
          go_roundw
          case rel => exact ⟨k + 1, by omega, by go_num, Below.step hbw g7, keep_cell g7 m0, keep_cell g7 m1, keep_cell g7 m2, keep_cell g7 m3, keep_cell g7 m4, keep_cell g7 m5, fun j hj => by
            obtain ⟨p1, p2, p3, p4, p5⟩ := HCC.out j hj
            exact ⟨p1, p2, p3, keep_cell g7 p4, keep_cell g7 p5⟩⟩
          case measure => simp [intOf]; omega
      · rcases hg with rfl | hg
        · skip
          go_wp2_with fail
          refine (HSb.out (by trivial) an ad OK.out _ (by (repeat (first | exact Below.refl _ _ | refine Below.drew ?_ | refine Below.allocS ?_ _ | refine Below.step ?_ (by assumption) | refine Below.setCell ?_ (by simp <;> omega) _ | refine Below.drewN' ?_ _)))).mono ?_
          rintro e v7 ⟨rfl, hb7⟩
          have v7m0 : v7.cell? ⟨w.heap.size, 0, none⟩ = some (.slice x.A x.xs.length x.ca) := keep_cell hb7 (by simp [go_sem, *])
          have v7m1 : v7.cell? ⟨w.heap.size, 1, none⟩ = some (.int .i64 x.e) := keep_cell hb7 (by simp [go_sem, *])
          have v7m2 : v7.cell? ⟨w4.heap.size, 0, none⟩ = some (.int .i64 p) := keep_cell hb7 (by simp [go_sem, *])
          have v7m3 : v7.cell? ⟨w4.heap.size, 1, none⟩ = some (.int .i64 q) := keep_cell hb7 (by simp [go_sem, *])
          have v7m4 : v7.cell? ⟨w5.heap.size, 0, none⟩ = some (.int .i64 r) := keep_cell hb7 (by simp [go_sem, *])
          have v7m5 : v7.cell? ⟨w5.heap.size, 1, none⟩ = some (.int .i64 s) := keep_cell hb7 (by simp [go_sem, *])
          have v7c0 : v7.cell? ⟨V.heap.size, 0, none⟩ = some (.int .i64 an) := keep_cell hb7 (by simp [go_sem, *])
          have v7c1 : v7.cell? ⟨V.heap.size, 1, none⟩ = some (.int .i64 ad) := keep_cell hb7 (by simp [go_sem, *])
          have g7 : Below V.heap.size V v7 := by (repeat (first | exact Below.refl _ _ | refine Below.drew ?_ | refine Below.allocS ?_ _ | refine Below.step ?_ (by assumption) | refine Below.setCell ?_ (by simp <;> omega) _ | refine Below.drewN' ?_ _))
          clear hb7
          go_wp2
          go_roundw
          case rel => exact ⟨k + 1, by omega, by go_num, Below.step hbw g7, keep_cell g7 m0, keep_cell g7 m1, keep_cell g7 m2, keep_cell g7 m3, keep_cell g7 m4, keep_cell g7 m5, fun j hj => by
            obtain ⟨p1, p2, p3, p4, p5⟩ := HCC.out j hj
            exact ⟨p1, p2, p3, keep_cell g7 p4, keep_cell g7 p5⟩⟩
          case measure => simp [intOf]; omega
        · skip
          go_wp2_with fail
          go_roundw
          case rel => exact ⟨k + 1, by omega, by go_num, by (repeat (first | exact Below.refl _ _ | refine Below.drew ?_ | refine Below.allocS ?_ _ | refine Below.step ?_ (by assumption) | refine Below.setCell ?_ (by simp <;> omega) _ | refine Below.drewN' ?_ _)), by simp [go_sem, *], by simp [go_sem, *], by simp [go_sem, *], by simp [go_sem, *], by simp [go_sem, *], by simp [go_sem, *], fun j hj => by
            obtain ⟨p1, p2, p3, p4, p5⟩ := HCC.out j hj
            exact ⟨p1, p2, p3, by simp [go_sem, *], by simp [go_sem, *]⟩⟩
          case measure => simp [intOf]; omega
    · obtain rfl : k = 3 := by omega
      go_wp2_with fail
      refine (awake_c _).mono ?_
      rintro e w7 ⟨rfl, hb7⟩
      go_wp2
      go_ret
      exact ⟨rfl, by (repeat (first | exact Below.refl _ _ | refine Below.drew ?_ | refine Below.allocS ?_ _ | refine Below.step ?_ (by assumption) | refine Below.setCell ?_ (by simp <;> omega) _ | refine Below.drewN' ?_ _))⟩
end Go.Proofs.Ytbcabckokmjelaa
