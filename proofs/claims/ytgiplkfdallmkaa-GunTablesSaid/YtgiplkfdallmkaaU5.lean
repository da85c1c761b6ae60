/-
  The walk of the law GunTables.
-/
import Derived.Test.YtgiplkfdallmkaaU4
namespace Go.Proofs.Ytgiplkfdallmkaa
open Go.RowKit Go.Deep
set_option linter.unusedVariables false

theorem SameSpans_sl (l : List (Int × Int)) (u u' : Value) (hl : l.length ≤ 1000) (w : World) (hr : IsSl w ptE 2 u l) (hr' : IsSl w ptE 2 u' l) :
    Calls Try.prog 41 #[u, u'] w fun e w' => e = .returned (.bool true) ∧ Below w.heap.size w w' := by
  obtain ⟨A, c, rfl, h⟩ := hr
  obtain ⟨A', c', rfl, h'⟩ := hr'
  exact SameSpans_eq l A A' c c' hl w h h'
theorem SameShots_sl (l : List Shot) (u u' : Value) (hl : l.length ≤ 1000) (w : World) (hr : IsSl w shE 4 u l) (hr' : IsSl w shE 4 u' l) :
    Calls Try.prog 42 #[u, u'] w fun e w' => e = .returned (.bool true) ∧ Below w.heap.size w w' := by
  obtain ⟨A, c, rfl, h⟩ := hr
  obtain ⟨A', c', rfl, h'⟩ := hr'
  exact SameShots_eq l A A' c c' hl w h h'

theorem tables_awake (s v : Int) (l : List (Int × Int)) (sh : List Shot) (A1 A2 : Option Addr) (c1 c2 : Nat) (hl : l.length ≤ maxLen) (hs : sh.length ≤ maxLen) (h : ¬ (l.length ≤ 200 ∧ sh.length ≤ 50)) (w : World) :
    Calls Try.prog 10 #[.agg #[.int .i64 s, .int .i64 v], .slice A1 l.length c1, .slice A2 sh.length c2] w fun e w' => e = .returned (.bool true) ∧ Below w.heap.size w w' := by
  unfold maxLen at hl hs
  by_cases h1 : l.length ≤ 200
  · have h2 : ¬ sh.length ≤ 50 := fun h2 => h ⟨h1, h2⟩
    have hF := Lib.hid (fun A W => few_c sh.length A c2 W (by omega))
    rw [decide_eq_false h2] at hF
    clear h
    go_enter Try.func10, Try.ntmps10
    go_wp2_with (go_at_call 28; (with_reducible refine (hF.out _ _).mono ?_); rintro e w' ⟨rfl, rfl⟩)
    go_wp2_with fail
    refine (awake_c _).mono ?_
    rintro e w1 ⟨rfl, hb1⟩
    have x1_0_0 : w1.cell? ⟨w.heap.size, 0, none⟩ = some (.int .i64 s) := keep_cell hb1 (by simp [go_sem, *])
    have x1_0_1 : w1.cell? ⟨w.heap.size, 1, none⟩ = some (.int .i64 v) := keep_cell hb1 (by simp [go_sem, *])
    have y1_0 : w.heap.size < w1.heap.size := cell?_lt x1_0_0
    have g1 : Below w.heap.size w w1 := by (repeat (first | exact Below.refl _ _ | refine Below.drew ?_ | refine Below.allocS ?_ _ | refine Below.step ?_ (by assumption) | refine Below.setCell ?_ (by simp <;> omega) _ | refine Below.drewN' ?_ _))
    clear hb1
    go_wp2
    go_ret
    exact ⟨rfl, by (repeat (first | exact Below.refl _ _ | refine Below.drew ?_ | refine Below.allocS ?_ _ | refine Below.step ?_ (by assumption) | refine Below.setCell ?_ (by simp <;> omega) _ | refine Below.drewN' ?_ _))⟩
  · clear h
    go_enter Try.func10, Try.ntmps10
    go_wp2_with fail
    refine (awake_c _).mono ?_
    rintro e w1 ⟨rfl, hb1⟩
    have x1_0_0 : w1.cell? ⟨w.heap.size, 0, none⟩ = some (.int .i64 s) := keep_cell hb1 (by simp [go_sem, *])
    have x1_0_1 : w1.cell? ⟨w.heap.size, 1, none⟩ = some (.int .i64 v) := keep_cell hb1 (by simp [go_sem, *])
    have y1_0 : w.heap.size < w1.heap.size := cell?_lt x1_0_0
    have g1 : Below w.heap.size w w1 := by (repeat (first | exact Below.refl _ _ | refine Below.drew ?_ | refine Below.allocS ?_ _ | refine Below.step ?_ (by assumption) | refine Below.setCell ?_ (by simp <;> omega) _ | refine Below.drewN' ?_ _))
    clear hb1
    go_wp2
    go_ret
    exact ⟨rfl, by (repeat (first | exact Below.refl _ _ | refine Below.drew ?_ | refine Below.allocS ?_ _ | refine Below.step ?_ (by assumption) | refine Below.setCell ?_ (by simp <;> omega) _ | refine Below.drewN' ?_ _))⟩

set_option maxHeartbeats 4000000 in
set_option maxRecDepth 100000 in
theorem tables_main (s v x y : Int) (l : List (Int × Int)) (sh : List Shot) (A1 A2 : Option Addr) (c1 c2 : Nat) (n1 : l.length ≤ c1) (m1 : c1 ≤ maxLen) (hl : l.length ≤ 200) (hs : sh.length ≤ 50) (hxy : l = [] ∧ x = 0 ∧ y = 0 ∨ ∃ h : 0 < l.length, l[0] = (x, y)) (w : World) (r1 : RdL w w.heap.size ptE 2 A1 l) (r2 : RdL w w.heap.size shE 4 A2 sh) :
    Calls Try.prog 10 #[.agg #[.int .i64 s, .int .i64 v], .slice A1 l.length c1, .slice A2 sh.length c2] w fun e w' => e = .returned (.bool true) ∧ Below w.heap.size w w' := by
  have hF := Lib.hid (fun A W => few_c sh.length A c2 W (by omega))
  rw [decide_eq_true hs] at hF
  have HT := Lib.hid (fun W (hb : Below w.heap.size w W) => Table_c s v x y l A1 c1 n1 m1 (by omega) W (r1.step hb))
  have HTr := Lib.hid (fun W (hb : Below w.heap.size w W) => rTable_c s v x y l A1 c1 (by omega) W (r1.step hb))
  have HM := Lib.hid (fun W (hb : Below w.heap.size w W) => Mirrored_c sh A2 c2 (by omega) W (r2.step hb))
  have HMr := Lib.hid (fun W (hb : Below w.heap.size w W) => rMirrored_c sh A2 c2 (by omega) W (r2.step hb))
  have hT0 : (tabL s v x y l).length ≤ 1000 := by unfold tabL; split; (rw [List.length_map]; omega); simp
  have hM0 : (mirL sh).length ≤ 1000 := by unfold mirL; split; (rw [List.length_map]; omega); simp
  have R1 := Lib.hid r1
  clear r1 r2
  generalize tabL s v x y l = TL at *
  generalize tabE s v x y l = TE at *
  generalize mirL sh = ML at *
  generalize mirE sh = ME at *
  go_enter Try.func10, Try.ntmps10
  go_upto_if 33 with (go_at_call 28; (with_reducible refine (hF.out _ _).mono ?_); rintro e w' ⟨rfl, rfl⟩)
  go_cut [34, 35, 36] (fun s34 s35 s36 w0 => (True) ∧ w0.cell? ⟨w.heap.size, 0, none⟩ = some (.int .i64 s) ∧ w0.cell? ⟨w.heap.size, 1, none⟩ = some (.int .i64 v) ∧ w0.cell? ⟨w.heap.size + 1, 0, none⟩ = some (.int .i64 x) ∧ w0.cell? ⟨w.heap.size + 1, 1, none⟩ = some (.int .i64 y) ∧ Below w.heap.size w w0)
  case first =>
    rcases hxy with ⟨rfl, rfl, rfl⟩ | ⟨h0, hx⟩
    · go_wp2_with fail
      go_meet; exact ⟨trivial, (by simp [go_sem, *]), (by simp [go_sem, *]), (by simp [go_sem, *]), (by simp [go_sem, *]), by (repeat (first | exact Below.refl _ _ | refine Below.drew ?_ | refine Below.allocS ?_ _ | refine Below.step ?_ (by assumption) | refine Below.setCell ?_ (by simp <;> omega) _ | refine Below.drewN' ?_ _))⟩
    · obtain ⟨b, off, rfl, hb0, hc⟩ := R1.out h0
      have q0 := hc 0 h0 0 _ rfl
      have q1 := hc 0 h0 1 _ rfl
      simp [hx] at q0 q1
      clear hc
      go_wp2_with fail
      go_meet; exact ⟨trivial, (by simp [go_sem, *]), (by simp [go_sem, *]), (by simp [go_sem, *]), (by simp [go_sem, *]), by (repeat (first | exact Below.refl _ _ | refine Below.drew ?_ | refine Below.allocS ?_ _ | refine Below.step ?_ (by assumption) | refine Below.setCell ?_ (by simp <;> omega) _ | refine Below.drewN' ?_ _))⟩
  case rest =>
    obtain ⟨c0, x0_0_0, x0_0_1, x0_1_0, x0_1_1, g0⟩ := hcut
    have y0_0 : w.heap.size < wc.heap.size := cell?_lt x0_0_0
    have y0_1 : w.heap.size + 1 < wc.heap.size := cell?_lt x0_1_0
    clear c0
    go_wp2_with fail
    refine (HT.out _ (by (repeat (first | exact Below.refl _ _ | refine Below.drew ?_ | refine Below.allocS ?_ _ | refine Below.step ?_ (by assumption) | refine Below.setCell ?_ (by simp <;> omega) _ | refine Below.drewN' ?_ _)))).mono ?_
    rintro e w1 ⟨u1, rfl, t1, hb1⟩
    have x1_0_0 : w1.cell? ⟨w.heap.size, 0, none⟩ = some (.int .i64 s) := keep_cell hb1 (by simp [go_sem, *])
    have x1_0_1 : w1.cell? ⟨w.heap.size, 1, none⟩ = some (.int .i64 v) := keep_cell hb1 (by simp [go_sem, *])
    have y1_0 : w.heap.size < w1.heap.size := cell?_lt x1_0_0
    have x1_1_0 : w1.cell? ⟨w.heap.size + 1, 0, none⟩ = some (.int .i64 x) := keep_cell hb1 (by simp [go_sem, *])
    have x1_1_1 : w1.cell? ⟨w.heap.size + 1, 1, none⟩ = some (.int .i64 y) := keep_cell hb1 (by simp [go_sem, *])
    have y1_1 : w.heap.size + 1 < w1.heap.size := cell?_lt x1_1_0
    have g1 : Below w.heap.size w w1 := by (repeat (first | exact Below.refl _ _ | refine Below.drew ?_ | refine Below.allocS ?_ _ | refine Below.step ?_ (by assumption) | refine Below.setCell ?_ (by simp <;> omega) _ | refine Below.drewN' ?_ _))
    clear hb1 g0 x0_0_0 x0_0_1 x0_1_0 x0_1_1 y0_0 y0_1
    go_wp2_with fail
    refine (HTr.out _ (by (repeat (first | exact Below.refl _ _ | refine Below.drew ?_ | refine Below.allocS ?_ _ | refine Below.step ?_ (by assumption) | refine Below.setCell ?_ (by simp <;> omega) _ | refine Below.drewN' ?_ _)))).mono ?_
    rintro e w2 ⟨u2, rfl, t2, hb2⟩
    replace t1 := t1.step hb2
    have x2_0_0 : w2.cell? ⟨w.heap.size, 0, none⟩ = some (.int .i64 s) := keep_cell hb2 (by simp [go_sem, *])
    have x2_0_1 : w2.cell? ⟨w.heap.size, 1, none⟩ = some (.int .i64 v) := keep_cell hb2 (by simp [go_sem, *])
    have y2_0 : w.heap.size < w2.heap.size := cell?_lt x2_0_0
    have x2_1_0 : w2.cell? ⟨w.heap.size + 1, 0, none⟩ = some (.int .i64 x) := keep_cell hb2 (by simp [go_sem, *])
    have x2_1_1 : w2.cell? ⟨w.heap.size + 1, 1, none⟩ = some (.int .i64 y) := keep_cell hb2 (by simp [go_sem, *])
    have y2_1 : w.heap.size + 1 < w2.heap.size := cell?_lt x2_1_0
    have g2 : Below w.heap.size w w2 := by (repeat (first | exact Below.refl _ _ | refine Below.drew ?_ | refine Below.allocS ?_ _ | refine Below.step ?_ (by assumption) | refine Below.setCell ?_ (by simp <;> omega) _ | refine Below.drewN' ?_ _))
    clear hb2 g1 x1_0_0 x1_0_1 x1_1_0 x1_1_1 y1_0 y1_1
    go_wp2_with fail
    refine (HM.out _ (by (repeat (first | exact Below.refl _ _ | refine Below.drew ?_ | refine Below.allocS ?_ _ | refine Below.step ?_ (by assumption) | refine Below.setCell ?_ (by simp <;> omega) _ | refine Below.drewN' ?_ _)))).mono ?_
    rintro e w3 ⟨u3, rfl, t3, hb3⟩
    replace t1 := t1.step hb3
    replace t2 := t2.step hb3
    have x3_0_0 : w3.cell? ⟨w.heap.size, 0, none⟩ = some (.int .i64 s) := keep_cell hb3 (by simp [go_sem, *])
    have x3_0_1 : w3.cell? ⟨w.heap.size, 1, none⟩ = some (.int .i64 v) := keep_cell hb3 (by simp [go_sem, *])
    have y3_0 : w.heap.size < w3.heap.size := cell?_lt x3_0_0
    have x3_1_0 : w3.cell? ⟨w.heap.size + 1, 0, none⟩ = some (.int .i64 x) := keep_cell hb3 (by simp [go_sem, *])
    have x3_1_1 : w3.cell? ⟨w.heap.size + 1, 1, none⟩ = some (.int .i64 y) := keep_cell hb3 (by simp [go_sem, *])
    have y3_1 : w.heap.size + 1 < w3.heap.size := cell?_lt x3_1_0
    have g3 : Below w.heap.size w w3 := by (repeat (first | exact Below.refl _ _ | refine Below.drew ?_ | refine Below.allocS ?_ _ | refine Below.step ?_ (by assumption) | refine Below.setCell ?_ (by simp <;> omega) _ | refine Below.drewN' ?_ _))
    clear hb3 g2 x2_0_0 x2_0_1 x2_1_0 x2_1_1 y2_0 y2_1
    go_wp2_with fail
    refine (HMr.out _ (by (repeat (first | exact Below.refl _ _ | refine Below.drew ?_ | refine Below.allocS ?_ _ | refine Below.step ?_ (by assumption) | refine Below.setCell ?_ (by simp <;> omega) _ | refine Below.drewN' ?_ _)))).mono ?_
    rintro e w4 ⟨u4, rfl, t4, hb4⟩
    replace t1 := t1.step hb4
    replace t2 := t2.step hb4
    replace t3 := t3.step hb4
    have x4_0_0 : w4.cell? ⟨w.heap.size, 0, none⟩ = some (.int .i64 s) := keep_cell hb4 (by simp [go_sem, *])
    have x4_0_1 : w4.cell? ⟨w.heap.size, 1, none⟩ = some (.int .i64 v) := keep_cell hb4 (by simp [go_sem, *])
    have y4_0 : w.heap.size < w4.heap.size := cell?_lt x4_0_0
    have x4_1_0 : w4.cell? ⟨w.heap.size + 1, 0, none⟩ = some (.int .i64 x) := keep_cell hb4 (by simp [go_sem, *])
    have x4_1_1 : w4.cell? ⟨w.heap.size + 1, 1, none⟩ = some (.int .i64 y) := keep_cell hb4 (by simp [go_sem, *])
    have y4_1 : w.heap.size + 1 < w4.heap.size := cell?_lt x4_1_0
    have g4 : Below w.heap.size w w4 := by (repeat (first | exact Below.refl _ _ | refine Below.drew ?_ | refine Below.allocS ?_ _ | refine Below.step ?_ (by assumption) | refine Below.setCell ?_ (by simp <;> omega) _ | refine Below.drewN' ?_ _))
    clear hb4 g3 x3_0_0 x3_0_1 x3_1_0 x3_1_1 y3_0 y3_1
    go_wp2_with fail
    refine (SameSpans_sl TL _ _ hT0 _ t1 t2).mono ?_
    rintro e w5 ⟨rfl, hb5⟩
    replace t1 := t1.step hb5
    replace t2 := t2.step hb5
    replace t3 := t3.step hb5
    replace t4 := t4.step hb5
    have x5_0_0 : w5.cell? ⟨w.heap.size, 0, none⟩ = some (.int .i64 s) := keep_cell hb5 (by simp [go_sem, *])
    have x5_0_1 : w5.cell? ⟨w.heap.size, 1, none⟩ = some (.int .i64 v) := keep_cell hb5 (by simp [go_sem, *])
    have y5_0 : w.heap.size < w5.heap.size := cell?_lt x5_0_0
    have x5_1_0 : w5.cell? ⟨w.heap.size + 1, 0, none⟩ = some (.int .i64 x) := keep_cell hb5 (by simp [go_sem, *])
    have x5_1_1 : w5.cell? ⟨w.heap.size + 1, 1, none⟩ = some (.int .i64 y) := keep_cell hb5 (by simp [go_sem, *])
    have y5_1 : w.heap.size + 1 < w5.heap.size := cell?_lt x5_1_0
    have g5 : Below w.heap.size w w5 := by (repeat (first | exact Below.refl _ _ | refine Below.drew ?_ | refine Below.allocS ?_ _ | refine Below.step ?_ (by assumption) | refine Below.setCell ?_ (by simp <;> omega) _ | refine Below.drewN' ?_ _))
    clear hb5 g4 x4_0_0 x4_0_1 x4_1_0 x4_1_1 y4_0 y4_1
    go_wp2_with fail
    refine (SameShots_sl ML _ _ hM0 _ t3 t4).mono ?_
    rintro e w6 ⟨rfl, hb6⟩
    replace t1 := t1.step hb6
    replace t2 := t2.step hb6
    replace t3 := t3.step hb6
    replace t4 := t4.step hb6
    have x6_0_0 : w6.cell? ⟨w.heap.size, 0, none⟩ = some (.int .i64 s) := keep_cell hb6 (by simp [go_sem, *])
    have x6_0_1 : w6.cell? ⟨w.heap.size, 1, none⟩ = some (.int .i64 v) := keep_cell hb6 (by simp [go_sem, *])
    have y6_0 : w.heap.size < w6.heap.size := cell?_lt x6_0_0
    have x6_1_0 : w6.cell? ⟨w.heap.size + 1, 0, none⟩ = some (.int .i64 x) := keep_cell hb6 (by simp [go_sem, *])
    have x6_1_1 : w6.cell? ⟨w.heap.size + 1, 1, none⟩ = some (.int .i64 y) := keep_cell hb6 (by simp [go_sem, *])
    have y6_1 : w.heap.size + 1 < w6.heap.size := cell?_lt x6_1_0
    have g6 : Below w.heap.size w w6 := by (repeat (first | exact Below.refl _ _ | refine Below.drew ?_ | refine Below.allocS ?_ _ | refine Below.step ?_ (by assumption) | refine Below.setCell ?_ (by simp <;> omega) _ | refine Below.drewN' ?_ _))
    clear hb6 g5 x5_0_0 x5_0_1 x5_1_0 x5_1_1 y5_0 y5_1
    clear t1 t2 t3 t4
    go_wp2
    clear HT HTr HM HMr hF
    go_loopw [16, 17, 18, 19, 20] (fun i v17 v18 v19 v20 wr => ∃ k : Nat, i = .int .i64 k ∧ 1 ≤ k ∧ k ≤ 20 ∧ Below w6.heap.size w6 wr) (fun i v17 v18 v19 v20 _ => 30 - (intOf i).toNat)
    case atStart => exact ⟨1, rfl, by omega, by omega, Below.refl _ _⟩
    case round =>
      obtain ⟨k, rfl, hk1, hk20, hbw⟩ := hrel
      have z0 := keep_cell hbw x6_0_0
      have z1 := keep_cell hbw x6_0_1
      have z2 := keep_cell hbw x6_1_0
      have z3 := keep_cell hbw x6_1_1
      have y0 := cell?_lt z0
      have y1 := cell?_lt z2
      have gw := Below.step g6 hbw
      clear x6_0_0 x6_0_1 x6_1_0 x6_1_1 g6 y6_0 y6_1
      by_cases hlt : k < l.length
      · by_cases h20 : k < 20
        · obtain ⟨b, off, rfl, hb0, hc⟩ := R1.out (by omega)
          have hb1 : b < wr.heap.size := Nat.lt_of_lt_of_le hb0 gw.size
          have q0 := (gw.cell (p := ⟨b, _, none⟩) hb0).trans (hc (k - 1) (by omega) 0 _ rfl)
          have q1 := (gw.cell (p := ⟨b, _, none⟩) hb0).trans (hc (k - 1) (by omega) 1 _ rfl)
          have q2 := (gw.cell (p := ⟨b, _, none⟩) hb0).trans (hc k hlt 0 _ rfl)
          have q3 := (gw.cell (p := ⟨b, _, none⟩) hb0).trans (hc k hlt 1 _ rfl)
          clear hc
          simp at q0 q2
          generalize l[k - 1].1 = e1 at q0
          generalize l[k - 1].2 = e2 at q1
          generalize l[k].1 = f1 at q2
          generalize l[k].2 = f2 at q3
          have HA := Lib.hid (fun W => Alike_c s v x y e1 e2 f1 f2 W)
          have HB := Lib.hid (fun W => rAlike_c s v x y e1 e2 f1 f2 W)
          generalize alE s v x y e1 e2 f1 f2 = AE at HA HB
          generalize alV s v x y e1 e2 f1 f2 = AV at HA HB
          have i0 : (0 : Int) ≤ (k : Int) - 1 := by omega
          have i6 : (1 : Int) ≤ (k : Int) := by omega
          have i1 : (k : Int) - 1 < (l.length : Int) := by omega
          have i2 : (0 : Int) ≤ (k : Int) := by omega
          have i3 : (k : Int) < (l.length : Int) := by omega
          have i4 : IntKind.i64.wrap ((k : Int) - 1) = (k : Int) - 1 := by rw [IntKind.wrap_i64]; omega
          have i5 : ((k : Int) - 1).toNat = k - 1 := by omega
          go_wp2_with fail
          go_region_held3 (fun W => W.cell? ⟨w.heap.size, 0, none⟩ = some (.int .i64 s) ∧ W.cell? ⟨w.heap.size, 1, none⟩ = some (.int .i64 v) ∧ W.cell? ⟨w.heap.size + 1, 0, none⟩ = some (.int .i64 x) ∧ W.cell? ⟨w.heap.size + 1, 1, none⟩ = some (.int .i64 y) ∧ W.cell? ⟨b, off + (k - 1) * 2, none⟩ = some (.int .i64 e1) ∧ W.cell? ⟨b, off + (k - 1) * 2 + 1, none⟩ = some (.int .i64 e2) ∧ W.cell? ⟨b, off + k * 2, none⟩ = some (.int .i64 f1) ∧ W.cell? ⟨b, off + k * 2 + 1, none⟩ = some (.int .i64 f2) ∧ Below wr.heap.size wr W) (first | assumption | (exact And.imp (keep_cell (by assumption)) (And.imp (keep_cell (by assumption)) (And.imp (keep_cell (by assumption)) (And.imp (keep_cell (by assumption)) (And.imp (keep_cell (by assumption)) (And.imp (keep_cell (by assumption)) (And.imp (keep_cell (by assumption)) (And.imp (keep_cell (by assumption)) (fun h => Below.step h (by assumption))))))))) (by assumption)) | exact ⟨by simp [go_sem, *], by simp [go_sem, *], by simp [go_sem, *], by simp [go_sem, *], by simp [go_sem, *], by simp [go_sem, *], by simp [go_sem, *], by simp [go_sem, *], by (repeat (first | exact Below.refl _ _ | refine Below.drew ?_ | refine Below.allocS ?_ _ | refine Below.step ?_ (by assumption) | refine Below.setCell ?_ (by simp <;> omega) _ | refine Below.drewN' ?_ _))⟩)
            (first | (go_at_call 43; (with_reducible refine (HA.out _).mono ?_); rintro e w7 ⟨rfl, hb⟩))
          obtain ⟨s0, s1, s2, s3, s4, s5, s6, s7, s8⟩ := (fun (h : _ ∧ _ ∧ _ ∧ _ ∧ _ ∧ _ ∧ _ ∧ _ ∧ Below wr.heap.size wr _) => h) (by assumption)
          clear q0 q1 q2 q3 z0 z1 z2 z3 hb
          go_wp2_with fail
          go_region_held3 (fun W => W.cell? ⟨w.heap.size, 0, none⟩ = some (.int .i64 s) ∧ W.cell? ⟨w.heap.size, 1, none⟩ = some (.int .i64 v) ∧ W.cell? ⟨w.heap.size + 1, 0, none⟩ = some (.int .i64 x) ∧ W.cell? ⟨w.heap.size + 1, 1, none⟩ = some (.int .i64 y) ∧ W.cell? ⟨b, off + (k - 1) * 2, none⟩ = some (.int .i64 e1) ∧ W.cell? ⟨b, off + (k - 1) * 2 + 1, none⟩ = some (.int .i64 e2) ∧ W.cell? ⟨b, off + k * 2, none⟩ = some (.int .i64 f1) ∧ W.cell? ⟨b, off + k * 2 + 1, none⟩ = some (.int .i64 f2) ∧ Below wr.heap.size wr W) (first | assumption | (exact And.imp (keep_cell (by assumption)) (And.imp (keep_cell (by assumption)) (And.imp (keep_cell (by assumption)) (And.imp (keep_cell (by assumption)) (And.imp (keep_cell (by assumption)) (And.imp (keep_cell (by assumption)) (And.imp (keep_cell (by assumption)) (And.imp (keep_cell (by assumption)) (fun h => Below.step h (by assumption))))))))) (by assumption)) | exact ⟨by simp [go_sem, *], by simp [go_sem, *], by simp [go_sem, *], by simp [go_sem, *], by simp [go_sem, *], by simp [go_sem, *], by simp [go_sem, *], by simp [go_sem, *], by first | exact s8 | exact Below.drewN' s8 _ | exact Below.drew s8⟩)
            (first | (go_at_call 44; (with_reducible refine (HB.out _).mono ?_); rintro e w8 ⟨rfl, hb⟩))
          clear s8
          have h8 := (fun (h : _ ∧ _ ∧ _ ∧ _ ∧ _ ∧ _ ∧ _ ∧ _ ∧ Below wr.heap.size wr _) => h.2.2.2.2.2.2.2.2) (by assumption)
          go_wp2
          go_roundw
          case rel => exact ⟨k + 1, by go_num, by omega, by omega, Below.step hbw h8⟩
          case measure => simp [intOf]; omega
        · go_wp2_with fail
          refine (awake_c _).mono ?_
          rintro e w9 ⟨rfl, hb⟩
          go_wp2
          go_ret
          exact ⟨rfl, Below.step gw hb⟩
      · go_wp2_with fail
        refine (awake_c _).mono ?_
        rintro e w9 ⟨rfl, hb⟩
        go_wp2
        go_ret
        exact ⟨rfl, Below.step gw hb⟩

theorem GunTables_walk (w : World) (a0_0 a0_1 : Int) (A1 : Option Addr) (c1 : Nat) (l1 : List _) (A2 : Option Addr) (c2 : Nat) (l2 : List _) (w0_0 : I64 a0_0) (w0_1 : I64 a0_1) (n1 : l1.length ≤ c1) (m1 : c1 ≤ maxLen) (r1 : RdL w w.heap.size ptE 2 A1 l1) (w1 : ∀ x ∈ l1, ∃ g : Nat → Int, x = (fun g => (g 0, g 1)) g ∧ ∀ j, j < 2 → I64 (g j)) (n2 : l2.length ≤ c2) (m2 : c2 ≤ maxLen) (r2 : RdL w w.heap.size shE 4 A2 l2) (w2 : ∀ x ∈ l2, ∃ g : Nat → Int, x = (fun g => (⟨g 0, g 1, g 2, g 3⟩ : Shot)) g ∧ ∀ j, j < 4 → I64 (g j)) :
    Calls Try.prog 10 #[.agg #[.int .i64 a0_0, .int .i64 a0_1], .slice A1 l1.length c1, .slice A2 l2.length c2] w fun e w' => e = .returned (.bool true) ∧ Below w.heap.size w w' := by
  by_cases h : l1.length ≤ 200 ∧ l2.length ≤ 50
  · rcases Nat.eq_zero_or_pos l1.length with h0 | h0
    · exact tables_main a0_0 a0_1 0 0 l1 l2 A1 A2 c1 c2 n1 m1 h.1 h.2 (Or.inl ⟨List.eq_nil_of_length_eq_zero h0, rfl, rfl⟩) w r1 r2
    · exact tables_main a0_0 a0_1 l1[0].1 l1[0].2 l1 l2 A1 A2 c1 c2 n1 m1 h.1 h.2 (Or.inr ⟨h0, rfl⟩) w r1 r2
  · exact tables_awake a0_0 a0_1 l1 l2 A1 A2 c1 c2 (Nat.le_trans n1 m1) (Nat.le_trans n2 m2) h w
end Go.Proofs.Ytgiplkfdallmkaa
