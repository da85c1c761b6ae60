/-
  TransitParts: the walk.
-/
import Derived.Test.YtbcabckokmjelaaK11
namespace Go.Proofs.Ytbcabckokmjelaa
open Go.RowKit Go.Deep
set_option linter.unusedVariables false
set_option linter.unusedSimpArgs false
theorem carry {f : FuncId} {args : Array Value} {W : World} {R : Ending → World → Prop} (P : World → Prop) (h : Calls Try.prog f args W fun e w' => R e w' ∧ Below W.heap.size W w') (hP : ∀ W', Below W.heap.size W W' → P W') :
    Calls Try.prog f args W fun e w' => (R e w' ∧ P w') ∧ Below W.heap.size W w' := h.mono fun e w' h => ⟨⟨h.1, hP w' h.2⟩, h.2⟩
set_option maxHeartbeats 2000000 in
set_option maxRecDepth 100000 in
theorem TransitParts_walk (w : World) (x : Tb) (A : Option Addr) (cap : Nat) (l : List Tr) (hx : TbAt w x) (hl : l.length ≤ cap) (hm : cap ≤ maxLen) (hr : RdL w w.heap.size trE 5 A l) (ht : ∀ t ∈ l, TrAt w t) :
    Calls Try.prog 8 #[.agg #[.slice x.A x.xs.length x.ca, .int .i64 x.e], .slice A l.length cap] w fun e w' => e = .returned (.bool true) ∧ Below w.heap.size w w' := by
  have HW := Lib.hid (fun W (hb : Below w.heap.size w W) => wide_c x l A cap W (hx.step hb) hl hm (hr.step hb))
  have H1 := Lib.hid (fun W (hb : Below w.heap.size w W) => (Least_c x l A cap W (hx.step hb) hl hm (hr.step hb) (fun t h => (ht t h).step hb)).mono fun e w' h => (⟨ls_val h.1, h.2⟩ : _ ∧ _))
  have H2 := Lib.hid (fun W (hb : Below w.heap.size w W) => (rLeast_c x l A cap W (hx.step hb) hl hm (hr.step hb) (fun t h => (ht t h).step hb)).mono fun e w' h => (⟨rls_val h.1, h.2⟩ : _ ∧ _))
  have H3 := Lib.hid (fun W (hb : Below w.heap.size w W) => (Most_c x l A cap W (hx.step hb) hl hm (hr.step hb) (fun t h => (ht t h).step hb)).mono fun e w' h => (⟨ms_val h.1, h.2⟩ : _ ∧ _))
  have H4 := Lib.hid (fun W (hb : Below w.heap.size w W) => (rMost_c x l A cap W (hx.step hb) hl hm (hr.step hb) (fun t h => (ht t h).step hb)).mono fun e w' h => (⟨rms_val h.1, h.2⟩ : _ ∧ _))
  have H5 := Lib.hid (fun W (hb : Below w.heap.size w W) => (Odd_c x l A cap W (hx.step hb) hl hm (hr.step hb) (fun t h => (ht t h).step hb)).mono fun e w' h => (⟨odd_form h.1, h.1, h.2⟩ : _ ∧ _ ∧ _))
  have H6 : Hid (∀ W e0, OddR x l e0 → Below w.heap.size w W → Calls Try.prog 43 #[.agg #[.slice x.A x.xs.length x.ca, .int .i64 x.e], .slice A l.length cap] W fun e w' => e = e0 ∧ Below W.heap.size W w') :=
    Lib.hid (fun W e0 h0 (hb : Below w.heap.size w W) => (rOdd_c x l A cap W (hx.step hb) hl hm (hr.step hb) (fun t h => (ht t h).step hb)).mono fun e w' h => ⟨odd_det h0 h.1, h.2⟩)
  have H7 := Lib.hid (fun W (hb : Below w.heap.size w W) => (Tightest_c x l A cap W (hx.step hb) hl hm (hr.step hb) (fun t h => (ht t h).step hb)).mono fun e w' h => (⟨tight_form h.1, h.1, h.2⟩ : _ ∧ _ ∧ _))
  have H8 : Hid (∀ W e0, TightR x l e0 → Below w.heap.size w W → Calls Try.prog 44 #[.agg #[.slice x.A x.xs.length x.ca, .int .i64 x.e], .slice A l.length cap] W fun e w' => e = e0 ∧ Below W.heap.size W w') :=
    Lib.hid (fun W e0 h0 (hb : Below w.heap.size w W) => (rTightest_c x l A cap W (hx.step hb) hl hm (hr.step hb) (fun t h => (ht t h).step hb)).mono fun e w' h => ⟨tight_det h0 h.1, h.2⟩)
  have hll := lsLst_len x l
  have hml := msLst_len x l
  have hbig : l.length ≤ 9223372036854775807 := by unfold maxLen at hm; omega
  clear hx hl hm hr ht
  have HS1 : Hid (∀ (A1 B1 : Option Addr) (c1 d1 : Nat) W, RdL W W.heap.size inE 1 A1 ((lsLst x l).map Int.ofNat) → RdL W W.heap.size inE 1 B1 ((lsLst x l).map Int.ofNat) → Calls Try.prog 41 #[.slice A1 (lsLst x l).length c1, .slice B1 (lsLst x l).length d1] W fun e w' => e = .returned (.bool true) ∧ Below W.heap.size W w') :=
    Lib.hid (fun A1 B1 c1 d1 W h1 h2 => SameInts_c _ _ (List.length_map ..) A1 B1 c1 d1 (by omega) W h1 h2)
  have HS2 : Hid (∀ (A1 B1 : Option Addr) (c1 d1 : Nat) W, RdL W W.heap.size inE 1 A1 ((msLst x l).map Int.ofNat) → RdL W W.heap.size inE 1 B1 ((msLst x l).map Int.ofNat) → Calls Try.prog 41 #[.slice A1 (msLst x l).length c1, .slice B1 (msLst x l).length d1] W fun e w' => e = .returned (.bool true) ∧ Below W.heap.size W w') :=
    Lib.hid (fun A1 B1 c1 d1 W h1 h2 => SameInts_c _ _ (List.length_map ..) A1 B1 c1 d1 (by omega) W h1 h2)
  clear hll hml hbig
  generalize lsLst x l = L1 at *
  generalize msLst x l = L2 at *
  generalize lsEr x l = E1 at *
  generalize stErr x l = E2 at *
  obtain ⟨n1, hn1⟩ : ∃ n1, n1 = L1.length := ⟨_, rfl⟩
  obtain ⟨n2, hn2⟩ : ∃ n2, n2 = L2.length := ⟨_, rfl⟩
  rw [← hn1] at H1 H2 HS1
  rw [← hn2] at H3 H4 HS2
  clear hn1 hn2
  go_enter Try.func8, Try.ntmps8
  go_wp2_with fail
  refine (HW.out _ (by (repeat (first | exact Below.refl _ _ | refine Below.drew ?_ | refine Below.allocS ?_ _ | refine Below.step ?_ (by assumption) | refine Below.setCell ?_ (by simp <;> omega) _ | refine Below.drewN' ?_ _)))).mono ?_
  rintro e w1 ⟨⟨X, rfl, -⟩, hb1⟩
  have x1_0_0 : w1.cell? ⟨w.heap.size, 0, none⟩ = some (.slice x.A x.xs.length x.ca) := keep_cell hb1 (by simp [go_sem, *])
  have x1_0_1 : w1.cell? ⟨w.heap.size, 1, none⟩ = some (.int .i64 x.e) := keep_cell hb1 (by simp [go_sem, *])
  have y1_0 : w.heap.size < w1.heap.size := cell?_lt x1_0_0
  have g1 : Below w.heap.size w w1 := by (repeat (first | exact Below.refl _ _ | refine Below.drew ?_ | refine Below.allocS ?_ _ | refine Below.step ?_ (by assumption) | refine Below.setCell ?_ (by simp <;> omega) _ | refine Below.drewN' ?_ _))
  clear hb1
  cases X
  case true =>
    go_wp2_with fail
    refine (awake_c _).mono ?_
    rintro e w2 ⟨rfl, hb2⟩
    go_wp2
    go_ret
    exact ⟨rfl, by (repeat (first | exact Below.refl _ _ | refine Below.drew ?_ | refine Below.allocS ?_ _ | refine Below.step ?_ (by assumption) | refine Below.setCell ?_ (by simp <;> omega) _ | refine Below.drewN' ?_ _))⟩
  go_wp2_with fail
  refine (H1.out _ (by (repeat (first | exact Below.refl _ _ | refine Below.drew ?_ | refine Below.allocS ?_ _ | refine Below.step ?_ (by assumption) | refine Below.setCell ?_ (by simp <;> omega) _ | refine Below.drewN' ?_ _)))).mono ?_
  rintro e w2 ⟨⟨A2, c2, rfl, r2⟩, hb2⟩
  have x2_0_0 : w2.cell? ⟨w.heap.size, 0, none⟩ = some (.slice x.A x.xs.length x.ca) := keep_cell hb2 (by simp [go_sem, *])
  have x2_0_1 : w2.cell? ⟨w.heap.size, 1, none⟩ = some (.int .i64 x.e) := keep_cell hb2 (by simp [go_sem, *])
  have y2_0 : w.heap.size < w2.heap.size := cell?_lt x2_0_0
  have g2 : Below w.heap.size w w2 := by (repeat (first | exact Below.refl _ _ | refine Below.drew ?_ | refine Below.allocS ?_ _ | refine Below.step ?_ (by assumption) | refine Below.setCell ?_ (by simp <;> omega) _ | refine Below.drewN' ?_ _))
  clear hb2 g1 x1_0_0 x1_0_1 y1_0
  have R2 := Lib.hid r2
  clear r2
  go_wp2_with fail
  refine (carry (fun W => RdL W W.heap.size inE 1 A2 (L1.map Int.ofNat)) (H2.out _ (by (repeat (first | exact Below.refl _ _ | refine Below.drew ?_ | refine Below.allocS ?_ _ | refine Below.step ?_ (by assumption) | refine Below.setCell ?_ (by simp <;> omega) _ | refine Below.drewN' ?_ _)))) (fun W' hb => R2.out.step hb)).mono ?_
  rintro e w3 ⟨⟨⟨A3, c3, rfl, r3⟩, q2⟩, hb3⟩
  have x3_0_0 : w3.cell? ⟨w.heap.size, 0, none⟩ = some (.slice x.A x.xs.length x.ca) := keep_cell hb3 (by simp [go_sem, *])
  have x3_0_1 : w3.cell? ⟨w.heap.size, 1, none⟩ = some (.int .i64 x.e) := keep_cell hb3 (by simp [go_sem, *])
  have y3_0 : w.heap.size < w3.heap.size := cell?_lt x3_0_0
  have g3 : Below w.heap.size w w3 := by (repeat (first | exact Below.refl _ _ | refine Below.drew ?_ | refine Below.allocS ?_ _ | refine Below.step ?_ (by assumption) | refine Below.setCell ?_ (by simp <;> omega) _ | refine Below.drewN' ?_ _))
  clear hb3 g2 x2_0_0 x2_0_1 y2_0
  have S2 := Lib.hid (And.intro q2 r3)
  clear q2 r3 R2
  go_wp2_with fail
  refine (carry (fun W => RdL W W.heap.size inE 1 A2 (L1.map Int.ofNat) ∧ RdL W W.heap.size inE 1 A3 (L1.map Int.ofNat)) (H3.out _ (by (repeat (first | exact Below.refl _ _ | refine Below.drew ?_ | refine Below.allocS ?_ _ | refine Below.step ?_ (by assumption) | refine Below.setCell ?_ (by simp <;> omega) _ | refine Below.drewN' ?_ _)))) (fun W' hb => ⟨S2.out.1.step hb, S2.out.2.step hb⟩)).mono ?_
  rintro e w4 ⟨⟨⟨A4, c4, rfl, r4⟩, q3⟩, hb4⟩
  have x4_0_0 : w4.cell? ⟨w.heap.size, 0, none⟩ = some (.slice x.A x.xs.length x.ca) := keep_cell hb4 (by simp [go_sem, *])
  have x4_0_1 : w4.cell? ⟨w.heap.size, 1, none⟩ = some (.int .i64 x.e) := keep_cell hb4 (by simp [go_sem, *])
  have y4_0 : w.heap.size < w4.heap.size := cell?_lt x4_0_0
  have g4 : Below w.heap.size w w4 := by (repeat (first | exact Below.refl _ _ | refine Below.drew ?_ | refine Below.allocS ?_ _ | refine Below.step ?_ (by assumption) | refine Below.setCell ?_ (by simp <;> omega) _ | refine Below.drewN' ?_ _))
  clear hb4 g3 x3_0_0 x3_0_1 y3_0
  have S3 := Lib.hid (And.intro q3 r4)
  clear q3 r4 S2
  go_wp2_with fail
  refine (carry (fun W => (RdL W W.heap.size inE 1 A2 (L1.map Int.ofNat) ∧ RdL W W.heap.size inE 1 A3 (L1.map Int.ofNat)) ∧ RdL W W.heap.size inE 1 A4 (L2.map Int.ofNat)) (H4.out _ (by (repeat (first | exact Below.refl _ _ | refine Below.drew ?_ | refine Below.allocS ?_ _ | refine Below.step ?_ (by assumption) | refine Below.setCell ?_ (by simp <;> omega) _ | refine Below.drewN' ?_ _)))) (fun W' hb => ⟨⟨S3.out.1.1.step hb, S3.out.1.2.step hb⟩, S3.out.2.step hb⟩)).mono ?_
  rintro e w5 ⟨⟨⟨A5, c5, rfl, r5⟩, q4⟩, hb5⟩
  have x5_0_0 : w5.cell? ⟨w.heap.size, 0, none⟩ = some (.slice x.A x.xs.length x.ca) := keep_cell hb5 (by simp [go_sem, *])
  have x5_0_1 : w5.cell? ⟨w.heap.size, 1, none⟩ = some (.int .i64 x.e) := keep_cell hb5 (by simp [go_sem, *])
  have y5_0 : w.heap.size < w5.heap.size := cell?_lt x5_0_0
  have g5 : Below w.heap.size w w5 := by (repeat (first | exact Below.refl _ _ | refine Below.drew ?_ | refine Below.allocS ?_ _ | refine Below.step ?_ (by assumption) | refine Below.setCell ?_ (by simp <;> omega) _ | refine Below.drewN' ?_ _))
  clear hb5 g4 x4_0_0 x4_0_1 y4_0
  have S4 := Lib.hid (And.intro q4 r5)
  clear q4 r5 S3
  go_wp2_with fail
  refine (carry (fun W => RdL W W.heap.size inE 1 A4 (L2.map Int.ofNat) ∧ RdL W W.heap.size inE 1 A5 (L2.map Int.ofNat)) (HS1.out A2 A3 c2 c3 _ S4.out.1.1.1 S4.out.1.1.2) (fun W' hb => ⟨S4.out.1.2.step hb, S4.out.2.step hb⟩)).mono ?_
  rintro e w6 ⟨⟨rfl, q5⟩, hb6⟩
  have x6_0_0 : w6.cell? ⟨w.heap.size, 0, none⟩ = some (.slice x.A x.xs.length x.ca) := keep_cell hb6 (by simp [go_sem, *])
  have x6_0_1 : w6.cell? ⟨w.heap.size, 1, none⟩ = some (.int .i64 x.e) := keep_cell hb6 (by simp [go_sem, *])
  have y6_0 : w.heap.size < w6.heap.size := cell?_lt x6_0_0
  have g6 : Below w.heap.size w w6 := by (repeat (first | exact Below.refl _ _ | refine Below.drew ?_ | refine Below.allocS ?_ _ | refine Below.step ?_ (by assumption) | refine Below.setCell ?_ (by simp <;> omega) _ | refine Below.drewN' ?_ _))
  clear hb6 g5 x5_0_0 x5_0_1 y5_0
  have S5 := Lib.hid q5
  clear q5 S4
  go_wp2_with fail
  refine (HS2.out A4 A5 c4 c5 _ S5.out.1 S5.out.2).mono ?_
  rintro e w7 ⟨rfl, hb7⟩
  have x7_0_0 : w7.cell? ⟨w.heap.size, 0, none⟩ = some (.slice x.A x.xs.length x.ca) := keep_cell hb7 (by simp [go_sem, *])
  have x7_0_1 : w7.cell? ⟨w.heap.size, 1, none⟩ = some (.int .i64 x.e) := keep_cell hb7 (by simp [go_sem, *])
  have y7_0 : w.heap.size < w7.heap.size := cell?_lt x7_0_0
  have g7 : Below w.heap.size w w7 := by (repeat (first | exact Below.refl _ _ | refine Below.drew ?_ | refine Below.allocS ?_ _ | refine Below.step ?_ (by assumption) | refine Below.setCell ?_ (by simp <;> omega) _ | refine Below.drewN' ?_ _))
  clear hb7 g6 x6_0_0 x6_0_1 y6_0
  go_wp2_with fail
  refine (H5.out _ (by (repeat (first | exact Below.refl _ _ | refine Below.drew ?_ | refine Below.allocS ?_ _ | refine Below.step ?_ (by assumption) | refine Below.setCell ?_ (by simp <;> omega) _ | refine Below.drewN' ?_ _)))).mono ?_
  rintro e w8 ⟨⟨v8, e8, rfl⟩, o8, hb8⟩
  have x8_0_0 : w8.cell? ⟨w.heap.size, 0, none⟩ = some (.slice x.A x.xs.length x.ca) := keep_cell hb8 (by simp [go_sem, *])
  have x8_0_1 : w8.cell? ⟨w.heap.size, 1, none⟩ = some (.int .i64 x.e) := keep_cell hb8 (by simp [go_sem, *])
  have y8_0 : w.heap.size < w8.heap.size := cell?_lt x8_0_0
  have g8 : Below w.heap.size w w8 := by (repeat (first | exact Below.refl _ _ | refine Below.drew ?_ | refine Below.allocS ?_ _ | refine Below.step ?_ (by assumption) | refine Below.setCell ?_ (by simp <;> omega) _ | refine Below.drewN' ?_ _))
  clear hb8 g7 x7_0_0 x7_0_1 y7_0
  have O8 := Lib.hid o8
  clear o8
  go_wp2_with fail
  refine (H6.out _ _ O8.out (by (repeat (first | exact Below.refl _ _ | refine Below.drew ?_ | refine Below.allocS ?_ _ | refine Below.step ?_ (by assumption) | refine Below.setCell ?_ (by simp <;> omega) _ | refine Below.drewN' ?_ _)))).mono ?_
  rintro e w9 ⟨rfl, hb9⟩
  have x9_0_0 : w9.cell? ⟨w.heap.size, 0, none⟩ = some (.slice x.A x.xs.length x.ca) := keep_cell hb9 (by simp [go_sem, *])
  have x9_0_1 : w9.cell? ⟨w.heap.size, 1, none⟩ = some (.int .i64 x.e) := keep_cell hb9 (by simp [go_sem, *])
  have y9_0 : w.heap.size < w9.heap.size := cell?_lt x9_0_0
  have g9 : Below w.heap.size w w9 := by (repeat (first | exact Below.refl _ _ | refine Below.drew ?_ | refine Below.allocS ?_ _ | refine Below.step ?_ (by assumption) | refine Below.setCell ?_ (by simp <;> omega) _ | refine Below.drewN' ?_ _))
  clear hb9 g8 x8_0_0 x8_0_1 y8_0
  go_wp2_with fail
  refine (H7.out _ (by (repeat (first | exact Below.refl _ _ | refine Below.drew ?_ | refine Below.allocS ?_ _ | refine Below.step ?_ (by assumption) | refine Below.setCell ?_ (by simp <;> omega) _ | refine Below.drewN' ?_ _)))).mono ?_
  rintro e w10 ⟨⟨v9, e9, rfl⟩, o9, hb10⟩
  have x10_0_0 : w10.cell? ⟨w.heap.size, 0, none⟩ = some (.slice x.A x.xs.length x.ca) := keep_cell hb10 (by simp [go_sem, *])
  have x10_0_1 : w10.cell? ⟨w.heap.size, 1, none⟩ = some (.int .i64 x.e) := keep_cell hb10 (by simp [go_sem, *])
  have y10_0 : w.heap.size < w10.heap.size := cell?_lt x10_0_0
  have g10 : Below w.heap.size w w10 := by (repeat (first | exact Below.refl _ _ | refine Below.drew ?_ | refine Below.allocS ?_ _ | refine Below.step ?_ (by assumption) | refine Below.setCell ?_ (by simp <;> omega) _ | refine Below.drewN' ?_ _))
  clear hb10 g9 x9_0_0 x9_0_1 y9_0
  have O9 := Lib.hid o9
  clear o9
  go_wp2_with fail
  refine (H8.out _ _ O9.out (by (repeat (first | exact Below.refl _ _ | refine Below.drew ?_ | refine Below.allocS ?_ _ | refine Below.step ?_ (by assumption) | refine Below.setCell ?_ (by simp <;> omega) _ | refine Below.drewN' ?_ _)))).mono ?_
  rintro e w11 ⟨rfl, hb11⟩
  have x11_0_0 : w11.cell? ⟨w.heap.size, 0, none⟩ = some (.slice x.A x.xs.length x.ca) := keep_cell hb11 (by simp [go_sem, *])
  have x11_0_1 : w11.cell? ⟨w.heap.size, 1, none⟩ = some (.int .i64 x.e) := keep_cell hb11 (by simp [go_sem, *])
  have y11_0 : w.heap.size < w11.heap.size := cell?_lt x11_0_0
  have g11 : Below w.heap.size w w11 := by (repeat (first | exact Below.refl _ _ | refine Below.drew ?_ | refine Below.allocS ?_ _ | refine Below.step ?_ (by assumption) | refine Below.setCell ?_ (by simp <;> omega) _ | refine Below.drewN' ?_ _))
  clear hb11 g10 x10_0_0 x10_0_1 y10_0
  go_wp2_with fail
  refine (awake_c _).mono ?_
  rintro e w12 ⟨rfl, hb12⟩
  go_wp2
  go_ret
  exact ⟨rfl, by (repeat (first | exact Below.refl _ _ | refine Below.drew ?_ | refine Below.allocS ?_ _ | refine Below.step ?_ (by assumption) | refine Below.setCell ?_ (by simp <;> omega) _ | refine Below.drewN' ?_ _))⟩
end Go.Proofs.Ytbcabckokmjelaa
