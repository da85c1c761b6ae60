/-
  NightChances: the walk. No conditions.
-/
import Derived.Test.YtomgaiokmdcjmaaTN
import Derived.Test.YtomgaiokmdcjmaaNt21
namespace Go.Proofs.Ytomgaiokmdcjmaa
open Go.RowKit Go.Deep
set_option linter.unusedVariables false
set_option linter.unusedSimpArgs false
structure Kp4 (W : World) (A B C D : Option Addr) (R1 : List Nat) (R2 : List (Nat × Nat)) : Prop where
  a : RdL W W.heap.size inE 1 A (R1.map Int.ofNat)
  b : RdL W W.heap.size inE 1 B (R1.map Int.ofNat)
  c : RdL W W.heap.size prE 2 C R2
  d : RdL W W.heap.size prE 2 D R2
theorem Kp4.step {W W' : World} {A B C D : Option Addr} {R1 : List Nat} {R2 : List (Nat × Nat)} (h : Kp4 W A B C D R1 R2) (hb : Below W.heap.size W W') : Kp4 W' A B C D R1 R2 := ⟨h.a.step hb, h.b.step hb, h.c.step hb, h.d.step hb⟩
set_option maxHeartbeats 4000000 in
set_option maxRecDepth 100000 in
theorem NightChances_walk (w : World) (A : Option Addr) (cap : Nat) (l : List Ch) (B : Option Addr) (cb : Nat) (L : List Cl) (per : Int) (x y : Ch) (hl : l.length ≤ cap) (hm : cap ≤ maxLen) (hr : RdL w w.heap.size chE 5 A l) (hw : ∀ x ∈ l, ChOk x)
    (kl : L.length ≤ cb) (km : cb ≤ maxLen) (kr : RdL w w.heap.size clE 2 B L) (kw : ∀ x ∈ L, ∃ g : Nat → Int, x = (⟨g 0, g 1⟩ : Cl) ∧ ∀ j, j < 2 → I64 (g j)) (hp : I64 per) (hx : ChOk x) (hy : ChOk y) :
    Calls Try.prog 4 #[.slice A l.length cap, .slice B L.length cb, .int .i64 per, .agg #[.string x.nm, .int .i64 x.a, .int .i64 x.b, .int .i64 x.t, .int .i64 x.v], .agg #[.string y.nm, .int .i64 y.a, .int .i64 y.b, .int .i64 y.t, .int .i64 y.v]] w fun e w' => e = .returned (.bool true) ∧ Below w.heap.size w w' := by
  have HN1 := Lib.hid (fun W (hb : Below w.heap.size w W) => named_c l A cap (by unfold maxLen at hm; omega) W (hr.step hb))
  have HN2 : Hid (∀ g W, RdL W W.heap.size chE 5 (some ⟨g, 0, none⟩) [x, y] → Calls Try.prog 16 #[.slice (some ⟨g, 0, none⟩) 2 2] W fun e w' => (∃ x : Bool, e = .returned (.bool x)) ∧ Below W.heap.size W w') :=
    Lib.hid (fun g W hr => (named_c [x, y] (some ⟨g, 0, none⟩) 2 (by simp) W hr).mono fun e w' h => ⟨⟨h.1.choose, h.1.choose_spec.1⟩, h.2⟩)
  have HIN := Lib.hid (fun h1 h2 => InAt.of_args (cb := cb) hl hr hw kr h1 h2)
  have H1 := Lib.hid (fun W (h : InAt W l A cap L B cb) => Clear_c l A cap L B cb W h)
  have H2 := Lib.hid (fun W (h : InAt W l A cap L B cb) => rClear_c l A cap L B cb W h)
  have H3 := Lib.hid (fun W (h : InAt W l A cap L B cb) => Clashes_c l A cap L B cb per W h)
  have H4 := Lib.hid (fun W (h : InAt W l A cap L B cb) => rClashes_c l A cap L B cb per W h)
  have H5 := Lib.hid (fun W => Turn_c x y per hx.n hy.n W)
  have H6 := Lib.hid (fun W => rTurn_c x y per hx.n hy.n W)
  have H7 := Lib.hid (fun W => Follows_c x y per hx.n hy.n W)
  have H8 := Lib.hid (fun W => rFollows_c x y per hx.n hy.n W)
  have H9 := Lib.hid (fun W (h : InAt W l A cap L B cb) => Valid_c l A cap h.hl h.hs W h.hr)
  have H10 : Hid (∀ W, InAt W l A cap L B cb → Calls Try.prog 26 #[.slice A l.length cap] W fun e w' => e = .returned (.bool (okV l)) ∧ Below W.heap.size W w') := Lib.hid (fun W (h : InAt W l A cap L B cb) => by rw [ok_eq]; exact rValid_c l A cap h.hl h.hcap h.hs W h.hr)
  have HL1 := Lib.hid (show (clrR l L).length ≤ l.length by unfold clrR; split; exact clrL_len _ _ _; simp)
  have HL2 := Lib.hid (show l.length ≤ 30 → (cshR l per).length ≤ 900 from fun h => by
    unfold cshR
    split
    · have h1 := csR_len l per l.length
      have := Nat.mul_le_mul h h
      omega
    · simp)
  clear hl hm hr hw kl km kr kw hp hx hy
  generalize clrR l L = R1 at *
  generalize clrE l L = E1 at *
  generalize cshR l per = R2 at *
  generalize asE l [] per = E2 at *
  generalize trnV x y per = V3 at *
  generalize trnE x y per = E3 at *
  generalize folV x y per = V4 at *
  generalize okV l = V5 at *
  obtain ⟨n, hn⟩ : ∃ n, n = l.length := ⟨_, rfl⟩
  rw [← hn] at HN1 HIN H1 H2 H3 H4 H9 H10 HL1 HL2 ⊢
  clear hn
  obtain ⟨m, hm⟩ : ∃ m, m = L.length := ⟨_, rfl⟩
  rw [← hm] at HIN H1 H2 ⊢
  clear hm
  go_enter Try.func4, Try.ntmps4
  go_wp2_with fail
  refine (HN1.out _ (by (repeat (first | exact Below.refl _ _ | refine Below.drew ?_ | refine Below.allocS ?_ _ | refine Below.step ?_ (by assumption) | refine Below.setCell ?_ (by simp <;> omega) _ | refine Below.drewN' ?_ _)))).mono ?_
  rintro e w1 ⟨⟨X, rfl, hX⟩, hb1⟩
  have x1_0_0 : w1.cell? ⟨w.heap.size, 0, none⟩ = some (.string x.nm) := keep_cell hb1 (by simp [go_sem, *])
  have x1_0_1 : w1.cell? ⟨w.heap.size, 1, none⟩ = some (.int .i64 x.a) := keep_cell hb1 (by simp [go_sem, *])
  have x1_0_2 : w1.cell? ⟨w.heap.size, 2, none⟩ = some (.int .i64 x.b) := keep_cell hb1 (by simp [go_sem, *])
  have x1_0_3 : w1.cell? ⟨w.heap.size, 3, none⟩ = some (.int .i64 x.t) := keep_cell hb1 (by simp [go_sem, *])
  have x1_0_4 : w1.cell? ⟨w.heap.size, 4, none⟩ = some (.int .i64 x.v) := keep_cell hb1 (by simp [go_sem, *])
  have y1_0 : w.heap.size < w1.heap.size := cell?_lt x1_0_0
  have x1_1_0 : w1.cell? ⟨w.heap.size + 1, 0, none⟩ = some (.string y.nm) := keep_cell hb1 (by simp [go_sem, *])
  have x1_1_1 : w1.cell? ⟨w.heap.size + 1, 1, none⟩ = some (.int .i64 y.a) := keep_cell hb1 (by simp [go_sem, *])
  have x1_1_2 : w1.cell? ⟨w.heap.size + 1, 2, none⟩ = some (.int .i64 y.b) := keep_cell hb1 (by simp [go_sem, *])
  have x1_1_3 : w1.cell? ⟨w.heap.size + 1, 3, none⟩ = some (.int .i64 y.t) := keep_cell hb1 (by simp [go_sem, *])
  have x1_1_4 : w1.cell? ⟨w.heap.size + 1, 4, none⟩ = some (.int .i64 y.v) := keep_cell hb1 (by simp [go_sem, *])
  have y1_1 : w.heap.size + 1 < w1.heap.size := cell?_lt x1_1_0
  have g1 : Below w.heap.size w w1 := by (repeat (first | exact Below.refl _ _ | refine Below.drew ?_ | refine Below.allocS ?_ _ | refine Below.step ?_ (by assumption) | refine Below.setCell ?_ (by simp <;> omega) _ | refine Below.drewN' ?_ _))
  clear hb1
  have HX := Lib.hid hX
  clear hX
  cases X
  case false =>
    go_wp2_with fail
    refine (awake_c _).mono ?_
    rintro e w2 ⟨rfl, hb2⟩
    go_wp2
    go_ret
    exact ⟨rfl, by (repeat (first | exact Below.refl _ _ | refine Below.drew ?_ | refine Below.allocS ?_ _ | refine Below.step ?_ (by assumption) | refine Below.setCell ?_ (by simp <;> omega) _ | refine Below.drewN' ?_ _))⟩
  have hn30 : n ≤ 30 := HX.out rfl
  clear HX
  go_wp2_with fail
  refine (HN2.out _ _ (RdL.new w1 34 chE 5 [x, y] (fun _ => rfl))).mono ?_
  rintro e w2 ⟨⟨Y, rfl⟩, hb2⟩
  have x2_0_0 : w2.cell? ⟨w.heap.size, 0, none⟩ = some (.string x.nm) := keep_cell hb2 (by simp [go_sem, *])
  have x2_0_1 : w2.cell? ⟨w.heap.size, 1, none⟩ = some (.int .i64 x.a) := keep_cell hb2 (by simp [go_sem, *])
  have x2_0_2 : w2.cell? ⟨w.heap.size, 2, none⟩ = some (.int .i64 x.b) := keep_cell hb2 (by simp [go_sem, *])
  have x2_0_3 : w2.cell? ⟨w.heap.size, 3, none⟩ = some (.int .i64 x.t) := keep_cell hb2 (by simp [go_sem, *])
  have x2_0_4 : w2.cell? ⟨w.heap.size, 4, none⟩ = some (.int .i64 x.v) := keep_cell hb2 (by simp [go_sem, *])
  have y2_0 : w.heap.size < w2.heap.size := cell?_lt x2_0_0
  have x2_1_0 : w2.cell? ⟨w.heap.size + 1, 0, none⟩ = some (.string y.nm) := keep_cell hb2 (by simp [go_sem, *])
  have x2_1_1 : w2.cell? ⟨w.heap.size + 1, 1, none⟩ = some (.int .i64 y.a) := keep_cell hb2 (by simp [go_sem, *])
  have x2_1_2 : w2.cell? ⟨w.heap.size + 1, 2, none⟩ = some (.int .i64 y.b) := keep_cell hb2 (by simp [go_sem, *])
  have x2_1_3 : w2.cell? ⟨w.heap.size + 1, 3, none⟩ = some (.int .i64 y.t) := keep_cell hb2 (by simp [go_sem, *])
  have x2_1_4 : w2.cell? ⟨w.heap.size + 1, 4, none⟩ = some (.int .i64 y.v) := keep_cell hb2 (by simp [go_sem, *])
  have y2_1 : w.heap.size + 1 < w2.heap.size := cell?_lt x2_1_0
  have g2 : Below w.heap.size w w2 := by (repeat (first | exact Below.refl _ _ | refine Below.drew ?_ | refine Below.allocS ?_ _ | refine Below.step ?_ (by assumption) | refine Below.setCell ?_ (by simp <;> omega) _ | refine Below.drewN' ?_ _))
  clear hb2 g1 x1_0_0 x1_0_1 x1_0_2 x1_0_3 x1_0_4 x1_1_0 x1_1_1 x1_1_2 x1_1_3 x1_1_4 y1_0 y1_1
  cases Y
  case false =>
    go_wp2_with fail
    refine (awake_c _).mono ?_
    rintro e w3 ⟨rfl, hb3⟩
    go_wp2
    go_ret
    exact ⟨rfl, by (repeat (first | exact Below.refl _ _ | refine Below.drew ?_ | refine Below.allocS ?_ _ | refine Below.step ?_ (by assumption) | refine Below.setCell ?_ (by simp <;> omega) _ | refine Below.drewN' ?_ _))⟩
  by_cases hm60 : m ≤ 60
  case neg =>
    have u1 : decide ((m : Int) > 60) = true := decide_eq_true (by omega)
    go_wp2_with fail
    refine (awake_c _).mono ?_
    rintro e w3 ⟨rfl, hb3⟩
    go_wp2
    go_ret
    exact ⟨rfl, by (repeat (first | exact Below.refl _ _ | refine Below.drew ?_ | refine Below.allocS ?_ _ | refine Below.step ?_ (by assumption) | refine Below.setCell ?_ (by simp <;> omega) _ | refine Below.drewN' ?_ _))⟩
  have u1 : decide ((m : Int) > 60) = false := decide_eq_false (by omega)
  have HI := Lib.hid (HIN.out hn30 hm60)
  have hr1 : R1.length ≤ 9223372036854775807 := by have := HL1.out; omega
  have hr2 : R2.length ≤ 9223372036854775807 := by have := HL2.out hn30; omega
  have HS1 : Hid (∀ (A1 B1 : Option Addr) (c1 d1 : Nat) W, RdL W W.heap.size inE 1 A1 (R1.map Int.ofNat) → RdL W W.heap.size inE 1 B1 (R1.map Int.ofNat) → Calls Try.prog 27 #[.slice A1 R1.length c1, .slice B1 R1.length d1] W fun e w' => e = .returned (.bool true) ∧ Below W.heap.size W w') :=
    Lib.hid (fun A1 B1 c1 d1 W h1 h2 => (SameInts_c _ _ _ _ (List.length_map ..) (List.length_map ..) A1 B1 c1 d1 hr1 W h1 h2).mono fun e w' h => ⟨by rw [h.1]; simp, h.2⟩)
  have HS2 : Hid (∀ (A1 B1 : Option Addr) (c1 d1 : Nat) W, RdL W W.heap.size prE 2 A1 R2 → RdL W W.heap.size prE 2 B1 R2 → Calls Try.prog 28 #[.slice A1 R2.length c1, .slice B1 R2.length d1] W fun e w' => e = .returned (.bool true) ∧ Below W.heap.size W w') :=
    Lib.hid (fun A1 B1 c1 d1 W h1 h2 => SamePairs_c R2 _ rfl A1 B1 c1 d1 hr2 W h1 h2)
  clear hn30 hm60 HIN HN1 HN2 HL1 HL2 hr1 hr2
  obtain ⟨n1, hn1⟩ : ∃ n1, n1 = R1.length := ⟨_, rfl⟩
  obtain ⟨n2, hn2⟩ : ∃ n2, n2 = R2.length := ⟨_, rfl⟩
  rw [← hn1] at H1 H2 HS1
  rw [← hn2] at H3 H4 HS2
  clear hn1 hn2
  go_wp2_with fail
  refine (H1.out _ (HI.out.step (by (repeat (first | exact Below.refl _ _ | refine Below.drew ?_ | refine Below.allocS ?_ _ | refine Below.step ?_ (by assumption) | refine Below.setCell ?_ (by simp <;> omega) _ | refine Below.drewN' ?_ _))))).mono ?_
  rintro e w3 ⟨⟨A3, c3, rfl, r3⟩, hb3⟩
  have x3_0_0 : w3.cell? ⟨w.heap.size, 0, none⟩ = some (.string x.nm) := keep_cell hb3 (by simp [go_sem, *])
  have x3_0_1 : w3.cell? ⟨w.heap.size, 1, none⟩ = some (.int .i64 x.a) := keep_cell hb3 (by simp [go_sem, *])
  have x3_0_2 : w3.cell? ⟨w.heap.size, 2, none⟩ = some (.int .i64 x.b) := keep_cell hb3 (by simp [go_sem, *])
  have x3_0_3 : w3.cell? ⟨w.heap.size, 3, none⟩ = some (.int .i64 x.t) := keep_cell hb3 (by simp [go_sem, *])
  have x3_0_4 : w3.cell? ⟨w.heap.size, 4, none⟩ = some (.int .i64 x.v) := keep_cell hb3 (by simp [go_sem, *])
  have y3_0 : w.heap.size < w3.heap.size := cell?_lt x3_0_0
  have x3_1_0 : w3.cell? ⟨w.heap.size + 1, 0, none⟩ = some (.string y.nm) := keep_cell hb3 (by simp [go_sem, *])
  have x3_1_1 : w3.cell? ⟨w.heap.size + 1, 1, none⟩ = some (.int .i64 y.a) := keep_cell hb3 (by simp [go_sem, *])
  have x3_1_2 : w3.cell? ⟨w.heap.size + 1, 2, none⟩ = some (.int .i64 y.b) := keep_cell hb3 (by simp [go_sem, *])
  have x3_1_3 : w3.cell? ⟨w.heap.size + 1, 3, none⟩ = some (.int .i64 y.t) := keep_cell hb3 (by simp [go_sem, *])
  have x3_1_4 : w3.cell? ⟨w.heap.size + 1, 4, none⟩ = some (.int .i64 y.v) := keep_cell hb3 (by simp [go_sem, *])
  have y3_1 : w.heap.size + 1 < w3.heap.size := cell?_lt x3_1_0
  have g3 : Below w.heap.size w w3 := by (repeat (first | exact Below.refl _ _ | refine Below.drew ?_ | refine Below.allocS ?_ _ | refine Below.step ?_ (by assumption) | refine Below.setCell ?_ (by simp <;> omega) _ | refine Below.drewN' ?_ _))
  clear hb3 g2 x2_0_0 x2_0_1 x2_0_2 x2_0_3 x2_0_4 x2_1_0 x2_1_1 x2_1_2 x2_1_3 x2_1_4 y2_0 y2_1
  have S3 := Lib.hid r3
  clear r3
  go_wp2_with fail
  refine (carry (fun W => RdL W W.heap.size inE 1 A3 (R1.map Int.ofNat)) (H2.out _ (HI.out.step (by (repeat (first | exact Below.refl _ _ | refine Below.drew ?_ | refine Below.allocS ?_ _ | refine Below.step ?_ (by assumption) | refine Below.setCell ?_ (by simp <;> omega) _ | refine Below.drewN' ?_ _))))) (fun W' hb => S3.out.step hb)).mono ?_
  rintro e w4 ⟨⟨⟨A4, c4, rfl, r4⟩, q3⟩, hb4⟩
  have x4_0_0 : w4.cell? ⟨w.heap.size, 0, none⟩ = some (.string x.nm) := keep_cell hb4 (by simp [go_sem, *])
  have x4_0_1 : w4.cell? ⟨w.heap.size, 1, none⟩ = some (.int .i64 x.a) := keep_cell hb4 (by simp [go_sem, *])
  have x4_0_2 : w4.cell? ⟨w.heap.size, 2, none⟩ = some (.int .i64 x.b) := keep_cell hb4 (by simp [go_sem, *])
  have x4_0_3 : w4.cell? ⟨w.heap.size, 3, none⟩ = some (.int .i64 x.t) := keep_cell hb4 (by simp [go_sem, *])
  have x4_0_4 : w4.cell? ⟨w.heap.size, 4, none⟩ = some (.int .i64 x.v) := keep_cell hb4 (by simp [go_sem, *])
  have y4_0 : w.heap.size < w4.heap.size := cell?_lt x4_0_0
  have x4_1_0 : w4.cell? ⟨w.heap.size + 1, 0, none⟩ = some (.string y.nm) := keep_cell hb4 (by simp [go_sem, *])
  have x4_1_1 : w4.cell? ⟨w.heap.size + 1, 1, none⟩ = some (.int .i64 y.a) := keep_cell hb4 (by simp [go_sem, *])
  have x4_1_2 : w4.cell? ⟨w.heap.size + 1, 2, none⟩ = some (.int .i64 y.b) := keep_cell hb4 (by simp [go_sem, *])
  have x4_1_3 : w4.cell? ⟨w.heap.size + 1, 3, none⟩ = some (.int .i64 y.t) := keep_cell hb4 (by simp [go_sem, *])
  have x4_1_4 : w4.cell? ⟨w.heap.size + 1, 4, none⟩ = some (.int .i64 y.v) := keep_cell hb4 (by simp [go_sem, *])
  have y4_1 : w.heap.size + 1 < w4.heap.size := cell?_lt x4_1_0
  have g4 : Below w.heap.size w w4 := by (repeat (first | exact Below.refl _ _ | refine Below.drew ?_ | refine Below.allocS ?_ _ | refine Below.step ?_ (by assumption) | refine Below.setCell ?_ (by simp <;> omega) _ | refine Below.drewN' ?_ _))
  clear hb4 g3 x3_0_0 x3_0_1 x3_0_2 x3_0_3 x3_0_4 x3_1_0 x3_1_1 x3_1_2 x3_1_3 x3_1_4 y3_0 y3_1
  have S4 := Lib.hid (And.intro q3 r4)
  clear r4 q3 S3
  go_wp2_with fail
  refine (carry (fun W => RdL W W.heap.size inE 1 A3 (R1.map Int.ofNat) ∧ RdL W W.heap.size inE 1 A4 (R1.map Int.ofNat)) (H3.out _ (HI.out.step (by (repeat (first | exact Below.refl _ _ | refine Below.drew ?_ | refine Below.allocS ?_ _ | refine Below.step ?_ (by assumption) | refine Below.setCell ?_ (by simp <;> omega) _ | refine Below.drewN' ?_ _))))) (fun W' hb => ⟨S4.out.1.step hb, S4.out.2.step hb⟩)).mono ?_
  rintro e w5 ⟨⟨⟨A5, c5, rfl, r5⟩, q4⟩, hb5⟩
  have x5_0_0 : w5.cell? ⟨w.heap.size, 0, none⟩ = some (.string x.nm) := keep_cell hb5 (by simp [go_sem, *])
  have x5_0_1 : w5.cell? ⟨w.heap.size, 1, none⟩ = some (.int .i64 x.a) := keep_cell hb5 (by simp [go_sem, *])
  have x5_0_2 : w5.cell? ⟨w.heap.size, 2, none⟩ = some (.int .i64 x.b) := keep_cell hb5 (by simp [go_sem, *])
  have x5_0_3 : w5.cell? ⟨w.heap.size, 3, none⟩ = some (.int .i64 x.t) := keep_cell hb5 (by simp [go_sem, *])
  have x5_0_4 : w5.cell? ⟨w.heap.size, 4, none⟩ = some (.int .i64 x.v) := keep_cell hb5 (by simp [go_sem, *])
  have y5_0 : w.heap.size < w5.heap.size := cell?_lt x5_0_0
  have x5_1_0 : w5.cell? ⟨w.heap.size + 1, 0, none⟩ = some (.string y.nm) := keep_cell hb5 (by simp [go_sem, *])
  have x5_1_1 : w5.cell? ⟨w.heap.size + 1, 1, none⟩ = some (.int .i64 y.a) := keep_cell hb5 (by simp [go_sem, *])
  have x5_1_2 : w5.cell? ⟨w.heap.size + 1, 2, none⟩ = some (.int .i64 y.b) := keep_cell hb5 (by simp [go_sem, *])
  have x5_1_3 : w5.cell? ⟨w.heap.size + 1, 3, none⟩ = some (.int .i64 y.t) := keep_cell hb5 (by simp [go_sem, *])
  have x5_1_4 : w5.cell? ⟨w.heap.size + 1, 4, none⟩ = some (.int .i64 y.v) := keep_cell hb5 (by simp [go_sem, *])
  have y5_1 : w.heap.size + 1 < w5.heap.size := cell?_lt x5_1_0
  have g5 : Below w.heap.size w w5 := by (repeat (first | exact Below.refl _ _ | refine Below.drew ?_ | refine Below.allocS ?_ _ | refine Below.step ?_ (by assumption) | refine Below.setCell ?_ (by simp <;> omega) _ | refine Below.drewN' ?_ _))
  clear hb5 g4 x4_0_0 x4_0_1 x4_0_2 x4_0_3 x4_0_4 x4_1_0 x4_1_1 x4_1_2 x4_1_3 x4_1_4 y4_0 y4_1
  have S5 := Lib.hid (And.intro q4 r5)
  clear r5 q4 S4
  go_wp2_with fail
  refine (carry (fun W => (RdL W W.heap.size inE 1 A3 (R1.map Int.ofNat) ∧ RdL W W.heap.size inE 1 A4 (R1.map Int.ofNat)) ∧ RdL W W.heap.size prE 2 A5 R2) (H4.out _ (HI.out.step (by (repeat (first | exact Below.refl _ _ | refine Below.drew ?_ | refine Below.allocS ?_ _ | refine Below.step ?_ (by assumption) | refine Below.setCell ?_ (by simp <;> omega) _ | refine Below.drewN' ?_ _))))) (fun W' hb => ⟨⟨S5.out.1.1.step hb, S5.out.1.2.step hb⟩, S5.out.2.step hb⟩)).mono ?_
  rintro e w6 ⟨⟨⟨A6, c6, rfl, r6⟩, q5⟩, hb6⟩
  have x6_0_0 : w6.cell? ⟨w.heap.size, 0, none⟩ = some (.string x.nm) := keep_cell hb6 (by simp [go_sem, *])
  have x6_0_1 : w6.cell? ⟨w.heap.size, 1, none⟩ = some (.int .i64 x.a) := keep_cell hb6 (by simp [go_sem, *])
  have x6_0_2 : w6.cell? ⟨w.heap.size, 2, none⟩ = some (.int .i64 x.b) := keep_cell hb6 (by simp [go_sem, *])
  have x6_0_3 : w6.cell? ⟨w.heap.size, 3, none⟩ = some (.int .i64 x.t) := keep_cell hb6 (by simp [go_sem, *])
  have x6_0_4 : w6.cell? ⟨w.heap.size, 4, none⟩ = some (.int .i64 x.v) := keep_cell hb6 (by simp [go_sem, *])
  have y6_0 : w.heap.size < w6.heap.size := cell?_lt x6_0_0
  have x6_1_0 : w6.cell? ⟨w.heap.size + 1, 0, none⟩ = some (.string y.nm) := keep_cell hb6 (by simp [go_sem, *])
  have x6_1_1 : w6.cell? ⟨w.heap.size + 1, 1, none⟩ = some (.int .i64 y.a) := keep_cell hb6 (by simp [go_sem, *])
  have x6_1_2 : w6.cell? ⟨w.heap.size + 1, 2, none⟩ = some (.int .i64 y.b) := keep_cell hb6 (by simp [go_sem, *])
  have x6_1_3 : w6.cell? ⟨w.heap.size + 1, 3, none⟩ = some (.int .i64 y.t) := keep_cell hb6 (by simp [go_sem, *])
  have x6_1_4 : w6.cell? ⟨w.heap.size + 1, 4, none⟩ = some (.int .i64 y.v) := keep_cell hb6 (by simp [go_sem, *])
  have y6_1 : w.heap.size + 1 < w6.heap.size := cell?_lt x6_1_0
  have g6 : Below w.heap.size w w6 := by (repeat (first | exact Below.refl _ _ | refine Below.drew ?_ | refine Below.allocS ?_ _ | refine Below.step ?_ (by assumption) | refine Below.setCell ?_ (by simp <;> omega) _ | refine Below.drewN' ?_ _))
  clear hb6 g5 x5_0_0 x5_0_1 x5_0_2 x5_0_3 x5_0_4 x5_1_0 x5_1_1 x5_1_2 x5_1_3 x5_1_4 y5_0 y5_1
  have S6 := Lib.hid (And.intro q5 r6)
  clear r6 q5 S5
  have K6 := Lib.hid (Kp4.mk S6.out.1.1.1 S6.out.1.1.2 S6.out.1.2 S6.out.2)
  clear S6
  go_wp2_with fail
  refine (carry (fun W => Kp4 W A3 A4 A5 A6 R1 R2) (H5.out _) (fun W' hb => K6.out.step hb)).mono ?_
  rintro e w7 ⟨⟨rfl, q7⟩, hb7⟩
  have x7_0_0 : w7.cell? ⟨w.heap.size, 0, none⟩ = some (.string x.nm) := keep_cell hb7 (by simp [go_sem, *])
  have x7_0_1 : w7.cell? ⟨w.heap.size, 1, none⟩ = some (.int .i64 x.a) := keep_cell hb7 (by simp [go_sem, *])
  have x7_0_2 : w7.cell? ⟨w.heap.size, 2, none⟩ = some (.int .i64 x.b) := keep_cell hb7 (by simp [go_sem, *])
  have x7_0_3 : w7.cell? ⟨w.heap.size, 3, none⟩ = some (.int .i64 x.t) := keep_cell hb7 (by simp [go_sem, *])
  have x7_0_4 : w7.cell? ⟨w.heap.size, 4, none⟩ = some (.int .i64 x.v) := keep_cell hb7 (by simp [go_sem, *])
  have y7_0 : w.heap.size < w7.heap.size := cell?_lt x7_0_0
  have x7_1_0 : w7.cell? ⟨w.heap.size + 1, 0, none⟩ = some (.string y.nm) := keep_cell hb7 (by simp [go_sem, *])
  have x7_1_1 : w7.cell? ⟨w.heap.size + 1, 1, none⟩ = some (.int .i64 y.a) := keep_cell hb7 (by simp [go_sem, *])
  have x7_1_2 : w7.cell? ⟨w.heap.size + 1, 2, none⟩ = some (.int .i64 y.b) := keep_cell hb7 (by simp [go_sem, *])
  have x7_1_3 : w7.cell? ⟨w.heap.size + 1, 3, none⟩ = some (.int .i64 y.t) := keep_cell hb7 (by simp [go_sem, *])
  have x7_1_4 : w7.cell? ⟨w.heap.size + 1, 4, none⟩ = some (.int .i64 y.v) := keep_cell hb7 (by simp [go_sem, *])
  have y7_1 : w.heap.size + 1 < w7.heap.size := cell?_lt x7_1_0
  have g7 : Below w.heap.size w w7 := by (repeat (first | exact Below.refl _ _ | refine Below.drew ?_ | refine Below.allocS ?_ _ | refine Below.step ?_ (by assumption) | refine Below.setCell ?_ (by simp <;> omega) _ | refine Below.drewN' ?_ _))
  clear hb7 g6 x6_0_0 x6_0_1 x6_0_2 x6_0_3 x6_0_4 x6_1_0 x6_1_1 x6_1_2 x6_1_3 x6_1_4 y6_0 y6_1
  have K7 := Lib.hid q7
  clear q7 K6
  go_wp2_with fail
  refine (carry (fun W => Kp4 W A3 A4 A5 A6 R1 R2) (H6.out _) (fun W' hb => K7.out.step hb)).mono ?_
  rintro e w8 ⟨⟨rfl, q8⟩, hb8⟩
  have x8_0_0 : w8.cell? ⟨w.heap.size, 0, none⟩ = some (.string x.nm) := keep_cell hb8 (by simp [go_sem, *])
  have x8_0_1 : w8.cell? ⟨w.heap.size, 1, none⟩ = some (.int .i64 x.a) := keep_cell hb8 (by simp [go_sem, *])
  have x8_0_2 : w8.cell? ⟨w.heap.size, 2, none⟩ = some (.int .i64 x.b) := keep_cell hb8 (by simp [go_sem, *])
  have x8_0_3 : w8.cell? ⟨w.heap.size, 3, none⟩ = some (.int .i64 x.t) := keep_cell hb8 (by simp [go_sem, *])
  have x8_0_4 : w8.cell? ⟨w.heap.size, 4, none⟩ = some (.int .i64 x.v) := keep_cell hb8 (by simp [go_sem, *])
  have y8_0 : w.heap.size < w8.heap.size := cell?_lt x8_0_0
  have x8_1_0 : w8.cell? ⟨w.heap.size + 1, 0, none⟩ = some (.string y.nm) := keep_cell hb8 (by simp [go_sem, *])
  have x8_1_1 : w8.cell? ⟨w.heap.size + 1, 1, none⟩ = some (.int .i64 y.a) := keep_cell hb8 (by simp [go_sem, *])
  have x8_1_2 : w8.cell? ⟨w.heap.size + 1, 2, none⟩ = some (.int .i64 y.b) := keep_cell hb8 (by simp [go_sem, *])
  have x8_1_3 : w8.cell? ⟨w.heap.size + 1, 3, none⟩ = some (.int .i64 y.t) := keep_cell hb8 (by simp [go_sem, *])
  have x8_1_4 : w8.cell? ⟨w.heap.size + 1, 4, none⟩ = some (.int .i64 y.v) := keep_cell hb8 (by simp [go_sem, *])
  have y8_1 : w.heap.size + 1 < w8.heap.size := cell?_lt x8_1_0
  have g8 : Below w.heap.size w w8 := by (repeat (first | exact Below.refl _ _ | refine Below.drew ?_ | refine Below.allocS ?_ _ | refine Below.step ?_ (by assumption) | refine Below.setCell ?_ (by simp <;> omega) _ | refine Below.drewN' ?_ _))
  clear hb8 g7 x7_0_0 x7_0_1 x7_0_2 x7_0_3 x7_0_4 x7_1_0 x7_1_1 x7_1_2 x7_1_3 x7_1_4 y7_0 y7_1
  have K8 := Lib.hid q8
  clear q8 K7
  go_wp2_with fail
  refine (carry (fun W => Kp4 W A3 A4 A5 A6 R1 R2) (H7.out _) (fun W' hb => K8.out.step hb)).mono ?_
  rintro e w9 ⟨⟨rfl, q9⟩, hb9⟩
  have x9_0_0 : w9.cell? ⟨w.heap.size, 0, none⟩ = some (.string x.nm) := keep_cell hb9 (by simp [go_sem, *])
  have x9_0_1 : w9.cell? ⟨w.heap.size, 1, none⟩ = some (.int .i64 x.a) := keep_cell hb9 (by simp [go_sem, *])
  have x9_0_2 : w9.cell? ⟨w.heap.size, 2, none⟩ = some (.int .i64 x.b) := keep_cell hb9 (by simp [go_sem, *])
  have x9_0_3 : w9.cell? ⟨w.heap.size, 3, none⟩ = some (.int .i64 x.t) := keep_cell hb9 (by simp [go_sem, *])
  have x9_0_4 : w9.cell? ⟨w.heap.size, 4, none⟩ = some (.int .i64 x.v) := keep_cell hb9 (by simp [go_sem, *])
  have y9_0 : w.heap.size < w9.heap.size := cell?_lt x9_0_0
  have x9_1_0 : w9.cell? ⟨w.heap.size + 1, 0, none⟩ = some (.string y.nm) := keep_cell hb9 (by simp [go_sem, *])
  have x9_1_1 : w9.cell? ⟨w.heap.size + 1, 1, none⟩ = some (.int .i64 y.a) := keep_cell hb9 (by simp [go_sem, *])
  have x9_1_2 : w9.cell? ⟨w.heap.size + 1, 2, none⟩ = some (.int .i64 y.b) := keep_cell hb9 (by simp [go_sem, *])
  have x9_1_3 : w9.cell? ⟨w.heap.size + 1, 3, none⟩ = some (.int .i64 y.t) := keep_cell hb9 (by simp [go_sem, *])
  have x9_1_4 : w9.cell? ⟨w.heap.size + 1, 4, none⟩ = some (.int .i64 y.v) := keep_cell hb9 (by simp [go_sem, *])
  have y9_1 : w.heap.size + 1 < w9.heap.size := cell?_lt x9_1_0
  have g9 : Below w.heap.size w w9 := by (repeat (first | exact Below.refl _ _ | refine Below.drew ?_ | refine Below.allocS ?_ _ | refine Below.step ?_ (by assumption) | refine Below.setCell ?_ (by simp <;> omega) _ | refine Below.drewN' ?_ _))
  clear hb9 g8 x8_0_0 x8_0_1 x8_0_2 x8_0_3 x8_0_4 x8_1_0 x8_1_1 x8_1_2 x8_1_3 x8_1_4 y8_0 y8_1
  have K9 := Lib.hid q9
  clear q9 K8
  go_wp2_with fail
  refine (carry (fun W => Kp4 W A3 A4 A5 A6 R1 R2) (H8.out _) (fun W' hb => K9.out.step hb)).mono ?_
  rintro e w10 ⟨⟨rfl, q10⟩, hb10⟩
  have x10_0_0 : w10.cell? ⟨w.heap.size, 0, none⟩ = some (.string x.nm) := keep_cell hb10 (by simp [go_sem, *])
  have x10_0_1 : w10.cell? ⟨w.heap.size, 1, none⟩ = some (.int .i64 x.a) := keep_cell hb10 (by simp [go_sem, *])
  have x10_0_2 : w10.cell? ⟨w.heap.size, 2, none⟩ = some (.int .i64 x.b) := keep_cell hb10 (by simp [go_sem, *])
  have x10_0_3 : w10.cell? ⟨w.heap.size, 3, none⟩ = some (.int .i64 x.t) := keep_cell hb10 (by simp [go_sem, *])
  have x10_0_4 : w10.cell? ⟨w.heap.size, 4, none⟩ = some (.int .i64 x.v) := keep_cell hb10 (by simp [go_sem, *])
  have y10_0 : w.heap.size < w10.heap.size := cell?_lt x10_0_0
  have x10_1_0 : w10.cell? ⟨w.heap.size + 1, 0, none⟩ = some (.string y.nm) := keep_cell hb10 (by simp [go_sem, *])
  have x10_1_1 : w10.cell? ⟨w.heap.size + 1, 1, none⟩ = some (.int .i64 y.a) := keep_cell hb10 (by simp [go_sem, *])
  have x10_1_2 : w10.cell? ⟨w.heap.size + 1, 2, none⟩ = some (.int .i64 y.b) := keep_cell hb10 (by simp [go_sem, *])
  have x10_1_3 : w10.cell? ⟨w.heap.size + 1, 3, none⟩ = some (.int .i64 y.t) := keep_cell hb10 (by simp [go_sem, *])
  have x10_1_4 : w10.cell? ⟨w.heap.size + 1, 4, none⟩ = some (.int .i64 y.v) := keep_cell hb10 (by simp [go_sem, *])
  have y10_1 : w.heap.size + 1 < w10.heap.size := cell?_lt x10_1_0
  have g10 : Below w.heap.size w w10 := by (repeat (first | exact Below.refl _ _ | refine Below.drew ?_ | refine Below.allocS ?_ _ | refine Below.step ?_ (by assumption) | refine Below.setCell ?_ (by simp <;> omega) _ | refine Below.drewN' ?_ _))
  clear hb10 g9 x9_0_0 x9_0_1 x9_0_2 x9_0_3 x9_0_4 x9_1_0 x9_1_1 x9_1_2 x9_1_3 x9_1_4 y9_0 y9_1
  have K10 := Lib.hid q10
  clear q10 K9
  go_wp2_with fail
  refine (carry (fun W => Kp4 W A3 A4 A5 A6 R1 R2) (H9.out _ (HI.out.step (by (repeat (first | exact Below.refl _ _ | refine Below.drew ?_ | refine Below.allocS ?_ _ | refine Below.step ?_ (by assumption) | refine Below.setCell ?_ (by simp <;> omega) _ | refine Below.drewN' ?_ _))))) (fun W' hb => K10.out.step hb)).mono ?_
  rintro e w11 ⟨⟨rfl, q11⟩, hb11⟩
  have x11_0_0 : w11.cell? ⟨w.heap.size, 0, none⟩ = some (.string x.nm) := keep_cell hb11 (by simp [go_sem, *])
  have x11_0_1 : w11.cell? ⟨w.heap.size, 1, none⟩ = some (.int .i64 x.a) := keep_cell hb11 (by simp [go_sem, *])
  have x11_0_2 : w11.cell? ⟨w.heap.size, 2, none⟩ = some (.int .i64 x.b) := keep_cell hb11 (by simp [go_sem, *])
  have x11_0_3 : w11.cell? ⟨w.heap.size, 3, none⟩ = some (.int .i64 x.t) := keep_cell hb11 (by simp [go_sem, *])
  have x11_0_4 : w11.cell? ⟨w.heap.size, 4, none⟩ = some (.int .i64 x.v) := keep_cell hb11 (by simp [go_sem, *])
  have y11_0 : w.heap.size < w11.heap.size := cell?_lt x11_0_0
  have x11_1_0 : w11.cell? ⟨w.heap.size + 1, 0, none⟩ = some (.string y.nm) := keep_cell hb11 (by simp [go_sem, *])
  have x11_1_1 : w11.cell? ⟨w.heap.size + 1, 1, none⟩ = some (.int .i64 y.a) := keep_cell hb11 (by simp [go_sem, *])
  have x11_1_2 : w11.cell? ⟨w.heap.size + 1, 2, none⟩ = some (.int .i64 y.b) := keep_cell hb11 (by simp [go_sem, *])
  have x11_1_3 : w11.cell? ⟨w.heap.size + 1, 3, none⟩ = some (.int .i64 y.t) := keep_cell hb11 (by simp [go_sem, *])
  have x11_1_4 : w11.cell? ⟨w.heap.size + 1, 4, none⟩ = some (.int .i64 y.v) := keep_cell hb11 (by simp [go_sem, *])
  have y11_1 : w.heap.size + 1 < w11.heap.size := cell?_lt x11_1_0
  have g11 : Below w.heap.size w w11 := by (repeat (first | exact Below.refl _ _ | refine Below.drew ?_ | refine Below.allocS ?_ _ | refine Below.step ?_ (by assumption) | refine Below.setCell ?_ (by simp <;> omega) _ | refine Below.drewN' ?_ _))
  clear hb11 g10 x10_0_0 x10_0_1 x10_0_2 x10_0_3 x10_0_4 x10_1_0 x10_1_1 x10_1_2 x10_1_3 x10_1_4 y10_0 y10_1
  have K11 := Lib.hid q11
  clear q11 K10
  go_wp2_with fail
  refine (carry (fun W => Kp4 W A3 A4 A5 A6 R1 R2) (H10.out _ (HI.out.step (by (repeat (first | exact Below.refl _ _ | refine Below.drew ?_ | refine Below.allocS ?_ _ | refine Below.step ?_ (by assumption) | refine Below.setCell ?_ (by simp <;> omega) _ | refine Below.drewN' ?_ _))))) (fun W' hb => K11.out.step hb)).mono ?_
  rintro e w12 ⟨⟨rfl, q12⟩, hb12⟩
  have x12_0_0 : w12.cell? ⟨w.heap.size, 0, none⟩ = some (.string x.nm) := keep_cell hb12 (by simp [go_sem, *])
  have x12_0_1 : w12.cell? ⟨w.heap.size, 1, none⟩ = some (.int .i64 x.a) := keep_cell hb12 (by simp [go_sem, *])
  have x12_0_2 : w12.cell? ⟨w.heap.size, 2, none⟩ = some (.int .i64 x.b) := keep_cell hb12 (by simp [go_sem, *])
  have x12_0_3 : w12.cell? ⟨w.heap.size, 3, none⟩ = some (.int .i64 x.t) := keep_cell hb12 (by simp [go_sem, *])
  have x12_0_4 : w12.cell? ⟨w.heap.size, 4, none⟩ = some (.int .i64 x.v) := keep_cell hb12 (by simp [go_sem, *])
  have y12_0 : w.heap.size < w12.heap.size := cell?_lt x12_0_0
  have x12_1_0 : w12.cell? ⟨w.heap.size + 1, 0, none⟩ = some (.string y.nm) := keep_cell hb12 (by simp [go_sem, *])
  have x12_1_1 : w12.cell? ⟨w.heap.size + 1, 1, none⟩ = some (.int .i64 y.a) := keep_cell hb12 (by simp [go_sem, *])
  have x12_1_2 : w12.cell? ⟨w.heap.size + 1, 2, none⟩ = some (.int .i64 y.b) := keep_cell hb12 (by simp [go_sem, *])
  have x12_1_3 : w12.cell? ⟨w.heap.size + 1, 3, none⟩ = some (.int .i64 y.t) := keep_cell hb12 (by simp [go_sem, *])
  have x12_1_4 : w12.cell? ⟨w.heap.size + 1, 4, none⟩ = some (.int .i64 y.v) := keep_cell hb12 (by simp [go_sem, *])
  have y12_1 : w.heap.size + 1 < w12.heap.size := cell?_lt x12_1_0
  have g12 : Below w.heap.size w w12 := by (repeat (first | exact Below.refl _ _ | refine Below.drew ?_ | refine Below.allocS ?_ _ | refine Below.step ?_ (by assumption) | refine Below.setCell ?_ (by simp <;> omega) _ | refine Below.drewN' ?_ _))
  clear hb12 g11 x11_0_0 x11_0_1 x11_0_2 x11_0_3 x11_0_4 x11_1_0 x11_1_1 x11_1_2 x11_1_3 x11_1_4 y11_0 y11_1
  have K12 := Lib.hid q12
  clear q12 K11
  go_wp2_with fail
  refine (carry (fun W => Kp4 W A3 A4 A5 A6 R1 R2) (HS1.out A3 A4 c3 c4 _ K12.out.a K12.out.b) (fun W' hb => K12.out.step hb)).mono ?_
  rintro e w13 ⟨⟨rfl, q13⟩, hb13⟩
  have x13_0_0 : w13.cell? ⟨w.heap.size, 0, none⟩ = some (.string x.nm) := keep_cell hb13 (by simp [go_sem, *])
  have x13_0_1 : w13.cell? ⟨w.heap.size, 1, none⟩ = some (.int .i64 x.a) := keep_cell hb13 (by simp [go_sem, *])
  have x13_0_2 : w13.cell? ⟨w.heap.size, 2, none⟩ = some (.int .i64 x.b) := keep_cell hb13 (by simp [go_sem, *])
  have x13_0_3 : w13.cell? ⟨w.heap.size, 3, none⟩ = some (.int .i64 x.t) := keep_cell hb13 (by simp [go_sem, *])
  have x13_0_4 : w13.cell? ⟨w.heap.size, 4, none⟩ = some (.int .i64 x.v) := keep_cell hb13 (by simp [go_sem, *])
  have y13_0 : w.heap.size < w13.heap.size := cell?_lt x13_0_0
  have x13_1_0 : w13.cell? ⟨w.heap.size + 1, 0, none⟩ = some (.string y.nm) := keep_cell hb13 (by simp [go_sem, *])
  have x13_1_1 : w13.cell? ⟨w.heap.size + 1, 1, none⟩ = some (.int .i64 y.a) := keep_cell hb13 (by simp [go_sem, *])
  have x13_1_2 : w13.cell? ⟨w.heap.size + 1, 2, none⟩ = some (.int .i64 y.b) := keep_cell hb13 (by simp [go_sem, *])
  have x13_1_3 : w13.cell? ⟨w.heap.size + 1, 3, none⟩ = some (.int .i64 y.t) := keep_cell hb13 (by simp [go_sem, *])
  have x13_1_4 : w13.cell? ⟨w.heap.size + 1, 4, none⟩ = some (.int .i64 y.v) := keep_cell hb13 (by simp [go_sem, *])
  have y13_1 : w.heap.size + 1 < w13.heap.size := cell?_lt x13_1_0
  have g13 : Below w.heap.size w w13 := by (repeat (first | exact Below.refl _ _ | refine Below.drew ?_ | refine Below.allocS ?_ _ | refine Below.step ?_ (by assumption) | refine Below.setCell ?_ (by simp <;> omega) _ | refine Below.drewN' ?_ _))
  clear hb13 g12 x12_0_0 x12_0_1 x12_0_2 x12_0_3 x12_0_4 x12_1_0 x12_1_1 x12_1_2 x12_1_3 x12_1_4 y12_0 y12_1
  have K13 := Lib.hid q13
  clear q13 K12
  go_wp2_with fail
  refine (HS2.out A5 A6 c5 c6 _ K13.out.c K13.out.d).mono ?_
  rintro e w14 ⟨rfl, hb14⟩
  have x14_0_0 : w14.cell? ⟨w.heap.size, 0, none⟩ = some (.string x.nm) := keep_cell hb14 (by simp [go_sem, *])
  have x14_0_1 : w14.cell? ⟨w.heap.size, 1, none⟩ = some (.int .i64 x.a) := keep_cell hb14 (by simp [go_sem, *])
  have x14_0_2 : w14.cell? ⟨w.heap.size, 2, none⟩ = some (.int .i64 x.b) := keep_cell hb14 (by simp [go_sem, *])
  have x14_0_3 : w14.cell? ⟨w.heap.size, 3, none⟩ = some (.int .i64 x.t) := keep_cell hb14 (by simp [go_sem, *])
  have x14_0_4 : w14.cell? ⟨w.heap.size, 4, none⟩ = some (.int .i64 x.v) := keep_cell hb14 (by simp [go_sem, *])
  have y14_0 : w.heap.size < w14.heap.size := cell?_lt x14_0_0
  have x14_1_0 : w14.cell? ⟨w.heap.size + 1, 0, none⟩ = some (.string y.nm) := keep_cell hb14 (by simp [go_sem, *])
  have x14_1_1 : w14.cell? ⟨w.heap.size + 1, 1, none⟩ = some (.int .i64 y.a) := keep_cell hb14 (by simp [go_sem, *])
  have x14_1_2 : w14.cell? ⟨w.heap.size + 1, 2, none⟩ = some (.int .i64 y.b) := keep_cell hb14 (by simp [go_sem, *])
  have x14_1_3 : w14.cell? ⟨w.heap.size + 1, 3, none⟩ = some (.int .i64 y.t) := keep_cell hb14 (by simp [go_sem, *])
  have x14_1_4 : w14.cell? ⟨w.heap.size + 1, 4, none⟩ = some (.int .i64 y.v) := keep_cell hb14 (by simp [go_sem, *])
  have y14_1 : w.heap.size + 1 < w14.heap.size := cell?_lt x14_1_0
  have g14 : Below w.heap.size w w14 := by (repeat (first | exact Below.refl _ _ | refine Below.drew ?_ | refine Below.allocS ?_ _ | refine Below.step ?_ (by assumption) | refine Below.setCell ?_ (by simp <;> omega) _ | refine Below.drewN' ?_ _))
  clear hb14 g13 x13_0_0 x13_0_1 x13_0_2 x13_0_3 x13_0_4 x13_1_0 x13_1_1 x13_1_2 x13_1_3 x13_1_4 y13_0 y13_1
  go_wp2_with fail
  refine (awake_c _).mono ?_
  rintro e w15 ⟨rfl, hb15⟩
  go_wp2
  go_ret
  exact ⟨rfl, by (repeat (first | exact Below.refl _ _ | refine Below.drew ?_ | refine Below.allocS ?_ _ | refine Below.step ?_ (by assumption) | refine Below.setCell ?_ (by simp <;> omega) _ | refine Below.drewN' ?_ _))⟩
end Go.Proofs.Ytomgaiokmdcjmaa
