/-
  TransitMost: the walk.
-/
import Derived.Test.YtbcabckokmjelaaK9
namespace Go.Proofs.Ytbcabckokmjelaa
open Go.RowKit Go.Deep
set_option linter.unusedVariables false
set_option linter.unusedSimpArgs false
theorem app1I (l : List Int) (n : Nat) (hn : l.length = n) (hl : n ≤ 1000) (b : Addr) (cap : Nat) (W : World) (g : Nat) (hrow : W.ownsRow g 3 1 (.slice (some ⟨g, 0, none⟩) 0 0) 0 []) (hb : g ≤ W.heap.size)
    (holds : ∀ j u, (l.flatMap inE)[j]? = some u → W.cell? (b.add j) = some u) :
    ∃ v' w', (Builtin.append_ #[22, 22] 22 #[.slice (some ⟨g, 0, none⟩) 0 0, .slice (some b) n cap]).run Try.prog W = .ok v' w' ∧ (w'.ownsRow g 3 1 v' n (l.flatMap inE) ∧ Below g W w') := by
  subst hn
  obtain ⟨i1, z, bytes, hj, hy0, hy1, hy2, hy3, hy4⟩ := appI.info
  obtain ⟨v', w', hrun, r1, r2, -⟩ := run_append_own (P := Try.prog) W g 22 22 3 i1 z 1 bytes appI.ht hj hy0 hy1 hy2 hy3 (by decide) _ 0 [] hrow b l.length cap (l.flatMap inE) (flat_len inE 1 (fun _ => rfl) l) holds (fun u hu => by
    obtain ⟨x, _, hx⟩ := List.mem_flatMap.1 hu
    simp [inE] at hx; subst hx; rfl) (by unfold maxLen; omega) (by have := Nat.mul_le_mul (show 0 + l.length ≤ 1000 by omega) hy4; omega) hb
  exact ⟨v', w', hrun, by simpa using r1, Below.grow (Below.refl g W) hrow r2 rfl hb⟩
set_option maxHeartbeats 4000000 in
set_option maxRecDepth 100000 in
theorem TransitMost_walk (w : World) (x : Tb) (A : Option Addr) (cap : Nat) (l : List Tr) (hx : TbAt w x) (hl : l.length ≤ cap) (hm : cap ≤ maxLen) (hr : RdL w w.heap.size trE 5 A l) (ht : ∀ t ∈ l, TrAt w t) :
    Calls Try.prog 6 #[.agg #[.slice x.A x.xs.length x.ca, .int .i64 x.e], .slice A l.length cap] w fun e w' => e = .returned (.bool true) ∧ Below w.heap.size w w' := by
  have HW := Lib.hid (fun W (hb : Below w.heap.size w W) => wide_c x l A cap W (hx.step hb) hl hm (hr.step hb))
  have H2 := Lib.hid (fun W (hb : Below w.heap.size w W) => Most_c x l A cap W (hx.step hb) hl hm (hr.step hb) (fun t h => (ht t h).step hb))
  have H3 := Lib.hid (fun W (hb : Below w.heap.size w W) => Tightest_c x l A cap W (hx.step hb) hl hm (hr.step hb) (fun t h => (ht t h).step hb))
  by_cases h0 : stErr x l = 0
  case neg =>
    have hc := stErr_cases x l
    have HL : Hid (∀ W, Below w.heap.size w W → Calls Try.prog 32 #[.agg #[.slice x.A x.xs.length x.ca, .int .i64 x.e], .slice A l.length cap] W fun e w' => e = .returned (.tuple #[.slice none 0 0, .int .i64 (stErr x l)]) ∧ Below W.heap.size W w') :=
      Lib.hid (fun W hb => (H2.out W hb).mono (by
        rintro e w' ⟨⟨h, -⟩ | ⟨-, h⟩, hb'⟩
        · exact absurd h h0
        · exact ⟨h, hb'⟩))
    clear hx hl hm hr ht H2 H3
    generalize stErr x l = vE at *
    rcases hc with rfl | rfl | rfl
    · exact absurd rfl h0
    all_goals
      clear h0
      go_enter Try.func6, Try.ntmps6
      go_wp2_with fail
      refine (HW.out _ (by (repeat (first | exact Below.refl _ _ | refine Below.drew ?_ | refine Below.allocS ?_ _ | refine Below.step ?_ (by assumption) | refine Below.setCell ?_ (by simp <;> omega) _ | refine Below.drewN' ?_ _)))).mono ?_
      rintro e w1 ⟨⟨X, rfl, -⟩, hb1⟩
      have x1_0_0 : w1.cell? ⟨w.heap.size, 0, none⟩ = some (.slice x.A x.xs.length x.ca) := keep_cell hb1 (by simp [go_sem, *])
      have x1_0_1 : w1.cell? ⟨w.heap.size, 1, none⟩ = some (.int .i64 x.e) := keep_cell hb1 (by simp [go_sem, *])
      have y1_0 : w.heap.size < w1.heap.size := cell?_lt x1_0_0
      have g1 : Below w.heap.size w w1 := by (repeat (first | exact Below.refl _ _ | refine Below.drew ?_ | refine Below.allocS ?_ _ | refine Below.step ?_ (by assumption) | refine Below.setCell ?_ (by simp <;> omega) _ | refine Below.drewN' ?_ _))
      clear hb1
      cases X
      case true =>
        go_wp2_with fail
        refine (awake_c _).mono ?_
        rintro e w2 ⟨rfl, hb2⟩
        go_wp2
        go_ret
        exact ⟨rfl, by (repeat (first | exact Below.refl _ _ | refine Below.drew ?_ | refine Below.allocS ?_ _ | refine Below.step ?_ (by assumption) | refine Below.setCell ?_ (by simp <;> omega) _ | refine Below.drewN' ?_ _))⟩
      go_wp2_with fail
      refine (HL.out _ (by (repeat (first | exact Below.refl _ _ | refine Below.drew ?_ | refine Below.allocS ?_ _ | refine Below.step ?_ (by assumption) | refine Below.setCell ?_ (by simp <;> omega) _ | refine Below.drewN' ?_ _)))).mono ?_
      rintro e w2 ⟨rfl, hb2⟩
      have x2_0_0 : w2.cell? ⟨w.heap.size, 0, none⟩ = some (.slice x.A x.xs.length x.ca) := keep_cell hb2 (by simp [go_sem, *])
      have x2_0_1 : w2.cell? ⟨w.heap.size, 1, none⟩ = some (.int .i64 x.e) := keep_cell hb2 (by simp [go_sem, *])
      have y2_0 : w.heap.size < w2.heap.size := cell?_lt x2_0_0
      have g2 : Below w.heap.size w w2 := by (repeat (first | exact Below.refl _ _ | refine Below.drew ?_ | refine Below.allocS ?_ _ | refine Below.step ?_ (by assumption) | refine Below.setCell ?_ (by simp <;> omega) _ | refine Below.drewN' ?_ _))
      clear hb2 g1 x1_0_0 x1_0_1 y1_0
      go_wp2_with fail
      refine (awake_c _).mono ?_
      rintro e w3 ⟨rfl, hb3⟩
      go_wp2
      go_ret
      exact ⟨rfl, by (repeat (first | exact Below.refl _ _ | refine Below.drew ?_ | refine Below.allocS ?_ _ | refine Below.step ?_ (by assumption) | refine Below.setCell ?_ (by simp <;> omega) _ | refine Below.drewN' ?_ _))⟩
  have HL : Hid (∀ W, Below w.heap.size w W → Calls Try.prog 32 #[.agg #[.slice x.A x.xs.length x.ca, .int .i64 x.e], .slice A l.length cap] W fun e w' => (∃ r B c, MsP x l r ∧ e = .returned (.tuple #[.slice B r.length c, .int .i64 0]) ∧ RdL w' w'.heap.size inE 1 B (r.map Int.ofNat)) ∧ Below W.heap.size W w') :=
    Lib.hid (fun W hb => (H2.out W hb).mono (by
      rintro e w' ⟨⟨-, ⟨k, r, B, c, -, h2, h3, h4, h5, -⟩⟩ | h, hb'⟩
      · exact ⟨⟨r, B, c, msP_of h0 h2 h3, h4, h5⟩, hb'⟩
      · exact absurd h0 h.1))
  have HTi : Hid (∀ W, Below w.heap.size w W → Calls Try.prog 33 #[.agg #[.slice x.A x.xs.length x.ca, .int .i64 x.e], .slice A l.length cap] W fun e w' => ((∃ m : Int, 0 ≤ m ∧ m ≤ 1000000 ∧ agW x l m = true ∧ (∀ j : Int, 0 ≤ j → j < m → agW x l j = false) ∧ e = .returned (.tuple #[.int .i64 m, .int .i64 0])) ∨ e = .returned (.tuple #[.int .i64 0, .int .i64 7])) ∧ Below W.heap.size W w') :=
    Lib.hid (fun W hb => (H3.out W hb).mono (by
      rintro e w' ⟨⟨-, h | ⟨-, h⟩⟩ | h, hb'⟩
      · exact ⟨.inl h, hb'⟩
      · exact ⟨.inr h, hb'⟩
      · exact absurd h0 h.1))
  have hok := (stErr_ok h0).1
  have hn12 : l.length ≤ 12 := by have := (okAll_ok hok).n; omega
  have htub := (okAll_ok hok).tube
  have hxs : 1 ≤ x.xs.length ∧ x.xs.length ≤ 7 := by
    unfold okTube at htub
    simp only [Bool.and_eq_true] at htub
    exact (by have := within_true htub.2.1; omega)
  obtain ⟨bx, ox, hxA, -, -⟩ := hx.r (by omega)
  have HS : Hid (∀ (r : List Nat) (B : Option Addr) (cb : Nat) W, MsP x l r → Below w.heap.size w W → RdL W W.heap.size inE 1 B (r.map Int.ofNat) → Calls Try.prog 31 #[.slice A l.length cap, .slice B r.length cb] W fun e w' => (∃ A' c', e = .returned (.tuple #[.slice A' r.length c', .bool true]) ∧ RdL w' w'.heap.size inE 1 B (r.map Int.ofNat) ∧ RdL w' w'.heap.size trE 5 A' (selL l tr0 r) ∧ r.length ≤ c' ∧ c' ≤ maxLen ∧ (A' = none → r.length = 0 ∧ c' = 0)) ∧ Below W.heap.size W w') :=
    Lib.hid (fun r B cb W hp hb hrb => (lsome_c l A cap r hp.n (by omega) (by have := hp.most; omega) B cb W (hr.step hb) hrb).mono (by
      rintro e w' ⟨⟨A', c', h1, h2, h3, h4, h5⟩, hb'⟩
      exact ⟨⟨A', c', h1, hrb.step hb', h2, h3, h4, h5⟩, hb'⟩))
  have HG : Hid (∀ (m : List Tr) (n : Nat) (A' : Option Addr) (c' : Nat) W, (∀ t ∈ m, t ∈ l) → m.length = n → n ≤ c' → c' ≤ maxLen → Below w.heap.size w W → RdL W W.heap.size trE 5 A' m → Calls Try.prog 29 #[.agg #[.slice x.A x.xs.length x.ca, .int .i64 x.e], .slice A' n c'] W fun e w' => e = .returned (.tuple #[.bool (agE x m), .int .i64 (stErr x m)]) ∧ Below W.heap.size W w') :=
    Lib.hid (fun m n A' c' W hs hn h1 h2 hb hrm => by subst hn; exact Agree_c x m A' c' W (hx.step hb) h1 h2 hrm (fun t h => (ht t (hs t h)).step hb))
  have HY : Hid (∀ (e' : Int) (A' : Option Addr) (ca' : Nat) W, 0 ≤ e' ∧ e' ≤ 10000 → x.xs.length ≤ ca' → ca' ≤ maxLen → Below w.heap.size w W → RdL W W.heap.size inE 1 A' x.xs → Calls Try.prog 29 #[.agg #[.slice A' x.xs.length ca', .int .i64 e'], .slice A l.length cap] W fun e w' => e = .returned (.tuple #[.bool (agW x l e'), .int .i64 0]) ∧ Below W.heap.size W w') := by
    refine Lib.hid fun e' A' ca' W he h1 h2 hb hra => ?_
    have hy : TbAt W (⟨A', ca', x.xs, e'⟩ : Tb) := ⟨h1, h2, hra, (hx.step hb).v, (show I64 e' by unfold I64; omega)⟩
    have h := Agree_c (⟨A', ca', x.xs, e'⟩ : Tb) l A cap W hy hl hm (hr.step hb) (fun t h => (ht t h).step hb)
    obtain ⟨q1, q2⟩ := tight_ok h0 (y := (⟨A', ca', x.xs, e'⟩ : Tb)) rfl he
    rw [q1, q2] at h
    exact h
  have HXA := Lib.hid hxA
  clear hxA
  have HR := Lib.hid hr
  have HXR := Lib.hid hx.r
  have hml : l.length ≤ 9223372036854775807 := by omega
  clear hx hl hm hr ht H2 H3 h0 hok htub
  go_enter Try.func6, Try.ntmps6
  go_wp2_with fail
  refine (HW.out _ (by (repeat (first | exact Below.refl _ _ | refine Below.drew ?_ | refine Below.allocS ?_ _ | refine Below.step ?_ (by assumption) | refine Below.setCell ?_ (by simp <;> omega) _ | refine Below.drewN' ?_ _)))).mono ?_
  rintro e w1 ⟨⟨X, rfl, -⟩, hb1⟩
  have x1_0_0 : w1.cell? ⟨w.heap.size, 0, none⟩ = some (.slice x.A x.xs.length x.ca) := keep_cell hb1 (by simp [go_sem, *])
  have x1_0_1 : w1.cell? ⟨w.heap.size, 1, none⟩ = some (.int .i64 x.e) := keep_cell hb1 (by simp [go_sem, *])
  have y1_0 : w.heap.size < w1.heap.size := cell?_lt x1_0_0
  have g1 : Below w.heap.size w w1 := by (repeat (first | exact Below.refl _ _ | refine Below.drew ?_ | refine Below.allocS ?_ _ | refine Below.step ?_ (by assumption) | refine Below.setCell ?_ (by simp <;> omega) _ | refine Below.drewN' ?_ _))
  clear hb1
  cases X
  case true =>
    go_wp2_with fail
    refine (awake_c _).mono ?_
    rintro e w2 ⟨rfl, hb2⟩
    go_wp2
    go_ret
    exact ⟨rfl, by (repeat (first | exact Below.refl _ _ | refine Below.drew ?_ | refine Below.allocS ?_ _ | refine Below.step ?_ (by assumption) | refine Below.setCell ?_ (by simp <;> omega) _ | refine Below.drewN' ?_ _))⟩
  go_wp2_with fail
  refine (HL.out _ (by (repeat (first | exact Below.refl _ _ | refine Below.drew ?_ | refine Below.allocS ?_ _ | refine Below.step ?_ (by assumption) | refine Below.setCell ?_ (by simp <;> omega) _ | refine Below.drewN' ?_ _)))).mono ?_
  rintro e w2 ⟨⟨r, B, cb, hp, rfl, hrb⟩, hb2⟩
  have x2_0_0 : w2.cell? ⟨w.heap.size, 0, none⟩ = some (.slice x.A x.xs.length x.ca) := keep_cell hb2 (by simp [go_sem, *])
  have x2_0_1 : w2.cell? ⟨w.heap.size, 1, none⟩ = some (.int .i64 x.e) := keep_cell hb2 (by simp [go_sem, *])
  have y2_0 : w.heap.size < w2.heap.size := cell?_lt x2_0_0
  have g2 : Below w.heap.size w w2 := by (repeat (first | exact Below.refl _ _ | refine Below.drew ?_ | refine Below.allocS ?_ _ | refine Below.step ?_ (by assumption) | refine Below.setCell ?_ (by simp <;> omega) _ | refine Below.drewN' ?_ _))
  clear hb2 g1 x1_0_0 x1_0_1 y1_0
  have HP := Lib.hid hp
  have HRB := Lib.hid hrb
  have hr1 := hp.one
  have hr12 : r.length ≤ 12 := by have := hp.most; omega
  obtain ⟨rn, hrn⟩ : ∃ n, n = r.length := ⟨_, rfl⟩
  have HS1 := Lib.hid (HS.out r B cb)
  rw [← hrn] at hr1 hr12 HS1 ⊢
  have HRN := Lib.hid hrn
  have v1 : ((rn : Int) == 0) = false := by simp; omega
  have v2 : decide ((rn : Int) = 0) = false := decide_eq_false (by omega)
  clear hp hrb hrn HS
  go_wp2_with fail
  refine (HS1.out _ HP.out (by (repeat (first | exact Below.refl _ _ | refine Below.drew ?_ | refine Below.allocS ?_ _ | refine Below.step ?_ (by assumption) | refine Below.setCell ?_ (by simp <;> omega) _ | refine Below.drewN' ?_ _))) HRB.out).mono ?_
  rintro e w3 ⟨⟨A4, c4, rfl, rb4, r4, k4, m4, z4⟩, hb3⟩
  have x3_0_0 : w3.cell? ⟨w.heap.size, 0, none⟩ = some (.slice x.A x.xs.length x.ca) := keep_cell hb3 (by simp [go_sem, *])
  have x3_0_1 : w3.cell? ⟨w.heap.size, 1, none⟩ = some (.int .i64 x.e) := keep_cell hb3 (by simp [go_sem, *])
  have y3_0 : w.heap.size < w3.heap.size := cell?_lt x3_0_0
  have g3 : Below w.heap.size w w3 := by (repeat (first | exact Below.refl _ _ | refine Below.drew ?_ | refine Below.allocS ?_ _ | refine Below.step ?_ (by assumption) | refine Below.setCell ?_ (by simp <;> omega) _ | refine Below.drewN' ?_ _))
  clear hb3 g2 x2_0_0 x2_0_1 y2_0
  have R4 := Lib.hid r4
  have hsl : (selL l tr0 r).length = rn := by rw [sel_len, ← HRN.out]
  have HSL := Lib.hid hsl
  have HSUB := Lib.hid (sel_in HP.out.n : ∀ t ∈ selL l tr0 r, t ∈ l)
  have HG1 : Hid (∀ W, Below w.heap.size w W → RdL W W.heap.size trE 5 A4 (selL l tr0 r) → RdL W W.heap.size inE 1 B (r.map Int.ofNat) → Calls Try.prog 29 #[.agg #[.slice x.A x.xs.length x.ca, .int .i64 x.e], .slice A4 rn c4] W fun e w' => e = .returned (.tuple #[.bool true, .int .i64 0]) ∧ RdL w' w'.heap.size inE 1 B (r.map Int.ofNat) ∧ RdL w' w'.heap.size trE 5 A4 (selL l tr0 r) ∧ Below W.heap.size W w') := by
    refine Lib.hid fun W hb hrm hrb => ?_
    have := HG.out (selL l tr0 r) rn A4 c4 W HSUB.out hsl k4 m4 hb hrm
    rw [HP.out.ag, HP.out.st] at this
    exact this.mono fun e w' h => ⟨h.1, hrb.step h.2, hrm.step h.2, h.2⟩
  obtain ⟨b4, off4, rfl, y4b, -⟩ := r4 (by omega)
  have RB4 := Lib.hid rb4
  clear r4 z4 hsl rb4
  go_wp2_with fail
  refine (HG1.out _ (by (repeat (first | exact Below.refl _ _ | refine Below.drew ?_ | refine Below.allocS ?_ _ | refine Below.step ?_ (by assumption) | refine Below.setCell ?_ (by simp <;> omega) _ | refine Below.drewN' ?_ _))) R4.out RB4.out).mono ?_
  rintro e w4 ⟨rfl, rb5, r5, hb4⟩
  have x4_0_0 : w4.cell? ⟨w.heap.size, 0, none⟩ = some (.slice x.A x.xs.length x.ca) := keep_cell hb4 (by simp [go_sem, *])
  have x4_0_1 : w4.cell? ⟨w.heap.size, 1, none⟩ = some (.int .i64 x.e) := keep_cell hb4 (by simp [go_sem, *])
  have y4_0 : w.heap.size < w4.heap.size := cell?_lt x4_0_0
  have g4 : Below w.heap.size w w4 := by (repeat (first | exact Below.refl _ _ | refine Below.drew ?_ | refine Below.allocS ?_ _ | refine Below.step ?_ (by assumption) | refine Below.setCell ?_ (by simp <;> omega) _ | refine Below.drewN' ?_ _))
  clear hb4 g3 x3_0_0 x3_0_1 y3_0
  have R5 := Lib.hid r5
  have RB5 := Lib.hid rb5
  clear r5 rb5
  have G5 := g4
  have cu0 : w4.cell? ⟨w.heap.size, 0, none⟩ = some (.slice x.A x.xs.length x.ca) := by simp [go_sem, *]
  have cu1 : w4.cell? ⟨w.heap.size, 1, none⟩ = some (.int .i64 x.e) := by simp [go_sem, *]
  go_wp2
  go_loopw [64] (fun i wr => ∃ k : Nat, k ≤ l.length ∧ i = .int .i64 k ∧ Below w4.heap.size w4 wr) (fun i _ => l.length - (intOf i).toNat)
  case atStart => exact ⟨0, Nat.zero_le _, rfl, Below.refl _ _⟩
  case round =>
    rename World => V
    obtain ⟨k, hk, rfl, hbV⟩ := hrel
    have RV := Lib.hid (R5.out.step hbV)
    have RBV := Lib.hid (RB5.out.step hbV)
    have hbw : Below w.heap.size w V := Below.low G5 hbV (by omega)
    have cv0 : V.cell? ⟨w.heap.size, 0, none⟩ = some (.slice x.A x.xs.length x.ca) := keep_cell hbV cu0
    have cv1 : V.cell? ⟨w.heap.size, 1, none⟩ = some (.int .i64 x.e) := keep_cell hbV cu1
    by_cases hlt : k < l.length
    · have u1 : decide ((k : Int) < (l.length : Int)) = true := decide_eq_true (by omega)
      have u2 : IntKind.i64.wrap ((k : Int) + 1) = (k : Int) + 1 := IntWalk.i64_in _ (by omega)
      have HKN := Lib.hid hlt
      go_wp2_with fail
      go_loopw [12, 69] (fun u i wr => ∃ j : Nat, j ≤ rn ∧ u = .bool (decide (k ∈ r.take j)) ∧ i = .int .i64 j ∧ V = wr) (fun _ i _ => rn - (intOf i).toNat)
      case atStart => exact ⟨0, Nat.zero_le _, by simp, rfl, rfl⟩
      case round =>
        obtain ⟨j, hj, rfl, rfl, rfl⟩ := hrel
        by_cases hjr : j < rn
        · have y1 : decide ((j : Int) < (rn : Int)) = true := decide_eq_true (by omega)
          have y2 : IntKind.i64.wrap ((j : Int) + 1) = (j : Int) + 1 := IntWalk.i64_in _ (by omega)
          have hjl : j < r.length := by rw [← HRN.out]; exact hjr
          obtain ⟨m, hm⟩ : ∃ m, m = r[j] := ⟨_, rfl⟩
          obtain ⟨b2, off2, rfl, hb2, hc2⟩ := RBV.out (by rw [List.length_map]; omega)
          have d0 := hc2 j (by rw [List.length_map]; exact hjl) 0 _ rfl
          clear hc2
          have d1 : V.cell? ⟨b2, off2 + j, none⟩ = some (.int .i64 m) := by
            rw [hm]; simpa using d0
          clear d0
          have HTJ := Lib.hid (show decide (k ∈ r.take (j + 1)) = (decide (k ∈ r.take j) || decide (k = m)) by
            rw [List.take_succ_eq_append_getElem hjl, ← hm]; simp)
          have HJR := Lib.hid hjr
          clear hm hjl hjr
          obtain ⟨U, hU⟩ : ∃ U, U = decide (k ∈ r.take j) := ⟨_, rfl⟩
          rw [← hU] at HTJ ⊢
          clear hU
          cases U
          · by_cases hkm : k = m
            · subst hkm
              have q1 : ((k : Int) == (k : Int)) = true := by simp
              have q2 : decide ((k : Int) = (k : Int)) = true := decide_eq_true rfl
              go_wp2
              go_roundw
              case rel => exact ⟨j + 1, HJR.out, by rw [HTJ.out]; simp, by go_num, trivial⟩
              case measure => have := HJR.out; simp [intOf]; omega
            · have q1 : ((m : Int) == (k : Int)) = false := by simp; omega
              have q2 : decide ((m : Int) = (k : Int)) = false := decide_eq_false (by omega)
              have HKM := Lib.hid hkm
              clear hkm
              go_wp2
              go_roundw
              case rel => exact ⟨j + 1, HJR.out, by rw [HTJ.out]; simp [HKM.out], by go_num, trivial⟩
              case measure => have := HJR.out; simp [intOf]; omega
          · go_wp2
            go_roundw
            case rel => exact ⟨j + 1, HJR.out, by rw [HTJ.out]; simp, by go_num, trivial⟩
            case measure => have := HJR.out; simp [intOf]; omega
        · obtain rfl : j = rn := by omega
          have y1 : decide ((j : Int) < (j : Int)) = false := decide_eq_false (by omega)
          have HU := Lib.hid (show decide (k ∈ r.take j) = decide (k ∈ r) by rw [HRN.out, List.take_of_length_le (Nat.le_refl _)])
          obtain ⟨U, hU⟩ : ∃ U, U = decide (k ∈ r) := ⟨_, rfl⟩
          rw [HU.out, ← hU]
          have HUU := Lib.hid hU
          clear hU HU
          cases U
          · have hkr : k ∉ r := by have := HUU.out; simpa using this
            have HKR := Lib.hid hkr
            clear hkr HUU
            obtain ⟨b, off, rfl, hb0, hc⟩ := HR.out (by omega)
            obtain ⟨t, ht⟩ : ∃ t, t = l[k] := ⟨_, rfl⟩
            have hcell : ∀ jj v, (trE t)[jj]? = some v → V.cell? ⟨b, off + k * 5 + jj, none⟩ = some v := fun jj v hv => (hbw.cell (p := ⟨b, _, none⟩) hb0).trans (hc k hlt jj v (by rw [ht] at hv; exact hv))
            clear hc
            have q0 : ∀ W, Below V.heap.size V W → W.cell? ⟨b, off + k * 5, none⟩ = some (.string t.nm) := fun W hb => keep_cell hb (by simpa using hcell 0 _ rfl)
            have q1 : ∀ W, Below V.heap.size V W → W.cell? ⟨b, off + k * 5 + 1, none⟩ = some (.int .i64 t.a) := fun W hb => keep_cell hb (hcell 1 _ rfl)
            have q2 : ∀ W, Below V.heap.size V W → W.cell? ⟨b, off + k * 5 + 2, none⟩ = some (.int .i64 t.b) := fun W hb => keep_cell hb (hcell 2 _ rfl)
            have q3 : ∀ W, Below V.heap.size V W → W.cell? ⟨b, off + k * 5 + 3, none⟩ = some (.int .i64 t.c) := fun W hb => keep_cell hb (hcell 3 _ rfl)
            have q4 : ∀ W, Below V.heap.size V W → W.cell? ⟨b, off + k * 5 + 4, none⟩ = some (.slice t.T t.ts.length t.ct) := fun W hb => keep_cell hb (hcell 4 _ rfl)
            clear hcell
            have p0 : ∀ W, Below V.heap.size V W → W.cell? ⟨w.heap.size, 0, none⟩ = some (.slice x.A x.xs.length x.ca) := fun W hb => keep_cell hb cv0
            have p1 : ∀ W, Below V.heap.size V W → W.cell? ⟨w.heap.size, 1, none⟩ = some (.int .i64 x.e) := fun W hb => keep_cell hb cv1
            have hgk : l.getD k tr0 = t := by rw [ht, List.getD_eq_getElem?_getD, List.getElem?_eq_getElem hlt]; rfl
            have hmem : t ∈ l := by rw [ht]; exact List.getElem_mem hlt
            have u7 : (0 : Int) ≤ (k : Int) := by omega
            have u8 : (k : Int) < (l.length : Int) := by omega
            have HL3 := Lib.hid (show (selL l tr0 r ++ [t]).length = j + 1 by rw [List.length_append, HSL.out]; rfl)
            have HA1 : Hid (∀ (W : World) (g : Nat), Below V.heap.size V W → W.ownsRow g 28 5 (.slice (some ⟨g, 0, none⟩) 0 0) 0 [] → g ≤ W.heap.size → ∃ v' w', (Builtin.append_ #[30, 30] 30 #[.slice (some ⟨g, 0, none⟩) 0 0, .slice (some ⟨b4, off4, none⟩) j c4]).run Try.prog W = .ok v' w' ∧ (w'.ownsRow g 28 5 v' j ((selL l tr0 r).flatMap trE) ∧ Below g W w' ∧ W.grownBy w' (some g))) :=
              Lib.hid (fun W g hb hrow hg => app1n _ j HSL.out (by omega) ⟨b4, off4, none⟩ c4 W g hrow hg (RdL.olds trE_len (by decide) RV.out hb _ rfl))
            have HG2 : Hid (∀ A' c' W, j + 1 ≤ c' → c' ≤ maxLen → Below w.heap.size w W → RdL W W.heap.size trE 5 A' (selL l tr0 r ++ [t]) → Calls Try.prog 29 #[.agg #[.slice x.A x.xs.length x.ca, .int .i64 x.e], .slice A' (j + 1) c'] W fun e w' => e = .returned (.tuple #[.bool false, .int .i64 0]) ∧ Below W.heap.size W w') := by
              refine Lib.hid fun A' c' W h1 h2 hb hrm => ?_
              have := HG.out _ _ A' c' W (fun s hs => (by
                rcases List.mem_append.1 hs with h | h
                · exact HSUB.out s h
                · simp at h; rw [h]; exact hmem)) HL3.out h1 h2 hb hrm
              have hp := HP.out.more k hlt HKR.out
              rw [hgk] at hp
              rw [hp.1, hp.2] at this
              exact this
            clear ht hgk hmem
            go_wp2_with fail
            go_cut [15, 16] (fun s15 s16 w2 => s15 = .bool false ∧ s16 = .int .i64 0 ∧ Below V.heap.size V w2)
            case first =>
              refine wp_region_held_drew (S := fun W => Below V.heap.size V W) (by kernel_rfl) ?_ (fun hHeld => ?_); (· (repeat (first | (with_reducible exact Below.refl _ _) | (with_reducible assumption) | (with_reducible refine Below.drew ?_) | (with_reducible refine Below.allocS ?_ _) | (with_reducible refine Below.setCell ?_ ?_ _) | (with_reducible refine Below.step ?_ (by assumption)) | (with_reducible refine Below.drewN' ?_ _))); (try any_goals (first | (with_reducible assumption) | (simp; done) | (simp; omega) | omega)))
              (first | (refine wpAnyH_take (i := 0) (oi := ⟨_, _, _, _, _, _⟩) (v := ?_) rfl (by kernel_rfl) (by kernel_rfl) (by kernel_rfl) (fun _ _ _ h => h) (Or.inl ⟨by rfl, ?_⟩) (by assumption) ?_; rotate_left 1; (· (intro w0 hSw; (try dsimp only at hSw); go_simp; (try with_reducible rfl)))) | (refine wpAnyH_take (i := 0) (oi := ⟨_, _, _, _, _, _⟩) (v := undef) rfl (by kernel_rfl) (by kernel_rfl) (by kernel_rfl) (fun _ _ _ h => h) (Or.inr ⟨by rfl, rfl⟩) (by assumption) ?_)); (try simp only [Act.put, List.setIfInBounds_toArray, List.set_cons_zero, List.set_cons_succ])
              (first | (refine wpAnyH_take (i := 2) (oi := ⟨_, _, _, _, _, _⟩) (v := ?_) rfl (by kernel_rfl) (by kernel_rfl) (by kernel_rfl) (fun _ _ _ h => h) (Or.inl ⟨by rfl, ?_⟩) (by assumption) ?_; rotate_left 1; (· (intro w0 hSw; (try dsimp only at hSw); go_simp; (try with_reducible rfl)))) | (refine wpAnyH_take (i := 2) (oi := ⟨_, _, _, _, _, _⟩) (v := undef) rfl (by kernel_rfl) (by kernel_rfl) (by kernel_rfl) (fun _ _ _ h => h) (Or.inr ⟨by rfl, rfl⟩) (by assumption) ?_)); (try simp only [Act.put, List.setIfInBounds_toArray, List.set_cons_zero, List.set_cons_succ])
              (first | (refine wpAnyH_take (i := 4) (oi := ⟨_, _, _, _, _, _⟩) (v := ?_) rfl (by kernel_rfl) (by kernel_rfl) (by kernel_rfl) (fun _ _ _ h => h) (Or.inl ⟨by rfl, ?_⟩) (by assumption) ?_; rotate_left 1; (· (intro w0 hSw; (try dsimp only at hSw); go_simp; (try with_reducible rfl)))) | (refine wpAnyH_take (i := 4) (oi := ⟨_, _, _, _, _, _⟩) (v := undef) rfl (by kernel_rfl) (by kernel_rfl) (by kernel_rfl) (fun _ _ _ h => h) (Or.inr ⟨by rfl, rfl⟩) (by assumption) ?_)); (try simp only [Act.put, List.setIfInBounds_toArray, List.set_cons_zero, List.set_cons_succ])
              (first | (refine wpAnyH_take (i := 5) (oi := ⟨_, _, _, _, _, _⟩) (v := ?_) rfl (by kernel_rfl) (by kernel_rfl) (by kernel_rfl) (fun _ _ _ h => h) (Or.inl ⟨by rfl, ?_⟩) (by assumption) ?_; rotate_left 1; (· (intro w0 hSw; (try dsimp only at hSw); go_simp; (try with_reducible rfl)))) | (refine wpAnyH_take (i := 5) (oi := ⟨_, _, _, _, _, _⟩) (v := undef) rfl (by kernel_rfl) (by kernel_rfl) (by kernel_rfl) (fun _ _ _ h => h) (Or.inr ⟨by rfl, rfl⟩) (by assumption) ?_)); (try simp only [Act.put, List.setIfInBounds_toArray, List.set_cons_zero, List.set_cons_succ])
              (first | (refine wpAnyH_take (i := 6) (oi := ⟨_, _, _, _, _, _⟩) (v := ?_) rfl (by kernel_rfl) (by kernel_rfl) (by kernel_rfl) (fun _ _ _ h => h) (Or.inl ⟨by rfl, ?_⟩) (by assumption) ?_; rotate_left 1; (· (intro w0 hSw; (try dsimp only at hSw); go_simp; (try with_reducible rfl)))) | (refine wpAnyH_take (i := 6) (oi := ⟨_, _, _, _, _, _⟩) (v := undef) rfl (by kernel_rfl) (by kernel_rfl) (by kernel_rfl) (fun _ _ _ h => h) (Or.inr ⟨by rfl, rfl⟩) (by assumption) ?_)); (try simp only [Act.put, List.setIfInBounds_toArray, List.set_cons_zero, List.set_cons_succ])
              (first | (refine wpAnyH_take (i := 7) (oi := ⟨_, _, _, _, _, _⟩) (v := ?_) rfl (by kernel_rfl) (by kernel_rfl) (by kernel_rfl) (fun _ _ _ h => h) (Or.inl ⟨by rfl, ?_⟩) (by assumption) ?_; rotate_left 1; (· (intro w0 hSw; (try dsimp only at hSw); go_simp; (try with_reducible rfl)))) | (refine wpAnyH_take (i := 7) (oi := ⟨_, _, _, _, _, _⟩) (v := undef) rfl (by kernel_rfl) (by kernel_rfl) (by kernel_rfl) (fun _ _ _ h => h) (Or.inr ⟨by rfl, rfl⟩) (by assumption) ?_)); (try simp only [Act.put, List.setIfInBounds_toArray, List.set_cons_zero, List.set_cons_succ])
              refine wpAnyH_ready (rs := [1, 8]) (by kernel_rfl) (by simp) ?_
              refine AllReadyH.cons (o := ⟨_, _, _, _, _, _⟩) rfl (fun K hK => ?_) (AllReadyH.cons (o := ⟨_, _, _, _, _, _⟩) rfl (fun K hK => ?_) AllReadyH.nil)
              · go_simp
                refine hK.out _ _ ?_ (fun hHeld => ?_)
                · (repeat (first | (with_reducible exact Below.refl _ _) | (with_reducible assumption) | (with_reducible refine Below.drew ?_) | (with_reducible refine Below.allocS ?_ _) | (with_reducible refine Below.setCell ?_ ?_ _) | (with_reducible refine Below.step ?_ (by assumption)) | (with_reducible refine Below.drewN' ?_ _))); (try any_goals (first | (with_reducible assumption) | (simp; done) | (simp; omega) | omega))
                clear hK K
                (try simp only [Act.put, List.setIfInBounds_toArray, List.set_cons_zero, List.set_cons_succ])
                refine wpAnyH_ready (rs := [3, 8]) (by kernel_rfl) (by simp) ?_
                refine AllReadyH.cons (o := ⟨_, _, _, _, _, _⟩) rfl (fun K hK => ?_) (AllReadyH.cons (o := ⟨_, _, _, _, _, _⟩) rfl (fun K hK => ?_) AllReadyH.nil)
                · refine step_app rfl (.tmp 84) (.tmp 85) 30 rfl _ _ rfl rfl (HA1.out _ (V.heap.size) (by (repeat (first | (with_reducible exact Below.refl _ _) | (with_reducible assumption) | (with_reducible refine Below.drew ?_) | (with_reducible refine Below.allocS ?_ _) | (with_reducible refine Below.setCell ?_ ?_ _) | (with_reducible refine Below.step ?_ (by assumption)) | (with_reducible refine Below.drewN' ?_ _))); (try any_goals (first | (with_reducible assumption) | (simp; done) | (simp; omega) | omega))) (empty_row' _ _ _ _ rfl) (by first | (simp; done) | (simp; omega))) ?_
                  rintro v6 w6 ⟨hown6, hbel6, hgr6⟩
                  have hB6 : Below V.heap.size V w6 := Below.low (by (repeat (first | (with_reducible exact Below.refl _ _) | (with_reducible assumption) | (with_reducible refine Below.drew ?_) | (with_reducible refine Below.allocS ?_ _) | (with_reducible refine Below.setCell ?_ ?_ _) | (with_reducible refine Below.step ?_ (by assumption)) | (with_reducible refine Below.drewN' ?_ _))); (try any_goals (first | (with_reducible assumption) | (simp; done) | (simp; omega) | omega))) hbel6 (by first | exact Nat.le_refl _ | omega)
                  have hs6 : V.heap.size ≤ w6.heap.size := hB6.size
                  have hs7 : V.heap.size ≤ w6.heap.size := (by have := hbel6.size; first | omega | (simp at this; omega))
                  have HO6 := Lib.hid hown6
                  obtain ⟨A6, c6, rfl, -, -⟩ := row_form hown6
                  clear hown6 hbel6
                  refine hK.out _ _ ?_ (fun hHeld => ?_)
                  · assumption
                  clear hK K
                  (try simp only [Act.put, List.setIfInBounds_toArray, List.set_cons_zero, List.set_cons_succ])
                  refine wpAnyH_ready (rs := [8]) (by kernel_rfl) (by simp) ?_
                  refine AllReadyH.cons (o := ⟨_, _, _, _, _, _⟩) rfl (fun K hK => ?_) AllReadyH.nil
                  go_simp
                  refine hK.out _ _ ?_ (fun hHeld => ?_)
                  · (repeat (first | (with_reducible exact Below.refl _ _) | (with_reducible assumption) | (with_reducible refine Below.drew ?_) | (with_reducible refine Below.allocS ?_ _) | (with_reducible refine Below.setCell ?_ ?_ _) | (with_reducible refine Below.step ?_ (by assumption)) | (with_reducible refine Below.drewN' ?_ _))); (try any_goals (first | (with_reducible assumption) | (simp; done) | (simp; omega) | omega))
                  clear hK K
                  (try simp only [Act.put, List.setIfInBounds_toArray, List.set_cons_zero, List.set_cons_succ])
                  refine wpAnyH_ready (rs := [9]) (by kernel_rfl) (by simp) ?_
                  refine AllReadyH.cons (o := ⟨_, _, _, _, _, _⟩) rfl (fun K hK => ?_) AllReadyH.nil
                  refine step_app rfl (.tmp 86) (.tmp 91) 30 rfl _ _ rfl rfl (app_run appT _ t j HSL.out (by omega) (w6.alloc (.cells #[.string t.nm, .int .i64 t.a, .int .i64 t.b, .int .i64 t.c, .slice t.T t.ts.length t.ct] 28)) (V.heap.size) (w6.heap.size) _ (HO6.out.alloc _) (by first | assumption | (simp; done) | (simp; omega)) (five_cells (by simp [go_sem]) (by simp [go_sem]) (by simp [go_sem]) (by simp [go_sem]) (by simp [go_sem]))) ?_
                  rintro v7 w7 ⟨hown7, hbel7⟩
                  have hB7 : Below V.heap.size V w7 := Below.low (by (repeat (first | (with_reducible exact Below.refl _ _) | (with_reducible assumption) | (with_reducible refine Below.drew ?_) | (with_reducible refine Below.allocS ?_ _) | (with_reducible refine Below.setCell ?_ ?_ _) | (with_reducible refine Below.step ?_ (by assumption)) | (with_reducible refine Below.drewN' ?_ _))); (try any_goals (first | (with_reducible assumption) | (simp; done) | (simp; omega) | omega))) hbel7 (by first | exact Nat.le_refl _ | omega)
                  obtain ⟨A7, c7, rfl, k7, m7⟩ := row_form hown7
                  have R7 := Lib.hid (RdL.of_own (enc := trE) trE_len hown7 HL3.out)
                  have K7 := Lib.hid (And.intro k7 m7)
                  clear hown7 hbel7 k7 m7
                  refine hK.out _ _ ?_ (fun hHeld => ?_)
                  · assumption
                  clear hK K
                  (try simp only [Act.put, List.setIfInBounds_toArray, List.set_cons_zero, List.set_cons_succ])
                  refine wpAnyH_ready (rs := [10]) (by kernel_rfl) (by simp) ?_
                  refine AllReadyH.cons (o := ⟨_, _, _, _, _, _⟩) rfl (fun K hK => ?_) AllReadyH.nil
                  go_simp
                  refine (HG2.out A7 c7 _ K7.out.1 K7.out.2 (Below.low hbw hB7 (by have := hbw.size; omega)) R7.out).mono ?_; rintro e w8 ⟨rfl, hb8⟩
                  (try go_wp2_with fail)
                  refine hK.out _ _ ?_ (fun hHeld => ?_)
                  · exact Below.step hB7 hb8
                  clear hK K
                  (try simp only [Act.put, List.setIfInBounds_toArray, List.set_cons_zero, List.set_cons_succ])
                  (first | (refine wpAnyH_take (i := 11) (oi := ⟨_, _, _, _, _, _⟩) (v := ?_) rfl (by kernel_rfl) (by kernel_rfl) (by kernel_rfl) (fun _ _ _ h => h) (Or.inl ⟨by rfl, ?_⟩) (by assumption) ?_; rotate_left 1; (· (intro w0 hSw; (try dsimp only at hSw); go_simp; (try with_reducible rfl)))) | (refine wpAnyH_take (i := 11) (oi := ⟨_, _, _, _, _, _⟩) (v := undef) rfl (by kernel_rfl) (by kernel_rfl) (by kernel_rfl) (fun _ _ _ h => h) (Or.inr ⟨by rfl, rfl⟩) (by assumption) ?_)); (try simp only [Act.put, List.setIfInBounds_toArray, List.set_cons_zero, List.set_cons_succ])
                  (first | (refine wpAnyH_take (i := 12) (oi := ⟨_, _, _, _, _, _⟩) (v := ?_) rfl (by kernel_rfl) (by kernel_rfl) (by kernel_rfl) (fun _ _ _ h => h) (Or.inl ⟨by rfl, ?_⟩) (by assumption) ?_; rotate_left 1; (· (intro w0 hSw; (try dsimp only at hSw); go_simp; (try with_reducible rfl)))) | (refine wpAnyH_take (i := 12) (oi := ⟨_, _, _, _, _, _⟩) (v := undef) rfl (by kernel_rfl) (by kernel_rfl) (by kernel_rfl) (fun _ _ _ h => h) (Or.inr ⟨by rfl, rfl⟩) (by assumption) ?_)); (try simp only [Act.put, List.setIfInBounds_toArray, List.set_cons_zero, List.set_cons_succ])
                  (first | (refine wpAnyH_take (i := 13) (oi := ⟨_, _, _, _, _, _⟩) (v := ?_) rfl (by kernel_rfl) (by kernel_rfl) (by kernel_rfl) (fun _ _ _ h => h) (Or.inl ⟨by rfl, ?_⟩) (by assumption) ?_; rotate_left 1; (· (intro w0 hSw; (try dsimp only at hSw); go_simp; (try with_reducible rfl)))) | (refine wpAnyH_take (i := 13) (oi := ⟨_, _, _, _, _, _⟩) (v := undef) rfl (by kernel_rfl) (by kernel_rfl) (by kernel_rfl) (fun _ _ _ h => h) (Or.inr ⟨by rfl, rfl⟩) (by assumption) ?_)); (try simp only [Act.put, List.setIfInBounds_toArray, List.set_cons_zero, List.set_cons_succ])
                  (first | (refine wpAnyH_take (i := 14) (oi := ⟨_, _, _, _, _, _⟩) (v := ?_) rfl (by kernel_rfl) (by kernel_rfl) (by kernel_rfl) (fun _ _ _ h => h) (Or.inl ⟨by rfl, ?_⟩) (by assumption) ?_; rotate_left 1; (· (intro w0 hSw; (try dsimp only at hSw); go_simp; (try with_reducible rfl)))) | (refine wpAnyH_take (i := 14) (oi := ⟨_, _, _, _, _, _⟩) (v := undef) rfl (by kernel_rfl) (by kernel_rfl) (by kernel_rfl) (fun _ _ _ h => h) (Or.inr ⟨by rfl, rfl⟩) (by assumption) ?_)); (try simp only [Act.put, List.setIfInBounds_toArray, List.set_cons_zero, List.set_cons_succ])
                  (first | (refine wpAnyH_take (i := 15) (oi := ⟨_, _, _, _, _, _⟩) (v := ?_) rfl (by kernel_rfl) (by kernel_rfl) (by kernel_rfl) (fun _ _ _ h => h) (Or.inl ⟨by rfl, ?_⟩) (by assumption) ?_; rotate_left 1; (· (intro w0 hSw; (try dsimp only at hSw); go_simp; (try with_reducible rfl)))) | (refine wpAnyH_take (i := 15) (oi := ⟨_, _, _, _, _, _⟩) (v := undef) rfl (by kernel_rfl) (by kernel_rfl) (by kernel_rfl) (fun _ _ _ h => h) (Or.inr ⟨by rfl, rfl⟩) (by assumption) ?_)); (try simp only [Act.put, List.setIfInBounds_toArray, List.set_cons_zero, List.set_cons_succ])
                  refine wpAnyH_done (by kernel_rfl) ?_ _
                  go_wp2_with fail
                  go_meet
                  exact ⟨rfl, rfl, Below.step hB7 hb8⟩
                · go_simp
                  refine hK.out _ _ ?_ (fun hHeld => ?_)
                  · (repeat (first | (with_reducible exact Below.refl _ _) | (with_reducible assumption) | (with_reducible refine Below.drew ?_) | (with_reducible refine Below.allocS ?_ _) | (with_reducible refine Below.setCell ?_ ?_ _) | (with_reducible refine Below.step ?_ (by assumption)) | (with_reducible refine Below.drewN' ?_ _))); (try any_goals (first | (with_reducible assumption) | (simp; done) | (simp; omega) | omega))
                  clear hK K
                  (try simp only [Act.put, List.setIfInBounds_toArray, List.set_cons_zero, List.set_cons_succ])
                  refine wpAnyH_ready (rs := [3]) (by kernel_rfl) (by simp) ?_
                  refine AllReadyH.cons (o := ⟨_, _, _, _, _, _⟩) rfl (fun K hK => ?_) AllReadyH.nil
                  refine step_app rfl (.tmp 84) (.tmp 85) 30 rfl _ _ rfl rfl (HA1.out _ (V.heap.size) (by (repeat (first | (with_reducible exact Below.refl _ _) | (with_reducible assumption) | (with_reducible refine Below.drew ?_) | (with_reducible refine Below.allocS ?_ _) | (with_reducible refine Below.setCell ?_ ?_ _) | (with_reducible refine Below.step ?_ (by assumption)) | (with_reducible refine Below.drewN' ?_ _))); (try any_goals (first | (with_reducible assumption) | (simp; done) | (simp; omega) | omega))) ((empty_row' _ _ _ _ rfl).alloc _) (by first | (simp; done) | (simp; omega))) ?_
                  rintro v6 w6 ⟨hown6, hbel6, hgr6⟩
                  have hB6 : Below V.heap.size V w6 := Below.low (by (repeat (first | (with_reducible exact Below.refl _ _) | (with_reducible assumption) | (with_reducible refine Below.drew ?_) | (with_reducible refine Below.allocS ?_ _) | (with_reducible refine Below.setCell ?_ ?_ _) | (with_reducible refine Below.step ?_ (by assumption)) | (with_reducible refine Below.drewN' ?_ _))); (try any_goals (first | (with_reducible assumption) | (simp; done) | (simp; omega) | omega))) hbel6 (by first | exact Nat.le_refl _ | omega)
                  have hs6 : V.heap.size ≤ w6.heap.size := hB6.size
                  have hs7 : V.heap.size ≤ w6.heap.size := (by have := hbel6.size; first | omega | (simp at this; omega))
                  have HO6 := Lib.hid hown6
                  obtain ⟨A6, c6, rfl, -, -⟩ := row_form hown6
                  clear hown6 hbel6
                  refine hK.out _ _ ?_ (fun hHeld => ?_)
                  · assumption
                  clear hK K
                  (try simp only [Act.put, List.setIfInBounds_toArray, List.set_cons_zero, List.set_cons_succ])
                  refine wpAnyH_ready (rs := [9]) (by kernel_rfl) (by simp) ?_
                  refine AllReadyH.cons (o := ⟨_, _, _, _, _, _⟩) rfl (fun K hK => ?_) AllReadyH.nil
                  refine step_app rfl (.tmp 86) (.tmp 91) 30 rfl _ _ rfl rfl (app_run appT _ t j HSL.out (by omega) (w6) (V.heap.size) (V.heap.size + 1) _ HO6.out (by first | assumption | (simp; done) | (simp; omega)) (five_cells (grown_cell hgr6 (by simp [go_sem]) (by simp)) (grown_cell hgr6 (by simp [go_sem]) (by simp)) (grown_cell hgr6 (by simp [go_sem]) (by simp)) (grown_cell hgr6 (by simp [go_sem]) (by simp)) (grown_cell hgr6 (by simp [go_sem]) (by simp)))) ?_
                  rintro v7 w7 ⟨hown7, hbel7⟩
                  have hB7 : Below V.heap.size V w7 := Below.low (by (repeat (first | (with_reducible exact Below.refl _ _) | (with_reducible assumption) | (with_reducible refine Below.drew ?_) | (with_reducible refine Below.allocS ?_ _) | (with_reducible refine Below.setCell ?_ ?_ _) | (with_reducible refine Below.step ?_ (by assumption)) | (with_reducible refine Below.drewN' ?_ _))); (try any_goals (first | (with_reducible assumption) | (simp; done) | (simp; omega) | omega))) hbel7 (by first | exact Nat.le_refl _ | omega)
                  obtain ⟨A7, c7, rfl, k7, m7⟩ := row_form hown7
                  have R7 := Lib.hid (RdL.of_own (enc := trE) trE_len hown7 HL3.out)
                  have K7 := Lib.hid (And.intro k7 m7)
                  clear hown7 hbel7 k7 m7
                  refine hK.out _ _ ?_ (fun hHeld => ?_)
                  · assumption
                  clear hK K
                  (try simp only [Act.put, List.setIfInBounds_toArray, List.set_cons_zero, List.set_cons_succ])
                  refine wpAnyH_ready (rs := [10]) (by kernel_rfl) (by simp) ?_
                  refine AllReadyH.cons (o := ⟨_, _, _, _, _, _⟩) rfl (fun K hK => ?_) AllReadyH.nil
                  go_simp
                  refine (HG2.out A7 c7 _ K7.out.1 K7.out.2 (Below.low hbw hB7 (by have := hbw.size; omega)) R7.out).mono ?_; rintro e w8 ⟨rfl, hb8⟩
                  (try go_wp2_with fail)
                  refine hK.out _ _ ?_ (fun hHeld => ?_)
                  · exact Below.step hB7 hb8
                  clear hK K
                  (try simp only [Act.put, List.setIfInBounds_toArray, List.set_cons_zero, List.set_cons_succ])
                  (first | (refine wpAnyH_take (i := 11) (oi := ⟨_, _, _, _, _, _⟩) (v := ?_) rfl (by kernel_rfl) (by kernel_rfl) (by kernel_rfl) (fun _ _ _ h => h) (Or.inl ⟨by rfl, ?_⟩) (by assumption) ?_; rotate_left 1; (· (intro w0 hSw; (try dsimp only at hSw); go_simp; (try with_reducible rfl)))) | (refine wpAnyH_take (i := 11) (oi := ⟨_, _, _, _, _, _⟩) (v := undef) rfl (by kernel_rfl) (by kernel_rfl) (by kernel_rfl) (fun _ _ _ h => h) (Or.inr ⟨by rfl, rfl⟩) (by assumption) ?_)); (try simp only [Act.put, List.setIfInBounds_toArray, List.set_cons_zero, List.set_cons_succ])
                  (first | (refine wpAnyH_take (i := 12) (oi := ⟨_, _, _, _, _, _⟩) (v := ?_) rfl (by kernel_rfl) (by kernel_rfl) (by kernel_rfl) (fun _ _ _ h => h) (Or.inl ⟨by rfl, ?_⟩) (by assumption) ?_; rotate_left 1; (· (intro w0 hSw; (try dsimp only at hSw); go_simp; (try with_reducible rfl)))) | (refine wpAnyH_take (i := 12) (oi := ⟨_, _, _, _, _, _⟩) (v := undef) rfl (by kernel_rfl) (by kernel_rfl) (by kernel_rfl) (fun _ _ _ h => h) (Or.inr ⟨by rfl, rfl⟩) (by assumption) ?_)); (try simp only [Act.put, List.setIfInBounds_toArray, List.set_cons_zero, List.set_cons_succ])
                  (first | (refine wpAnyH_take (i := 13) (oi := ⟨_, _, _, _, _, _⟩) (v := ?_) rfl (by kernel_rfl) (by kernel_rfl) (by kernel_rfl) (fun _ _ _ h => h) (Or.inl ⟨by rfl, ?_⟩) (by assumption) ?_; rotate_left 1; (· (intro w0 hSw; (try dsimp only at hSw); go_simp; (try with_reducible rfl)))) | (refine wpAnyH_take (i := 13) (oi := ⟨_, _, _, _, _, _⟩) (v := undef) rfl (by kernel_rfl) (by kernel_rfl) (by kernel_rfl) (fun _ _ _ h => h) (Or.inr ⟨by rfl, rfl⟩) (by assumption) ?_)); (try simp only [Act.put, List.setIfInBounds_toArray, List.set_cons_zero, List.set_cons_succ])
                  (first | (refine wpAnyH_take (i := 14) (oi := ⟨_, _, _, _, _, _⟩) (v := ?_) rfl (by kernel_rfl) (by kernel_rfl) (by kernel_rfl) (fun _ _ _ h => h) (Or.inl ⟨by rfl, ?_⟩) (by assumption) ?_; rotate_left 1; (· (intro w0 hSw; (try dsimp only at hSw); go_simp; (try with_reducible rfl)))) | (refine wpAnyH_take (i := 14) (oi := ⟨_, _, _, _, _, _⟩) (v := undef) rfl (by kernel_rfl) (by kernel_rfl) (by kernel_rfl) (fun _ _ _ h => h) (Or.inr ⟨by rfl, rfl⟩) (by assumption) ?_)); (try simp only [Act.put, List.setIfInBounds_toArray, List.set_cons_zero, List.set_cons_succ])
                  (first | (refine wpAnyH_take (i := 15) (oi := ⟨_, _, _, _, _, _⟩) (v := ?_) rfl (by kernel_rfl) (by kernel_rfl) (by kernel_rfl) (fun _ _ _ h => h) (Or.inl ⟨by rfl, ?_⟩) (by assumption) ?_; rotate_left 1; (· (intro w0 hSw; (try dsimp only at hSw); go_simp; (try with_reducible rfl)))) | (refine wpAnyH_take (i := 15) (oi := ⟨_, _, _, _, _, _⟩) (v := undef) rfl (by kernel_rfl) (by kernel_rfl) (by kernel_rfl) (fun _ _ _ h => h) (Or.inr ⟨by rfl, rfl⟩) (by assumption) ?_)); (try simp only [Act.put, List.setIfInBounds_toArray, List.set_cons_zero, List.set_cons_succ])
                  refine wpAnyH_done (by kernel_rfl) ?_ _
                  go_wp2_with fail
                  go_meet
                  exact ⟨rfl, rfl, Below.step hB7 hb8⟩
              · go_simp
                refine hK.out _ _ ?_ (fun hHeld => ?_)
                · (repeat (first | (with_reducible exact Below.refl _ _) | (with_reducible assumption) | (with_reducible refine Below.drew ?_) | (with_reducible refine Below.allocS ?_ _) | (with_reducible refine Below.setCell ?_ ?_ _) | (with_reducible refine Below.step ?_ (by assumption)) | (with_reducible refine Below.drewN' ?_ _))); (try any_goals (first | (with_reducible assumption) | (simp; done) | (simp; omega) | omega))
                clear hK K
                (try simp only [Act.put, List.setIfInBounds_toArray, List.set_cons_zero, List.set_cons_succ])
                refine wpAnyH_ready (rs := [1]) (by kernel_rfl) (by simp) ?_
                refine AllReadyH.cons (o := ⟨_, _, _, _, _, _⟩) rfl (fun K hK => ?_) AllReadyH.nil
                go_simp
                refine hK.out _ _ ?_ (fun hHeld => ?_)
                · (repeat (first | (with_reducible exact Below.refl _ _) | (with_reducible assumption) | (with_reducible refine Below.drew ?_) | (with_reducible refine Below.allocS ?_ _) | (with_reducible refine Below.setCell ?_ ?_ _) | (with_reducible refine Below.step ?_ (by assumption)) | (with_reducible refine Below.drewN' ?_ _))); (try any_goals (first | (with_reducible assumption) | (simp; done) | (simp; omega) | omega))
                clear hK K
                (try simp only [Act.put, List.setIfInBounds_toArray, List.set_cons_zero, List.set_cons_succ])
                refine wpAnyH_ready (rs := [3]) (by kernel_rfl) (by simp) ?_
                refine AllReadyH.cons (o := ⟨_, _, _, _, _, _⟩) rfl (fun K hK => ?_) AllReadyH.nil
                refine step_app rfl (.tmp 84) (.tmp 85) 30 rfl _ _ rfl rfl (HA1.out _ (V.heap.size + 1) (by (repeat (first | (with_reducible exact Below.refl _ _) | (with_reducible assumption) | (with_reducible refine Below.drew ?_) | (with_reducible refine Below.allocS ?_ _) | (with_reducible refine Below.setCell ?_ ?_ _) | (with_reducible refine Below.step ?_ (by assumption)) | (with_reducible refine Below.drewN' ?_ _))); (try any_goals (first | (with_reducible assumption) | (simp; done) | (simp; omega) | omega))) (empty_row' _ _ _ _ (by simp)) (by first | (simp; done) | (simp; omega))) ?_
                rintro v6 w6 ⟨hown6, hbel6, hgr6⟩
                have hB6 : Below V.heap.size V w6 := Below.low (by (repeat (first | (with_reducible exact Below.refl _ _) | (with_reducible assumption) | (with_reducible refine Below.drew ?_) | (with_reducible refine Below.allocS ?_ _) | (with_reducible refine Below.setCell ?_ ?_ _) | (with_reducible refine Below.step ?_ (by assumption)) | (with_reducible refine Below.drewN' ?_ _))); (try any_goals (first | (with_reducible assumption) | (simp; done) | (simp; omega) | omega))) hbel6 (by first | exact Nat.le_refl _ | omega)
                have hs6 : V.heap.size ≤ w6.heap.size := hB6.size
                have hs7 : V.heap.size + 1 ≤ w6.heap.size := (by have := hbel6.size; first | omega | (simp at this; omega))
                have HO6 := Lib.hid hown6
                obtain ⟨A6, c6, rfl, -, -⟩ := row_form hown6
                clear hown6 hbel6
                refine hK.out _ _ ?_ (fun hHeld => ?_)
                · assumption
                clear hK K
                (try simp only [Act.put, List.setIfInBounds_toArray, List.set_cons_zero, List.set_cons_succ])
                refine wpAnyH_ready (rs := [9]) (by kernel_rfl) (by simp) ?_
                refine AllReadyH.cons (o := ⟨_, _, _, _, _, _⟩) rfl (fun K hK => ?_) AllReadyH.nil
                refine step_app rfl (.tmp 86) (.tmp 91) 30 rfl _ _ rfl rfl (app_run appT _ t j HSL.out (by omega) (w6) (V.heap.size + 1) (V.heap.size) _ HO6.out (by first | assumption | (simp; done) | (simp; omega)) (five_cells (grown_cell hgr6 (by simp [go_sem]) (by simp)) (grown_cell hgr6 (by simp [go_sem]) (by simp)) (grown_cell hgr6 (by simp [go_sem]) (by simp)) (grown_cell hgr6 (by simp [go_sem]) (by simp)) (grown_cell hgr6 (by simp [go_sem]) (by simp)))) ?_
                rintro v7 w7 ⟨hown7, hbel7⟩
                have hB7 : Below V.heap.size V w7 := Below.low (by (repeat (first | (with_reducible exact Below.refl _ _) | (with_reducible assumption) | (with_reducible refine Below.drew ?_) | (with_reducible refine Below.allocS ?_ _) | (with_reducible refine Below.setCell ?_ ?_ _) | (with_reducible refine Below.step ?_ (by assumption)) | (with_reducible refine Below.drewN' ?_ _))); (try any_goals (first | (with_reducible assumption) | (simp; done) | (simp; omega) | omega))) hbel7 (by first | exact Nat.le_refl _ | omega)
                obtain ⟨A7, c7, rfl, k7, m7⟩ := row_form hown7
                have R7 := Lib.hid (RdL.of_own (enc := trE) trE_len hown7 HL3.out)
                have K7 := Lib.hid (And.intro k7 m7)
                clear hown7 hbel7 k7 m7
                refine hK.out _ _ ?_ (fun hHeld => ?_)
                · assumption
                clear hK K
                (try simp only [Act.put, List.setIfInBounds_toArray, List.set_cons_zero, List.set_cons_succ])
                refine wpAnyH_ready (rs := [10]) (by kernel_rfl) (by simp) ?_
                refine AllReadyH.cons (o := ⟨_, _, _, _, _, _⟩) rfl (fun K hK => ?_) AllReadyH.nil
                go_simp
                refine (HG2.out A7 c7 _ K7.out.1 K7.out.2 (Below.low hbw hB7 (by have := hbw.size; omega)) R7.out).mono ?_; rintro e w8 ⟨rfl, hb8⟩
                (try go_wp2_with fail)
                refine hK.out _ _ ?_ (fun hHeld => ?_)
                · exact Below.step hB7 hb8
                clear hK K
                (try simp only [Act.put, List.setIfInBounds_toArray, List.set_cons_zero, List.set_cons_succ])
                (first | (refine wpAnyH_take (i := 11) (oi := ⟨_, _, _, _, _, _⟩) (v := ?_) rfl (by kernel_rfl) (by kernel_rfl) (by kernel_rfl) (fun _ _ _ h => h) (Or.inl ⟨by rfl, ?_⟩) (by assumption) ?_; rotate_left 1; (· (intro w0 hSw; (try dsimp only at hSw); go_simp; (try with_reducible rfl)))) | (refine wpAnyH_take (i := 11) (oi := ⟨_, _, _, _, _, _⟩) (v := undef) rfl (by kernel_rfl) (by kernel_rfl) (by kernel_rfl) (fun _ _ _ h => h) (Or.inr ⟨by rfl, rfl⟩) (by assumption) ?_)); (try simp only [Act.put, List.setIfInBounds_toArray, List.set_cons_zero, List.set_cons_succ])
                (first | (refine wpAnyH_take (i := 12) (oi := ⟨_, _, _, _, _, _⟩) (v := ?_) rfl (by kernel_rfl) (by kernel_rfl) (by kernel_rfl) (fun _ _ _ h => h) (Or.inl ⟨by rfl, ?_⟩) (by assumption) ?_; rotate_left 1; (· (intro w0 hSw; (try dsimp only at hSw); go_simp; (try with_reducible rfl)))) | (refine wpAnyH_take (i := 12) (oi := ⟨_, _, _, _, _, _⟩) (v := undef) rfl (by kernel_rfl) (by kernel_rfl) (by kernel_rfl) (fun _ _ _ h => h) (Or.inr ⟨by rfl, rfl⟩) (by assumption) ?_)); (try simp only [Act.put, List.setIfInBounds_toArray, List.set_cons_zero, List.set_cons_succ])
                (first | (refine wpAnyH_take (i := 13) (oi := ⟨_, _, _, _, _, _⟩) (v := ?_) rfl (by kernel_rfl) (by kernel_rfl) (by kernel_rfl) (fun _ _ _ h => h) (Or.inl ⟨by rfl, ?_⟩) (by assumption) ?_; rotate_left 1; (· (intro w0 hSw; (try dsimp only at hSw); go_simp; (try with_reducible rfl)))) | (refine wpAnyH_take (i := 13) (oi := ⟨_, _, _, _, _, _⟩) (v := undef) rfl (by kernel_rfl) (by kernel_rfl) (by kernel_rfl) (fun _ _ _ h => h) (Or.inr ⟨by rfl, rfl⟩) (by assumption) ?_)); (try simp only [Act.put, List.setIfInBounds_toArray, List.set_cons_zero, List.set_cons_succ])
                (first | (refine wpAnyH_take (i := 14) (oi := ⟨_, _, _, _, _, _⟩) (v := ?_) rfl (by kernel_rfl) (by kernel_rfl) (by kernel_rfl) (fun _ _ _ h => h) (Or.inl ⟨by rfl, ?_⟩) (by assumption) ?_; rotate_left 1; (· (intro w0 hSw; (try dsimp only at hSw); go_simp; (try with_reducible rfl)))) | (refine wpAnyH_take (i := 14) (oi := ⟨_, _, _, _, _, _⟩) (v := undef) rfl (by kernel_rfl) (by kernel_rfl) (by kernel_rfl) (fun _ _ _ h => h) (Or.inr ⟨by rfl, rfl⟩) (by assumption) ?_)); (try simp only [Act.put, List.setIfInBounds_toArray, List.set_cons_zero, List.set_cons_succ])
                (first | (refine wpAnyH_take (i := 15) (oi := ⟨_, _, _, _, _, _⟩) (v := ?_) rfl (by kernel_rfl) (by kernel_rfl) (by kernel_rfl) (fun _ _ _ h => h) (Or.inl ⟨by rfl, ?_⟩) (by assumption) ?_; rotate_left 1; (· (intro w0 hSw; (try dsimp only at hSw); go_simp; (try with_reducible rfl)))) | (refine wpAnyH_take (i := 15) (oi := ⟨_, _, _, _, _, _⟩) (v := undef) rfl (by kernel_rfl) (by kernel_rfl) (by kernel_rfl) (fun _ _ _ h => h) (Or.inr ⟨by rfl, rfl⟩) (by assumption) ?_)); (try simp only [Act.put, List.setIfInBounds_toArray, List.set_cons_zero, List.set_cons_succ])
                refine wpAnyH_done (by kernel_rfl) ?_ _
                go_wp2_with fail
                go_meet
                exact ⟨rfl, rfl, Below.step hB7 hb8⟩
            case rest =>
              rename World => V2
              obtain ⟨rfl, rfl, hbc⟩ := hcut
              have hbz : Below w4.heap.size w4 V2 := Below.step hbV hbc
              go_wp2
              go_roundw
              case rel => exact ⟨k + 1, HKN.out, by go_num, hbz⟩
              case measure => have := HKN.out; simp [intOf]; omega
          · go_wp2
            go_roundw
            case rel => exact ⟨k + 1, HKN.out, by go_num, hbV⟩
            case measure => have := HKN.out; simp [intOf]; omega
    · obtain rfl : k = l.length := by omega
      have u1 : decide ((l.length : Int) < (l.length : Int)) = false := decide_eq_false (by omega)
      go_wp2_with fail
      refine (HTi.out _ hbw).mono ?_
      rintro e w5 ⟨⟨m, h1, h2, h3, h4, rfl⟩ | rfl, hb5⟩
      case inr =>
        have hb6 : Below w.heap.size w w5 := Below.low hbw hb5 (by have := hbw.size; omega)
        go_wp2_with fail
        refine (awake_c _).mono ?_
        rintro e w6 ⟨rfl, hb7⟩
        go_wp2
        go_ret
        exact ⟨rfl, Below.low hb6 hb7 (by have := hb6.size; omega)⟩
      have hb6 : Below w.heap.size w w5 := Below.low hbw hb5 (by have := hbw.size; omega)
      have H3 := Lib.hid h3
      have H4 := Lib.hid h4
      clear h3 h4
      have y5 : w.heap.size < w5.heap.size := cell?_lt (keep_cell hb5 cv0)
      by_cases hbig : 10000 < m
      · have z1 : decide (m > 10000) = true := decide_eq_true hbig
        have z2 : decide (10000 < m) = true := decide_eq_true hbig
        go_wp2_with fail
        refine (awake_c _).mono ?_
        rintro e w6 ⟨rfl, hb7⟩
        go_wp2
        go_ret
        exact ⟨rfl, Below.low hb6 hb7 (by have := hb6.size; omega)⟩
      have z1 : decide (m > 10000) = false := decide_eq_false hbig
      have z2 : decide (10000 < m) = false := decide_eq_false hbig
      have cw0 : w5.cell? ⟨w.heap.size, 0, none⟩ = some (.slice (some ⟨bx, ox, none⟩) x.xs.length x.ca) := by rw [← HXA.out]; exact keep_cell hb5 cv0
      have RX : Hid (RdL w5 w5.heap.size inE 1 (some ⟨bx, ox, none⟩) x.xs) := Lib.hid (by rw [← HXA.out]; exact HXR.out.step hb6)
      have HAI : Hid (∀ (W : World) (g : Nat), Below w5.heap.size w5 W → W.ownsRow g 3 1 (.slice (some ⟨g, 0, none⟩) 0 0) 0 [] → g ≤ W.heap.size → ∃ v' w', (Builtin.append_ #[22, 22] 22 #[.slice (some ⟨g, 0, none⟩) 0 0, .slice (some ⟨bx, ox, none⟩) x.xs.length x.ca]).run Try.prog W = .ok v' w' ∧ (w'.ownsRow g 3 1 v' x.xs.length (x.xs.flatMap inE) ∧ Below g W w')) :=
        Lib.hid (fun W g hb hrow hg => app1I x.xs _ rfl (by omega) ⟨bx, ox, none⟩ x.ca W g hrow hg (RdL.olds (enc := inE) (l := x.xs) (sz := 1) (fun _ => rfl) (by decide) RX.out hb _ rfl))
      clear cv0 cv1 cu0 cu1
      go_wp2_with (at_builtin; refine wpList_app rfl (.tmp 123) (.tmp 125) 22 rfl _ _ rfl rfl (HAI.out _ w5.heap.size (by (repeat (first | (with_reducible exact Below.refl _ _) | (with_reducible assumption) | (with_reducible refine Below.drew ?_) | (with_reducible refine Below.allocS ?_ _) | (with_reducible refine Below.setCell ?_ ?_ _) | (with_reducible refine Below.step ?_ (by assumption)) | (with_reducible refine Below.drewN' ?_ _))); (try any_goals (first | (with_reducible assumption) | (simp; done) | (simp; omega) | omega))) (empty_row _ _ _) (by simp)) ?_; rintro v6 w6 ⟨hown6, hbel6⟩; obtain ⟨A6, c6, rfl, k6, m6⟩ := row_form hown6; have R6 := Lib.hid (RdL.of_own (enc := inE) (l := x.xs) (fun _ => rfl) hown6 rfl); have K6 := Lib.hid (And.intro k6 m6); have hB6 : Below w5.heap.size w5 w6 := Below.low (by (repeat (first | (with_reducible exact Below.refl _ _) | (with_reducible assumption) | (with_reducible refine Below.drew ?_) | (with_reducible refine Below.allocS ?_ _) | (with_reducible refine Below.setCell ?_ ?_ _) | (with_reducible refine Below.step ?_ (by assumption)) | (with_reducible refine Below.drewN' ?_ _))); (try any_goals (first | (with_reducible assumption) | (simp; done) | (simp; omega) | omega))) hbel6 (Nat.le_refl _); clear hown6 hbel6 k6 m6)
      have hb6' : Below w.heap.size w w6 := Below.low hb6 hB6 (by have := hb6.size; omega)
      have HY1 : Hid (∀ W, Below w6.heap.size w6 W → Calls Try.prog 29 #[.agg #[.slice A6 x.xs.length c6, .int .i64 m], .slice A l.length cap] W fun e w' => e = .returned (.tuple #[.bool true, .int .i64 0]) ∧ Below W.heap.size W w') := by
        refine Lib.hid fun W hb => ?_
        have := HY.out m A6 c6 W ⟨h1, by omega⟩ K6.out.1 K6.out.2 (Below.low hb6' hb (by have := hb6'.size; omega)) (R6.out.step hb)
        rw [H3.out] at this
        exact this
      refine (HY1.out _ (by (repeat (first | (with_reducible exact Below.refl _ _) | (with_reducible assumption) | (with_reducible refine Below.drew ?_) | (with_reducible refine Below.allocS ?_ _) | (with_reducible refine Below.setCell ?_ ?_ _) | (with_reducible refine Below.step ?_ (by assumption)) | (with_reducible refine Below.drewN' ?_ _))); (try any_goals (first | (with_reducible assumption) | (simp; done) | (simp; omega) | omega)))).mono ?_
      rintro e w7 ⟨rfl, hb7⟩
      have e0 : w7.cell? ⟨w6.heap.size, 0, none⟩ = some (.slice A6 x.xs.length c6) := keep_cell hb7 (by simp [go_sem])
      have e1 : w7.cell? ⟨w6.heap.size, 1, none⟩ = some (.int .i64 m) := keep_cell hb7 (by simp [go_sem])
      have e2 : w7.frozen? ⟨w6.heap.size, 1, none⟩ = false := low_frozen hb7 (by simp) (by simp [go_sem])
      have y7 : w6.heap.size < w7.heap.size := cell?_lt e0
      have hb8 : Below w6.heap.size w6 w7 := Below.low (by (repeat (first | (with_reducible exact Below.refl _ _) | (with_reducible assumption) | (with_reducible refine Below.drew ?_) | (with_reducible refine Below.allocS ?_ _) | (with_reducible refine Below.setCell ?_ ?_ _) | (with_reducible refine Below.step ?_ (by assumption)) | (with_reducible refine Below.drewN' ?_ _))); (try any_goals (first | (with_reducible assumption) | (simp; done) | (simp; omega) | omega))) hb7 (by simp)
      have hb9 : Below w.heap.size w w7 := Below.low hb6' hb8 (by have := hb6'.size; omega)
      clear hb7
      by_cases hm0 : m = 0
      · subst hm0
        go_wp2_with fail
        refine (awake_c _).mono ?_
        rintro e w8 ⟨rfl, hb7⟩
        go_wp2
        go_ret
        exact ⟨rfl, Below.low hb9 hb7 (by have := hb9.size; omega)⟩
      have o1 : (m == 0) = false := by simp [hm0]
      have o2 : decide (m = 0) = false := decide_eq_false hm0
      have o3 : IntKind.i64.wrap (m - 1) = m - 1 := IntWalk.i64_in _ (by omega)
      have HY2 : Hid (∀ W, Below w6.heap.size w6 W → Calls Try.prog 29 #[.agg #[.slice A6 x.xs.length c6, .int .i64 (m - 1)], .slice A l.length cap] W fun e w' => e = .returned (.tuple #[.bool false, .int .i64 0]) ∧ Below W.heap.size W w') := by
        refine Lib.hid fun W hb => ?_
        have := HY.out (m - 1) A6 c6 W ⟨by omega, by omega⟩ K6.out.1 K6.out.2 (Below.low hb6' hb (by have := hb6'.size; omega)) (R6.out.step hb)
        rw [H4.out (m - 1) (by omega) (by omega)] at this
        exact this
      have HM0 := Lib.hid hm0
      clear hm0
      go_wp2_with fail
      have hb10 : Below w6.heap.size w6 (w7.setCell ⟨w6.heap.size, 1, none⟩ (.int .i64 (m - 1))) := Below.setCell hb8 (Nat.le_refl _) _
      have hb11 : Below w.heap.size w (w7.setCell ⟨w6.heap.size, 1, none⟩ (.int .i64 (m - 1))) := Below.low hb6' hb10 (by have := hb6'.size; omega)
      refine (HY2.out _ hb10).mono ?_
      rintro e w8 ⟨rfl, hb12⟩
      have hb13 : Below w.heap.size w w8 := Below.low hb11 hb12 (by have := hb11.size; omega)
      go_wp2_with fail
      refine (awake_c _).mono ?_
      rintro e w9 ⟨rfl, hb14⟩
      go_wp2
      go_ret
      exact ⟨rfl, Below.low hb13 hb14 (by have := hb13.size; omega)⟩
end Go.Proofs.Ytbcabckokmjelaa
