/-
  TransitThree: the walk.
-/
import Derived.Test.YtbcabckokmjelaaK9
namespace Go.Proofs.Ytbcabckokmjelaa
open Go.RowKit Go.Deep
set_option linter.unusedVariables false
set_option linter.unusedSimpArgs false
/-- What the least transits that do not agree are. -/
structure LsP (x : Tb) (l : List Tr) (r : List Nat) : Prop where
  n : ∀ i ∈ r, i < l.length
  two : 2 ≤ r.length
  three : r.length ≤ 3
  dis : agE x (selL l tr0 r) = false
  st : stErr x (selL l tr0 r) = 0
  less : ∀ i, i < r.length → agE x ((selL l tr0 r).take i ++ (selL l tr0 r).drop (i + 1)) = true ∧ stErr x ((selL l tr0 r).take i ++ (selL l tr0 r).drop (i + 1)) = 0
theorem lsP_of {x : Tb} {l : List Tr} {k : Nat} {r : List Nat} (h0 : stErr x l = 0) (h : agB (azR (wdL x l)) = false) (hk : ∀ j, j < k → lsK notAg (wdL x l) l.length j = none) (hr : lsK notAg (wdL x l) l.length k = some r) : LsP x l r := by
  obtain ⟨-, h2, h3, h4, h5, h6, h7⟩ := ls_three (wdL_len x l) (wd_lohi h0) h hk hr
  have hst : stErr x (selL l tr0 r) = 0 := st_sub h0 (sel_in h3) (by rw [sel_len]; omega) (by rw [sel_len]; omega)
  refine ⟨h3, h4, h5, ?_, hst, fun i hi => ?_⟩
  · unfold agE; rw [hst, wdL_sel h3, h6]; rfl
  · have e : (selL l tr0 r).take i ++ (selL l tr0 r).drop (i + 1) = selL l tr0 (r.take i ++ r.drop (i + 1)) := by
      unfold selL; rw [List.map_append, List.map_take, List.map_drop]
    have hsub : ∀ j ∈ r.take i ++ r.drop (i + 1), j ∈ r := fun j hj => by
      rcases List.mem_append.1 hj with h | h
      · exact List.mem_of_mem_take h
      · exact List.mem_of_mem_drop h
    have hl : (r.take i ++ r.drop (i + 1)).length = r.length - 1 := by rw [List.length_append, List.length_take, List.length_drop]; omega
    rw [e]
    have hs : stErr x (selL l tr0 (r.take i ++ r.drop (i + 1))) = 0 := st_sub h0 (sel_in fun j hj => h3 j (hsub j hj)) (by rw [sel_len]; omega) (by rw [sel_len]; omega)
    refine ⟨?_, hs⟩
    unfold agE
    rw [hs, wdL_sel fun j hj => h3 j (hsub j hj), h7 i hi]; rfl
set_option maxHeartbeats 2000000 in
set_option maxRecDepth 100000 in
theorem TransitThree_walk (w : World) (x : Tb) (A : Option Addr) (cap : Nat) (l : List Tr) (hx : TbAt w x) (hl : l.length ≤ cap) (hm : cap ≤ maxLen) (hr : RdL w w.heap.size trE 5 A l) (ht : ∀ t ∈ l, TrAt w t) :
    Calls Try.prog 5 #[.agg #[.slice x.A x.xs.length x.ca, .int .i64 x.e], .slice A l.length cap] w fun e w' => e = .returned (.bool true) ∧ Below w.heap.size w w' := by
  have HW := Lib.hid (fun W (hb : Below w.heap.size w W) => wide_c x l A cap W (hx.step hb) hl hm (hr.step hb))
  have H1 := Lib.hid (fun W (hb : Below w.heap.size w W) => Agree_c x l A cap W (hx.step hb) hl hm (hr.step hb) (fun t h => (ht t h).step hb))
  have H2 := Lib.hid (fun W (hb : Below w.heap.size w W) => Least_c x l A cap W (hx.step hb) hl hm (hr.step hb) (fun t h => (ht t h).step hb))
  by_cases h0 : stErr x l = 0
  case neg =>
    have hne : decide (stErr x l = 0) = false := decide_eq_false h0
    have hc := stErr_cases x l
    clear hx hl hm hr ht H2
    generalize agE x l = vA at *
    generalize stErr x l = vE at *
    rcases hc with rfl | rfl | rfl
    · exact absurd rfl h0
    all_goals
      clear h0 hne
      go_enter Try.func5, Try.ntmps5
      go_wp2_with fail
      refine (HW.out _ (by (repeat (first | exact Below.refl _ _ | refine Below.drew ?_ | refine Below.allocS ?_ _ | refine Below.step ?_ (by assumption) | refine Below.setCell ?_ (by simp <;> omega) _ | refine Below.drewN' ?_ _)))).mono ?_
      rintro e w1 ⟨⟨X, rfl, -⟩, hb1⟩
      have x1_0_0 : w1.cell? ⟨w.heap.size, 0, none⟩ = some (.slice x.A x.xs.length x.ca) := keep_cell hb1 (by simp [go_sem, *])
      have x1_0_1 : w1.cell? ⟨w.heap.size, 1, none⟩ = some (.int .i64 x.e) := keep_cell hb1 (by simp [go_sem, *])
      have y1_0 : w.heap.size < w1.heap.size := cell?_lt x1_0_0
      have g1 : Below w.heap.size w w1 := by (repeat (first | exact Below.refl _ _ | refine Below.drew ?_ | refine Below.allocS ?_ _ | refine Below.step ?_ (by assumption) | refine Below.setCell ?_ (by simp <;> omega) _ | refine Below.drewN' ?_ _))
      clear hb1
      cases X
      case true =>
        go_wp2_with fail
        refine (awake_c _).mono ?_
        rintro e w2 ⟨rfl, hb2⟩
        go_wp2
        go_ret
        exact ⟨rfl, by (repeat (first | exact Below.refl _ _ | refine Below.drew ?_ | refine Below.allocS ?_ _ | refine Below.step ?_ (by assumption) | refine Below.setCell ?_ (by simp <;> omega) _ | refine Below.drewN' ?_ _))⟩
      go_wp2_with fail
      refine (H1.out _ (by (repeat (first | exact Below.refl _ _ | refine Below.drew ?_ | refine Below.allocS ?_ _ | refine Below.step ?_ (by assumption) | refine Below.setCell ?_ (by simp <;> omega) _ | refine Below.drewN' ?_ _)))).mono ?_
      rintro e w2 ⟨rfl, hb2⟩
      have x2_0_0 : w2.cell? ⟨w.heap.size, 0, none⟩ = some (.slice x.A x.xs.length x.ca) := keep_cell hb2 (by simp [go_sem, *])
      have x2_0_1 : w2.cell? ⟨w.heap.size, 1, none⟩ = some (.int .i64 x.e) := keep_cell hb2 (by simp [go_sem, *])
      have y2_0 : w.heap.size < w2.heap.size := cell?_lt x2_0_0
      have g2 : Below w.heap.size w w2 := by (repeat (first | exact Below.refl _ _ | refine Below.drew ?_ | refine Below.allocS ?_ _ | refine Below.step ?_ (by assumption) | refine Below.setCell ?_ (by simp <;> omega) _ | refine Below.drewN' ?_ _))
      clear hb2 g1 x1_0_0 x1_0_1 y1_0
      go_wp2_with fail
      refine (awake_c _).mono ?_
      rintro e w3 ⟨rfl, hb3⟩
      go_wp2
      go_ret
      exact ⟨rfl, by (repeat (first | exact Below.refl _ _ | refine Below.drew ?_ | refine Below.allocS ?_ _ | refine Below.step ?_ (by assumption) | refine Below.setCell ?_ (by simp <;> omega) _ | refine Below.drewN' ?_ _))⟩
  cases hag : agB (azR (wdL x l))
  case true =>
    have HL : Hid (∀ W, Below w.heap.size w W → Calls Try.prog 30 #[.agg #[.slice x.A x.xs.length x.ca, .int .i64 x.e], .slice A l.length cap] W fun e w' => e = .returned (.tuple #[.slice none 0 0, .int .i64 8]) ∧ Below W.heap.size W w') :=
      Lib.hid (fun W hb => (H2.out W hb).mono (by
        rintro e w' ⟨⟨-, ⟨k, r, A, c, -, -, h3, -⟩ | ⟨-, h3⟩⟩ | h, hb'⟩
        · rw [ls_ok (wdL_len x l) hag] at h3; cases h3
        · exact ⟨h3, hb'⟩
        · exact absurd h0 h.1))
    have HA : agE x l = true := by unfold agE; rw [h0, hag]; rfl
    rw [HA, h0] at H1
    clear hx hl hm hr ht H2 h0 hag HA
    go_enter Try.func5, Try.ntmps5
    go_wp2_with fail
    refine (HW.out _ (by (repeat (first | exact Below.refl _ _ | refine Below.drew ?_ | refine Below.allocS ?_ _ | refine Below.step ?_ (by assumption) | refine Below.setCell ?_ (by simp <;> omega) _ | refine Below.drewN' ?_ _)))).mono ?_
    rintro e w1 ⟨⟨X, rfl, -⟩, hb1⟩
    have x1_0_0 : w1.cell? ⟨w.heap.size, 0, none⟩ = some (.slice x.A x.xs.length x.ca) := keep_cell hb1 (by simp [go_sem, *])
    have x1_0_1 : w1.cell? ⟨w.heap.size, 1, none⟩ = some (.int .i64 x.e) := keep_cell hb1 (by simp [go_sem, *])
    have y1_0 : w.heap.size < w1.heap.size := cell?_lt x1_0_0
    have g1 : Below w.heap.size w w1 := by (repeat (first | exact Below.refl _ _ | refine Below.drew ?_ | refine Below.allocS ?_ _ | refine Below.step ?_ (by assumption) | refine Below.setCell ?_ (by simp <;> omega) _ | refine Below.drewN' ?_ _))
    clear hb1
    cases X
    case true =>
      go_wp2_with fail
      refine (awake_c _).mono ?_
      rintro e w2 ⟨rfl, hb2⟩
      go_wp2
      go_ret
      exact ⟨rfl, by (repeat (first | exact Below.refl _ _ | refine Below.drew ?_ | refine Below.allocS ?_ _ | refine Below.step ?_ (by assumption) | refine Below.setCell ?_ (by simp <;> omega) _ | refine Below.drewN' ?_ _))⟩
    go_wp2_with fail
    refine (H1.out _ (by (repeat (first | exact Below.refl _ _ | refine Below.drew ?_ | refine Below.allocS ?_ _ | refine Below.step ?_ (by assumption) | refine Below.setCell ?_ (by simp <;> omega) _ | refine Below.drewN' ?_ _)))).mono ?_
    rintro e w2 ⟨rfl, hb2⟩
    have x2_0_0 : w2.cell? ⟨w.heap.size, 0, none⟩ = some (.slice x.A x.xs.length x.ca) := keep_cell hb2 (by simp [go_sem, *])
    have x2_0_1 : w2.cell? ⟨w.heap.size, 1, none⟩ = some (.int .i64 x.e) := keep_cell hb2 (by simp [go_sem, *])
    have y2_0 : w.heap.size < w2.heap.size := cell?_lt x2_0_0
    have g2 : Below w.heap.size w w2 := by (repeat (first | exact Below.refl _ _ | refine Below.drew ?_ | refine Below.allocS ?_ _ | refine Below.step ?_ (by assumption) | refine Below.setCell ?_ (by simp <;> omega) _ | refine Below.drewN' ?_ _))
    clear hb2 g1 x1_0_0 x1_0_1 y1_0
    go_wp2_with fail
    refine (HL.out _ (by (repeat (first | exact Below.refl _ _ | refine Below.drew ?_ | refine Below.allocS ?_ _ | refine Below.step ?_ (by assumption) | refine Below.setCell ?_ (by simp <;> omega) _ | refine Below.drewN' ?_ _)))).mono ?_
    rintro e w3 ⟨rfl, hb3⟩
    have x3_0_0 : w3.cell? ⟨w.heap.size, 0, none⟩ = some (.slice x.A x.xs.length x.ca) := keep_cell hb3 (by simp [go_sem, *])
    have x3_0_1 : w3.cell? ⟨w.heap.size, 1, none⟩ = some (.int .i64 x.e) := keep_cell hb3 (by simp [go_sem, *])
    have y3_0 : w.heap.size < w3.heap.size := cell?_lt x3_0_0
    have g3 : Below w.heap.size w w3 := by (repeat (first | exact Below.refl _ _ | refine Below.drew ?_ | refine Below.allocS ?_ _ | refine Below.step ?_ (by assumption) | refine Below.setCell ?_ (by simp <;> omega) _ | refine Below.drewN' ?_ _))
    clear hb3 g2 x2_0_0 x2_0_1 y2_0
    go_wp2_with fail
    refine (awake_c _).mono ?_
    rintro e w4 ⟨rfl, hb4⟩
    go_wp2
    go_ret
    exact ⟨rfl, by (repeat (first | exact Below.refl _ _ | refine Below.drew ?_ | refine Below.allocS ?_ _ | refine Below.step ?_ (by assumption) | refine Below.setCell ?_ (by simp <;> omega) _ | refine Below.drewN' ?_ _))⟩
  have HL : Hid (∀ W, Below w.heap.size w W → Calls Try.prog 30 #[.agg #[.slice x.A x.xs.length x.ca, .int .i64 x.e], .slice A l.length cap] W fun e w' => (∃ r B c, LsP x l r ∧ e = .returned (.tuple #[.slice B r.length c, .int .i64 0]) ∧ RdL w' w'.heap.size inE 1 B (r.map Int.ofNat)) ∧ Below W.heap.size W w') :=
    Lib.hid (fun W hb => (H2.out W hb).mono (by
      rintro e w' ⟨⟨-, ⟨k, r, B, c, -, h2, h3, h4, h5, -⟩ | ⟨h3, -⟩⟩ | h, hb'⟩
      · exact ⟨⟨r, B, c, lsP_of h0 hag h2 h3, h4, h5⟩, hb'⟩
      · exact (ls_some_ex (wdL_len x l) hag h3).elim
      · exact absurd h0 h.1))
  have HA : agE x l = false := by unfold agE; rw [h0, hag]; rfl
  rw [HA, h0] at H1
  have hn12 : l.length ≤ 12 := by have := (okAll_ok (stErr_ok h0).1).n; omega
  have HS : Hid (∀ (r : List Nat) (B : Option Addr) (cb : Nat) W, LsP x l r → Below w.heap.size w W → RdL W W.heap.size inE 1 B (r.map Int.ofNat) → Calls Try.prog 31 #[.slice A l.length cap, .slice B r.length cb] W fun e w' => (∃ A' c', e = .returned (.tuple #[.slice A' r.length c', .bool true]) ∧ RdL w' w'.heap.size trE 5 A' (selL l tr0 r) ∧ r.length ≤ c' ∧ c' ≤ maxLen ∧ (A' = none → r.length = 0 ∧ c' = 0)) ∧ Below W.heap.size W w') :=
    Lib.hid (fun r B cb W hp hb hrb => lsome_c l A cap r hp.n (by omega) (by have := hp.three; omega) B cb W (hr.step hb) hrb)
  have HG : Hid (∀ (m : List Tr) (n : Nat) (A' : Option Addr) (c' : Nat) W, (∀ t ∈ m, t ∈ l) → m.length = n → n ≤ c' → c' ≤ maxLen → Below w.heap.size w W → RdL W W.heap.size trE 5 A' m → Calls Try.prog 29 #[.agg #[.slice x.A x.xs.length x.ca, .int .i64 x.e], .slice A' n c'] W fun e w' => e = .returned (.tuple #[.bool (agE x m), .int .i64 (stErr x m)]) ∧ Below W.heap.size W w') :=
    Lib.hid (fun m n A' c' W hs hn h1 h2 hb hrm => by subst hn; exact Agree_c x m A' c' W (hx.step hb) h1 h2 hrm (fun t h => (ht t (hs t h)).step hb))
  clear hx hl hm hr ht H2 h0 hag HA hn12
  go_enter Try.func5, Try.ntmps5
  go_wp2_with fail
  refine (HW.out _ (by (repeat (first | exact Below.refl _ _ | refine Below.drew ?_ | refine Below.allocS ?_ _ | refine Below.step ?_ (by assumption) | refine Below.setCell ?_ (by simp <;> omega) _ | refine Below.drewN' ?_ _)))).mono ?_
  rintro e w1 ⟨⟨X, rfl, -⟩, hb1⟩
  have x1_0_0 : w1.cell? ⟨w.heap.size, 0, none⟩ = some (.slice x.A x.xs.length x.ca) := keep_cell hb1 (by simp [go_sem, *])
  have x1_0_1 : w1.cell? ⟨w.heap.size, 1, none⟩ = some (.int .i64 x.e) := keep_cell hb1 (by simp [go_sem, *])
  have y1_0 : w.heap.size < w1.heap.size := cell?_lt x1_0_0
  have g1 : Below w.heap.size w w1 := by (repeat (first | exact Below.refl _ _ | refine Below.drew ?_ | refine Below.allocS ?_ _ | refine Below.step ?_ (by assumption) | refine Below.setCell ?_ (by simp <;> omega) _ | refine Below.drewN' ?_ _))
  clear hb1
  cases X
  case true =>
    go_wp2_with fail
    refine (awake_c _).mono ?_
    rintro e w2 ⟨rfl, hb2⟩
    go_wp2
    go_ret
    exact ⟨rfl, by (repeat (first | exact Below.refl _ _ | refine Below.drew ?_ | refine Below.allocS ?_ _ | refine Below.step ?_ (by assumption) | refine Below.setCell ?_ (by simp <;> omega) _ | refine Below.drewN' ?_ _))⟩
  go_wp2_with fail
  refine (H1.out _ (by (repeat (first | exact Below.refl _ _ | refine Below.drew ?_ | refine Below.allocS ?_ _ | refine Below.step ?_ (by assumption) | refine Below.setCell ?_ (by simp <;> omega) _ | refine Below.drewN' ?_ _)))).mono ?_
  rintro e w2 ⟨rfl, hb2⟩
  have x2_0_0 : w2.cell? ⟨w.heap.size, 0, none⟩ = some (.slice x.A x.xs.length x.ca) := keep_cell hb2 (by simp [go_sem, *])
  have x2_0_1 : w2.cell? ⟨w.heap.size, 1, none⟩ = some (.int .i64 x.e) := keep_cell hb2 (by simp [go_sem, *])
  have y2_0 : w.heap.size < w2.heap.size := cell?_lt x2_0_0
  have g2 : Below w.heap.size w w2 := by (repeat (first | exact Below.refl _ _ | refine Below.drew ?_ | refine Below.allocS ?_ _ | refine Below.step ?_ (by assumption) | refine Below.setCell ?_ (by simp <;> omega) _ | refine Below.drewN' ?_ _))
  clear hb2 g1 x1_0_0 x1_0_1 y1_0
  go_wp2_with fail
  refine (HL.out _ (by (repeat (first | exact Below.refl _ _ | refine Below.drew ?_ | refine Below.allocS ?_ _ | refine Below.step ?_ (by assumption) | refine Below.setCell ?_ (by simp <;> omega) _ | refine Below.drewN' ?_ _)))).mono ?_
  rintro e w3 ⟨⟨r, B, cb, hp, rfl, hrb⟩, hb3⟩
  have x3_0_0 : w3.cell? ⟨w.heap.size, 0, none⟩ = some (.slice x.A x.xs.length x.ca) := keep_cell hb3 (by simp [go_sem, *])
  have x3_0_1 : w3.cell? ⟨w.heap.size, 1, none⟩ = some (.int .i64 x.e) := keep_cell hb3 (by simp [go_sem, *])
  have y3_0 : w.heap.size < w3.heap.size := cell?_lt x3_0_0
  have g3 : Below w.heap.size w w3 := by (repeat (first | exact Below.refl _ _ | refine Below.drew ?_ | refine Below.allocS ?_ _ | refine Below.step ?_ (by assumption) | refine Below.setCell ?_ (by simp <;> omega) _ | refine Below.drewN' ?_ _))
  clear hb3 g2 x2_0_0 x2_0_1 y2_0
  have HP := Lib.hid hp
  have HRB := Lib.hid hrb
  have hr2 := hp.two
  have hr3 := hp.three
  obtain ⟨rn, hrn⟩ : ∃ n, n = r.length := ⟨_, rfl⟩
  have HS1 := Lib.hid (HS.out r B cb)
  rw [← hrn] at hr2 hr3 HS1 ⊢
  have HRN := Lib.hid hrn
  have v1 : decide ((rn : Int) < 2) = false := decide_eq_false (by omega)
  have v2 : decide ((rn : Int) > 3) = false := decide_eq_false (by omega)
  have v3 : decide (3 < (rn : Int)) = false := decide_eq_false (by omega)
  clear hp hrb hrn HS
  go_wp2_with fail
  refine (HS1.out _ HP.out (by (repeat (first | exact Below.refl _ _ | refine Below.drew ?_ | refine Below.allocS ?_ _ | refine Below.step ?_ (by assumption) | refine Below.setCell ?_ (by simp <;> omega) _ | refine Below.drewN' ?_ _))) HRB.out).mono ?_
  rintro e w4 ⟨⟨A4, c4, rfl, r4, k4, m4, z4⟩, hb4⟩
  have x4_0_0 : w4.cell? ⟨w.heap.size, 0, none⟩ = some (.slice x.A x.xs.length x.ca) := keep_cell hb4 (by simp [go_sem, *])
  have x4_0_1 : w4.cell? ⟨w.heap.size, 1, none⟩ = some (.int .i64 x.e) := keep_cell hb4 (by simp [go_sem, *])
  have y4_0 : w.heap.size < w4.heap.size := cell?_lt x4_0_0
  have g4 : Below w.heap.size w w4 := by (repeat (first | exact Below.refl _ _ | refine Below.drew ?_ | refine Below.allocS ?_ _ | refine Below.step ?_ (by assumption) | refine Below.setCell ?_ (by simp <;> omega) _ | refine Below.drewN' ?_ _))
  clear hb4 g3 x3_0_0 x3_0_1 y3_0
  have R4 := Lib.hid r4
  have hsl : (selL l tr0 r).length = rn := by rw [sel_len, ← HRN.out]
  have HSL := Lib.hid hsl
  have HSUB := Lib.hid (sel_in HP.out.n : ∀ t ∈ selL l tr0 r, t ∈ l)
  have HG1 : Hid (∀ W, Below w.heap.size w W → RdL W W.heap.size trE 5 A4 (selL l tr0 r) → Calls Try.prog 29 #[.agg #[.slice x.A x.xs.length x.ca, .int .i64 x.e], .slice A4 rn c4] W fun e w' => e = .returned (.tuple #[.bool false, .int .i64 0]) ∧ RdL w' w'.heap.size trE 5 A4 (selL l tr0 r) ∧ Below W.heap.size W w') := by
    refine Lib.hid fun W hb hrm => ?_
    have := HG.out (selL l tr0 r) rn A4 c4 W HSUB.out hsl k4 m4 hb hrm
    rw [HP.out.dis, HP.out.st] at this
    exact this.mono fun e w' h => ⟨h.1, hrm.step h.2, h.2⟩
  obtain ⟨b4, off4, rfl, y4b, -⟩ := r4 (by omega)
  clear r4 z4 hsl
  go_wp2_with fail
  refine (HG1.out _ (by (repeat (first | exact Below.refl _ _ | refine Below.drew ?_ | refine Below.allocS ?_ _ | refine Below.step ?_ (by assumption) | refine Below.setCell ?_ (by simp <;> omega) _ | refine Below.drewN' ?_ _))) R4.out).mono ?_
  rintro e w5 ⟨rfl, r5, hb5⟩
  have x5_0_0 : w5.cell? ⟨w.heap.size, 0, none⟩ = some (.slice x.A x.xs.length x.ca) := keep_cell hb5 (by simp [go_sem, *])
  have x5_0_1 : w5.cell? ⟨w.heap.size, 1, none⟩ = some (.int .i64 x.e) := keep_cell hb5 (by simp [go_sem, *])
  have y5_0 : w.heap.size < w5.heap.size := cell?_lt x5_0_0
  have g5 : Below w.heap.size w w5 := by (repeat (first | exact Below.refl _ _ | refine Below.drew ?_ | refine Below.allocS ?_ _ | refine Below.step ?_ (by assumption) | refine Below.setCell ?_ (by simp <;> omega) _ | refine Below.drewN' ?_ _))
  clear hb5 g4 x4_0_0 x4_0_1 y4_0
  have R5 := Lib.hid r5
  clear r5
  have G5 := g5
  have cu0 : w5.cell? ⟨w.heap.size, 0, none⟩ = some (.slice x.A x.xs.length x.ca) := by simp [go_sem, *]
  have cu1 : w5.cell? ⟨w.heap.size, 1, none⟩ = some (.int .i64 x.e) := by simp [go_sem, *]
  go_wp2
  go_loopw [77] (fun i wr => ∃ k : Nat, k ≤ rn ∧ i = .int .i64 k ∧ Below w5.heap.size w5 wr) (fun i _ => rn - (intOf i).toNat)
  case atStart => exact ⟨0, Nat.zero_le _, rfl, Below.refl _ _⟩
  case round =>
    rename World => V
    obtain ⟨k, hk, rfl, hbV⟩ := hrel
    have RV := Lib.hid (R5.out.step hbV)
    have hbw : Below w.heap.size w V := Below.low G5 hbV (by omega)
    have cv0 : V.cell? ⟨w.heap.size, 0, none⟩ = some (.slice x.A x.xs.length x.ca) := keep_cell hbV cu0
    have cv1 : V.cell? ⟨w.heap.size, 1, none⟩ = some (.int .i64 x.e) := keep_cell hbV cu1
    by_cases hlt : k < rn
    · have u1 : decide ((k : Int) < (rn : Int)) = true := decide_eq_true (by omega)
      have u2 : IntKind.i64.wrap ((k : Int) + 1) = (k : Int) + 1 := IntWalk.i64_in _ (by omega)
      have HKN := Lib.hid hlt
      have u3 : (0 : Int) ≤ (k : Int) := by omega
      have u4 : (k : Int) ≤ (c4 : Int) := by omega
      have u5 : (0 : Int) ≤ (k : Int) + 1 := by omega
      have u6 : (k : Int) + 1 ≤ (rn : Int) := by omega
      have hsl := HSL.out
      have RT := Lib.hid (RdL.take RV.out k)
      have ⟨off', hX, rd⟩ : ∃ off', (if c4 = k + 1 then some (⟨b4, off4, none⟩ : Addr) else some ⟨b4, off4 + (k + 1) * 5, none⟩) = some ⟨b4, off', none⟩ ∧ RdL V V.heap.size trE 5 (some ⟨b4, off', none⟩) ((selL l tr0 r).drop (k + 1)) := by
        by_cases hc : c4 = k + 1
        · rw [if_pos hc]
          refine ⟨off4, rfl, ?_⟩
          rw [List.drop_of_length_le (by omega)]
          exact RdL.nil
        · rw [if_neg hc]
          exact ⟨_, rfl, RdL.drop RV.out (k + 1)⟩
      have RD := Lib.hid rd
      clear rd
      have HL1 := Lib.hid (show ((selL l tr0 r).take k).length = k by rw [List.length_take]; omega)
      have HL2 := Lib.hid (show ((selL l tr0 r).drop (k + 1)).length = rn - (k + 1) by rw [List.length_drop]; omega)
      obtain ⟨n7, hn7⟩ : ∃ n7, n7 = 0 + k + (rn - (k + 1)) := ⟨_, rfl⟩
      have HN7 := Lib.hid hn7
      clear hn7
      have HA1 : Hid (∀ W g, Below V.heap.size V W → W.ownsRow g 28 5 (.slice (some ⟨g, 0, none⟩) 0 0) 0 [] → g ≤ W.heap.size → ∃ v' w', (Builtin.append_ #[30, 30] 30 #[.slice (some ⟨g, 0, none⟩) 0 0, .slice (some ⟨b4, off4, none⟩) k c4]).run Try.prog W = .ok v' w' ∧ (w'.ownsRow g 28 5 v' (0 + k) (([] ++ (selL l tr0 r).take k).flatMap trE) ∧ Below g W w')) :=
        Lib.hid (fun W g hb hrow hg => appL [] _ 0 k rfl HL1.out (by omega) ⟨b4, off4, none⟩ c4 W g _ hrow hg (RdL.olds trE_len (by decide) RT.out hb _ rfl))
      have HA2 : Hid (∀ W g v, Below V.heap.size V W → W.ownsRow g 28 5 v (0 + k) (([] ++ (selL l tr0 r).take k).flatMap trE) → g ≤ W.heap.size → ∃ v' w', (Builtin.append_ #[30, 30] 30 #[v, .slice (some ⟨b4, off', none⟩) (rn - (k + 1)) (c4 - (k + 1))]).run Try.prog W = .ok v' w' ∧ (w'.ownsRow g 28 5 v' n7 (([] ++ (selL l tr0 r).take k ++ (selL l tr0 r).drop (k + 1)).flatMap trE) ∧ Below g W w')) :=
        Lib.hid (fun W g v hb hrow hg => by rw [HN7.out]; exact appL _ _ (0 + k) (rn - (k + 1)) (by rw [List.nil_append, HL1.out]; omega) HL2.out (by omega) ⟨b4, off', none⟩ _ W g _ hrow hg (RdL.olds trE_len (by decide) RD.out hb _ rfl))
      have HG2 : Hid (∀ A' c' W, n7 ≤ c' → c' ≤ maxLen → Below w.heap.size w W → RdL W W.heap.size trE 5 A' ([] ++ (selL l tr0 r).take k ++ (selL l tr0 r).drop (k + 1)) → Calls Try.prog 29 #[.agg #[.slice x.A x.xs.length x.ca, .int .i64 x.e], .slice A' n7 c'] W fun e w' => e = .returned (.tuple #[.bool true, .int .i64 0]) ∧ Below W.heap.size W w') := by
        refine Lib.hid fun A' c' W h1 h2 hb hrm => ?_
        rw [List.nil_append] at hrm
        have := HG.out _ _ A' c' W (fun t ht => HSUB.out t (by
          rcases List.mem_append.1 ht with h | h
          · exact List.mem_of_mem_take h
          · exact List.mem_of_mem_drop h)) (by rw [List.length_append, HL1.out, HL2.out, HN7.out]; omega) h1 h2 hb hrm
        have hp := HP.out.less k (by rw [← HRN.out]; exact HKN.out)
        rw [hp.1, hp.2] at this
        exact this
      have HL3 := Lib.hid (show ([] ++ (selL l tr0 r).take k ++ (selL l tr0 r).drop (k + 1)).length = n7 by rw [List.nil_append, List.length_append, HL1.out, HL2.out, HN7.out]; omega)
      go_wp2_with fail
      refine wp_region_held_drew (S := fun W => Below V.heap.size V W) (by kernel_rfl) ?_ (fun hHeld => ?_); (· (repeat (first | (with_reducible exact Below.refl _ _) | (with_reducible assumption) | (with_reducible refine Below.drew ?_) | (with_reducible refine Below.allocS ?_ _) | (with_reducible refine Below.setCell ?_ ?_ _) | (with_reducible refine Below.step ?_ (by assumption)) | (with_reducible refine Below.drewN' ?_ _))); (try any_goals (first | (with_reducible assumption) | (simp; done) | (simp; omega) | omega)))
      (first | (refine wpAnyH_take (i := 1) (oi := ⟨_, _, _, _, _, _⟩) (v := ?_) rfl (by kernel_rfl) (by kernel_rfl) (by kernel_rfl) (fun _ _ _ h => h) (Or.inl ⟨by rfl, ?_⟩) (by assumption) ?_; rotate_left 1; (· (intro w0 hSw; (try dsimp only at hSw); go_simp; (try with_reducible rfl)))) | (refine wpAnyH_take (i := 1) (oi := ⟨_, _, _, _, _, _⟩) (v := undef) rfl (by kernel_rfl) (by kernel_rfl) (by kernel_rfl) (fun _ _ _ h => h) (Or.inr ⟨by rfl, rfl⟩) (by assumption) ?_)); (try simp only [Act.put, List.setIfInBounds_toArray, List.set_cons_zero, List.set_cons_succ])
      (first | (refine wpAnyH_take (i := 2) (oi := ⟨_, _, _, _, _, _⟩) (v := ?_) rfl (by kernel_rfl) (by kernel_rfl) (by kernel_rfl) (fun _ _ _ h => h) (Or.inl ⟨by rfl, ?_⟩) (by assumption) ?_; rotate_left 1; (· (intro w0 hSw; (try dsimp only at hSw); go_simp; (try with_reducible rfl)))) | (refine wpAnyH_take (i := 2) (oi := ⟨_, _, _, _, _, _⟩) (v := undef) rfl (by kernel_rfl) (by kernel_rfl) (by kernel_rfl) (fun _ _ _ h => h) (Or.inr ⟨by rfl, rfl⟩) (by assumption) ?_)); (try simp only [Act.put, List.setIfInBounds_toArray, List.set_cons_zero, List.set_cons_succ])
      (first | (refine wpAnyH_take (i := 3) (oi := ⟨_, _, _, _, _, _⟩) (v := ?_) rfl (by kernel_rfl) (by kernel_rfl) (by kernel_rfl) (fun _ _ _ h => h) (Or.inl ⟨by rfl, ?_⟩) (by assumption) ?_; rotate_left 1; (· (intro w0 hSw; (try dsimp only at hSw); go_simp; (try with_reducible rfl)))) | (refine wpAnyH_take (i := 3) (oi := ⟨_, _, _, _, _, _⟩) (v := undef) rfl (by kernel_rfl) (by kernel_rfl) (by kernel_rfl) (fun _ _ _ h => h) (Or.inr ⟨by rfl, rfl⟩) (by assumption) ?_)); (try simp only [Act.put, List.setIfInBounds_toArray, List.set_cons_zero, List.set_cons_succ])
      (first | (refine wpAnyH_take (i := 5) (oi := ⟨_, _, _, _, _, _⟩) (v := ?_) rfl (by kernel_rfl) (by kernel_rfl) (by kernel_rfl) (fun _ _ _ h => h) (Or.inl ⟨by rfl, ?_⟩) (by assumption) ?_; rotate_left 1; (· (intro w0 hSw; (try dsimp only at hSw); go_simp; (try with_reducible rfl)))) | (refine wpAnyH_take (i := 5) (oi := ⟨_, _, _, _, _, _⟩) (v := undef) rfl (by kernel_rfl) (by kernel_rfl) (by kernel_rfl) (fun _ _ _ h => h) (Or.inr ⟨by rfl, rfl⟩) (by assumption) ?_)); (try simp only [Act.put, List.setIfInBounds_toArray, List.set_cons_zero, List.set_cons_succ])
      (first | (refine wpAnyH_take (i := 6) (oi := ⟨_, _, _, _, _, _⟩) (v := ?_) rfl (by kernel_rfl) (by kernel_rfl) (by kernel_rfl) (fun _ _ _ h => h) (Or.inl ⟨by rfl, ?_⟩) (by assumption) ?_; rotate_left 1; (· (intro w0 hSw; (try dsimp only at hSw); go_simp; (try with_reducible rfl)))) | (refine wpAnyH_take (i := 6) (oi := ⟨_, _, _, _, _, _⟩) (v := undef) rfl (by kernel_rfl) (by kernel_rfl) (by kernel_rfl) (fun _ _ _ h => h) (Or.inr ⟨by rfl, rfl⟩) (by assumption) ?_)); (try simp only [Act.put, List.setIfInBounds_toArray, List.set_cons_zero, List.set_cons_succ])
      (first | (refine wpAnyH_take (i := 7) (oi := ⟨_, _, _, _, _, _⟩) (v := ?_) rfl (by kernel_rfl) (by kernel_rfl) (by kernel_rfl) (fun _ _ _ h => h) (Or.inl ⟨by rfl, ?_⟩) (by assumption) ?_; rotate_left 1; (· (intro w0 hSw; (try dsimp only at hSw); go_simp; (try with_reducible rfl)))) | (refine wpAnyH_take (i := 7) (oi := ⟨_, _, _, _, _, _⟩) (v := undef) rfl (by kernel_rfl) (by kernel_rfl) (by kernel_rfl) (fun _ _ _ h => h) (Or.inr ⟨by rfl, rfl⟩) (by assumption) ?_)); (try simp only [Act.put, List.setIfInBounds_toArray, List.set_cons_zero, List.set_cons_succ])
      (first | (refine wpAnyH_take (i := 8) (oi := ⟨_, _, _, _, _, _⟩) (v := ?_) rfl (by kernel_rfl) (by kernel_rfl) (by kernel_rfl) (fun _ _ _ h => h) (Or.inl ⟨by rfl, ?_⟩) (by assumption) ?_; rotate_left 1; (· (intro w0 hSw; (try dsimp only at hSw); go_simp; (try with_reducible rfl)))) | (refine wpAnyH_take (i := 8) (oi := ⟨_, _, _, _, _, _⟩) (v := undef) rfl (by kernel_rfl) (by kernel_rfl) (by kernel_rfl) (fun _ _ _ h => h) (Or.inr ⟨by rfl, rfl⟩) (by assumption) ?_)); (try simp only [Act.put, List.setIfInBounds_toArray, List.set_cons_zero, List.set_cons_succ])
      refine wpAnyH_ready (rs := [0]) (by kernel_rfl) (by simp) ?_
      refine AllReadyH.cons (o := ⟨_, _, _, _, _, _⟩) rfl (fun K hK => ?_) AllReadyH.nil
      go_simp
      refine hK.out _ _ ?_ (fun hHeld => ?_)
      · (repeat (first | (with_reducible exact Below.refl _ _) | (with_reducible assumption) | (with_reducible refine Below.drew ?_) | (with_reducible refine Below.allocS ?_ _) | (with_reducible refine Below.setCell ?_ ?_ _) | (with_reducible refine Below.step ?_ (by assumption)) | (with_reducible refine Below.drewN' ?_ _))); (try any_goals (first | (with_reducible assumption) | (simp; done) | (simp; omega) | omega))
      clear hK K
      (try simp only [Act.put, List.setIfInBounds_toArray, List.set_cons_zero, List.set_cons_succ])
      refine wpAnyH_ready (rs := [4]) (by kernel_rfl) (by simp) ?_
      refine AllReadyH.cons (o := ⟨_, _, _, _, _, _⟩) rfl (fun K hK => ?_) AllReadyH.nil
      refine step_app rfl (.tmp 80) (.tmp 83) 30 rfl _ _ rfl rfl (HA1.out _ V.heap.size (by (repeat (first | (with_reducible exact Below.refl _ _) | (with_reducible assumption) | (with_reducible refine Below.drew ?_) | (with_reducible refine Below.allocS ?_ _) | (with_reducible refine Below.setCell ?_ ?_ _) | (with_reducible refine Below.step ?_ (by assumption)) | (with_reducible refine Below.drewN' ?_ _))); (try any_goals (first | (with_reducible assumption) | (simp; done) | (simp; omega) | omega))) (empty_row' _ _ _ _ rfl) (by simp)) ?_
      rintro v6 w6 ⟨hown6, hbel6⟩
      have hB6 : Below V.heap.size V w6 := Below.low (by (repeat (first | (with_reducible exact Below.refl _ _) | (with_reducible assumption) | (with_reducible refine Below.drew ?_) | (with_reducible refine Below.allocS ?_ _) | (with_reducible refine Below.setCell ?_ ?_ _) | (with_reducible refine Below.step ?_ (by assumption)) | (with_reducible refine Below.drewN' ?_ _))); (try any_goals (first | (with_reducible assumption) | (simp; done) | (simp; omega) | omega))) hbel6 (Nat.le_refl _)
      have hs6 : V.heap.size ≤ w6.heap.size := hB6.size
      have HO6 := Lib.hid hown6
      obtain ⟨A6, c6, rfl, -, -⟩ := row_form hown6
      clear hown6 hbel6
      refine hK.out _ _ ?_ (fun hHeld => ?_)
      · assumption
      clear hK K
      (try simp only [Act.put, List.setIfInBounds_toArray, List.set_cons_zero, List.set_cons_succ])
      refine wpAnyH_ready (rs := [9]) (by kernel_rfl) (by simp) ?_
      refine AllReadyH.cons (o := ⟨_, _, _, _, _, _⟩) rfl (fun K hK => ?_) AllReadyH.nil
      refine step_app rfl (.tmp 84) (.tmp 88) 30 rfl _ _ rfl rfl (HA2.out _ V.heap.size _ hB6 HO6.out hs6) ?_
      rintro v7 w7 ⟨hown7, hbel7⟩
      have hB7 : Below V.heap.size V w7 := Below.low hB6 hbel7 (Nat.le_refl _)
      obtain ⟨A7, c7, rfl, k7, m7⟩ := row_form hown7
      have R7 := Lib.hid (RdL.of_own (enc := trE) trE_len hown7 HL3.out)
      have K7 := Lib.hid (And.intro k7 m7)
      clear hown7 hbel7 k7 m7
      refine hK.out _ _ ?_ (fun hHeld => ?_)
      · assumption
      clear hK K
      (try simp only [Act.put, List.setIfInBounds_toArray, List.set_cons_zero, List.set_cons_succ])
      (first | (refine wpAnyH_take (i := 10) (oi := ⟨_, _, _, _, _, _⟩) (v := ?_) rfl (by kernel_rfl) (by kernel_rfl) (by kernel_rfl) (fun _ _ _ h => h) (Or.inl ⟨by rfl, ?_⟩) (by assumption) ?_; rotate_left 1; (· (intro w0 hSw; (try dsimp only at hSw); go_simp; (try with_reducible rfl)))) | (refine wpAnyH_take (i := 10) (oi := ⟨_, _, _, _, _, _⟩) (v := undef) rfl (by kernel_rfl) (by kernel_rfl) (by kernel_rfl) (fun _ _ _ h => h) (Or.inr ⟨by rfl, rfl⟩) (by assumption) ?_)); (try simp only [Act.put, List.setIfInBounds_toArray, List.set_cons_zero, List.set_cons_succ])
      refine wpAnyH_done (by kernel_rfl) ?_ _
      have cw0 : w7.cell? ⟨w.heap.size, 0, none⟩ = some (.slice x.A x.xs.length x.ca) := keep_cell hB7 cv0
      have cw1 : w7.cell? ⟨w.heap.size, 1, none⟩ = some (.int .i64 x.e) := keep_cell hB7 cv1
      have hbw7 : Below w.heap.size w w7 := Below.low hbw hB7 (by have := hbw.size; omega)
      go_wp2_with fail
      refine (HG2.out A7 c7 _ K7.out.1 K7.out.2 hbw7 R7.out).mono ?_
      rintro e w8 ⟨rfl, hb8⟩
      have hb9 : Below w5.heap.size w5 w8 := Below.step (Below.step hbV hB7) hb8
      go_wp2
      go_roundw
      case rel => exact ⟨k + 1, HKN.out, by go_num, hb9⟩
      case measure => simp [intOf]; omega
    · obtain rfl : k = rn := by omega
      have u1 : decide ((k : Int) < (k : Int)) = false := decide_eq_false (by omega)
      go_wp2_with fail
      refine (awake_c _).mono ?_
      rintro e w6 ⟨rfl, hb6⟩
      go_wp2
      go_ret
      exact ⟨rfl, by (repeat (first | exact Below.refl _ _ | refine Below.drew ?_ | refine Below.allocS ?_ _ | refine Below.step ?_ (by assumption) | refine Below.setCell ?_ (by simp <;> omega) _ | refine Below.drewN' ?_ _))⟩
end Go.Proofs.Ytbcabckokmjelaa
