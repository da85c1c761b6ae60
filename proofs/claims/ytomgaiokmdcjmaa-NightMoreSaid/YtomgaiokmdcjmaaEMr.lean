/-
  NightMore: the walk. No conditions.
-/
import Derived.Test.YtomgaiokmdcjmaaNt38
import Derived.Test.YtomgaiokmdcjmaaNt36
namespace Go.Proofs.Ytomgaiokmdcjmaa
open Go.RowKit Go.Deep
set_option linter.unusedVariables false
set_option linter.unusedSimpArgs false
theorem BestT_c (l : List Ch) (A : Option Addr) (cap : Nat) (L : List Cl) (B : Option Addr) (cb : Nat) (per : Int) (W : World) (h : InAt W l A cap L B cb) : Calls Try.prog 14 #[.slice A l.length cap, .slice B L.length cb, .int .i64 per] W fun e w' => (∃ A c, e = .returned (.tuple #[.slice A (bstE l L per).length c, .int .i64 (asE l L per)]) ∧ SlAt w' l.length ⟨A, c, bstE l L per⟩) ∧ Below W.heap.size W w' := (Best_c l A cap L B cb per W h).mono (by
  rintro e w' ⟨⟨⟨A', c', xx⟩, rfl, h1, h2⟩, hb⟩
  obtain rfl : xx = _ := h2
  exact ⟨⟨A', c', rfl, h1⟩, hb⟩)
theorem WorthB_c (l : List Ch) (A : Option Addr) (cap : Nat) (L : List Cl) (B : Option Addr) (cb : Nat) (per : Int) (h0 : asE l L per = 0) (A1 : Option Addr) (c1 : Nat) (W : World) (hs : SlAt W l.length ⟨A1, c1, bstE l L per⟩) (h : InAt W l A cap L B cb) :
    Calls Try.prog 15 #[.slice A l.length cap, .slice A1 (bstE l L per).length c1] W fun e w' => e = .returned (.tuple #[.int .i64 (wthV l ((bstE l L per).map Int.ofNat)), .int .i64 0]) ∧ Below W.heap.size W w' := by
  have := Worth_c l A cap h.hl h.hs W h.hr _ _ (List.length_map ..) hs.l A1 c1 hs.r
  rw [(best_facts h0).2.2.2.2.1] at this
  exact this
theorem InAt.take {w : World} {l : List Ch} {A : Option Addr} {cap : Nat} {L : List Cl} {B : Option Addr} {cb : Nat} (h : InAt w l A cap L B cb) (k : Nat) : InAt w l A cap (L.take k) B cb :=
  ⟨h.hl, h.hcap, h.hs, h.hr, by rw [List.length_take]; have := h.hL; omega, RdL.take h.hR k⟩
set_option maxHeartbeats 1000000 in
set_option maxRecDepth 100000 in
theorem NightMore_walk (w : World) (A : Option Addr) (cap : Nat) (l : List Ch) (B : Option Addr) (cb : Nat) (L : List Cl) (per K i : Int) (hl : l.length ≤ cap) (hm : cap ≤ maxLen) (hr : RdL w w.heap.size chE 5 A l) (hw : ∀ x ∈ l, ChOk x)
    (kl : L.length ≤ cb) (km : cb ≤ maxLen) (kr : RdL w w.heap.size clE 2 B L) (kw : ∀ x ∈ L, ∃ g : Nat → Int, x = (⟨g 0, g 1⟩ : Cl) ∧ ∀ j, j < 2 → I64 (g j)) (hp : I64 per) (hK : I64 K) (hi : I64 i) :
    Calls Try.prog 3 #[.slice A l.length cap, .slice B L.length cb, .int .i64 per, .int .i64 K, .int .i64 i] w fun e w' => e = .returned (.bool true) ∧ Below w.heap.size w w' := by
  have HN1 := Lib.hid (fun W (hb : Below w.heap.size w W) => fit_c l A cap L B cb (by unfold maxLen at hm; omega) W (hr.step hb))
  have HIN : Hid (l.length ≤ 30 → L.length ≤ 60 → InAt w l A cap L B cb) := Lib.hid (fun h1 h2 => InAt.of_args (cb := cb) hl hr hw kr h1 h2)
  have HI64 := Lib.hid (And.intro hK hi)
  have HCAP := Lib.hid (And.intro (And.intro hl hm) (And.intro kl km))
  clear hl hm hr hw kl km kr kw hp hK hi
  obtain ⟨n, hn⟩ : ∃ n, n = l.length := ⟨_, rfl⟩
  have HN := Lib.hid hn
  obtain ⟨nL, hnL⟩ : ∃ n, n = L.length := ⟨_, rfl⟩
  have HNL := Lib.hid hnL
  rw [← hn, ← hnL] at HN1 HIN HCAP ⊢
  clear hn hnL
  go_enter Try.func3, Try.ntmps3
  go_wp2_with fail
  refine (HN1.out _ (by (repeat (first | exact Below.refl _ _ | refine Below.drew ?_ | refine Below.allocS ?_ _ | refine Below.step ?_ (by assumption) | refine Below.setCell ?_ (by simp <;> omega) _ | refine Below.drewN' ?_ _)))).mono ?_
  rintro e w1 ⟨⟨X0, rfl, hX0⟩, hb1⟩
  have g1 : Below w.heap.size w w1 := by (repeat (first | exact Below.refl _ _ | refine Below.drew ?_ | refine Below.allocS ?_ _ | refine Below.step ?_ (by assumption) | refine Below.setCell ?_ (by simp <;> omega) _ | refine Below.drewN' ?_ _))
  clear hb1
  have HX0 := Lib.hid hX0
  clear hX0
  cases X0
  case false =>
    go_wp2_with fail
    refine (awake_c _).mono ?_
    rintro e w2 ⟨rfl, hb2⟩
    go_wp2
    go_ret
    exact ⟨rfl, by (repeat (first | exact Below.refl _ _ | refine Below.drew ?_ | refine Below.allocS ?_ _ | refine Below.step ?_ (by assumption) | refine Below.setCell ?_ (by simp <;> omega) _ | refine Below.drewN' ?_ _))⟩
  have hfit := HX0.out rfl
  clear HX0
  have HI := Lib.hid (HIN.out hfit.1 hfit.2.2)
  have hn30 := hfit.1
  have hL60 := hfit.2.2
  clear hfit HIN HN1
  by_cases hK : K < 0
  · have d1 : decide (K < 0) = true := decide_eq_true hK
    clear hK
    go_wp2_with fail
    refine (awake_c _).mono ?_
    rintro e w2 ⟨rfl, hb2⟩
    go_wp2
    go_ret
    exact ⟨rfl, by (repeat (first | exact Below.refl _ _ | refine Below.drew ?_ | refine Below.allocS ?_ _ | refine Below.step ?_ (by assumption) | refine Below.setCell ?_ (by simp <;> omega) _ | refine Below.drewN' ?_ _))⟩
  have d1 : decide (K < 0) = false := decide_eq_false hK
  by_cases hi : i < 0
  · have d2 : decide (i < 0) = true := decide_eq_true hi
    clear hK hi
    go_wp2_with fail
    refine (awake_c _).mono ?_
    rintro e w2 ⟨rfl, hb2⟩
    go_wp2
    go_ret
    exact ⟨rfl, by (repeat (first | exact Below.refl _ _ | refine Below.drew ?_ | refine Below.allocS ?_ _ | refine Below.step ?_ (by assumption) | refine Below.setCell ?_ (by simp <;> omega) _ | refine Below.drewN' ?_ _))⟩
  have d2 : decide (i < 0) = false := decide_eq_false hi
  by_cases hn0 : n = 0
  · subst hn0
    clear hK hi
    go_wp2_with fail
    refine (awake_c _).mono ?_
    rintro e w2 ⟨rfl, hb2⟩
    go_wp2
    go_ret
    exact ⟨rfl, by (repeat (first | exact Below.refl _ _ | refine Below.drew ?_ | refine Below.allocS ?_ _ | refine Below.step ?_ (by assumption) | refine Below.setCell ?_ (by simp <;> omega) _ | refine Below.drewN' ?_ _))⟩
  have e0 : (n == 0) = false := by simp [hn0]
  have e1 : ((n : Int) == 0) = false := by simp; omega
  have H1 := Lib.hid (fun W (h : InAt W l A cap L B cb) => BestT_c l A cap L B cb per W h)
  rw [← HN.out, ← HNL.out] at H1
  obtain ⟨v, hv⟩ : ∃ v, v = asE l L per := ⟨_, rfl⟩
  rw [← hv] at H1
  have HV := Lib.hid hv
  clear hv
  by_cases hv0 : v = 0
  case neg =>
    have q1 : (v != 0) = true := by simp [hv0]
    clear hv0 hK hi
    go_wp2_with fail
    refine (H1.out _ (HI.out.step (by (repeat (first | exact Below.refl _ _ | refine Below.drew ?_ | refine Below.allocS ?_ _ | refine Below.step ?_ (by assumption) | refine Below.setCell ?_ (by simp <;> omega) _ | refine Below.drewN' ?_ _))))).mono ?_
    rintro e w2 ⟨⟨A2, c2, rfl, s2⟩, hb2⟩
    clear s2
    generalize (bstE l L per).length = rb at *
    go_wp2_with fail
    refine (awake_c _).mono ?_
    rintro e w3 ⟨rfl, hb3⟩
    go_wp2
    go_ret
    exact ⟨rfl, by (repeat (first | exact Below.refl _ _ | refine Below.drew ?_ | refine Below.allocS ?_ _ | refine Below.step ?_ (by assumption) | refine Below.setCell ?_ (by simp <;> omega) _ | refine Below.drewN' ?_ _))⟩
  subst hv0
  have h00 := HV.out.symm
  obtain ⟨mm, hm1, hm2, hm3⟩ : ∃ mm : Nat, (if K < (nL : Int) then K else (nL : Int)) = (mm : Int) ∧ (if (nL : Int) < K then (nL : Int) else K) = (mm : Int) ∧ mm ≤ nL := by
    by_cases h : K < (nL : Int)
    · exact ⟨K.toNat, by rw [if_pos h]; omega, by rw [if_neg (by omega)]; omega, by omega⟩
    · refine ⟨nL, by rw [if_neg h], ?_, Nat.le_refl _⟩
      by_cases h2 : (nL : Int) < K
      · rw [if_pos h2]
      · rw [if_neg h2]; omega
  obtain ⟨q, hq1, hq2⟩ : ∃ q : Nat, Int.tmod i (n : Int) = (q : Int) ∧ q < n := by
    obtain ⟨i', rfl⟩ : ∃ i' : Nat, i = (i' : Int) := ⟨i.toNat, by omega⟩
    refine ⟨i' % n, ?_, Nat.mod_lt _ (by omega)⟩
    rw [Int.tmod_eq_emod_of_nonneg (by omega)]
    rfl
  have HT := Lib.hid (show (L.take mm).length = mm by rw [List.length_take, ← HNL.out]; omega)
  have H2 : Hid (∀ W, InAt W l A cap L B cb → Calls Try.prog 14 #[.slice A n cap, .slice B mm cb, .int .i64 per] W fun e w' => (∃ A c, e = .returned (.tuple #[.slice A (bstE l (L.take mm) per).length c, .int .i64 0]) ∧ SlAt w' n ⟨A, c, bstE l (L.take mm) per⟩) ∧ Below W.heap.size W w') := Lib.hid (fun W h => by
    have := BestT_c l A cap (L.take mm) B cb per W (h.take mm)
    rw [as_take h00, HT.out, ← HN.out] at this
    exact this)
  have H3 : Hid (∀ W, InAt W l A cap L B cb → Calls Try.prog 14 #[.slice A n cap, .slice B nL cb, .int .i64 (per.tdiv 2)] W fun e w' => (∃ A c, e = .returned (.tuple #[.slice A (bstE l L (per.tdiv 2)).length c, .int .i64 0]) ∧ SlAt w' n ⟨A, c, bstE l L (per.tdiv 2)⟩) ∧ Below W.heap.size W w') := Lib.hid (fun W h => by
    have := BestT_c l A cap L B cb (per.tdiv 2) W h
    rw [as_half h00, ← HN.out, ← HNL.out] at this
    exact this)
  have hql : q < l.length := by rw [← HN.out]; exact hq2
  have HLL := Lib.hid (less_len hql)
  have H4 : Hid (∀ (A1 : Option Addr) (c1 : Nat) W, InAt W (lessL l q) A1 c1 L B cb → Calls Try.prog 14 #[.slice A1 (n - 1) c1, .slice B nL cb, .int .i64 per] W fun e w' => (∃ A c, e = .returned (.tuple #[.slice A (bstE (lessL l q) L per).length c, .int .i64 0]) ∧ SlAt w' (lessL l q).length ⟨A, c, bstE (lessL l q) L per⟩) ∧ Below W.heap.size W w') := Lib.hid (fun A1 c1 W h => by
    have := BestT_c (lessL l q) A1 c1 L B cb per W h
    rw [as_less hql h00, ← HNL.out, show (lessL l q).length = n - 1 by have := HLL.out; rw [← HN.out] at this; omega] at this
    rw [show (lessL l q).length = n - 1 by have := HLL.out; rw [← HN.out] at this; omega]
    exact this)
  have G1 := Lib.hid (fun A1 c1 W hs h => WorthB_c l A cap L B cb per h00 A1 c1 W hs h)
  have G2 := Lib.hid (fun A1 c1 W hs (h : InAt W l A cap L B cb) => WorthB_c l A cap (L.take mm) B cb per (as_take h00 mm) A1 c1 W hs (h.take mm))
  have G3 := Lib.hid (fun A1 c1 W hs h => WorthB_c l A cap L B cb (per.tdiv 2) (as_half h00) A1 c1 W hs h)
  have G4 : Hid (∀ (A0 : Option Addr) (c0 : Nat) (A1 : Option Addr) (c1 : Nat) W, SlAt W (lessL l q).length ⟨A1, c1, bstE (lessL l q) L per⟩ → InAt W (lessL l q) A0 c0 L B cb → Calls Try.prog 15 #[.slice A0 (n - 1) c0, .slice A1 (bstE (lessL l q) L per).length c1] W fun e w' => e = .returned (.tuple #[.int .i64 (wthV (lessL l q) ((bstE (lessL l q) L per).map Int.ofNat)), .int .i64 0]) ∧ Below W.heap.size W w') := Lib.hid (fun A0 c0 A1 c1 W hs h => by
    have := WorthB_c (lessL l q) A0 c0 L B cb per (as_less hql h00) A1 c1 W hs h
    rw [show (lessL l q).length = n - 1 by have := HLL.out; rw [← HN.out] at this; omega] at this
    exact this)
  have F1 := more_take h00 mm
  have F2 := more_half h00
  have F3 := more_less hql h00
  have hp2 := half_bd (as_ok h00).2.2
  have hper := within_true (as_ok h00).2.2
  rw [← HN.out] at G1 G2 G3
  generalize wthV (lessL l q) ((bstE (lessL l q) L per).map Int.ofNat) = V3 at *
  generalize wthV l ((bstE l L (per.tdiv 2)).map Int.ofNat) = V2 at *
  generalize wthV l ((bstE l (L.take mm) per).map Int.ofNat) = V1 at *
  generalize wthV l ((bstE l L per).map Int.ofNat) = V0 at *
  generalize bstE (lessL l q) L per = R3 at *
  generalize bstE l L (per.tdiv 2) = R2 at *
  generalize bstE l (L.take mm) per = R1 at *
  generalize bstE l L per = R0 at *
  have f1 : decide (V1 < V0) = false := decide_eq_false (by omega)
  have f2 : decide (V2 < V0) = false := decide_eq_false (by omega)
  have f3 : decide (V3 ≤ V0) = true := decide_eq_true F3
  have p1 : IntKind.i64.wrap (per.tdiv 2) = per.tdiv 2 := IntWalk.i64_in _ (by omega)
  have b1 : (mm : Int) ≤ (cb : Int) := by have := HCAP.out.2.1; omega
  have b2 : (0 : Int) ≤ (mm : Int) := by omega
  have b3 : mm ≤ cb := by omega
  clear F1 F2 F3 hp2 hper h00 HV hK hi hm3
  go_wp2_with fail
  refine (H1.out _ (HI.out.step (by (repeat (first | exact Below.refl _ _ | refine Below.drew ?_ | refine Below.allocS ?_ _ | refine Below.step ?_ (by assumption) | refine Below.setCell ?_ (by simp <;> omega) _ | refine Below.drewN' ?_ _))))).mono ?_
  rintro e w2 ⟨⟨A2, c2, rfl, s2⟩, hb2⟩
  have g2 : Below w.heap.size w w2 := by (repeat (first | exact Below.refl _ _ | refine Below.drew ?_ | refine Below.allocS ?_ _ | refine Below.step ?_ (by assumption) | refine Below.setCell ?_ (by simp <;> omega) _ | refine Below.drewN' ?_ _))
  clear hb2 g1 
  go_wp2_with fail
  refine (G1.out A2 c2 _ s2 (HI.out.step (by (repeat (first | exact Below.refl _ _ | refine Below.drew ?_ | refine Below.allocS ?_ _ | refine Below.step ?_ (by assumption) | refine Below.setCell ?_ (by simp <;> omega) _ | refine Below.drewN' ?_ _))))).mono ?_
  rintro e w3 ⟨rfl, hb3⟩
  have g3 : Below w.heap.size w w3 := by (repeat (first | exact Below.refl _ _ | refine Below.drew ?_ | refine Below.allocS ?_ _ | refine Below.step ?_ (by assumption) | refine Below.setCell ?_ (by simp <;> omega) _ | refine Below.drewN' ?_ _))
  clear hb3 g2 
  clear s2 G1 H1
  generalize R0.length = n0 at *
  go_wp2_with fail
  refine (H2.out _ (HI.out.step (by (repeat (first | exact Below.refl _ _ | refine Below.drew ?_ | refine Below.allocS ?_ _ | refine Below.step ?_ (by assumption) | refine Below.setCell ?_ (by simp <;> omega) _ | refine Below.drewN' ?_ _))))).mono ?_
  rintro e w4 ⟨⟨A4, c4, rfl, s4⟩, hb4⟩
  have g4 : Below w.heap.size w w4 := by (repeat (first | exact Below.refl _ _ | refine Below.drew ?_ | refine Below.allocS ?_ _ | refine Below.step ?_ (by assumption) | refine Below.setCell ?_ (by simp <;> omega) _ | refine Below.drewN' ?_ _))
  clear hb4 g3 
  go_wp2_with fail
  refine (G2.out A4 c4 _ s4 (HI.out.step (by (repeat (first | exact Below.refl _ _ | refine Below.drew ?_ | refine Below.allocS ?_ _ | refine Below.step ?_ (by assumption) | refine Below.setCell ?_ (by simp <;> omega) _ | refine Below.drewN' ?_ _))))).mono ?_
  rintro e w5 ⟨rfl, hb5⟩
  have g5 : Below w.heap.size w w5 := by (repeat (first | exact Below.refl _ _ | refine Below.drew ?_ | refine Below.allocS ?_ _ | refine Below.step ?_ (by assumption) | refine Below.setCell ?_ (by simp <;> omega) _ | refine Below.drewN' ?_ _))
  clear hb5 g4 
  clear s4 G2 H2
  generalize R1.length = n1 at *
  go_wp2_with fail
  refine (H3.out _ (HI.out.step (by (repeat (first | exact Below.refl _ _ | refine Below.drew ?_ | refine Below.allocS ?_ _ | refine Below.step ?_ (by assumption) | refine Below.setCell ?_ (by simp <;> omega) _ | refine Below.drewN' ?_ _))))).mono ?_
  rintro e w6 ⟨⟨A6, c6, rfl, s6⟩, hb6⟩
  have g6 : Below w.heap.size w w6 := by (repeat (first | exact Below.refl _ _ | refine Below.drew ?_ | refine Below.allocS ?_ _ | refine Below.step ?_ (by assumption) | refine Below.setCell ?_ (by simp <;> omega) _ | refine Below.drewN' ?_ _))
  clear hb6 g5 
  go_wp2_with fail
  refine (G3.out A6 c6 _ s6 (HI.out.step (by (repeat (first | exact Below.refl _ _ | refine Below.drew ?_ | refine Below.allocS ?_ _ | refine Below.step ?_ (by assumption) | refine Below.setCell ?_ (by simp <;> omega) _ | refine Below.drewN' ?_ _))))).mono ?_
  rintro e w7 ⟨rfl, hb7⟩
  have g7 : Below w.heap.size w w7 := by (repeat (first | exact Below.refl _ _ | refine Below.drew ?_ | refine Below.allocS ?_ _ | refine Below.step ?_ (by assumption) | refine Below.setCell ?_ (by simp <;> omega) _ | refine Below.drewN' ?_ _))
  clear hb7 g6 
  clear s6 G3 H3
  generalize R2.length = n2 at *
  obtain ⟨b, off, hA, hb0, -⟩ := ch_cells HI.out.hr (by rw [← HN.out]; omega)
  subst hA
  have hncap := HCAP.out.1.1
  have ⟨off', hX, rd⟩ : ∃ off', (if cap = q + 1 then some (⟨b, off, none⟩ : Addr) else some ⟨b, off + (q + 1) * 5, none⟩) = some ⟨b, off', none⟩ ∧ RdL w w.heap.size chE 5 (some ⟨b, off', none⟩) (l.drop (q + 1)) := by
    by_cases hc : cap = q + 1
    · rw [if_pos hc]
      refine ⟨off, rfl, ?_⟩
      rw [List.drop_of_length_le (by rw [← HN.out]; omega)]
      exact RdL.nil
    · rw [if_neg hc]
      exact ⟨_, rfl, RdL.drop HI.out.hr (q + 1)⟩
  have RD := Lib.hid rd
  have RT := Lib.hid (RdL.take HI.out.hr q)
  have HTL := Lib.hid (show (l.take q).length = q by rw [List.length_take, ← HN.out]; omega)
  have HDL := Lib.hid (show (l.drop (q + 1)).length = n - (q + 1) by rw [List.length_drop, ← HN.out])
  have HAP1 := Lib.hid (app_spread appCh [] (l.take q) 0 q rfl HTL.out (by omega) (w7.drew.alloc (.cells #[] 34)) w7.heap.size (.slice (some ⟨w7.heap.size, 0, none⟩) 0 0) (World.ownsRow_lit (base := w7.heap.size) w7.drew #[] 0 (Nat.le_refl _) (Nat.zero_le _) rfl) (by simp) (some ⟨b, off, none⟩) cap ((RT.out.step g7).step (Below.allocS (Below.drew (Below.refl _ _)) _)) (fun e => by cases e))
  have HAP2 := Lib.hid (fun (W : World) (v : Value) (ho : W.ownsRow w7.heap.size 34 5 v (0 + q) (([] ++ l.take q).flatMap chE)) (hb : Below w7.heap.size w7 W) => app_spread appCh ([] ++ l.take q) (l.drop (q + 1)) (0 + q) (n - (q + 1)) (by rw [List.nil_append, HTL.out]; omega) HDL.out (by omega) W w7.heap.size v ho hb.size (some ⟨b, off', none⟩) (cap - (q + 1)) ((RD.out.step g7).step hb) (fun e => by cases e))
  have HIL : Hid (∀ W A' c', Below w7.heap.size w7 W → W.ownsRow w7.heap.size 34 5 (.slice A' (0 + q + (n - (q + 1))) c') (0 + q + (n - (q + 1))) (([] ++ l.take q ++ l.drop (q + 1)).flatMap chE) → InAt W (lessL l q) A' c' L B cb) := Lib.hid (fun W A' c' hb ho => by
    have hbw := Below.step g7 hb
    obtain ⟨A2, c2, e, k1, k2⟩ := row_form ho
    injection e with e1 e2 e3
    subst e1 e3
    have e : [] ++ l.take q ++ l.drop (q + 1) = lessL l q := rfl
    rw [e] at ho
    have hlen : (lessL l q).length = 0 + q + (n - (q + 1)) := by have := HLL.out; rw [← HN.out] at this; omega
    refine ⟨by have := HI.out.hl; have := HLL.out; omega, by rw [hlen]; exact k1, fun x hx => ?_, RdL.of_own (fun _ => rfl) ho hlen, HI.out.hL, HI.out.hR.step hbw⟩
    rcases List.mem_append.1 hx with h | h
    · exact HI.out.hs x (List.mem_of_mem_take h)
    · exact HI.out.hs x (List.mem_of_mem_drop h))
  have u1 : IntKind.i64.wrap ((q : Int) + 1) = (q : Int) + 1 := IntWalk.i64_in _ (by omega)
  have u2 : (0 : Int) ≤ (q : Int) := by omega
  have u3 : (q : Int) ≤ (cap : Int) := by omega
  have u4 : (0 : Int) ≤ (q : Int) + 1 := by omega
  have u5 : (q : Int) + 1 ≤ (n : Int) := by omega
  have u6 : q ≤ cap := by omega
  have u7 : q + 1 ≤ n := by omega
  obtain ⟨nq, hnq⟩ : ∃ nq, nq = n - (q + 1) := ⟨_, rfl⟩
  have HNQ := Lib.hid (show 0 + q + nq = n - 1 by omega)
  have HQ2 := Lib.hid (show q + (n - (q + 1)) = n - 1 by omega)
  rw [← hnq] at HAP2 HIL
  clear rd hncap
  go_wp2_with fail
  refine wp_region_held_drew (S := fun W => Below w7.heap.size w7 W) (by kernel_rfl) ?_ (fun hHeld => ?_); (· (repeat (first | (with_reducible exact Below.refl _ _) | (with_reducible assumption) | (with_reducible refine Below.drew ?_) | (with_reducible refine Below.allocS ?_ _) | (with_reducible refine Below.setCell ?_ ?_ _) | (with_reducible refine Below.step ?_ (by assumption)) | (with_reducible refine Below.drewN' ?_ _))); (try any_goals (first | (with_reducible assumption) | (simp; done) | (simp; omega) | omega)))
  (first | (refine wpAnyH_take (i := 1) (oi := ⟨_, _, _, _, _, _⟩) (v := ?_) rfl (by kernel_rfl) (by kernel_rfl) (by kernel_rfl) (fun _ _ _ h => h) (Or.inl ⟨by rfl, ?_⟩) (by assumption) ?_; rotate_left 1; (· (intro w0 hSw; (try dsimp only at hSw); go_simp; (try with_reducible rfl)))) | (refine wpAnyH_take (i := 1) (oi := ⟨_, _, _, _, _, _⟩) (v := undef) rfl (by kernel_rfl) (by kernel_rfl) (by kernel_rfl) (fun _ _ _ h => h) (Or.inr ⟨by rfl, rfl⟩) (by assumption) ?_)); (try simp only [Act.put, List.setIfInBounds_toArray, List.set_cons_zero, List.set_cons_succ])
  (first | (refine wpAnyH_take (i := 2) (oi := ⟨_, _, _, _, _, _⟩) (v := ?_) rfl (by kernel_rfl) (by kernel_rfl) (by kernel_rfl) (fun _ _ _ h => h) (Or.inl ⟨by rfl, ?_⟩) (by assumption) ?_; rotate_left 1; (· (intro w0 hSw; (try dsimp only at hSw); go_simp; (try with_reducible rfl)))) | (refine wpAnyH_take (i := 2) (oi := ⟨_, _, _, _, _, _⟩) (v := undef) rfl (by kernel_rfl) (by kernel_rfl) (by kernel_rfl) (fun _ _ _ h => h) (Or.inr ⟨by rfl, rfl⟩) (by assumption) ?_)); (try simp only [Act.put, List.setIfInBounds_toArray, List.set_cons_zero, List.set_cons_succ])
  (first | (refine wpAnyH_take (i := 3) (oi := ⟨_, _, _, _, _, _⟩) (v := ?_) rfl (by kernel_rfl) (by kernel_rfl) (by kernel_rfl) (fun _ _ _ h => h) (Or.inl ⟨by rfl, ?_⟩) (by assumption) ?_; rotate_left 1; (· (intro w0 hSw; (try dsimp only at hSw); go_simp; (try with_reducible rfl)))) | (refine wpAnyH_take (i := 3) (oi := ⟨_, _, _, _, _, _⟩) (v := undef) rfl (by kernel_rfl) (by kernel_rfl) (by kernel_rfl) (fun _ _ _ h => h) (Or.inr ⟨by rfl, rfl⟩) (by assumption) ?_)); (try simp only [Act.put, List.setIfInBounds_toArray, List.set_cons_zero, List.set_cons_succ])
  (first | (refine wpAnyH_take (i := 4) (oi := ⟨_, _, _, _, _, _⟩) (v := ?_) rfl (by kernel_rfl) (by kernel_rfl) (by kernel_rfl) (fun _ _ _ h => h) (Or.inl ⟨by rfl, ?_⟩) (by assumption) ?_; rotate_left 1; (· (intro w0 hSw; (try dsimp only at hSw); go_simp; (try with_reducible rfl)))) | (refine wpAnyH_take (i := 4) (oi := ⟨_, _, _, _, _, _⟩) (v := undef) rfl (by kernel_rfl) (by kernel_rfl) (by kernel_rfl) (fun _ _ _ h => h) (Or.inr ⟨by rfl, rfl⟩) (by assumption) ?_)); (try simp only [Act.put, List.setIfInBounds_toArray, List.set_cons_zero, List.set_cons_succ])
  (first | (refine wpAnyH_take (i := 5) (oi := ⟨_, _, _, _, _, _⟩) (v := ?_) rfl (by kernel_rfl) (by kernel_rfl) (by kernel_rfl) (fun _ _ _ h => h) (Or.inl ⟨by rfl, ?_⟩) (by assumption) ?_; rotate_left 1; (· (intro w0 hSw; (try dsimp only at hSw); go_simp; (try with_reducible rfl)))) | (refine wpAnyH_take (i := 5) (oi := ⟨_, _, _, _, _, _⟩) (v := undef) rfl (by kernel_rfl) (by kernel_rfl) (by kernel_rfl) (fun _ _ _ h => h) (Or.inr ⟨by rfl, rfl⟩) (by assumption) ?_)); (try simp only [Act.put, List.setIfInBounds_toArray, List.set_cons_zero, List.set_cons_succ])
  (first | (refine wpAnyH_take (i := 6) (oi := ⟨_, _, _, _, _, _⟩) (v := ?_) rfl (by kernel_rfl) (by kernel_rfl) (by kernel_rfl) (fun _ _ _ h => h) (Or.inl ⟨by rfl, ?_⟩) (by assumption) ?_; rotate_left 1; (· (intro w0 hSw; (try dsimp only at hSw); go_simp; (try with_reducible rfl)))) | (refine wpAnyH_take (i := 6) (oi := ⟨_, _, _, _, _, _⟩) (v := undef) rfl (by kernel_rfl) (by kernel_rfl) (by kernel_rfl) (fun _ _ _ h => h) (Or.inr ⟨by rfl, rfl⟩) (by assumption) ?_)); (try simp only [Act.put, List.setIfInBounds_toArray, List.set_cons_zero, List.set_cons_succ])
  (first | (refine wpAnyH_take (i := 8) (oi := ⟨_, _, _, _, _, _⟩) (v := ?_) rfl (by kernel_rfl) (by kernel_rfl) (by kernel_rfl) (fun _ _ _ h => h) (Or.inl ⟨by rfl, ?_⟩) (by assumption) ?_; rotate_left 1; (· (intro w0 hSw; (try dsimp only at hSw); go_simp; (try with_reducible rfl)))) | (refine wpAnyH_take (i := 8) (oi := ⟨_, _, _, _, _, _⟩) (v := undef) rfl (by kernel_rfl) (by kernel_rfl) (by kernel_rfl) (fun _ _ _ h => h) (Or.inr ⟨by rfl, rfl⟩) (by assumption) ?_)); (try simp only [Act.put, List.setIfInBounds_toArray, List.set_cons_zero, List.set_cons_succ])
  (first | (refine wpAnyH_take (i := 9) (oi := ⟨_, _, _, _, _, _⟩) (v := ?_) rfl (by kernel_rfl) (by kernel_rfl) (by kernel_rfl) (fun _ _ _ h => h) (Or.inl ⟨by rfl, ?_⟩) (by assumption) ?_; rotate_left 1; (· (intro w0 hSw; (try dsimp only at hSw); go_simp; (try with_reducible rfl)))) | (refine wpAnyH_take (i := 9) (oi := ⟨_, _, _, _, _, _⟩) (v := undef) rfl (by kernel_rfl) (by kernel_rfl) (by kernel_rfl) (fun _ _ _ h => h) (Or.inr ⟨by rfl, rfl⟩) (by assumption) ?_)); (try simp only [Act.put, List.setIfInBounds_toArray, List.set_cons_zero, List.set_cons_succ])
  (first | (refine wpAnyH_take (i := 10) (oi := ⟨_, _, _, _, _, _⟩) (v := ?_) rfl (by kernel_rfl) (by kernel_rfl) (by kernel_rfl) (fun _ _ _ h => h) (Or.inl ⟨by rfl, ?_⟩) (by assumption) ?_; rotate_left 1; (· (intro w0 hSw; (try dsimp only at hSw); go_simp; (try with_reducible rfl)))) | (refine wpAnyH_take (i := 10) (oi := ⟨_, _, _, _, _, _⟩) (v := undef) rfl (by kernel_rfl) (by kernel_rfl) (by kernel_rfl) (fun _ _ _ h => h) (Or.inr ⟨by rfl, rfl⟩) (by assumption) ?_)); (try simp only [Act.put, List.setIfInBounds_toArray, List.set_cons_zero, List.set_cons_succ])
  (first | (refine wpAnyH_take (i := 11) (oi := ⟨_, _, _, _, _, _⟩) (v := ?_) rfl (by kernel_rfl) (by kernel_rfl) (by kernel_rfl) (fun _ _ _ h => h) (Or.inl ⟨by rfl, ?_⟩) (by assumption) ?_; rotate_left 1; (· (intro w0 hSw; (try dsimp only at hSw); go_simp; (try with_reducible rfl)))) | (refine wpAnyH_take (i := 11) (oi := ⟨_, _, _, _, _, _⟩) (v := undef) rfl (by kernel_rfl) (by kernel_rfl) (by kernel_rfl) (fun _ _ _ h => h) (Or.inr ⟨by rfl, rfl⟩) (by assumption) ?_)); (try simp only [Act.put, List.setIfInBounds_toArray, List.set_cons_zero, List.set_cons_succ])
  (first | (refine wpAnyH_take (i := 12) (oi := ⟨_, _, _, _, _, _⟩) (v := ?_) rfl (by kernel_rfl) (by kernel_rfl) (by kernel_rfl) (fun _ _ _ h => h) (Or.inl ⟨by rfl, ?_⟩) (by assumption) ?_; rotate_left 1; (· (intro w0 hSw; (try dsimp only at hSw); go_simp; (try with_reducible rfl)))) | (refine wpAnyH_take (i := 12) (oi := ⟨_, _, _, _, _, _⟩) (v := undef) rfl (by kernel_rfl) (by kernel_rfl) (by kernel_rfl) (fun _ _ _ h => h) (Or.inr ⟨by rfl, rfl⟩) (by assumption) ?_)); (try simp only [Act.put, List.setIfInBounds_toArray, List.set_cons_zero, List.set_cons_succ])
  (first | (refine wpAnyH_take (i := 13) (oi := ⟨_, _, _, _, _, _⟩) (v := ?_) rfl (by kernel_rfl) (by kernel_rfl) (by kernel_rfl) (fun _ _ _ h => h) (Or.inl ⟨by rfl, ?_⟩) (by assumption) ?_; rotate_left 1; (· (intro w0 hSw; (try dsimp only at hSw); go_simp; (try with_reducible rfl)))) | (refine wpAnyH_take (i := 13) (oi := ⟨_, _, _, _, _, _⟩) (v := undef) rfl (by kernel_rfl) (by kernel_rfl) (by kernel_rfl) (fun _ _ _ h => h) (Or.inr ⟨by rfl, rfl⟩) (by assumption) ?_)); (try simp only [Act.put, List.setIfInBounds_toArray, List.set_cons_zero, List.set_cons_succ])
  (first | (refine wpAnyH_take (i := 14) (oi := ⟨_, _, _, _, _, _⟩) (v := ?_) rfl (by kernel_rfl) (by kernel_rfl) (by kernel_rfl) (fun _ _ _ h => h) (Or.inl ⟨by rfl, ?_⟩) (by assumption) ?_; rotate_left 1; (· (intro w0 hSw; (try dsimp only at hSw); go_simp; (try with_reducible rfl)))) | (refine wpAnyH_take (i := 14) (oi := ⟨_, _, _, _, _, _⟩) (v := undef) rfl (by kernel_rfl) (by kernel_rfl) (by kernel_rfl) (fun _ _ _ h => h) (Or.inr ⟨by rfl, rfl⟩) (by assumption) ?_)); (try simp only [Act.put, List.setIfInBounds_toArray, List.set_cons_zero, List.set_cons_succ])
  refine wpAnyH_ready (rs := [0]) (by kernel_rfl) (by simp) ?_
  refine AllReadyH.cons (o := ⟨_, _, _, _, _, _⟩) rfl (fun K hK => ?_) AllReadyH.nil
  go_simp
  refine hK.out _ _ ?_ (fun hHeld => ?_)
  · exact Below.allocS (by assumption) _
  clear hK K
  (try simp only [Act.put, List.setIfInBounds_toArray, List.set_cons_zero, List.set_cons_succ])
  refine wpAnyH_ready (rs := [7]) (by kernel_rfl) (by simp) ?_
  refine AllReadyH.cons (o := ⟨_, _, _, _, _, _⟩) rfl (fun K hK => ?_) AllReadyH.nil
  refine step_append_ok rfl (.tmp 116) (.tmp 122) 22 rfl _ _ rfl rfl HAP1.out ?_
  rintro v8 W8 ⟨hown8, hgr8, -⟩
  have hb8 : Below w7.heap.size w7 W8 := Below.grown hHeld hgr8 (by have := hHeld.size; omega) (fun j e => by cases e; exact Nat.le_refl _)
  refine hK.out _ _ ?_ (fun hHeld => ?_)
  · exact hb8
  clear hK K
  (try simp only [Act.put, List.setIfInBounds_toArray, List.set_cons_zero, List.set_cons_succ])
  have HO8 := Lib.hid hown8
  have HA2 := Lib.hid (HAP2.out W8 v8 hown8 hHeld)
  clear hown8 hgr8
  refine wpAnyH_ready (rs := [15]) (by kernel_rfl) (by simp) ?_
  refine AllReadyH.cons (o := ⟨_, _, _, _, _, _⟩) rfl (fun K hK => ?_) AllReadyH.nil
  refine step_append_ok rfl (.tmp 123) (.tmp 130) 22 rfl _ _ rfl (by simp [Act.eval, *]) HA2.out ?_
  rintro v9 W9 ⟨hown9, hgr9, -⟩
  obtain ⟨A9, c9, rfl, -, -⟩ := row_form hown9
  have hb9 : Below w7.heap.size w7 W9 := Below.grown hHeld hgr9 (by have := hHeld.size; omega) (fun j e => ((HO8.out).lt j e).1)
  refine hK.out _ _ ?_ (fun hHeld => ?_)
  · exact hb9
  clear hK K
  (try simp only [Act.put, List.setIfInBounds_toArray, List.set_cons_zero, List.set_cons_succ])
  (first | (refine wpAnyH_take (i := 16) (oi := ⟨_, _, _, _, _, _⟩) (v := ?_) rfl (by kernel_rfl) (by kernel_rfl) (by kernel_rfl) (fun _ _ _ h => h) (Or.inl ⟨by rfl, ?_⟩) (by assumption) ?_; rotate_left 1; (· (intro w0 hSw; (try dsimp only at hSw); go_simp; (try with_reducible rfl)))) | (refine wpAnyH_take (i := 16) (oi := ⟨_, _, _, _, _, _⟩) (v := undef) rfl (by kernel_rfl) (by kernel_rfl) (by kernel_rfl) (fun _ _ _ h => h) (Or.inr ⟨by rfl, rfl⟩) (by assumption) ?_)); (try simp only [Act.put, List.setIfInBounds_toArray, List.set_cons_zero, List.set_cons_succ])
  refine wpAnyH_done (by kernel_rfl) ?_ _
  have HI9 := Lib.hid (HIL.out W9 A9 c9 hHeld hown9)
  have g9 : Below w.heap.size w W9 := Below.step g7 hHeld
  clear hown9 hgr9 hb9 hb8 HNQ HIL HAP1 HAP2
  go_wp2_with fail
  rw [HQ2.out]
  refine (H4.out A9 c9 _ HI9.out).mono ?_
  rintro e w10 ⟨⟨A10, c10, rfl, s10⟩, hb10⟩
  have HI10 := Lib.hid (HI9.out.step hb10)
  have HW := Lib.hid (G4.out A9 c9 A10 c10 _ s10 HI10.out)
  have g10 : Below w.heap.size w w10 := Below.step g9 hb10
  clear s10 hb10 G4
  generalize R3.length = n3 at *
  go_wp2_with fail
  refine HW.out.mono ?_
  rintro e w11 ⟨rfl, hb11⟩
  have g11 : Below w.heap.size w w11 := Below.step g10 hb11
  clear hb11
  go_wp2_with fail
  refine (awake_c _).mono ?_
  rintro e w99 ⟨rfl, hb99⟩
  go_wp2
  go_ret
  exact ⟨rfl, Below.step g11 hb99⟩
end Go.Proofs.Ytomgaiokmdcjmaa
