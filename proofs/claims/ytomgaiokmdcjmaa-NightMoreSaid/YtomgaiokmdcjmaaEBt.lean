/-
  NightBest: the walk. No conditions.
-/
import Derived.Test.YtomgaiokmdcjmaaTN
import Derived.Test.YtomgaiokmdcjmaaNt33
import Derived.Test.YtomgaiokmdcjmaaNt25
namespace Go.Proofs.Ytomgaiokmdcjmaa
open Go.RowKit Go.Deep
set_option linter.unusedVariables false
set_option linter.unusedSimpArgs false
set_option maxHeartbeats 1000000 in
theorem fit_c (l : List Ch) (A : Option Addr) (cap : Nat) (L : List Cl) (B : Option Addr) (cb : Nat) (hl : l.length ≤ 9223372036854775807) (w : World) (hr : RdL w w.heap.size chE 5 A l) :
    Calls Try.prog 12 #[.slice A l.length cap, .slice B L.length cb] w fun e w' => (∃ x : Bool, e = .returned (.bool x) ∧ (x = true → l.length ≤ 30 ∧ (l.length ≤ 9 ∨ 20 < l.length) ∧ L.length ≤ 60)) ∧ Below w.heap.size w w' := by
  have HN1 := Lib.hid (named_c l A cap hl w hr)
  clear hr
  generalize l.length = n at *
  generalize L.length = m at *
  go_enter Try.func12, Try.ntmps12
  go_wp2_with fail
  refine (HN1.out).mono ?_
  rintro e w1 ⟨⟨X, rfl, hX⟩, hb1⟩
  have g1 : Below w.heap.size w w1 := by (repeat (first | exact Below.refl _ _ | refine Below.drew ?_ | refine Below.allocS ?_ _ | refine Below.step ?_ (by assumption) | refine Below.setCell ?_ (by simp <;> omega) _ | refine Below.drewN' ?_ _))
  clear hb1
  have HX := Lib.hid hX
  clear hX
  cases X
  case false =>
    go_wp2
    go_ret
    exact ⟨⟨false, rfl, fun e => by cases e⟩, by (repeat (first | exact Below.refl _ _ | refine Below.drew ?_ | refine Below.allocS ?_ _ | refine Below.step ?_ (by assumption) | refine Below.setCell ?_ (by simp <;> omega) _ | refine Below.drewN' ?_ _))⟩
  by_cases h9 : n ≤ 9
  · have d1 : decide ((n : Int) ≤ 9) = true := decide_eq_true (by omega)
    have d2 : decide (n ≤ 9) = true := decide_eq_true h9
    by_cases hm : m ≤ 60
    · have d3 : decide ((m : Int) ≤ 60) = true := decide_eq_true (by omega)
      have d4 : decide (m ≤ 60) = true := decide_eq_true hm
      have HH := Lib.hid (And.intro (HX.out rfl) (And.intro (Or.inl (b := 20 < n) h9) hm))
      clear h9 hm
      go_wp2
      go_ret
      exact ⟨⟨true, rfl, fun _ => HH.out⟩, by (repeat (first | exact Below.refl _ _ | refine Below.drew ?_ | refine Below.allocS ?_ _ | refine Below.step ?_ (by assumption) | refine Below.setCell ?_ (by simp <;> omega) _ | refine Below.drewN' ?_ _))⟩
    · have d3 : decide ((m : Int) ≤ 60) = false := decide_eq_false (by omega)
      have d4 : decide (m ≤ 60) = false := decide_eq_false hm
      clear h9 hm
      go_wp2
      go_ret
      exact ⟨⟨false, rfl, fun e => by cases e⟩, by (repeat (first | exact Below.refl _ _ | refine Below.drew ?_ | refine Below.allocS ?_ _ | refine Below.step ?_ (by assumption) | refine Below.setCell ?_ (by simp <;> omega) _ | refine Below.drewN' ?_ _))⟩
  have d1 : decide ((n : Int) ≤ 9) = false := decide_eq_false (by omega)
  have d2 : decide (n ≤ 9) = false := decide_eq_false h9
  by_cases h20 : 20 < n
  · have e1 : decide ((n : Int) > 20) = true := decide_eq_true (by omega)
    have e2 : decide (20 < n) = true := decide_eq_true h20
    by_cases hm : m ≤ 60
    · have d3 : decide ((m : Int) ≤ 60) = true := decide_eq_true (by omega)
      have d4 : decide (m ≤ 60) = true := decide_eq_true hm
      have HH := Lib.hid (And.intro (HX.out rfl) (And.intro (Or.inr (a := n ≤ 9) h20) hm))
      clear h9 hm h20
      go_wp2
      go_ret
      exact ⟨⟨true, rfl, fun _ => HH.out⟩, by (repeat (first | exact Below.refl _ _ | refine Below.drew ?_ | refine Below.allocS ?_ _ | refine Below.step ?_ (by assumption) | refine Below.setCell ?_ (by simp <;> omega) _ | refine Below.drewN' ?_ _))⟩
    · have d3 : decide ((m : Int) ≤ 60) = false := decide_eq_false (by omega)
      have d4 : decide (m ≤ 60) = false := decide_eq_false hm
      clear h9 hm h20
      go_wp2
      go_ret
      exact ⟨⟨false, rfl, fun e => by cases e⟩, by (repeat (first | exact Below.refl _ _ | refine Below.drew ?_ | refine Below.allocS ?_ _ | refine Below.step ?_ (by assumption) | refine Below.setCell ?_ (by simp <;> omega) _ | refine Below.drewN' ?_ _))⟩
  have e1 : decide ((n : Int) > 20) = false := decide_eq_false (by omega)
  have e2 : decide (20 < n) = false := decide_eq_false h20
  clear h9 h20
  go_wp2
  go_ret
  exact ⟨⟨false, rfl, fun e => by cases e⟩, by (repeat (first | exact Below.refl _ _ | refine Below.drew ?_ | refine Below.allocS ?_ _ | refine Below.step ?_ (by assumption) | refine Below.setCell ?_ (by simp <;> omega) _ | refine Below.drewN' ?_ _))⟩
theorem nats_map (xs : List Nat) : nats (xs.map Int.ofNat) = xs := by
  unfold nats
  rw [List.map_map]
  exact List.map_id' xs
theorem lstB_nat {n : Nat} {xs : List Nat} (h : ∀ i ∈ xs, i < n) : lstB n (xs.map Int.ofNat) = true := by
  unfold lstB
  rw [List.all_eq_true]
  intro i hi
  obtain ⟨k, hk, rfl⟩ := List.mem_map.1 hi
  have := h k hk
  unfold within
  rw [decide_eq_true (show (0 : Int) ≤ Int.ofNat k from Int.natCast_nonneg k), decide_eq_true (show Int.ofNat k ≤ (n : Int) - 1 by show (k : Int) ≤ _; omega)]
  rfl
theorem right_of {l : List Ch} {L : List Cl} {per : Int} (h0 : asE l L per = 0) {xs : List Nat} (h : Rt l L per xs) : rightE l L per (xs.map Int.ofNat) = true := by
  have h1 := rgt_iff.2 h
  unfold rightE
  rw [decide_eq_true h0, lstB_nat h1.2, nats_map, h1.1]
  rfl
theorem rt_of {l : List Ch} {L : List Cl} {per : Int} {r : List Int} (h : rightE l L per r = true) : asE l L per = 0 ∧ lstB l.length r = true ∧ Rt l L per (nats r) := by
  unfold rightE at h
  simp only [Bool.and_eq_true, decide_eq_true_eq] at h
  exact ⟨h.1, h.2.1, rgt_iff.1 ⟨h.2.2, nats_lt h.2.1⟩⟩
theorem wth_of {l : List Ch} {L : List Cl} {per : Int} {r : List Int} (h : rightE l L per r = true) : wthE l r = 0 ∧ wthV l r = worthL l (nats r) := by
  have h1 := rt_of h
  have h2 : wthE l r = 0 := wthE_ok.2 ⟨(by
    have := h1.1
    unfold asE at this
    by_cases k : (okV l && okCl L) = true
    · rw [Bool.and_eq_true] at k; exact k.1
    · rw [if_neg k] at this; cases this), h1.2.1, by
    have := (rgt_iff.2 h1.2.2).1
    unfold rgtB at this
    rw [nats_back h1.2.1, Bool.and_eq_true] at this
    exact this.2⟩
  exact ⟨h2, by unfold wthV; rw [if_pos h2]⟩
/-- All that the law asks of the best list and of any right one. -/
theorem best_facts {l : List Ch} {L : List Cl} {per : Int} (h0 : asE l L per = 0) : bstE l L per = bestL l L per ∧ rightE l L per ((bstE l L per).map Int.ofNat) = true ∧ isbE l L per ((bstE l L per).map Int.ofNat) = true ∧ (bstE l L per).length ≤ mstE l L per ∧
    wthE l ((bstE l L per).map Int.ofNat) = 0 ∧ ∀ r, rightE l L per r = true → wthE l r = 0 ∧ wthV l r ≤ wthV l ((bstE l L per).map Int.ofNat) ∧ r.length ≤ mstE l L per := by
  have e1 : bstE l L per = bestL l L per := by unfold bstE; rw [if_pos h0]
  have e2 : mstE l L per = mostL l L per := by unfold mstE; rw [if_pos h0]
  have hb := bestL_spec l L per
  have hr := right_of h0 hb.1
  rw [← e1] at hr
  have hw := wth_of hr
  refine ⟨e1, hr, ?_, ?_, hw.1, fun r h => ⟨(wth_of h).1, ?_, ?_⟩⟩
  · unfold isbE
    rw [decide_eq_true h0, decide_eq_true rfl]
    rfl
  · rw [e1, e2]; exact most_ge hb.1
  · rw [hw.2, (wth_of h).2, nats_map, e1]
    exact btr_worth (hb.2 _ (rt_of h).2.2)
  · have := most_ge (rt_of h).2.2
    rw [nats_len] at this
    rw [e2]; exact this
set_option maxHeartbeats 8000000 in
set_option maxRecDepth 100000 in
theorem NightBest_walk (w : World) (A : Option Addr) (cap : Nat) (l : List Ch) (B : Option Addr) (cb : Nat) (L : List Cl) (per : Int) (C : Option Addr) (cc : Nat) (r : List Int) (hl : l.length ≤ cap) (hm : cap ≤ maxLen) (hr : RdL w w.heap.size chE 5 A l) (hw : ∀ x ∈ l, ChOk x)
    (kl : L.length ≤ cb) (km : cb ≤ maxLen) (kr : RdL w w.heap.size clE 2 B L) (kw : ∀ x ∈ L, ∃ g : Nat → Int, x = (⟨g 0, g 1⟩ : Cl) ∧ ∀ j, j < 2 → I64 (g j)) (hp : I64 per)
    (jl : r.length ≤ cc) (jm : cc ≤ maxLen) (jr : RdL w w.heap.size inE 1 C r) (jw : ∀ x ∈ r, ∃ g : Nat → Int, x = g 0 ∧ ∀ j, j < 1 → I64 (g j)) :
    Calls Try.prog 8 #[.slice A l.length cap, .slice B L.length cb, .int .i64 per, .slice C r.length cc] w fun e w' => e = .returned (.bool true) ∧ Below w.heap.size w w' := by
  have HN1 := Lib.hid (fun W (hb : Below w.heap.size w W) => fit_c l A cap L B cb (by unfold maxLen at hm; omega) W (hr.step hb))
  have HIN : Hid (l.length ≤ 30 → L.length ≤ 60 → InAt w l A cap L B cb) := Lib.hid (fun h1 h2 => InAt.of_args (cb := cb) hl hr hw kr h1 h2)
  obtain ⟨m, hmm⟩ : ∃ m, m = r.length := ⟨_, rfl⟩
  have HM := Lib.hid hmm.symm
  rw [← hmm]
  have H1 : Hid (∀ W, InAt W l A cap L B cb → Calls Try.prog 14 #[.slice A l.length cap, .slice B L.length cb, .int .i64 per] W fun e w' => (∃ A c, e = .returned (.tuple #[.slice A (bstE l L per).length c, .int .i64 (asE l L per)]) ∧ SlAt w' l.length ⟨A, c, bstE l L per⟩) ∧ Below W.heap.size W w') := Lib.hid (fun W h => (Best_c l A cap L B cb per W h).mono (by
    rintro e w' ⟨⟨⟨A', c', xx⟩, rfl, h1, h2⟩, hb⟩
    obtain rfl : xx = _ := h2
    exact ⟨⟨A', c', rfl, h1⟩, hb⟩))
  have H2 : Hid (l.length ≤ 9 ∨ 20 < l.length → ∀ W, InAt W l A cap L B cb → Calls Try.prog 38 #[.slice A l.length cap, .slice B L.length cb, .int .i64 per] W fun e w' => (∃ A c, e = .returned (.tuple #[.slice A (bstE l L per).length c, .int .i64 (asE l L per)]) ∧ SlAt w' l.length ⟨A, c, bstE l L per⟩) ∧ Below W.heap.size W w') := Lib.hid (fun h9 W h => (rBest_c l A cap L B cb per h9 W h).mono (by
    rintro e w' ⟨⟨⟨A', c', xx⟩, rfl, h1, h2⟩, hb⟩
    obtain rfl : xx = _ := h2
    exact ⟨⟨A', c', rfl, h1⟩, hb⟩))
  have H3 := Lib.hid (fun (h30 : l.length ≤ 30) W (h : InAt W l A cap L B cb) => Most_c l A cap L B cb per h30 W h)
  have H4 := Lib.hid (fun (h9 : l.length ≤ 9 ∨ 20 < l.length) W (h : InAt W l A cap L B cb) => rMost_c l A cap L B cb per h9 W h)
  have H5 := Lib.hid (fun (h1 : m ≤ 1000) W (hb : Below w.heap.size w W) (h : InAt W l A cap L B cb) => IsBest_c l A cap L B cb per W h r m HM.out h1 C cc (jr.step hb))
  have H6 := Lib.hid (fun (h9 : l.length ≤ 9 ∨ 20 < l.length) (h1 : m ≤ 1000) W (hb : Below w.heap.size w W) (h : InAt W l A cap L B cb) => rIsBest_c l A cap L B cb per h9 W h r m HM.out h1 C cc (jr.step hb))
  have H7 := Lib.hid (fun (h1 : m ≤ 1000) W (hb : Below w.heap.size w W) (h : InAt W l A cap L B cb) => Right_c l A cap L B cb per W h r m HM.out h1 C cc (jr.step hb))
  have H8 := Lib.hid (fun (h1 : m ≤ 1000) W (hb : Below w.heap.size w W) (h : InAt W l A cap L B cb) => Worth_c l A cap h.hl h.hs W h.hr r m HM.out h1 C cc (jr.step hb))
  -- of the best list
  have G1 : Hid (∀ A1 c1 W, SlAt W l.length ⟨A1, c1, bstE l L per⟩ → InAt W l A cap L B cb → Calls Try.prog 31 #[.slice A l.length cap, .slice B L.length cb, .int .i64 per, .slice A1 (bstE l L per).length c1] W fun e w' => e = .returned (.bool (rightE l L per ((bstE l L per).map Int.ofNat))) ∧ Below W.heap.size W w') := Lib.hid (fun A1 c1 W hs h => Right_c l A cap L B cb per W h _ _ (List.length_map ..) hs.l A1 c1 hs.r)
  have G2 : Hid (∀ A1 c1 W, SlAt W l.length ⟨A1, c1, bstE l L per⟩ → InAt W l A cap L B cb → Calls Try.prog 41 #[.slice A l.length cap, .slice B L.length cb, .int .i64 per, .slice A1 (bstE l L per).length c1] W fun e w' => e = .returned (.bool (isbE l L per ((bstE l L per).map Int.ofNat))) ∧ Below W.heap.size W w') := Lib.hid (fun A1 c1 W hs h => IsBest_c l A cap L B cb per W h _ _ (List.length_map ..) hs.l A1 c1 hs.r)
  have G3 : Hid (∀ A1 c1 W, SlAt W l.length ⟨A1, c1, bstE l L per⟩ → InAt W l A cap L B cb → Calls Try.prog 15 #[.slice A l.length cap, .slice A1 (bstE l L per).length c1] W fun e w' => e = .returned (.tuple #[.int .i64 (wthV l ((bstE l L per).map Int.ofNat)), .int .i64 (wthE l ((bstE l L per).map Int.ofNat))]) ∧ Below W.heap.size W w') := Lib.hid (fun A1 c1 W hs h => Worth_c l A cap h.hl h.hs W h.hr _ _ (List.length_map ..) hs.l A1 c1 hs.r)
  have G4 : Hid (∀ A1 c1 A2 c2 W, SlAt W l.length ⟨A1, c1, bstE l L per⟩ → SlAt W l.length ⟨A2, c2, bstE l L per⟩ → Calls Try.prog 27 #[.slice A1 (bstE l L per).length c1, .slice A2 (bstE l L per).length c2] W fun e w' => e = .returned (.bool true) ∧ Below W.heap.size W w') := Lib.hid (fun A1 c1 A2 c2 W h1 h2 => (SameInts_c ((bstE l L per).map Int.ofNat) ((bstE l L per).map Int.ofNat) (bstE l L per).length (bstE l L per).length (List.length_map ..) (List.length_map ..) A1 A2 c1 c2 (by have : (bstE l L per).length ≤ 1000 := h1.l; omega) W h1.r h2.r).mono fun e w' h => ⟨by rw [h.1]; simp, h.2⟩)
  have HF := Lib.hid (@best_facts l L per)
  have HFR := Lib.hid (fun (h0 : asE l L per = 0) (hr : rightE l L per r = true) => (best_facts h0).2.2.2.2.2 r hr)
  rw [HM.out] at HFR
  clear hl hm hr hw kl km kr kw hp jl jm jr jw hmm HM
  have HF1 : Hid (asE l L per = 0 → rightE l L per ((bstE l L per).map Int.ofNat) = true ∧ isbE l L per ((bstE l L per).map Int.ofNat) = true ∧ (bstE l L per).length ≤ mstE l L per ∧ wthE l ((bstE l L per).map Int.ofNat) = 0) := Lib.hid (fun h => ⟨(HF.out h).2.1, (HF.out h).2.2.1, (HF.out h).2.2.2.1, (HF.out h).2.2.2.2.1⟩)
  clear HF
  generalize isbE l L per r = I1 at *
  generalize isbE l L per ((bstE l L per).map Int.ofNat) = I2 at *
  generalize rightE l L per ((bstE l L per).map Int.ofNat) = R2 at *
  generalize rightE l L per r = R1 at *
  generalize wthE l ((bstE l L per).map Int.ofNat) = E2 at *
  generalize wthV l ((bstE l L per).map Int.ofNat) = V2 at *
  generalize wthE l r = E1 at *
  generalize wthV l r = V1 at *
  generalize asE l L per = v at *
  generalize mstE l L per = mo at *
  generalize bstE l L per = R at *
  generalize l.length = n at *
  generalize L.length = nL at *
  obtain ⟨rl, hrl⟩ : ∃ rl, rl = R.length := ⟨_, rfl⟩
  rw [← hrl] at H1 H2 G1 G2 G3 G4 HF1
  clear hrl
  go_enter Try.func8, Try.ntmps8
  go_wp2_with fail
  refine (HN1.out _ (by (repeat (first | exact Below.refl _ _ | refine Below.drew ?_ | refine Below.allocS ?_ _ | refine Below.step ?_ (by assumption) | refine Below.setCell ?_ (by simp <;> omega) _ | refine Below.drewN' ?_ _)))).mono ?_
  rintro e w1 ⟨⟨X0, rfl, hX0⟩, hb1⟩
  have g1 : Below w.heap.size w w1 := by (repeat (first | exact Below.refl _ _ | refine Below.drew ?_ | refine Below.allocS ?_ _ | refine Below.step ?_ (by assumption) | refine Below.setCell ?_ (by simp <;> omega) _ | refine Below.drewN' ?_ _))
  clear hb1
  have HX0 := Lib.hid hX0
  clear hX0
  cases X0
  case false =>
    go_wp2_with fail
    refine (awake_c _).mono ?_
    rintro e w2 ⟨rfl, hb2⟩
    go_wp2
    go_ret
    exact ⟨rfl, by (repeat (first | exact Below.refl _ _ | refine Below.drew ?_ | refine Below.allocS ?_ _ | refine Below.step ?_ (by assumption) | refine Below.setCell ?_ (by simp <;> omega) _ | refine Below.drewN' ?_ _))⟩
  have hfit := HX0.out rfl
  clear HX0
  by_cases hm40 : m ≤ 40
  case neg =>
    have u2 : decide ((m : Int) > 40) = true := decide_eq_true (by omega)
    clear hfit
    go_wp2_with fail
    refine (awake_c _).mono ?_
    rintro e w3 ⟨rfl, hb3⟩
    go_wp2
    go_ret
    exact ⟨rfl, by (repeat (first | exact Below.refl _ _ | refine Below.drew ?_ | refine Below.allocS ?_ _ | refine Below.step ?_ (by assumption) | refine Below.setCell ?_ (by simp <;> omega) _ | refine Below.drewN' ?_ _))⟩
  have u2 : decide ((m : Int) > 40) = false := decide_eq_false (by omega)
  have hm1 : m ≤ 1000 := by omega
  have HI := Lib.hid (HIN.out hfit.1 hfit.2.2)
  have z2 := Lib.hid (H2.out hfit.2.1)
  have z3 := Lib.hid (H3.out hfit.1)
  have z4 := Lib.hid (H4.out hfit.2.1)
  have z5 := Lib.hid (H5.out hm1)
  have z6 := Lib.hid (H6.out hfit.2.1 hm1)
  have z7 := Lib.hid (H7.out hm1)
  have z8 := Lib.hid (H8.out hm1)
  clear hfit hm40 HIN HN1 H2 H3 H4 H5 H6 H7 H8
  go_wp2_with fail
  refine (H1.out _ (HI.out.step (by (repeat (first | exact Below.refl _ _ | refine Below.drew ?_ | refine Below.allocS ?_ _ | refine Below.step ?_ (by assumption) | refine Below.setCell ?_ (by simp <;> omega) _ | refine Below.drewN' ?_ _))))).mono ?_
  rintro e w2 ⟨⟨A2, c2, rfl, s2⟩, hb2⟩
  have g2 : Below w.heap.size w w2 := by (repeat (first | exact Below.refl _ _ | refine Below.drew ?_ | refine Below.allocS ?_ _ | refine Below.step ?_ (by assumption) | refine Below.setCell ?_ (by simp <;> omega) _ | refine Below.drewN' ?_ _))
  clear hb2 g1 
  go_wp2_with fail
  refine (z2.out _ (HI.out.step (by (repeat (first | exact Below.refl _ _ | refine Below.drew ?_ | refine Below.allocS ?_ _ | refine Below.step ?_ (by assumption) | refine Below.setCell ?_ (by simp <;> omega) _ | refine Below.drewN' ?_ _))))).mono ?_
  rintro e w3 ⟨⟨A3, c3, rfl, s3⟩, hb3⟩
  replace s2 := s2.step (W := w3) (by (repeat (first | exact Below.refl _ _ | refine Below.drew ?_ | refine Below.allocS ?_ _ | refine Below.step ?_ (by assumption) | refine Below.setCell ?_ (by simp <;> omega) _ | refine Below.drewN' ?_ _)))
  have g3 : Below w.heap.size w w3 := by (repeat (first | exact Below.refl _ _ | refine Below.drew ?_ | refine Below.allocS ?_ _ | refine Below.step ?_ (by assumption) | refine Below.setCell ?_ (by simp <;> omega) _ | refine Below.drewN' ?_ _))
  clear hb3 g2 
  go_wp2_with fail
  refine (z3.out _ (HI.out.step (by (repeat (first | exact Below.refl _ _ | refine Below.drew ?_ | refine Below.allocS ?_ _ | refine Below.step ?_ (by assumption) | refine Below.setCell ?_ (by simp <;> omega) _ | refine Below.drewN' ?_ _))))).mono ?_
  rintro e w4 ⟨rfl, hb4⟩
  replace s2 := s2.step (W := w4) (by (repeat (first | exact Below.refl _ _ | refine Below.drew ?_ | refine Below.allocS ?_ _ | refine Below.step ?_ (by assumption) | refine Below.setCell ?_ (by simp <;> omega) _ | refine Below.drewN' ?_ _)))
  replace s3 := s3.step (W := w4) (by (repeat (first | exact Below.refl _ _ | refine Below.drew ?_ | refine Below.allocS ?_ _ | refine Below.step ?_ (by assumption) | refine Below.setCell ?_ (by simp <;> omega) _ | refine Below.drewN' ?_ _)))
  have g4 : Below w.heap.size w w4 := by (repeat (first | exact Below.refl _ _ | refine Below.drew ?_ | refine Below.allocS ?_ _ | refine Below.step ?_ (by assumption) | refine Below.setCell ?_ (by simp <;> omega) _ | refine Below.drewN' ?_ _))
  clear hb4 g3 
  go_wp2_with fail
  refine (z4.out _ (HI.out.step (by (repeat (first | exact Below.refl _ _ | refine Below.drew ?_ | refine Below.allocS ?_ _ | refine Below.step ?_ (by assumption) | refine Below.setCell ?_ (by simp <;> omega) _ | refine Below.drewN' ?_ _))))).mono ?_
  rintro e w5 ⟨rfl, hb5⟩
  replace s2 := s2.step (W := w5) (by (repeat (first | exact Below.refl _ _ | refine Below.drew ?_ | refine Below.allocS ?_ _ | refine Below.step ?_ (by assumption) | refine Below.setCell ?_ (by simp <;> omega) _ | refine Below.drewN' ?_ _)))
  replace s3 := s3.step (W := w5) (by (repeat (first | exact Below.refl _ _ | refine Below.drew ?_ | refine Below.allocS ?_ _ | refine Below.step ?_ (by assumption) | refine Below.setCell ?_ (by simp <;> omega) _ | refine Below.drewN' ?_ _)))
  have g5 : Below w.heap.size w w5 := by (repeat (first | exact Below.refl _ _ | refine Below.drew ?_ | refine Below.allocS ?_ _ | refine Below.step ?_ (by assumption) | refine Below.setCell ?_ (by simp <;> omega) _ | refine Below.drewN' ?_ _))
  clear hb5 g4 
  go_wp2_with fail
  refine (G4.out A2 c2 A3 c3 _ s2 s3).mono ?_
  rintro e w6 ⟨rfl, hb6⟩
  replace s2 := s2.step (W := w6) (by (repeat (first | exact Below.refl _ _ | refine Below.drew ?_ | refine Below.allocS ?_ _ | refine Below.step ?_ (by assumption) | refine Below.setCell ?_ (by simp <;> omega) _ | refine Below.drewN' ?_ _)))
  replace s3 := s3.step (W := w6) (by (repeat (first | exact Below.refl _ _ | refine Below.drew ?_ | refine Below.allocS ?_ _ | refine Below.step ?_ (by assumption) | refine Below.setCell ?_ (by simp <;> omega) _ | refine Below.drewN' ?_ _)))
  have g6 : Below w.heap.size w w6 := by (repeat (first | exact Below.refl _ _ | refine Below.drew ?_ | refine Below.allocS ?_ _ | refine Below.step ?_ (by assumption) | refine Below.setCell ?_ (by simp <;> omega) _ | refine Below.drewN' ?_ _))
  clear hb6 g5 
  go_wp2_with fail
  refine (z5.out _ (by (repeat (first | exact Below.refl _ _ | refine Below.drew ?_ | refine Below.allocS ?_ _ | refine Below.step ?_ (by assumption) | refine Below.setCell ?_ (by simp <;> omega) _ | refine Below.drewN' ?_ _))) (HI.out.step (by (repeat (first | exact Below.refl _ _ | refine Below.drew ?_ | refine Below.allocS ?_ _ | refine Below.step ?_ (by assumption) | refine Below.setCell ?_ (by simp <;> omega) _ | refine Below.drewN' ?_ _))))).mono ?_
  rintro e w7 ⟨rfl, hb7⟩
  replace s2 := s2.step (W := w7) (by (repeat (first | exact Below.refl _ _ | refine Below.drew ?_ | refine Below.allocS ?_ _ | refine Below.step ?_ (by assumption) | refine Below.setCell ?_ (by simp <;> omega) _ | refine Below.drewN' ?_ _)))
  replace s3 := s3.step (W := w7) (by (repeat (first | exact Below.refl _ _ | refine Below.drew ?_ | refine Below.allocS ?_ _ | refine Below.step ?_ (by assumption) | refine Below.setCell ?_ (by simp <;> omega) _ | refine Below.drewN' ?_ _)))
  have g7 : Below w.heap.size w w7 := by (repeat (first | exact Below.refl _ _ | refine Below.drew ?_ | refine Below.allocS ?_ _ | refine Below.step ?_ (by assumption) | refine Below.setCell ?_ (by simp <;> omega) _ | refine Below.drewN' ?_ _))
  clear hb7 g6 
  go_wp2_with fail
  refine (z6.out _ (by (repeat (first | exact Below.refl _ _ | refine Below.drew ?_ | refine Below.allocS ?_ _ | refine Below.step ?_ (by assumption) | refine Below.setCell ?_ (by simp <;> omega) _ | refine Below.drewN' ?_ _))) (HI.out.step (by (repeat (first | exact Below.refl _ _ | refine Below.drew ?_ | refine Below.allocS ?_ _ | refine Below.step ?_ (by assumption) | refine Below.setCell ?_ (by simp <;> omega) _ | refine Below.drewN' ?_ _))))).mono ?_
  rintro e w8 ⟨rfl, hb8⟩
  replace s2 := s2.step (W := w8) (by (repeat (first | exact Below.refl _ _ | refine Below.drew ?_ | refine Below.allocS ?_ _ | refine Below.step ?_ (by assumption) | refine Below.setCell ?_ (by simp <;> omega) _ | refine Below.drewN' ?_ _)))
  replace s3 := s3.step (W := w8) (by (repeat (first | exact Below.refl _ _ | refine Below.drew ?_ | refine Below.allocS ?_ _ | refine Below.step ?_ (by assumption) | refine Below.setCell ?_ (by simp <;> omega) _ | refine Below.drewN' ?_ _)))
  have g8 : Below w.heap.size w w8 := by (repeat (first | exact Below.refl _ _ | refine Below.drew ?_ | refine Below.allocS ?_ _ | refine Below.step ?_ (by assumption) | refine Below.setCell ?_ (by simp <;> omega) _ | refine Below.drewN' ?_ _))
  clear hb8 g7 
  clear z2 z3 z4 z5 z6 G4 H1
  by_cases hv : v = 0
  case neg =>
    have q1 : (v != 0) = true := by simp [hv]
    clear hv
    go_wp2_with fail
    refine (awake_c _).mono ?_
    rintro e w99 ⟨rfl, hb99⟩
    go_wp2
    go_ret
    exact ⟨rfl, by (repeat (first | exact Below.refl _ _ | refine Below.drew ?_ | refine Below.allocS ?_ _ | refine Below.step ?_ (by assumption) | refine Below.setCell ?_ (by simp <;> omega) _ | refine Below.drewN' ?_ _))⟩
  subst hv
  obtain ⟨hf1, hf2, hf3, hf4⟩ := HF1.out rfl
  subst hf1 hf2 hf4
  have HFR1 := Lib.hid (HFR.out rfl)
  have d1 : decide ((rl : Int) > (mo : Int)) = false := decide_eq_false (by omega)
  have d2 : decide (mo < rl) = false := decide_eq_false (by omega)
  clear HF1 HFR hf3
  go_wp2_with fail
  refine (G1.out A2 c2 _ s2 (HI.out.step (by (repeat (first | exact Below.refl _ _ | refine Below.drew ?_ | refine Below.allocS ?_ _ | refine Below.step ?_ (by assumption) | refine Below.setCell ?_ (by simp <;> omega) _ | refine Below.drewN' ?_ _))))).mono ?_
  rintro e w9 ⟨rfl, hb9⟩
  replace s2 := s2.step (W := w9) (by (repeat (first | exact Below.refl _ _ | refine Below.drew ?_ | refine Below.allocS ?_ _ | refine Below.step ?_ (by assumption) | refine Below.setCell ?_ (by simp <;> omega) _ | refine Below.drewN' ?_ _)))
  replace s3 := s3.step (W := w9) (by (repeat (first | exact Below.refl _ _ | refine Below.drew ?_ | refine Below.allocS ?_ _ | refine Below.step ?_ (by assumption) | refine Below.setCell ?_ (by simp <;> omega) _ | refine Below.drewN' ?_ _)))
  have g9 : Below w.heap.size w w9 := by (repeat (first | exact Below.refl _ _ | refine Below.drew ?_ | refine Below.allocS ?_ _ | refine Below.step ?_ (by assumption) | refine Below.setCell ?_ (by simp <;> omega) _ | refine Below.drewN' ?_ _))
  clear hb9 g8 
  go_wp2_with fail
  refine (G2.out A2 c2 _ s2 (HI.out.step (by (repeat (first | exact Below.refl _ _ | refine Below.drew ?_ | refine Below.allocS ?_ _ | refine Below.step ?_ (by assumption) | refine Below.setCell ?_ (by simp <;> omega) _ | refine Below.drewN' ?_ _))))).mono ?_
  rintro e w10 ⟨rfl, hb10⟩
  replace s2 := s2.step (W := w10) (by (repeat (first | exact Below.refl _ _ | refine Below.drew ?_ | refine Below.allocS ?_ _ | refine Below.step ?_ (by assumption) | refine Below.setCell ?_ (by simp <;> omega) _ | refine Below.drewN' ?_ _)))
  replace s3 := s3.step (W := w10) (by (repeat (first | exact Below.refl _ _ | refine Below.drew ?_ | refine Below.allocS ?_ _ | refine Below.step ?_ (by assumption) | refine Below.setCell ?_ (by simp <;> omega) _ | refine Below.drewN' ?_ _)))
  have g10 : Below w.heap.size w w10 := by (repeat (first | exact Below.refl _ _ | refine Below.drew ?_ | refine Below.allocS ?_ _ | refine Below.step ?_ (by assumption) | refine Below.setCell ?_ (by simp <;> omega) _ | refine Below.drewN' ?_ _))
  clear hb10 g9 
  go_wp2_with fail
  refine (z7.out _ (by (repeat (first | exact Below.refl _ _ | refine Below.drew ?_ | refine Below.allocS ?_ _ | refine Below.step ?_ (by assumption) | refine Below.setCell ?_ (by simp <;> omega) _ | refine Below.drewN' ?_ _))) (HI.out.step (by (repeat (first | exact Below.refl _ _ | refine Below.drew ?_ | refine Below.allocS ?_ _ | refine Below.step ?_ (by assumption) | refine Below.setCell ?_ (by simp <;> omega) _ | refine Below.drewN' ?_ _))))).mono ?_
  rintro e w11 ⟨rfl, hb11⟩
  replace s2 := s2.step (W := w11) (by (repeat (first | exact Below.refl _ _ | refine Below.drew ?_ | refine Below.allocS ?_ _ | refine Below.step ?_ (by assumption) | refine Below.setCell ?_ (by simp <;> omega) _ | refine Below.drewN' ?_ _)))
  replace s3 := s3.step (W := w11) (by (repeat (first | exact Below.refl _ _ | refine Below.drew ?_ | refine Below.allocS ?_ _ | refine Below.step ?_ (by assumption) | refine Below.setCell ?_ (by simp <;> omega) _ | refine Below.drewN' ?_ _)))
  have g11 : Below w.heap.size w w11 := by (repeat (first | exact Below.refl _ _ | refine Below.drew ?_ | refine Below.allocS ?_ _ | refine Below.step ?_ (by assumption) | refine Below.setCell ?_ (by simp <;> omega) _ | refine Below.drewN' ?_ _))
  clear hb11 g10 
  clear z7 G1 G2
  cases R1
  case false =>
    go_wp2_with fail
    refine (awake_c _).mono ?_
    rintro e w99 ⟨rfl, hb99⟩
    go_wp2
    go_ret
    exact ⟨rfl, by (repeat (first | exact Below.refl _ _ | refine Below.drew ?_ | refine Below.allocS ?_ _ | refine Below.step ?_ (by assumption) | refine Below.setCell ?_ (by simp <;> omega) _ | refine Below.drewN' ?_ _))⟩
  obtain ⟨hg1, hg2, hg3⟩ := HFR1.out rfl
  subst hg1
  have d3 : decide (V1 ≤ V2) = true := decide_eq_true hg2
  have d4 : decide ((m : Int) ≤ (mo : Int)) = true := decide_eq_true (by omega)
  have d5 : decide (m ≤ mo) = true := decide_eq_true hg3
  clear hg2 hg3 HFR1
  go_wp2_with fail
  refine (G3.out A2 c2 _ s2 (HI.out.step (by (repeat (first | exact Below.refl _ _ | refine Below.drew ?_ | refine Below.allocS ?_ _ | refine Below.step ?_ (by assumption) | refine Below.setCell ?_ (by simp <;> omega) _ | refine Below.drewN' ?_ _))))).mono ?_
  rintro e w12 ⟨rfl, hb12⟩
  replace s2 := s2.step (W := w12) (by (repeat (first | exact Below.refl _ _ | refine Below.drew ?_ | refine Below.allocS ?_ _ | refine Below.step ?_ (by assumption) | refine Below.setCell ?_ (by simp <;> omega) _ | refine Below.drewN' ?_ _)))
  replace s3 := s3.step (W := w12) (by (repeat (first | exact Below.refl _ _ | refine Below.drew ?_ | refine Below.allocS ?_ _ | refine Below.step ?_ (by assumption) | refine Below.setCell ?_ (by simp <;> omega) _ | refine Below.drewN' ?_ _)))
  have g12 : Below w.heap.size w w12 := by (repeat (first | exact Below.refl _ _ | refine Below.drew ?_ | refine Below.allocS ?_ _ | refine Below.step ?_ (by assumption) | refine Below.setCell ?_ (by simp <;> omega) _ | refine Below.drewN' ?_ _))
  clear hb12 g11 
  go_wp2_with fail
  refine (z8.out _ (by (repeat (first | exact Below.refl _ _ | refine Below.drew ?_ | refine Below.allocS ?_ _ | refine Below.step ?_ (by assumption) | refine Below.setCell ?_ (by simp <;> omega) _ | refine Below.drewN' ?_ _))) (HI.out.step (by (repeat (first | exact Below.refl _ _ | refine Below.drew ?_ | refine Below.allocS ?_ _ | refine Below.step ?_ (by assumption) | refine Below.setCell ?_ (by simp <;> omega) _ | refine Below.drewN' ?_ _))))).mono ?_
  rintro e w13 ⟨rfl, hb13⟩
  replace s2 := s2.step (W := w13) (by (repeat (first | exact Below.refl _ _ | refine Below.drew ?_ | refine Below.allocS ?_ _ | refine Below.step ?_ (by assumption) | refine Below.setCell ?_ (by simp <;> omega) _ | refine Below.drewN' ?_ _)))
  replace s3 := s3.step (W := w13) (by (repeat (first | exact Below.refl _ _ | refine Below.drew ?_ | refine Below.allocS ?_ _ | refine Below.step ?_ (by assumption) | refine Below.setCell ?_ (by simp <;> omega) _ | refine Below.drewN' ?_ _)))
  have g13 : Below w.heap.size w w13 := by (repeat (first | exact Below.refl _ _ | refine Below.drew ?_ | refine Below.allocS ?_ _ | refine Below.step ?_ (by assumption) | refine Below.setCell ?_ (by simp <;> omega) _ | refine Below.drewN' ?_ _))
  clear hb13 g12 
  go_wp2_with fail
  refine (awake_c _).mono ?_
  rintro e w99 ⟨rfl, hb99⟩
  go_wp2
  go_ret
  exact ⟨rfl, by (repeat (first | exact Below.refl _ _ | refine Below.drew ?_ | refine Below.allocS ?_ _ | refine Below.step ?_ (by assumption) | refine Below.setCell ?_ (by simp <;> omega) _ | refine Below.drewN' ?_ _))⟩
end Go.Proofs.Ytomgaiokmdcjmaa
