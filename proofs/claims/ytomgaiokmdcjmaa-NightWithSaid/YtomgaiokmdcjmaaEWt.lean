/-
  NightWith: the walk. No conditions.
-/
import Derived.Test.YtomgaiokmdcjmaaEBt
import Derived.Test.YtomgaiokmdcjmaaNt37
namespace Go.Proofs.Ytomgaiokmdcjmaa
open Go.RowKit Go.Deep
set_option linter.unusedVariables false
set_option linter.unusedSimpArgs false
theorem with_facts {l : List Ch} {L : List Cl} {per i : Int} (h : wiE l L per i = 0) : asE l L per = 0 ∧ hasB (wiR l L per i) i = true ∧ rightE l L per ((wiR l L per i).map Int.ofNat) = true ∧ wthE l ((wiR l L per i).map Int.ofNat) = 0 ∧ wthE l ((bstE l L per).map Int.ofNat) = 0 ∧
    wthV l ((wiR l L per i).map Int.ofNat) ≤ wthV l ((bstE l L per).map Int.ofNat) := by
  obtain ⟨h0, k, rfl, hk, hc⟩ := wi_ok h
  have e : wiR l L per (k : Int) = withL l L per k := by unfold wiR; rw [if_pos h, Int.toNat_natCast]
  have hw := withL_spec (L := L) (per := per) hk hc
  have hb := best_facts h0
  have hr := right_of h0 hw.1
  rw [e]
  have h2 := hb.2.2.2.2.2 _ hr
  refine ⟨h0, ?_, hr, h2.1, hb.2.2.2.2.1, h2.2.1⟩
  have := has_mem.2 hw.2.1
  unfold keepB at this
  rwa [decide_eq_false (by omega), Bool.false_or] at this
set_option maxHeartbeats 8000000 in
set_option maxRecDepth 100000 in
theorem NightWith_walk (w : World) (A : Option Addr) (cap : Nat) (l : List Ch) (B : Option Addr) (cb : Nat) (L : List Cl) (per i : Int) (hl : l.length ≤ cap) (hm : cap ≤ maxLen) (hr : RdL w w.heap.size chE 5 A l) (hw : ∀ x ∈ l, ChOk x)
    (kl : L.length ≤ cb) (km : cb ≤ maxLen) (kr : RdL w w.heap.size clE 2 B L) (kw : ∀ x ∈ L, ∃ g : Nat → Int, x = (⟨g 0, g 1⟩ : Cl) ∧ ∀ j, j < 2 → I64 (g j)) (hp : I64 per) (hi : I64 i) :
    Calls Try.prog 9 #[.slice A l.length cap, .slice B L.length cb, .int .i64 per, .int .i64 i] w fun e w' => e = .returned (.bool true) ∧ Below w.heap.size w w' := by
  have HN1 := Lib.hid (fun W (hb : Below w.heap.size w W) => fit_c l A cap L B cb (by unfold maxLen at hm; omega) W (hr.step hb))
  have HIN : Hid (l.length ≤ 30 → L.length ≤ 60 → InAt w l A cap L B cb) := Lib.hid (fun h1 h2 => InAt.of_args (cb := cb) hl hr hw kr h1 h2)
  have H1 := Lib.hid (fun W (h : InAt W l A cap L B cb) => With_c l A cap L B cb per i W h)
  have H2 := Lib.hid (fun (h9 : l.length ≤ 9 ∨ 20 < l.length) W (h : InAt W l A cap L B cb) => rWith_c l A cap L B cb per i h9 W h)
  have H3 : Hid (∀ W, InAt W l A cap L B cb → Calls Try.prog 14 #[.slice A l.length cap, .slice B L.length cb, .int .i64 per] W fun e w' => (∃ A c, e = .returned (.tuple #[.slice A (bstE l L per).length c, .int .i64 (asE l L per)]) ∧ SlAt w' l.length ⟨A, c, bstE l L per⟩) ∧ Below W.heap.size W w') := Lib.hid (fun W h => (Best_c l A cap L B cb per W h).mono (by
    rintro e w' ⟨⟨⟨A', c', xx⟩, rfl, h1, h2⟩, hb⟩
    obtain rfl : xx = _ := h2
    exact ⟨⟨A', c', rfl, h1⟩, hb⟩))
  have G1 : Hid (∀ A1 c1 W, SlAt W l.length ⟨A1, c1, wiR l L per i⟩ → InAt W l A cap L B cb → Calls Try.prog 31 #[.slice A l.length cap, .slice B L.length cb, .int .i64 per, .slice A1 (wiR l L per i).length c1] W fun e w' => e = .returned (.bool (rightE l L per ((wiR l L per i).map Int.ofNat))) ∧ Below W.heap.size W w') := Lib.hid (fun A1 c1 W hs h => Right_c l A cap L B cb per W h _ _ (List.length_map ..) hs.l A1 c1 hs.r)
  have G3 : Hid (∀ A1 c1 W, SlAt W l.length ⟨A1, c1, bstE l L per⟩ → InAt W l A cap L B cb → Calls Try.prog 15 #[.slice A l.length cap, .slice A1 (bstE l L per).length c1] W fun e w' => e = .returned (.tuple #[.int .i64 (wthV l ((bstE l L per).map Int.ofNat)), .int .i64 (wthE l ((bstE l L per).map Int.ofNat))]) ∧ Below W.heap.size W w') := Lib.hid (fun A1 c1 W hs h => Worth_c l A cap h.hl h.hs W h.hr _ _ (List.length_map ..) hs.l A1 c1 hs.r)
  have G5 : Hid (∀ A1 c1 W, SlAt W l.length ⟨A1, c1, wiR l L per i⟩ → InAt W l A cap L B cb → Calls Try.prog 15 #[.slice A l.length cap, .slice A1 (wiR l L per i).length c1] W fun e w' => e = .returned (.tuple #[.int .i64 (wthV l ((wiR l L per i).map Int.ofNat)), .int .i64 (wthE l ((wiR l L per i).map Int.ofNat))]) ∧ Below W.heap.size W w') := Lib.hid (fun A1 c1 W hs h => Worth_c l A cap h.hl h.hs W h.hr _ _ (List.length_map ..) hs.l A1 c1 hs.r)
  have G4 : Hid (∀ A1 c1 A2 c2 W, SlAt W l.length ⟨A1, c1, wiR l L per i⟩ → SlAt W l.length ⟨A2, c2, wiR l L per i⟩ → Calls Try.prog 27 #[.slice A1 (wiR l L per i).length c1, .slice A2 (wiR l L per i).length c2] W fun e w' => e = .returned (.bool true) ∧ Below W.heap.size W w') := Lib.hid (fun A1 c1 A2 c2 W h1 h2 => (SameInts_c ((wiR l L per i).map Int.ofNat) ((wiR l L per i).map Int.ofNat) (wiR l L per i).length (wiR l L per i).length (List.length_map ..) (List.length_map ..) A1 A2 c1 c2 (by have : (wiR l L per i).length ≤ 1000 := h1.l; omega) W h1.r h2.r).mono fun e w' h => ⟨by rw [h.1]; simp, h.2⟩)
  have HF := Lib.hid (@with_facts l L per i)
  clear hl hm hr hw kl km kr kw hp hi
  generalize rightE l L per ((wiR l L per i).map Int.ofNat) = R2 at *
  generalize wthE l ((wiR l L per i).map Int.ofNat) = E2 at *
  generalize wthV l ((wiR l L per i).map Int.ofNat) = V2 at *
  generalize wthE l ((bstE l L per).map Int.ofNat) = E1 at *
  generalize wthV l ((bstE l L per).map Int.ofNat) = V1 at *
  generalize asE l L per = v at *
  generalize bstE l L per = Rb at *
  generalize wiE l L per i = E at *
  generalize wiR l L per i = R at *
  generalize l.length = n at *
  generalize L.length = nL at *
  obtain ⟨rl, hrl⟩ : ∃ rl, rl = R.length := ⟨_, rfl⟩
  have HRL := Lib.hid hrl.symm
  rw [← hrl] at H1 H2 G1 G4 G5
  obtain ⟨rb, hrb⟩ : ∃ rb, rb = Rb.length := ⟨_, rfl⟩
  rw [← hrb] at H3 G3
  clear hrl hrb
  go_enter Try.func9, Try.ntmps9
  go_wp2_with fail
  refine (HN1.out _ (by (repeat (first | exact Below.refl _ _ | refine Below.drew ?_ | refine Below.allocS ?_ _ | refine Below.step ?_ (by assumption) | refine Below.setCell ?_ (by simp <;> omega) _ | refine Below.drewN' ?_ _)))).mono ?_
  rintro e w1 ⟨⟨X0, rfl, hX0⟩, hb1⟩
  have g1 : Below w.heap.size w w1 := by (repeat (first | exact Below.refl _ _ | refine Below.drew ?_ | refine Below.allocS ?_ _ | refine Below.step ?_ (by assumption) | refine Below.setCell ?_ (by simp <;> omega) _ | refine Below.drewN' ?_ _))
  clear hb1
  have HX0 := Lib.hid hX0
  clear hX0
  cases X0
  case false =>
    go_wp2_with fail
    refine (awake_c _).mono ?_
    rintro e w2 ⟨rfl, hb2⟩
    go_wp2
    go_ret
    exact ⟨rfl, by (repeat (first | exact Below.refl _ _ | refine Below.drew ?_ | refine Below.allocS ?_ _ | refine Below.step ?_ (by assumption) | refine Below.setCell ?_ (by simp <;> omega) _ | refine Below.drewN' ?_ _))⟩
  have hfit := HX0.out rfl
  clear HX0
  have HI := Lib.hid (HIN.out hfit.1 hfit.2.2)
  have z2 := Lib.hid (H2.out hfit.2.1)
  clear hfit HIN HN1 H2
  go_wp2_with fail
  refine (H1.out _ (HI.out.step (by (repeat (first | exact Below.refl _ _ | refine Below.drew ?_ | refine Below.allocS ?_ _ | refine Below.step ?_ (by assumption) | refine Below.setCell ?_ (by simp <;> omega) _ | refine Below.drewN' ?_ _))))).mono ?_
  rintro e w2 ⟨⟨A2, c2, rfl, s2⟩, hb2⟩
  have g2 : Below w.heap.size w w2 := by (repeat (first | exact Below.refl _ _ | refine Below.drew ?_ | refine Below.allocS ?_ _ | refine Below.step ?_ (by assumption) | refine Below.setCell ?_ (by simp <;> omega) _ | refine Below.drewN' ?_ _))
  clear hb2 g1 
  go_wp2_with fail
  refine (z2.out _ (HI.out.step (by (repeat (first | exact Below.refl _ _ | refine Below.drew ?_ | refine Below.allocS ?_ _ | refine Below.step ?_ (by assumption) | refine Below.setCell ?_ (by simp <;> omega) _ | refine Below.drewN' ?_ _))))).mono ?_
  rintro e w3 ⟨⟨A3, c3, rfl, s3⟩, hb3⟩
  replace s2 := s2.step (W := w3) (by (repeat (first | exact Below.refl _ _ | refine Below.drew ?_ | refine Below.allocS ?_ _ | refine Below.step ?_ (by assumption) | refine Below.setCell ?_ (by simp <;> omega) _ | refine Below.drewN' ?_ _)))
  have g3 : Below w.heap.size w w3 := by (repeat (first | exact Below.refl _ _ | refine Below.drew ?_ | refine Below.allocS ?_ _ | refine Below.step ?_ (by assumption) | refine Below.setCell ?_ (by simp <;> omega) _ | refine Below.drewN' ?_ _))
  clear hb3 g2 
  go_wp2_with fail
  refine (G4.out A2 c2 A3 c3 _ s2 s3).mono ?_
  rintro e w4 ⟨rfl, hb4⟩
  replace s2 := s2.step (W := w4) (by (repeat (first | exact Below.refl _ _ | refine Below.drew ?_ | refine Below.allocS ?_ _ | refine Below.step ?_ (by assumption) | refine Below.setCell ?_ (by simp <;> omega) _ | refine Below.drewN' ?_ _)))
  replace s3 := s3.step (W := w4) (by (repeat (first | exact Below.refl _ _ | refine Below.drew ?_ | refine Below.allocS ?_ _ | refine Below.step ?_ (by assumption) | refine Below.setCell ?_ (by simp <;> omega) _ | refine Below.drewN' ?_ _)))
  have g4 : Below w.heap.size w w4 := by (repeat (first | exact Below.refl _ _ | refine Below.drew ?_ | refine Below.allocS ?_ _ | refine Below.step ?_ (by assumption) | refine Below.setCell ?_ (by simp <;> omega) _ | refine Below.drewN' ?_ _))
  clear hb4 g3 
  clear z2 G4 H1
  by_cases hE : E = 0
  case neg =>
    have q1 : (E != 0) = true := by simp [hE]
    clear hE
    go_wp2_with fail
    refine (awake_c _).mono ?_
    rintro e w99 ⟨rfl, hb99⟩
    go_wp2
    go_ret
    exact ⟨rfl, by (repeat (first | exact Below.refl _ _ | refine Below.drew ?_ | refine Below.allocS ?_ _ | refine Below.step ?_ (by assumption) | refine Below.setCell ?_ (by simp <;> omega) _ | refine Below.drewN' ?_ _))⟩
  subst hE
  obtain ⟨hf1, hf2, hf3, hf4, hf5, hf6⟩ := HF.out rfl
  subst hf1 hf3 hf4 hf5
  have HF2 := Lib.hid hf2
  have d3 : decide (V2 ≤ V1) = true := decide_eq_true hf6
  have S2 := Lib.hid s2
  have hr1000 : rl ≤ 1000 := by rw [← HRL.out]; exact s2.l
  clear HF hf2 hf6 s3
  go_wp2_with fail
  go_loopw [13, 57] (fun h j wr => ∃ k : Nat, k ≤ rl ∧ j = .int .i64 k ∧ h = .bool (hasB (R.take k) i) ∧ w4 = wr) (fun _ j _ => rl - (intOf j).toNat)
  case atStart => exact ⟨0, Nat.zero_le _, rfl, rfl, rfl⟩
  case round =>
    obtain ⟨k, hk, rfl, rfl, rfl⟩ := hrel
    by_cases hlt : k < rl
    · have hkr : k < R.length := by rw [HRL.out]; exact hlt
      obtain ⟨b, off, hA, hb0, hc⟩ := int_cell S2.out.r (Below.refl _ _) (k := k) (by rw [List.length_map]; exact hkr)
      have hA : A2 = some ⟨b, off, none⟩ := hA
      subst hA
      have c0 : w4.cell? ⟨b, off + k, none⟩ = some (.int .i64 (atN R k)) := by rw [← atI_nat]; exact hc k (by rw [List.length_map]; exact hkr)
      have HTK := Lib.hid (show hasB (R.take (k + 1)) i = (hasB (R.take k) i || decide ((atN R k : Int) = i)) by
        unfold hasB atN
        rw [List.take_succ_eq_append_getElem hkr, List.any_append, List.getD_eq_getElem?_getD, List.getElem?_eq_getElem hkr]
        simp)
      have u3 : IntKind.i64.wrap ((k : Int) + 1) = (k : Int) + 1 := IntWalk.i64_in _ (by omega)
      clear hc hkr s2 hb0
      generalize hasB (R.take k) i = hB at *
      generalize atN R k = x at *
      cases hB
      case true =>
        have HT := Lib.hid (show hasB (R.take (k + 1)) i = true by rw [HTK.out]; rfl)
        go_wp2
        go_roundw
        case rel => exact ⟨k + 1, by omega, by go_num, by rw [HT.out], trivial⟩
        case measure => simp [intOf]; omega
      by_cases he : (x : Int) = i
      · have d1 : ((x : Int) == i) = true := by simp [he]
        have HT := Lib.hid (show hasB (R.take (k + 1)) i = true by rw [HTK.out, decide_eq_true he]; rfl)
        clear he
        go_wp2
        go_roundw
        case rel => exact ⟨k + 1, by omega, by go_num, by rw [HT.out], trivial⟩
        case measure => simp [intOf]; omega
      · have d1 : ((x : Int) == i) = false := by simp [he]
        have HT := Lib.hid (show hasB (R.take (k + 1)) i = false by rw [HTK.out, decide_eq_false he]; rfl)
        clear he
        go_wp2
        go_roundw
        case rel => exact ⟨k + 1, by omega, by go_num, by rw [HT.out], trivial⟩
        case measure => simp [intOf]; omega
    · obtain rfl : k = rl := by omega
      have HT := Lib.hid (show hasB (R.take k) i = true by rw [List.take_of_length_le (by rw [HRL.out]; exact Nat.le_refl _)]; exact HF2.out)
      generalize hasB (R.take k) i = hB at *
      obtain rfl : hB = true := HT.out
      go_wp2_with fail
      refine (H3.out _ (HI.out.step (by (repeat (first | exact Below.refl _ _ | refine Below.drew ?_ | refine Below.allocS ?_ _ | refine Below.step ?_ (by assumption) | refine Below.setCell ?_ (by simp <;> omega) _ | refine Below.drewN' ?_ _))))).mono ?_
      rintro e w5 ⟨⟨A5, c5, rfl, s5⟩, hb5⟩
      have g5 : Below w.heap.size w w5 := by (repeat (first | exact Below.refl _ _ | refine Below.drew ?_ | refine Below.allocS ?_ _ | refine Below.step ?_ (by assumption) | refine Below.setCell ?_ (by simp <;> omega) _ | refine Below.drewN' ?_ _))
      replace s2 := s2.step hb5
      clear hb5
      go_wp2_with fail
      refine (G3.out A5 c5 _ s5 (HI.out.step (by (repeat (first | exact Below.refl _ _ | refine Below.drew ?_ | refine Below.allocS ?_ _ | refine Below.step ?_ (by assumption) | refine Below.setCell ?_ (by simp <;> omega) _ | refine Below.drewN' ?_ _))))).mono ?_
      rintro e w6 ⟨rfl, hb6⟩
      have g6 : Below w.heap.size w w6 := by (repeat (first | exact Below.refl _ _ | refine Below.drew ?_ | refine Below.allocS ?_ _ | refine Below.step ?_ (by assumption) | refine Below.setCell ?_ (by simp <;> omega) _ | refine Below.drewN' ?_ _))
      replace s2 := s2.step hb6
      clear hb6
      go_wp2_with fail
      refine (G5.out A2 c2 _ s2 (HI.out.step (by (repeat (first | exact Below.refl _ _ | refine Below.drew ?_ | refine Below.allocS ?_ _ | refine Below.step ?_ (by assumption) | refine Below.setCell ?_ (by simp <;> omega) _ | refine Below.drewN' ?_ _))))).mono ?_
      rintro e w7 ⟨rfl, hb7⟩
      have g7 : Below w.heap.size w w7 := by (repeat (first | exact Below.refl _ _ | refine Below.drew ?_ | refine Below.allocS ?_ _ | refine Below.step ?_ (by assumption) | refine Below.setCell ?_ (by simp <;> omega) _ | refine Below.drewN' ?_ _))
      replace s2 := s2.step hb7
      clear hb7
      go_wp2_with fail
      refine (G1.out A2 c2 _ s2 (HI.out.step (by (repeat (first | exact Below.refl _ _ | refine Below.drew ?_ | refine Below.allocS ?_ _ | refine Below.step ?_ (by assumption) | refine Below.setCell ?_ (by simp <;> omega) _ | refine Below.drewN' ?_ _))))).mono ?_
      rintro e w8 ⟨rfl, hb8⟩
      have g8 : Below w.heap.size w w8 := by (repeat (first | exact Below.refl _ _ | refine Below.drew ?_ | refine Below.allocS ?_ _ | refine Below.step ?_ (by assumption) | refine Below.setCell ?_ (by simp <;> omega) _ | refine Below.drewN' ?_ _))
      clear hb8
      go_wp2_with fail
      refine (awake_c _).mono ?_
      rintro e w99 ⟨rfl, hb99⟩
      go_wp2
      go_ret
      exact ⟨rfl, by (repeat (first | exact Below.refl _ _ | refine Below.drew ?_ | refine Below.allocS ?_ _ | refine Below.step ?_ (by assumption) | refine Below.setCell ?_ (by simp <;> omega) _ | refine Below.drewN' ?_ _))⟩
end Go.Proofs.Ytomgaiokmdcjmaa
