/-
  Best, IsBest and Most of the reference. No conditions.
-/
import Derived.Test.YtomgaiokmdcjmaaNt30
namespace Go.Proofs.Ytomgaiokmdcjmaa
open Go.RowKit Go.Deep
set_option linter.unusedVariables false
set_option linter.unusedSimpArgs false
theorem as_n20 {l : List Ch} {L : List Cl} {per : Int} (h : asE l L per = 0) : l.length ≤ 20 := (PlanOk.of_as h).n
/-- All right lists, in memory. -/
theorem rights0_c (l : List Ch) (A : Option Addr) (cap : Nat) (L : List Cl) (B : Option Addr) (cb : Nat) (per : Int) (hp : PlanOk l per) (hn9 : l.length ≤ 9) (w : World) (h : InAt w l A cap L B cb) :
    Calls Try.prog 84 #[.slice A l.length cap, .slice B L.length cb, .int .i64 per, .slice none 0 0] w fun e w' => (∃ A' c' ls, e = .returned (.slice A' ls.length c') ∧ (RdL w' w'.heap.size slE 1 A' ls ∧ (∀ s ∈ ls, SlAt w' l.length s) ∧ ls.length ≤ 1000) ∧ ls.map (·.xs) = rightsL l L per) ∧ Below w.heap.size w w' := by
  refine (rights_c l A cap L B cb per hp hn9 l.length sl0 w h (SlAt.nil _ _) (fun _ => rfl) (Nat.le_refl _) (by simp [nxt, sl0]) (by simp [sl0])).mono ?_
  rintro e w' ⟨⟨A', c', ls, rfl, ho, hm⟩, hb⟩
  have hlen : ls.length = (rtsF l L per l.length []).length.succ := by rw [← List.length_map (f := fun x : SlL => x.xs), hm]; rfl
  have hbd := rts_len l L per l.length []
  have hpw := Nat.pow_le_pow_right (n := 2) (by omega) hn9
  exact ⟨⟨A', c', ls, by rw [hlen]; rfl, ⟨ho.r, fun s hs => (ho.s s hs).1, by omega⟩, hm⟩, hb⟩
set_option maxHeartbeats 1000000 in
theorem rBest_c (l : List Ch) (A : Option Addr) (cap : Nat) (L : List Cl) (B : Option Addr) (cb : Nat) (per : Int) (hn9 : l.length ≤ 9 ∨ 20 < l.length) (w : World) (h : InAt w l A cap L B cb) :
    Calls Try.prog 38 #[.slice A l.length cap, .slice B L.length cb, .int .i64 per] w fun e w' => (∃ x : SlL, e = .returned (.tuple #[.slice x.A x.xs.length x.c, .int .i64 (asE l L per)]) ∧ SlAt w' l.length x ∧ x.xs = bstE l L per) ∧ Below w.heap.size w w' := by
  have H1 := Lib.hid (fun W (hb : Below w.heap.size w W) => rasked_c l A cap L B cb per W (h.step hb))
  have H2 := Lib.hid (fun (h0 : asE l L per = 0) W (hb : Below w.heap.size w W) => rights0_c l A cap L B cb per (PlanOk.of_as h0) (by have := as_n20 h0; omega) W (h.step hb))
  have H3 : Hid (∀ (h0 : asE l L per = 0) W (hb : Below w.heap.size w W) (A' : Option Addr) (c' : Nat) (ls : List SlL), (RdL W W.heap.size slE 1 A' ls ∧ (∀ s ∈ ls, SlAt W l.length s) ∧ ls.length ≤ 1000) → ls.map (·.xs) = rightsL l L per → Calls Try.prog 83 #[.slice A l.length cap, .slice A' ls.length c', .int .i64 (-1)] W fun e w' => (∃ x : SlL, e = .returned (.tuple #[.slice x.A x.xs.length x.c, .bool true]) ∧ SlAt w' l.length x ∧ x.xs = bestL l L per) ∧ w' = W) :=
    Lib.hid (fun h0 W hb A' c' ls ho hm => by
      have := bestF_c l A cap (PlanOk.of_as h0).v h.hl ls ls.length rfl ho.2.2 A' c' (-1) W (h.step hb).hr ho.1 ho.2.1
      rw [hm, show (rightsL l L per).foldl (bstS l (-1)) ([], false) = (bestL l L per, true) from bst_best l L per] at this
      exact this)
  have HB : Hid (bstE l L per = if asE l L per = 0 then bestL l L per else []) := Lib.hid (by unfold bstE; rfl)
  clear h
  generalize asE l L per = v at *
  generalize bstE l L per = R at *
  generalize bestL l L per = R2 at *
  generalize rightsL l L per = RL at *
  generalize hn : l.length = n at *
  generalize L.length = m at *
  clear hn
  by_cases hv : v = 0
  · subst hv
    have HB2 := Lib.hid (show R = R2 by rw [HB.out, if_pos rfl])
    have H21 := Lib.hid (H2.out rfl)
    have H31 := Lib.hid (H3.out rfl)
    clear H2 H3 hn9
    go_enter Try.func38, Try.ntmps38
    go_wp2_with fail
    refine (H1.out _ (by (repeat (first | exact Below.refl _ _ | refine Below.drew ?_ | refine Below.allocS ?_ _ | refine Below.step ?_ (by assumption) | refine Below.setCell ?_ (by simp <;> omega) _ | refine Below.drewN' ?_ _)))).mono ?_
    rintro e w1 ⟨rfl, hb1⟩
    have g1 : Below w.heap.size w w1 := by (repeat (first | exact Below.refl _ _ | refine Below.drew ?_ | refine Below.allocS ?_ _ | refine Below.step ?_ (by assumption) | refine Below.setCell ?_ (by simp <;> omega) _ | refine Below.drewN' ?_ _))
    clear hb1
    go_wp2_with fail
    refine (H21.out _ (by (repeat (first | exact Below.refl _ _ | refine Below.drew ?_ | refine Below.allocS ?_ _ | refine Below.step ?_ (by assumption) | refine Below.setCell ?_ (by simp <;> omega) _ | refine Below.drewN' ?_ _)))).mono ?_
    rintro e w2 ⟨⟨A', c', ls, rfl, ho, hm⟩, hb2⟩
    have HC := Lib.hid (H31.out w2 (by (repeat (first | exact Below.refl _ _ | refine Below.drew ?_ | refine Below.allocS ?_ _ | refine Below.step ?_ (by assumption) | refine Below.setCell ?_ (by simp <;> omega) _ | refine Below.drewN' ?_ _))) A' c' ls ho hm)
    clear ho hm
    go_wp2_with fail
    refine HC.out.mono ?_
    rintro e w' ⟨⟨x, rfl, hx, hx2⟩, hw'⟩
    replace hw' := hw'.symm
    subst hw'
    have HX := Lib.hid hx
    have HX2 := Lib.hid hx2
    clear hx hx2
    go_wp2
    go_ret2
    exact ⟨⟨x, rfl, HX.out, by rw [HB2.out]; exact HX2.out⟩, by (repeat (first | exact Below.refl _ _ | refine Below.drew ?_ | refine Below.allocS ?_ _ | refine Below.step ?_ (by assumption) | refine Below.setCell ?_ (by simp <;> omega) _ | refine Below.drewN' ?_ _))⟩
  · have HB2 := Lib.hid (show R = [] by rw [HB.out, if_neg hv])
    have q1 : (v != 0) = true := by simp [hv]
    clear H2 H3 hn9
    go_enter Try.func38, Try.ntmps38
    go_wp2_with fail
    refine (H1.out _ (by (repeat (first | exact Below.refl _ _ | refine Below.drew ?_ | refine Below.allocS ?_ _ | refine Below.step ?_ (by assumption) | refine Below.setCell ?_ (by simp <;> omega) _ | refine Below.drewN' ?_ _)))).mono ?_
    rintro e w1 ⟨rfl, hb1⟩
    have g1 : Below w.heap.size w w1 := by (repeat (first | exact Below.refl _ _ | refine Below.drew ?_ | refine Below.allocS ?_ _ | refine Below.step ?_ (by assumption) | refine Below.setCell ?_ (by simp <;> omega) _ | refine Below.drewN' ?_ _))
    clear hb1
    go_wp2
    go_ret2
    exact ⟨⟨sl0, rfl, SlAt.nil _ _, by rw [HB2.out]; rfl⟩, by (repeat (first | exact Below.refl _ _ | refine Below.drew ?_ | refine Below.allocS ?_ _ | refine Below.step ?_ (by assumption) | refine Below.setCell ?_ (by simp <;> omega) _ | refine Below.drewN' ?_ _))⟩
/-- A list is the best one. -/
noncomputable def isbE (l : List Ch) (L : List Cl) (per : Int) (r : List Int) : Bool := decide (asE l L per = 0) && decide ((bstE l L per).map Int.ofNat = r)
set_option maxHeartbeats 1000000 in
theorem rIsBest_c (l : List Ch) (A : Option Addr) (cap : Nat) (L : List Cl) (B : Option Addr) (cb : Nat) (per : Int) (hn9 : l.length ≤ 9 ∨ 20 < l.length) (w : World) (h : InAt w l A cap L B cb)
    (r : List Int) (m : Nat) (hm : r.length = m) (hl : m ≤ 1000) (C : Option Addr) (cc : Nat) (hr : RdL w w.heap.size inE 1 C r) :
    Calls Try.prog 42 #[.slice A l.length cap, .slice B L.length cb, .int .i64 per, .slice C m cc] w fun e w' => e = .returned (.bool (isbE l L per r)) ∧ Below w.heap.size w w' := by
  have H1 := Lib.hid (fun W (hb : Below w.heap.size w W) => rBest_c l A cap L B cb per hn9 W (h.step hb))
  have H2 := Lib.hid (fun W (hb : Below w.heap.size w W) (x : SlL) (hx : SlAt W l.length x) (k : Nat) (hk : k = x.xs.length) => SameInts_c (x.xs.map Int.ofNat) r k m (by rw [List.length_map, hk]) hm x.A C x.c cc (by rw [hk]; have := hx.l; omega) W hx.r (hr.step hb))
  have HB : Hid (isbE l L per r = (decide (asE l L per = 0) && decide ((bstE l L per).map Int.ofNat = r))) := Lib.hid rfl
  clear h hr hm hn9
  generalize isbE l L per r = I at *
  generalize asE l L per = v at *
  generalize bstE l L per = R at *
  generalize hn : l.length = n at *
  generalize L.length = nL at *
  clear hn
  by_cases hv : v = 0
  · subst hv
    have q0 : ((0 : Int) == 0) = true := rfl
    go_enter Try.func42, Try.ntmps42
    go_wp2_with fail
    refine (H1.out _ (by (repeat (first | exact Below.refl _ _ | refine Below.drew ?_ | refine Below.allocS ?_ _ | refine Below.step ?_ (by assumption) | refine Below.setCell ?_ (by simp <;> omega) _ | refine Below.drewN' ?_ _)))).mono ?_
    rintro e w1 ⟨⟨x, rfl, hx, hx2⟩, hb1⟩
    have HC := Lib.hid (H2.out w1 hb1 x hx _ rfl)
    have HD := Lib.hid (show I = decide (x.xs.map Int.ofNat = r) by rw [HB.out, hx2]; rfl)
    clear hx hx2
    generalize decide (x.xs.map Int.ofNat = r) = D at *
    generalize x.xs.length = xl at *
    go_wp2_with fail
    refine HC.out.mono ?_
    rintro e w2 ⟨rfl, hb2⟩
    go_wp2
    go_ret
    exact ⟨by rw [HD.out]; rfl, by (repeat (first | exact Below.refl _ _ | refine Below.drew ?_ | refine Below.allocS ?_ _ | refine Below.step ?_ (by assumption) | refine Below.setCell ?_ (by simp <;> omega) _ | refine Below.drewN' ?_ _))⟩
  · have q0 : (v == 0) = false := by simp [hv]
    have HD := Lib.hid (show I = false by rw [HB.out, decide_eq_false hv]; rfl)
    clear hv
    go_enter Try.func42, Try.ntmps42
    go_wp2_with fail
    refine (H1.out _ (by (repeat (first | exact Below.refl _ _ | refine Below.drew ?_ | refine Below.allocS ?_ _ | refine Below.step ?_ (by assumption) | refine Below.setCell ?_ (by simp <;> omega) _ | refine Below.drewN' ?_ _)))).mono ?_
    rintro e w1 ⟨⟨x, rfl, hx, hx2⟩, hb1⟩
    clear hx hx2
    generalize x.xs.length = xl at *
    go_wp2
    go_ret
    exact ⟨by rw [HD.out]; rfl, by (repeat (first | exact Below.refl _ _ | refine Below.drew ?_ | refine Below.allocS ?_ _ | refine Below.step ?_ (by assumption) | refine Below.setCell ?_ (by simp <;> omega) _ | refine Below.drewN' ?_ _))⟩
noncomputable def mstE (l : List Ch) (L : List Cl) (per : Int) : Nat := if asE l L per = 0 then mostL l L per else 0
set_option maxHeartbeats 1000000 in
theorem rMost_c (l : List Ch) (A : Option Addr) (cap : Nat) (L : List Cl) (B : Option Addr) (cb : Nat) (per : Int) (hn9 : l.length ≤ 9 ∨ 20 < l.length) (w : World) (h : InAt w l A cap L B cb) :
    Calls Try.prog 40 #[.slice A l.length cap, .slice B L.length cb, .int .i64 per] w fun e w' => e = .returned (.tuple #[.int .i64 (mstE l L per), .int .i64 (asE l L per)]) ∧ Below w.heap.size w w' := by
  have H1 := Lib.hid (fun W (hb : Below w.heap.size w W) => rasked_c l A cap L B cb per W (h.step hb))
  have H2 := Lib.hid (fun (h0 : asE l L per = 0) W (hb : Below w.heap.size w W) => rights0_c l A cap L B cb per (PlanOk.of_as h0) (by have := as_n20 h0; omega) W (h.step hb))
  have HB : Hid (mstE l L per = if asE l L per = 0 then mostL l L per else 0) := Lib.hid (by unfold mstE; rfl)
  have HM := Lib.hid (most_ref l L per)
  clear h
  generalize asE l L per = v at *
  generalize mstE l L per = R at *
  generalize mostL l L per = R2 at *
  generalize rightsL l L per = RL at *
  generalize hn : l.length = n at *
  generalize L.length = m at *
  clear hn
  by_cases hv : v = 0
  · subst hv
    have HB2 := Lib.hid (show R = R2 by rw [HB.out, if_pos rfl])
    have H21 := Lib.hid (H2.out rfl)
    clear H2 hn9
    go_enter Try.func40, Try.ntmps40
    go_wp2_with fail
    refine (H1.out _ (by (repeat (first | exact Below.refl _ _ | refine Below.drew ?_ | refine Below.allocS ?_ _ | refine Below.step ?_ (by assumption) | refine Below.setCell ?_ (by simp <;> omega) _ | refine Below.drewN' ?_ _)))).mono ?_
    rintro e w1 ⟨rfl, hb1⟩
    have g1 : Below w.heap.size w w1 := by (repeat (first | exact Below.refl _ _ | refine Below.drew ?_ | refine Below.allocS ?_ _ | refine Below.step ?_ (by assumption) | refine Below.setCell ?_ (by simp <;> omega) _ | refine Below.drewN' ?_ _))
    clear hb1
    go_wp2_with fail
    refine (H21.out _ (by (repeat (first | exact Below.refl _ _ | refine Below.drew ?_ | refine Below.allocS ?_ _ | refine Below.step ?_ (by assumption) | refine Below.setCell ?_ (by simp <;> omega) _ | refine Below.drewN' ?_ _)))).mono ?_
    rintro e w2 ⟨⟨A', c', ls, rfl, ho, hm⟩, hb2⟩
    have HO := Lib.hid ho
    have hlen := ho.2.2
    obtain ⟨F, hF⟩ : ∃ F : Nat → Nat, F = fun k => ((ls.map (·.xs)).take k).foldl (fun n x => max n x.length) 0 := ⟨_, rfl⟩
    have HF0 : Hid (F 0 = 0) := Lib.hid (by rw [hF]; rfl)
    have HFn : Hid (F ls.length = R2) := Lib.hid (by rw [hF, ← HM.out, ← hm]; show List.foldl _ _ (List.take _ _) = _; rw [List.take_of_length_le (by rw [List.length_map]; exact Nat.le_refl _)])
    have HFS : Hid (∀ k (hk : k < ls.length), F (k + 1) = max (F k) ls[k].xs.length) := Lib.hid (fun k hk => by
      rw [hF]
      show List.foldl _ _ (List.take (k + 1) _) = _
      rw [List.take_succ_eq_append_getElem (by rw [List.length_map]; exact hk), List.foldl_append, List.getElem_map]; rfl)
    have HFB : Hid (∀ k, k ≤ ls.length → F k ≤ 1000) := Lib.hid (fun k hk => by
      induction k with
      | zero => rw [HF0.out]; omega
      | succ k ih =>
        rw [HFS.out k (by omega)]
        have := (HO.out.2.1 ls[k] (List.getElem_mem (by omega))).l
        have := ih (by omega)
        omega)
    obtain ⟨nn, hnn⟩ : ∃ nn, nn = ls.length := ⟨_, rfl⟩
    have HNN := Lib.hid hnn
    rw [← hnn] at hlen HFn ⊢
    clear ho hm hF hnn
    go_wp2_with fail
    go_loopw [9, 24] (fun s i wr => ∃ k : Nat, k ≤ nn ∧ i = .int .i64 k ∧ s = .int .i64 (F k) ∧ w2 = wr) (fun _ i _ => nn - (intOf i).toNat)
    case atStart => exact ⟨0, Nat.zero_le _, rfl, by rw [HF0.out]; rfl, rfl⟩
    case round =>
      obtain ⟨k, hk, rfl, rfl, rfl⟩ := hrel
      by_cases hlt : k < nn
      · have hkl : k < ls.length := by rw [← HNN.out]; exact hlt
        obtain ⟨b, off, rfl, hb0, hc⟩ := HO.out.1 (by omega)
        have c0 := hc k hkl 0 _ rfl
        have HS := Lib.hid (HFS.out k hkl)
        have hx1 := (HO.out.2.1 _ (List.getElem_mem hkl)).l
        have hf1 := HFB.out k (by omega)
        clear hc
        generalize ls[k] = x at *
        generalize F k = f at *
        rw [Nat.mul_one, Nat.add_zero] at c0
        have u3 : IntKind.i64.wrap ((k : Int) + 1) = (k : Int) + 1 := IntWalk.i64_in _ (by omega)
        generalize x.xs.length = xl at *
        obtain ⟨g, hg⟩ : ∃ g, g = F (k + 1) := ⟨_, rfl⟩
        rw [← hg] at HS
        have HG := Lib.hid hg
        clear hg
        by_cases hx : f < xl
        · obtain rfl : g = xl := by have := HS.out; omega
          have d0 : (if (f : Int) > (g : Int) then (f : Int) else (g : Int)) = (g : Int) := if_neg (by omega)
          have d1 : (if (f : Int) < (g : Int) then (g : Int) else (f : Int)) = (g : Int) := if_pos (by omega)
          have d2 : max (f : Int) (g : Int) = (g : Int) := by omega
          have d3 : decide ((f : Int) < (g : Int)) = true := decide_eq_true (by omega)
          have d4 : decide ((g : Int) < (f : Int)) = false := decide_eq_false (by omega)
          have HXG := Lib.hid (show f < g by omega)
          clear hx
          go_wp2
          go_roundw
          case rel => exact ⟨k + 1, by omega, by go_num, by first | (rw [HG.out]; done) | (rw [if_pos HXG.out, HG.out]), trivial⟩
          case measure => simp [intOf]; omega
        · obtain rfl : g = f := by have := HS.out; omega
          have d0 : (if (g : Int) > (xl : Int) then (g : Int) else (xl : Int)) = (g : Int) := by
            by_cases h : (g : Int) > (xl : Int)
            · exact if_pos h
            · rw [if_neg h]; omega
          have d2 : max (g : Int) (xl : Int) = (g : Int) := by omega
          clear hx
          go_wp2
          go_roundw
          case rel => exact ⟨k + 1, by omega, by go_num, by rw [HG.out], trivial⟩
          case measure => simp [intOf]; omega
      · obtain rfl : k = nn := by omega
        go_wp2
        go_ret2
        exact ⟨by rw [HB2.out, ← HFn.out]; rfl, by (repeat (first | exact Below.refl _ _ | refine Below.drew ?_ | refine Below.allocS ?_ _ | refine Below.step ?_ (by assumption) | refine Below.setCell ?_ (by simp <;> omega) _ | refine Below.drewN' ?_ _))⟩
  · have HB2 := Lib.hid (show R = 0 by rw [HB.out, if_neg hv])
    have q1 : (v != 0) = true := by simp [hv]
    clear H2 hn9
    go_enter Try.func40, Try.ntmps40
    go_wp2_with fail
    refine (H1.out _ (by (repeat (first | exact Below.refl _ _ | refine Below.drew ?_ | refine Below.allocS ?_ _ | refine Below.step ?_ (by assumption) | refine Below.setCell ?_ (by simp <;> omega) _ | refine Below.drewN' ?_ _)))).mono ?_
    rintro e w1 ⟨rfl, hb1⟩
    have g1 : Below w.heap.size w w1 := by (repeat (first | exact Below.refl _ _ | refine Below.drew ?_ | refine Below.allocS ?_ _ | refine Below.step ?_ (by assumption) | refine Below.setCell ?_ (by simp <;> omega) _ | refine Below.drewN' ?_ _))
    clear hb1
    go_wp2
    go_ret2
    exact ⟨by rw [HB2.out]; rfl, by (repeat (first | exact Below.refl _ _ | refine Below.drew ?_ | refine Below.allocS ?_ _ | refine Below.step ?_ (by assumption) | refine Below.setCell ?_ (by simp <;> omega) _ | refine Below.drewN' ?_ _))⟩
end Go.Proofs.Ytomgaiokmdcjmaa
