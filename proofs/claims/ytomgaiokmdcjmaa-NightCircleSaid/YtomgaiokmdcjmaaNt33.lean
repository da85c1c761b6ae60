/-
  Most of night, fit. No conditions.
-/
import Derived.Test.YtomgaiokmdcjmaaNt32
import Derived.Test.YtomgaiokmdcjmaaPre2
namespace Go.Proofs.Ytomgaiokmdcjmaa
open Go.RowKit Go.Deep
set_option linter.unusedVariables false
set_option linter.unusedSimpArgs false
/-- A chance of a list, worth one below k. -/
def oneD (l : List Ch) (k j : Nat) : Ch := if j < k then ⟨(l.getD j ch0).nm, (l.getD j ch0).a, (l.getD j ch0).b, (l.getD j ch0).t, 1⟩ else l.getD j ch0
structure OneAt (W : World) (g : Nat) (l : List Ch) (k : Nat) : Prop where
  c : ∀ j, j < l.length → ChC W g (j * 5) (oneD l k j)
  f : ∀ o, W.frozen? ⟨g, o, none⟩ = false
theorem OneAt.start {W : World} {base n c g : Nat} {l : List Ch} (hn : l.length = n) (h : W.ownsRow base 34 5 (.slice (some ⟨g, 0, none⟩) n c) n (l.flatMap chE)) : OneAt W g l 0 := by
  have hr : RdL W W.heap.size chE 5 (some ⟨g, 0, none⟩) l := RdL.of_own (fun _ => rfl) h hn
  refine ⟨fun j hj => ?_, fun o => h.frozenAt o⟩
  obtain ⟨b, off, e, hb, hc⟩ := ch_cells hr (by omega)
  cases e
  have := hc W (Below.refl _ _) j hj
  rw [Nat.zero_add] at this
  exact this
theorem OneAt.step {W W' : World} {g k : Nat} {l : List Ch} (h : OneAt W g l k) (hb : Below W.heap.size W W') (hg : g < W.heap.size) : OneAt W' g l k :=
  ⟨fun j hj => ⟨keep_cell hb (h.c j hj).c0, keep_cell hb (h.c j hj).c1, keep_cell hb (h.c j hj).c2, keep_cell hb (h.c j hj).c3, keep_cell hb (h.c j hj).c4⟩, fun o => keep_frozen hb hg (h.f o)⟩
theorem OneAt.put {W : World} {g k : Nat} {l : List Ch} (h : OneAt W g l k) (hk : k < l.length) : OneAt (W.setCell ⟨g, k * 5 + 4, none⟩ (.int .i64 1)) g l (k + 1) := by
  refine ⟨fun j hj => ?_, fun o => by rw [World.frozen?_setCell]; exact h.f o⟩
  have hc := h.c j hj
  have ho : ∀ o v, W.cell? ⟨g, o, none⟩ = some v → o ≠ k * 5 + 4 → (W.setCell ⟨g, k * 5 + 4, none⟩ (.int .i64 1)).cell? ⟨g, o, none⟩ = some v := fun o v hv hne => by
    rw [World.cell?_setCell_other _ _ _ _ (by intro e; injection e with e1 e2; exact hne e2.symm)]; exact hv
  by_cases hjk : j = k
  · subst hjk
    have e0 : oneD l j j = l.getD j ch0 := if_neg (Nat.lt_irrefl j)
    have e1 : oneD l (j + 1) j = ⟨(l.getD j ch0).nm, (l.getD j ch0).a, (l.getD j ch0).b, (l.getD j ch0).t, 1⟩ := if_pos (Nat.lt_succ_self j)
    rw [e0] at hc
    rw [e1]
    exact ⟨ho _ _ hc.c0 (by omega), ho _ _ hc.c1 (by omega), ho _ _ hc.c2 (by omega), ho _ _ hc.c3 (by omega), World.cell?_setCell_same _ _ _ hc.c4⟩
  · have e1 : oneD l (k + 1) j = oneD l k j := by
      unfold oneD
      by_cases h1 : j < k
      · rw [if_pos h1, if_pos (by omega)]
      · rw [if_neg h1, if_neg (by omega)]
    rw [e1]
    exact ⟨ho _ _ hc.c0 (by omega), ho _ _ hc.c1 (by omega), ho _ _ hc.c2 (by omega), ho _ _ hc.c3 (by omega), ho _ _ hc.c4 (by omega)⟩
theorem OneAt.done {W : World} {g : Nat} {l : List Ch} (h : OneAt W g l l.length) (hg : g < W.heap.size) : RdL W W.heap.size chE 5 (some ⟨g, 0, none⟩) (ones l) := by
  intro hl
  refine ⟨g, 0, rfl, hg, fun i hi j v hv => ?_⟩
  rw [ones_len] at hi
  have hc := h.c i hi
  have e : (ones l)[i]'(by rw [ones_len]; exact hi) = oneD l l.length i := by
    unfold ones oneD
    rw [List.getElem_map, if_pos hi, List.getD_eq_getElem?_getD, List.getElem?_eq_getElem hi]
    rfl
  rw [e] at hv
  have hj : j < 5 := (List.getElem?_eq_some_iff.1 hv).1
  rw [Nat.zero_add]
  match j, hj with
  | 0, _ => simp [chE] at hv; subst hv; exact hc.c0
  | 1, _ => simp [chE] at hv; subst hv; exact hc.c1
  | 2, _ => simp [chE] at hv; subst hv; exact hc.c2
  | 3, _ => simp [chE] at hv; subst hv; exact hc.c3
  | 4, _ => simp [chE] at hv; subst hv; exact hc.c4
theorem PlanOk.ones {l : List Ch} {per : Int} (h : PlanOk l per) : PlanOk (ones l) per := by
  have hm : ∀ x ∈ Go.Proofs.Ytomgaiokmdcjmaa.ones l, ∃ y ∈ l, x = ⟨y.nm, y.a, y.b, y.t, 1⟩ := fun x hx => by
    obtain ⟨y, hy, e⟩ := List.mem_map.1 hx
    exact ⟨y, hy, e.symm⟩
  refine ⟨fun x hx => ?_, fun x hx => ?_, fun x hx => ?_, by rw [ones_len]; exact h.n, h.p⟩
  · obtain ⟨y, -, rfl⟩ := hm x hx
    exact ⟨by show (0 : Int) ≤ 1; omega, by show (1 : Int) ≤ 1000000; omega⟩
  · obtain ⟨y, hy, rfl⟩ := hm x hx
    exact h.t y hy
  · obtain ⟨y, hy, rfl⟩ := hm x hx
    exact h.b y hy
set_option maxHeartbeats 4000000 in
theorem Most_c (l : List Ch) (A : Option Addr) (cap : Nat) (L : List Cl) (B : Option Addr) (cb : Nat) (per : Int) (h30 : l.length ≤ 30) (w : World) (h : InAt w l A cap L B cb) :
    Calls Try.prog 39 #[.slice A l.length cap, .slice B L.length cb, .int .i64 per] w fun e w' => e = .returned (.tuple #[.int .i64 (mstE l L per), .int .i64 (asE l L per)]) ∧ Below w.heap.size w w' := by
  have HCL := Lib.hid (CloneCh_c l l.length rfl (by omega) A cap w h.hr)
  have H1 := Lib.hid (fun (A1 : Option Addr) (c1 : Nat) W (h : InAt W l A1 c1 L B cb) => asked_c l A1 c1 L B cb per W h)
  have HIN : Hid (∀ (A1 : Option Addr) (c1 : Nat) w1, Below w.heap.size w w1 → w1.ownsRow w.heap.size 34 5 (.slice A1 l.length c1) l.length (l.flatMap chE) → ∀ W, Below w1.heap.size w1 W → InAt W l A1 c1 L B cb) := Lib.hid (fun A1 c1 w1 hb ho W hb2 => by
    obtain ⟨A2, c2, e, k1, k2⟩ := row_form ho
    simp at e
    obtain ⟨rfl, rfl⟩ := e
    exact InAt.step ⟨h.hl, k1, h.hs, RdL.of_own (fun _ => rfl) ho rfl, h.hL, h.hR.step hb⟩ hb2)
  have H2 : Hid (∀ (h0 : asE l L per = 0) (g : Nat) (c1 : Nat) W, Below w.heap.size w W → g < W.heap.size → l.length ≤ c1 → OneAt W g l l.length → Calls Try.prog 54 #[.agg #[.slice (some ⟨g, 0, none⟩) l.length c1, .slice B L.length cb, .int .i64 per]] W fun e w' => (∃ x : SlL, e = .returned (.slice x.A (mostL l L per) x.c)) ∧ Below W.heap.size W w') := Lib.hid (fun h0 g c1 W hb hg hc ho => by
    have := best_c (ones l) (some ⟨g, 0, none⟩) c1 L B cb per W ⟨by rw [ones_len]; exact h.hl, by rw [ones_len]; exact hc, fun x hx => (by
      obtain ⟨y, hy, e⟩ := List.mem_map.1 hx
      rw [← e]
      exact h.hs y hy), ho.done hg, h.hL, h.hR.step hb⟩ (PlanOk.of_as h0).ones
    rw [ones_len] at this
    refine this.mono ?_
    rintro e w' ⟨⟨x, rfl, -, hx⟩, hb'⟩
    exact ⟨⟨x, by rw [hx]; rfl⟩, hb'⟩)
  have H3 : Hid (l.length = 0 → asE l L per = 0 → ∀ (A1 : Option Addr) (c1 : Nat) W, InAt W l A1 c1 L B cb → Calls Try.prog 54 #[.agg #[.slice A1 l.length c1, .slice B L.length cb, .int .i64 per]] W fun e w' => (∃ x : SlL, e = .returned (.slice x.A (mostL l L per) x.c)) ∧ Below W.heap.size W w') := Lib.hid (fun hz h0 A1 c1 W hi => by
    obtain rfl : l = [] := List.eq_nil_of_length_eq_zero hz
    refine (best_c [] A1 c1 L B cb per W hi (PlanOk.of_as h0)).mono ?_
    rintro e w' ⟨⟨x, rfl, -, hx⟩, hb'⟩
    exact ⟨⟨x, by rw [hx]; rfl⟩, hb'⟩)
  have HB : Hid (mstE l L per = if asE l L per = 0 then mostL l L per else 0) := Lib.hid (by unfold mstE; rfl)
  clear h
  generalize asE l L per = v at *
  generalize mstE l L per = R at *
  generalize mostL l L per = R2 at *
  obtain ⟨n, hn⟩ : ∃ n, n = l.length := ⟨_, rfl⟩
  have HN := Lib.hid hn
  rw [← hn] at HCL H1 HIN H2 H3 h30 ⊢
  clear hn
  generalize L.length = nL at *
  by_cases hv : v = 0
  case neg =>
    have HB2 := Lib.hid (show R = 0 by rw [HB.out, if_neg hv])
    have q1 : (v != 0) = true := by simp [hv]
    clear H2 H3
    go_enter Try.func39, Try.ntmps39
    go_wp2_with fail
    refine HCL.out.mono ?_
    rintro e w1 ⟨⟨A1, c1, rfl, ho⟩, hb1⟩
    have HI := Lib.hid (HIN.out A1 c1 w1 hb1 ho)
    clear ho
    go_wp2_with fail
    refine (H1.out A1 c1 _ (HI.out _ (by (repeat (first | (with_reducible exact Below.refl _ _) | (with_reducible assumption) | (with_reducible refine Below.drew ?_) | (with_reducible refine Below.allocS ?_ _) | (with_reducible refine Below.setCell ?_ ?_ _) | (with_reducible refine Below.step ?_ (by assumption)) | (with_reducible refine Below.drewN' ?_ _))); (try any_goals (first | (with_reducible assumption) | (simp; done) | (simp; omega) | omega))))).mono ?_
    rintro e w2 ⟨rfl, hb2⟩
    go_wp2
    go_ret2
    exact ⟨by rw [HB2.out]; rfl, by (repeat (first | exact Below.refl _ _ | refine Below.drew ?_ | refine Below.allocS ?_ _ | refine Below.step ?_ (by assumption) | refine Below.setCell ?_ (by simp <;> omega) _ | refine Below.drewN' ?_ _))⟩
  subst hv
  have HB2 := Lib.hid (show R = R2 by rw [HB.out, if_pos rfl])
  by_cases hz : n = 0
  · have H31 := Lib.hid (H3.out hz rfl)
    subst hz
    clear H2 H3
    go_enter Try.func39, Try.ntmps39
    go_wp2_with fail
    refine HCL.out.mono ?_
    rintro e w1 ⟨⟨A1, c1, rfl, ho⟩, hb1⟩
    have HI := Lib.hid (HIN.out A1 c1 w1 hb1 ho)
    clear ho
    go_wp2_with fail
    refine (H1.out A1 c1 _ (HI.out _ (by (repeat (first | (with_reducible exact Below.refl _ _) | (with_reducible assumption) | (with_reducible refine Below.drew ?_) | (with_reducible refine Below.allocS ?_ _) | (with_reducible refine Below.setCell ?_ ?_ _) | (with_reducible refine Below.step ?_ (by assumption)) | (with_reducible refine Below.drewN' ?_ _))); (try any_goals (first | (with_reducible assumption) | (simp; done) | (simp; omega) | omega))))).mono ?_
    rintro e w2 ⟨rfl, hb2⟩
    have d0 : w2.cell? ⟨w1.heap.size, 0, none⟩ = some (.slice A1 0 c1) := keep_cell hb2 (by simp [go_sem])
    have d1 : w2.cell? ⟨w1.heap.size, 1, none⟩ = some (.slice B nL cb) := keep_cell hb2 (by simp [go_sem])
    have d2 : w2.cell? ⟨w1.heap.size, 2, none⟩ = some (.int .i64 per) := keep_cell hb2 (by simp [go_sem])
    have hb12 : Below w1.heap.size w1 w2 := Below.low (by (repeat (first | (with_reducible exact Below.refl _ _) | (with_reducible assumption) | (with_reducible refine Below.drew ?_) | (with_reducible refine Below.allocS ?_ _) | (with_reducible refine Below.setCell ?_ ?_ _) | (with_reducible refine Below.step ?_ (by assumption)) | (with_reducible refine Below.drewN' ?_ _))); (try any_goals (first | (with_reducible assumption) | (simp; done) | (simp; omega) | omega))) hb2 (by simp)
    have HI2 := Lib.hid (HI.out w2 hb12)
    go_wp2_with fail
    go_loopw [24] (fun i wr => i = .int .i64 0 ∧ w2 = wr) (fun i _ => 0)
    case atStart => exact ⟨rfl, rfl⟩
    case round =>
      obtain ⟨rfl, rfl⟩ := hrel
      go_wp2_with fail
      refine (H31.out A1 c1 _ HI2.out).mono ?_
      rintro e w3 ⟨⟨x, rfl⟩, hb3⟩
      go_wp2
      go_ret2
      exact ⟨by rw [HB2.out]; rfl, by (repeat (first | exact Below.refl _ _ | refine Below.drew ?_ | refine Below.allocS ?_ _ | refine Below.step ?_ (by assumption) | refine Below.setCell ?_ (by simp <;> omega) _ | refine Below.drewN' ?_ _))⟩
  have H21 := Lib.hid (H2.out rfl)
  clear H2 H3
  go_enter Try.func39, Try.ntmps39
  go_wp2_with fail
  refine HCL.out.mono ?_
  rintro e w1 ⟨⟨A1, c1, rfl, ho⟩, hb1⟩
  obtain ⟨g1, rfl⟩ := own_addr ho (by omega)
  have HOA := Lib.hid (OneAt.start HN.out.symm ho)
  have hg1 := ho.lt g1 rfl
  obtain ⟨A0, c1', e', hc1, -⟩ := row_form ho
  simp at e'
  obtain ⟨rfl, rfl⟩ := e'
  have HI := Lib.hid (HIN.out _ c1 w1 hb1 ho)
  clear ho
  go_wp2_with fail
  refine (H1.out _ c1 _ (HI.out _ (by (repeat (first | (with_reducible exact Below.refl _ _) | (with_reducible assumption) | (with_reducible refine Below.drew ?_) | (with_reducible refine Below.allocS ?_ _) | (with_reducible refine Below.setCell ?_ ?_ _) | (with_reducible refine Below.step ?_ (by assumption)) | (with_reducible refine Below.drewN' ?_ _))); (try any_goals (first | (with_reducible assumption) | (simp; done) | (simp; omega) | omega))))).mono ?_
  rintro e w2 ⟨rfl, hb2⟩
  have d0 : w2.cell? ⟨w1.heap.size, 0, none⟩ = some (.slice (some ⟨g1, 0, none⟩) n c1) := keep_cell hb2 (by simp [go_sem])
  have d1 : w2.cell? ⟨w1.heap.size, 1, none⟩ = some (.slice B nL cb) := keep_cell hb2 (by simp [go_sem])
  have d2 : w2.cell? ⟨w1.heap.size, 2, none⟩ = some (.int .i64 per) := keep_cell hb2 (by simp [go_sem])
  have hb12 : Below w1.heap.size w1 w2 := Below.low (by (repeat (first | (with_reducible exact Below.refl _ _) | (with_reducible assumption) | (with_reducible refine Below.drew ?_) | (with_reducible refine Below.allocS ?_ _) | (with_reducible refine Below.setCell ?_ ?_ _) | (with_reducible refine Below.step ?_ (by assumption)) | (with_reducible refine Below.drewN' ?_ _))); (try any_goals (first | (with_reducible assumption) | (simp; done) | (simp; omega) | omega))) hb2 (by simp)
  have HO2 := Lib.hid (HOA.out.step hb12 hg1.2)
  have hbw2 : Below w.heap.size w w2 := Below.step hb1 hb12
  have hs12 := hb12.size
  clear HI hb2 hb12
  go_wp2_with fail
  go_loopw [24] (fun i wr => ∃ k : Nat, k ≤ n ∧ i = .int .i64 k ∧ OneAt wr g1 l k ∧ wr.cell? ⟨w1.heap.size, 0, none⟩ = some (.slice (some ⟨g1, 0, none⟩) n c1) ∧ wr.cell? ⟨w1.heap.size, 1, none⟩ = some (.slice B nL cb) ∧ wr.cell? ⟨w1.heap.size, 2, none⟩ = some (.int .i64 per) ∧ Below w.heap.size w wr) (fun i _ => n - (intOf i).toNat)
  case atStart => exact ⟨0, Nat.zero_le _, rfl, HO2.out, d0, d1, d2, hbw2⟩
  case round =>
    rename World => U
    clear d0 d1 d2 hbw2
    obtain ⟨k, hk, rfl, ho, d0, d1, d2, hbw⟩ := hrel
    have HO := Lib.hid ho
    have yb : w1.heap.size < U.heap.size := cell?_lt d0
    clear ho
    by_cases hlt : k < n
    · have hkl : k < l.length := by rw [← HN.out]; exact hlt
      have c4 := (HO.out.c k hkl).c4
      have e4 : oneD l k k = l.getD k ch0 := if_neg (Nat.lt_irrefl k)
      rw [e4] at c4
      have f4 := HO.out.f (k * 5 + 4)
      have HP := Lib.hid (HO.out.put hkl)
      have u3 : IntKind.i64.wrap ((k : Int) + 1) = (k : Int) + 1 := IntWalk.i64_in _ (by omega)
      have z1 : (0 : Int) ≤ (k : Int) := by omega
      have z2 : (k : Int) < (n : Int) := by omega
      have yg := cell?_lt c4
      generalize (l.getD k ch0).v = v at *
      clear hkl e4
      go_wp2
      go_roundw
      case rel => exact ⟨k + 1, by omega, by go_num, HP.out, by rw [World.cell?_setCell_other _ _ _ _ (by intro e; injection e with e1 e2; omega)]; exact d0, by rw [World.cell?_setCell_other _ _ _ _ (by intro e; injection e with e1 e2; omega)]; exact d1, by rw [World.cell?_setCell_other _ _ _ _ (by intro e; injection e with e1 e2; omega)]; exact d2, Below.setCell hbw hg1.1 _⟩
      case measure => simp [intOf]; omega
    · obtain rfl : k = n := by omega
      have HC := Lib.hid (H21.out g1 c1 U hbw (by omega) hc1 HO.out)
      go_wp2_with fail
      refine HC.out.mono ?_
      rintro e w3 ⟨⟨x, rfl⟩, hb3⟩
      go_wp2
      go_ret2
      exact ⟨by rw [HB2.out]; rfl, Below.step hbw hb3⟩
end Go.Proofs.Ytomgaiokmdcjmaa
