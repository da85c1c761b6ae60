/-
  Idle of both. No conditions.
-/
import Derived.Test.YtomgaiokmdcjmaaNt25
namespace Go.Proofs.Ytomgaiokmdcjmaa
open Go.RowKit Go.Deep
set_option linter.unusedVariables false
set_option linter.unusedSimpArgs false
/-- What passes in front of a place of the list. -/
def gap (l : List Ch) (per : Int) (r : List Nat) (k : Nat) : Int := (l.getD (atN r k) ch0).a - (l.getD (atN r (k - 1)) ch0).b - trnC (l.getD (atN r (k - 1)) ch0) (l.getD (atN r k) ch0) per
def idlL (l : List Ch) (per : Int) (r : List Nat) : Nat → Int
  | 0 => 0
  | 1 => 0
  | k + 2 => idlL l per r (k + 1) + gap l per r (k + 1)
theorem idl_step (l : List Ch) (per : Int) (r : List Nat) {k : Nat} (h : 1 ≤ k) : idlL l per r (k + 1) = idlL l per r k + gap l per r k := by
  obtain ⟨k, rfl⟩ : ∃ j, k = j + 1 := ⟨k - 1, by omega⟩
  rfl
structure ABk (l : List Ch) : Prop where
  a : ∀ x ∈ l, 0 ≤ x.a ∧ x.a ≤ 86400000
  b : ∀ x ∈ l, 0 ≤ x.b ∧ x.b ≤ 86400000
theorem ABk.of_ok {l : List Ch} (h : okV l = true) : ABk l :=
  ⟨fun x hx => by
    have := okC_of h x hx
    unfold okC at this
    simp only [Bool.and_eq_true, decide_eq_true_eq] at this
    omega, fun x hx => by
    have := okC_of h x hx
    unfold okC at this
    simp only [Bool.and_eq_true, decide_eq_true_eq] at this
    omega⟩
theorem as_ok {l : List Ch} {L : List Cl} {per : Int} (h : asE l L per = 0) : okV l = true ∧ okCl L = true ∧ within per 0 10000 = true := by
  unfold asE at h
  by_cases h1 : (okV l && okCl L) = true
  · rw [if_pos h1] at h
    rw [Bool.and_eq_true] at h1
    by_cases h2 : within per 0 10000 = true
    · exact ⟨h1.1, h1.2, h2⟩
    · rw [if_neg h2] at h; cases h
  · rw [if_neg h1] at h; cases h
theorem gap_bd {l : List Ch} {per : Int} (hp : PlanOk l per) (ha : ABk l) {r : List Nat} {k : Nat} (h1 : atN r k < l.length) (h0 : atN r (k - 1) < l.length) : -2000000000 ≤ gap l per r k ∧ gap l per r k ≤ 2000000000 := by
  unfold gap
  have h2 := trn_bd (hp.t _ (mem_getD h0)) (hp.t _ (mem_getD h1)) hp.p
  have h3 := ha.a _ (mem_getD h1)
  have h4 := ha.b _ (mem_getD h0)
  omega
theorem idl_bd {l : List Ch} {per : Int} (hp : PlanOk l per) (ha : ABk l) {r : List Nat} (hr : ∀ i ∈ r, i < l.length) : ∀ {k : Nat}, k ≤ r.length → -2000000000 * (k : Int) ≤ idlL l per r k ∧ idlL l per r k ≤ 2000000000 * (k : Int)
  | 0, _ => by simp [idlL]
  | 1, _ => by simp [idlL]
  | k + 2, h => by
    have h1 := idl_bd hp ha hr (k := k + 1) (by omega)
    have h2 := gap_bd hp ha (r := r) (k := k + 1) (hr _ (atN_mem (by omega))) (hr _ (atN_mem (by omega)))
    simp only [idlL]
    omega
/-- The error and the value. -/
noncomputable def idlE (l : List Ch) (per : Int) (r : List Int) : Int := if asE l [] per = 0 then (if lstB l.length r = true then (if rgtB l [] per (nats r) = true then 0 else 9) else 5) else asE l [] per
noncomputable def idlV (l : List Ch) (per : Int) (r : List Int) : Int := if asE l [] per = 0 ∧ lstB l.length r = true ∧ rgtB l [] per (nats r) = true then idlL l per (nats r) r.length else 0
set_option maxHeartbeats 4000000 in
set_option maxRecDepth 100000 in
theorem Idle_c (l : List Ch) (A : Option Addr) (cap : Nat) (L : List Cl) (B : Option Addr) (cb : Nat) (per : Int) (w : World) (h0 : InAt w l A cap L B cb)
    (r : List Int) (m : Nat) (hm : r.length = m) (hn : m ≤ 1000) (C : Option Addr) (cc : Nat) (hr : RdL w w.heap.size inE 1 C r) :
    Calls Try.prog 33 #[.slice A l.length cap, .int .i64 per, .slice C m cc] w fun e w' => e = .returned (.tuple #[.int .i64 (idlV l per r), .int .i64 (idlE l per r)]) ∧ Below w.heap.size w w' := by
  have h := h0.bare
  clear h0
  have H1 := Lib.hid (fun W (hb : Below w.heap.size w W) => asked_c l A cap [] none 0 per W (h.step hb))
  have H2 := Lib.hid (fun W (hb : Below w.heap.size w W) => listed_c l.length h.hl A cap r m hm (by omega) C cc W (hr.step hb))
  have H3 : Hid (∀ W, Below w.heap.size w W → asE l [] per = 0 → lstB l.length r = true → Calls Try.prog 75 #[.agg #[.slice A l.length cap, .slice none 0 0, .int .i64 per], .slice C m cc] W fun e w' => e = .returned (.bool (rgtB l [] per (nats r))) ∧ Below W.heap.size W w') :=
    Lib.hid (fun W hb h0 h1 => by
      have := right_c l A cap [] none 0 per W (h.step hb) (PlanOk.of_as h0) (nats r) (nats_lt h1) (by rw [nats_len]; omega) C cc (by rw [nats_back h1]; exact hr.step hb)
      rw [nats_len, hm] at this
      exact this)
  have HT := Lib.hid (fun (h0 : asE l [] per = 0) W i j (hi : i < l.length) (hj : j < l.length) => turn_c (l.getD i ch0) (l.getD j ch0) per ((PlanOk.of_as h0).t _ (mem_getD hi)) ((PlanOk.of_as h0).t _ (mem_getD hj)) (PlanOk.of_as h0).p W)
  have HE : Hid (idlE l per r = if asE l [] per = 0 then (if lstB l.length r = true then (if rgtB l [] per (nats r) = true then 0 else 9) else 5) else asE l [] per) := Lib.hid rfl
  have HV : Hid (idlV l per r = if asE l [] per = 0 ∧ lstB l.length r = true ∧ rgtB l [] per (nats r) = true then idlL l per (nats r) m else 0) := Lib.hid (by rw [← hm]; rfl)
  have HP := Lib.hid (fun h0 : asE l [] per = 0 => And.intro (PlanOk.of_as h0) (ABk.of_ok (as_ok h0).1))
  have HR := Lib.hid hr
  have HIN := Lib.hid h.hr
  have HLT := Lib.hid (@nats_lt l.length r)
  have HLB := Lib.hid (@nats_back l.length r)
  obtain ⟨n, hnl⟩ : ∃ n, n = l.length := ⟨_, rfl⟩
  have HN := Lib.hid hnl
  have HM := Lib.hid hm
  have hl : n ≤ 1000000 := by rw [hnl]; exact h.hl
  rw [← hnl] at H1 H2 H3 HT HE HV HLT HLB ⊢
  clear hr hnl hm h
  generalize idlV l per r = V at *
  generalize idlE l per r = E at *
  generalize asE l [] per = v at *
  by_cases hv : v = 0
  case neg =>
    have q0 : (v != 0) = true := by simp [hv]
    have HF := Lib.hid (show E = v by rw [HE.out, if_neg hv])
    have HG := Lib.hid (show V = 0 by rw [HV.out, if_neg (fun h => hv h.1)])
    go_enter Try.func33, Try.ntmps33
    go_wp2_with fail
    refine (H1.out _ (by (repeat (first | exact Below.refl _ _ | refine Below.drew ?_ | refine Below.allocS ?_ _ | refine Below.step ?_ (by assumption) | refine Below.setCell ?_ (by simp <;> omega) _ | refine Below.drewN' ?_ _)))).mono ?_
    rintro e w1 ⟨rfl, hb1⟩
    have x1_0_0 : w1.cell? ⟨w.heap.size, 0, none⟩ = some (.slice A n cap) := keep_cell hb1 (by simp [go_sem, *])
    have x1_0_1 : w1.cell? ⟨w.heap.size, 1, none⟩ = some (.slice none 0 0) := keep_cell hb1 (by simp [go_sem, *])
    have x1_0_2 : w1.cell? ⟨w.heap.size, 2, none⟩ = some (.int .i64 per) := keep_cell hb1 (by simp [go_sem, *])
    have y1_0 : w.heap.size < w1.heap.size := cell?_lt x1_0_0
    have g1 : Below w.heap.size w w1 := by (repeat (first | exact Below.refl _ _ | refine Below.drew ?_ | refine Below.allocS ?_ _ | refine Below.step ?_ (by assumption) | refine Below.setCell ?_ (by simp <;> omega) _ | refine Below.drewN' ?_ _))
    clear hb1
    go_wp2
    go_ret2
    exact ⟨by rw [HF.out, HG.out]; rfl, by (repeat (first | exact Below.refl _ _ | refine Below.drew ?_ | refine Below.allocS ?_ _ | refine Below.step ?_ (by assumption) | refine Below.setCell ?_ (by simp <;> omega) _ | refine Below.drewN' ?_ _))⟩
  subst hv
  have HP1 := Lib.hid (HP.out rfl)
  have HT1 := Lib.hid (fun W i j hi hj => HT.out rfl W i j hi hj)
  clear HP HT
  obtain ⟨X2, hX2⟩ : ∃ x, x = lstB n r := ⟨_, rfl⟩
  cases X2
  case false =>
    rw [← hX2] at H2 HE HV
    have HF := Lib.hid (show E = 5 by rw [HE.out]; rfl)
    have HG := Lib.hid (show V = 0 by rw [HV.out, if_neg (fun h => by cases h.2.1)])
    clear H3 HLT HLB hX2
    go_enter Try.func33, Try.ntmps33
    go_wp2_with fail
    refine (H1.out _ (by (repeat (first | exact Below.refl _ _ | refine Below.drew ?_ | refine Below.allocS ?_ _ | refine Below.step ?_ (by assumption) | refine Below.setCell ?_ (by simp <;> omega) _ | refine Below.drewN' ?_ _)))).mono ?_
    rintro e w1 ⟨rfl, hb1⟩
    have x1_0_0 : w1.cell? ⟨w.heap.size, 0, none⟩ = some (.slice A n cap) := keep_cell hb1 (by simp [go_sem, *])
    have x1_0_1 : w1.cell? ⟨w.heap.size, 1, none⟩ = some (.slice none 0 0) := keep_cell hb1 (by simp [go_sem, *])
    have x1_0_2 : w1.cell? ⟨w.heap.size, 2, none⟩ = some (.int .i64 per) := keep_cell hb1 (by simp [go_sem, *])
    have y1_0 : w.heap.size < w1.heap.size := cell?_lt x1_0_0
    have g1 : Below w.heap.size w w1 := by (repeat (first | exact Below.refl _ _ | refine Below.drew ?_ | refine Below.allocS ?_ _ | refine Below.step ?_ (by assumption) | refine Below.setCell ?_ (by simp <;> omega) _ | refine Below.drewN' ?_ _))
    clear hb1
    go_wp2_with fail
    refine (H2.out _ (by (repeat (first | exact Below.refl _ _ | refine Below.drew ?_ | refine Below.allocS ?_ _ | refine Below.step ?_ (by assumption) | refine Below.setCell ?_ (by simp <;> omega) _ | refine Below.drewN' ?_ _)))).mono ?_
    rintro e w2 ⟨rfl, hb2⟩
    have x2_0_0 : w2.cell? ⟨w.heap.size, 0, none⟩ = some (.slice A n cap) := keep_cell hb2 (by simp [go_sem, *])
    have x2_0_1 : w2.cell? ⟨w.heap.size, 1, none⟩ = some (.slice none 0 0) := keep_cell hb2 (by simp [go_sem, *])
    have x2_0_2 : w2.cell? ⟨w.heap.size, 2, none⟩ = some (.int .i64 per) := keep_cell hb2 (by simp [go_sem, *])
    have y2_0 : w.heap.size < w2.heap.size := cell?_lt x2_0_0
    have g2 : Below w.heap.size w w2 := by (repeat (first | exact Below.refl _ _ | refine Below.drew ?_ | refine Below.allocS ?_ _ | refine Below.step ?_ (by assumption) | refine Below.setCell ?_ (by simp <;> omega) _ | refine Below.drewN' ?_ _))
    clear hb2 g1 x1_0_0 x1_0_1 x1_0_2 y1_0
    go_wp2
    go_ret2
    exact ⟨by rw [HF.out, HG.out]; rfl, by (repeat (first | exact Below.refl _ _ | refine Below.drew ?_ | refine Below.allocS ?_ _ | refine Below.step ?_ (by assumption) | refine Below.setCell ?_ (by simp <;> omega) _ | refine Below.drewN' ?_ _))⟩
  have HLT2 := Lib.hid (HLT.out hX2.symm)
  have HLB2 := Lib.hid (HLB.out hX2.symm)
  have H31 := Lib.hid (fun W hb => H3.out W hb rfl hX2.symm)
  rw [← hX2] at H2 HE HV
  clear HLT HLB hX2 H3
  obtain ⟨X3, hX3⟩ : ∃ x, x = rgtB l [] per (nats r) := ⟨_, rfl⟩
  rw [← hX3] at H31 HE HV
  clear hX3
  cases X3
  case false =>
    have HF := Lib.hid (show E = 9 by rw [HE.out]; rfl)
    have HG := Lib.hid (show V = 0 by rw [HV.out, if_neg (fun h => by cases h.2.2)])
    go_enter Try.func33, Try.ntmps33
    go_wp2_with fail
    refine (H1.out _ (by (repeat (first | exact Below.refl _ _ | refine Below.drew ?_ | refine Below.allocS ?_ _ | refine Below.step ?_ (by assumption) | refine Below.setCell ?_ (by simp <;> omega) _ | refine Below.drewN' ?_ _)))).mono ?_
    rintro e w1 ⟨rfl, hb1⟩
    have x1_0_0 : w1.cell? ⟨w.heap.size, 0, none⟩ = some (.slice A n cap) := keep_cell hb1 (by simp [go_sem, *])
    have x1_0_1 : w1.cell? ⟨w.heap.size, 1, none⟩ = some (.slice none 0 0) := keep_cell hb1 (by simp [go_sem, *])
    have x1_0_2 : w1.cell? ⟨w.heap.size, 2, none⟩ = some (.int .i64 per) := keep_cell hb1 (by simp [go_sem, *])
    have y1_0 : w.heap.size < w1.heap.size := cell?_lt x1_0_0
    have g1 : Below w.heap.size w w1 := by (repeat (first | exact Below.refl _ _ | refine Below.drew ?_ | refine Below.allocS ?_ _ | refine Below.step ?_ (by assumption) | refine Below.setCell ?_ (by simp <;> omega) _ | refine Below.drewN' ?_ _))
    clear hb1
    go_wp2_with fail
    refine (H2.out _ (by (repeat (first | exact Below.refl _ _ | refine Below.drew ?_ | refine Below.allocS ?_ _ | refine Below.step ?_ (by assumption) | refine Below.setCell ?_ (by simp <;> omega) _ | refine Below.drewN' ?_ _)))).mono ?_
    rintro e w2 ⟨rfl, hb2⟩
    have x2_0_0 : w2.cell? ⟨w.heap.size, 0, none⟩ = some (.slice A n cap) := keep_cell hb2 (by simp [go_sem, *])
    have x2_0_1 : w2.cell? ⟨w.heap.size, 1, none⟩ = some (.slice none 0 0) := keep_cell hb2 (by simp [go_sem, *])
    have x2_0_2 : w2.cell? ⟨w.heap.size, 2, none⟩ = some (.int .i64 per) := keep_cell hb2 (by simp [go_sem, *])
    have y2_0 : w.heap.size < w2.heap.size := cell?_lt x2_0_0
    have g2 : Below w.heap.size w w2 := by (repeat (first | exact Below.refl _ _ | refine Below.drew ?_ | refine Below.allocS ?_ _ | refine Below.step ?_ (by assumption) | refine Below.setCell ?_ (by simp <;> omega) _ | refine Below.drewN' ?_ _))
    clear hb2 g1 x1_0_0 x1_0_1 x1_0_2 y1_0
    go_wp2_with fail
    refine (H31.out _ (by (repeat (first | exact Below.refl _ _ | refine Below.drew ?_ | refine Below.allocS ?_ _ | refine Below.step ?_ (by assumption) | refine Below.setCell ?_ (by simp <;> omega) _ | refine Below.drewN' ?_ _)))).mono ?_
    rintro e w3 ⟨rfl, hb3⟩
    have x3_0_0 : w3.cell? ⟨w.heap.size, 0, none⟩ = some (.slice A n cap) := keep_cell hb3 (by simp [go_sem, *])
    have x3_0_1 : w3.cell? ⟨w.heap.size, 1, none⟩ = some (.slice none 0 0) := keep_cell hb3 (by simp [go_sem, *])
    have x3_0_2 : w3.cell? ⟨w.heap.size, 2, none⟩ = some (.int .i64 per) := keep_cell hb3 (by simp [go_sem, *])
    have y3_0 : w.heap.size < w3.heap.size := cell?_lt x3_0_0
    have g3 : Below w.heap.size w w3 := by (repeat (first | exact Below.refl _ _ | refine Below.drew ?_ | refine Below.allocS ?_ _ | refine Below.step ?_ (by assumption) | refine Below.setCell ?_ (by simp <;> omega) _ | refine Below.drewN' ?_ _))
    clear hb3 g2 x2_0_0 x2_0_1 x2_0_2 y2_0
    go_wp2
    go_ret2
    exact ⟨by rw [HF.out, HG.out]; rfl, by (repeat (first | exact Below.refl _ _ | refine Below.drew ?_ | refine Below.allocS ?_ _ | refine Below.step ?_ (by assumption) | refine Below.setCell ?_ (by simp <;> omega) _ | refine Below.drewN' ?_ _))⟩
  have HF := Lib.hid (show E = 0 by rw [HE.out]; rfl)
  have HG := Lib.hid (show V = idlL l per (nats r) m by rw [HV.out, if_pos ⟨rfl, rfl, rfl⟩])
  have HR2 : Hid (∀ W, Below w.heap.size w W → ∀ k, k < m → ∃ b off, C = some ⟨b, off, none⟩ ∧ b < w.heap.size ∧ ∀ j, j < m → W.cell? ⟨b, off + j, none⟩ = some (.int .i64 (atN (nats r) j))) := Lib.hid (fun W hb k hk => by
    obtain ⟨b, off, e, hb0, hc⟩ := int_cell HR.out hb (by rw [HM.out]; exact hk)
    refine ⟨b, off, e, hb0, fun j hj => ?_⟩
    rw [← atI_nat, HLB2.out]
    exact hc j (by rw [HM.out]; exact hj))
  have HIL : Hid (∀ k, k < m → atN (nats r) k < n) := Lib.hid (fun k hk => HLT2.out _ (atN_mem (by rw [nats_len, HM.out]; exact hk)))
  have HBD := Lib.hid (fun k (hk : k ≤ m) => idl_bd HP1.out.1 HP1.out.2 (r := nats r) (by rw [← HN.out]; exact HLT2.out) (k := k) (by rw [nats_len, HM.out]; exact hk))
  clear HE HV HR HLB2 HLT2
  generalize nats r = rn at *
  go_enter Try.func33, Try.ntmps33
  go_wp2_with fail
  refine (H1.out _ (by (repeat (first | exact Below.refl _ _ | refine Below.drew ?_ | refine Below.allocS ?_ _ | refine Below.step ?_ (by assumption) | refine Below.setCell ?_ (by simp <;> omega) _ | refine Below.drewN' ?_ _)))).mono ?_
  rintro e w1 ⟨rfl, hb1⟩
  have x1_0_0 : w1.cell? ⟨w.heap.size, 0, none⟩ = some (.slice A n cap) := keep_cell hb1 (by simp [go_sem, *])
  have x1_0_1 : w1.cell? ⟨w.heap.size, 1, none⟩ = some (.slice none 0 0) := keep_cell hb1 (by simp [go_sem, *])
  have x1_0_2 : w1.cell? ⟨w.heap.size, 2, none⟩ = some (.int .i64 per) := keep_cell hb1 (by simp [go_sem, *])
  have y1_0 : w.heap.size < w1.heap.size := cell?_lt x1_0_0
  have g1 : Below w.heap.size w w1 := by (repeat (first | exact Below.refl _ _ | refine Below.drew ?_ | refine Below.allocS ?_ _ | refine Below.step ?_ (by assumption) | refine Below.setCell ?_ (by simp <;> omega) _ | refine Below.drewN' ?_ _))
  clear hb1
  go_wp2_with fail
  refine (H2.out _ (by (repeat (first | exact Below.refl _ _ | refine Below.drew ?_ | refine Below.allocS ?_ _ | refine Below.step ?_ (by assumption) | refine Below.setCell ?_ (by simp <;> omega) _ | refine Below.drewN' ?_ _)))).mono ?_
  rintro e w2 ⟨rfl, hb2⟩
  have x2_0_0 : w2.cell? ⟨w.heap.size, 0, none⟩ = some (.slice A n cap) := keep_cell hb2 (by simp [go_sem, *])
  have x2_0_1 : w2.cell? ⟨w.heap.size, 1, none⟩ = some (.slice none 0 0) := keep_cell hb2 (by simp [go_sem, *])
  have x2_0_2 : w2.cell? ⟨w.heap.size, 2, none⟩ = some (.int .i64 per) := keep_cell hb2 (by simp [go_sem, *])
  have y2_0 : w.heap.size < w2.heap.size := cell?_lt x2_0_0
  have g2 : Below w.heap.size w w2 := by (repeat (first | exact Below.refl _ _ | refine Below.drew ?_ | refine Below.allocS ?_ _ | refine Below.step ?_ (by assumption) | refine Below.setCell ?_ (by simp <;> omega) _ | refine Below.drewN' ?_ _))
  clear hb2 g1 x1_0_0 x1_0_1 x1_0_2 y1_0
  go_wp2_with fail
  refine (H31.out _ (by (repeat (first | exact Below.refl _ _ | refine Below.drew ?_ | refine Below.allocS ?_ _ | refine Below.step ?_ (by assumption) | refine Below.setCell ?_ (by simp <;> omega) _ | refine Below.drewN' ?_ _)))).mono ?_
  rintro e w3 ⟨rfl, hb3⟩
  have x3_0_0 : w3.cell? ⟨w.heap.size, 0, none⟩ = some (.slice A n cap) := keep_cell hb3 (by simp [go_sem, *])
  have x3_0_1 : w3.cell? ⟨w.heap.size, 1, none⟩ = some (.slice none 0 0) := keep_cell hb3 (by simp [go_sem, *])
  have x3_0_2 : w3.cell? ⟨w.heap.size, 2, none⟩ = some (.int .i64 per) := keep_cell hb3 (by simp [go_sem, *])
  have y3_0 : w.heap.size < w3.heap.size := cell?_lt x3_0_0
  have g3 : Below w.heap.size w w3 := by (repeat (first | exact Below.refl _ _ | refine Below.drew ?_ | refine Below.allocS ?_ _ | refine Below.step ?_ (by assumption) | refine Below.setCell ?_ (by simp <;> omega) _ | refine Below.drewN' ?_ _))
  clear hb3 g2 x2_0_0 x2_0_1 x2_0_2 y2_0
  clear H1 H2 H31
  go_wp2_with fail
  go_loopw [10, 11] (fun s i wr => ∃ k : Nat, 1 ≤ k ∧ (k ≤ m ∨ k = 1) ∧ i = .int .i64 k ∧ s = .int .i64 (idlL l per rn k) ∧ Below w.heap.size w wr) (fun _ i _ => m - (intOf i).toNat)
  case atStart => exact ⟨1, Nat.le_refl _, .inr rfl, rfl, rfl, by (repeat (first | (with_reducible exact Below.refl _ _) | (with_reducible assumption) | (with_reducible refine Below.drew ?_) | (with_reducible refine Below.allocS ?_ _) | (with_reducible refine Below.setCell ?_ ?_ _) | (with_reducible refine Below.step ?_ (by assumption)) | (with_reducible refine Below.drewN' ?_ _))); (try any_goals (first | (with_reducible assumption) | (simp; done) | (simp; omega) | omega))⟩
  case round =>
    rename World => U
    obtain ⟨k, hk1, hk, rfl, rfl, hbw⟩ := hrel
    by_cases hlt : k < m
    · obtain ⟨b2, off2, rfl, hb2, hc2⟩ := HR2.out U hbw k hlt
      obtain ⟨k, rfl⟩ : ∃ j, k = j + 1 := ⟨k - 1, by omega⟩
      have c0 := hc2 (k + 1) hlt
      have e0 := hc2 k (by omega)
      have hi := HIL.out (k + 1) hlt
      have hi1 := HIL.out k (by omega)
      obtain ⟨b, off, rfl, hb0, hch⟩ := ch_cells HIN.out (by rw [← HN.out]; omega)
      obtain ⟨q0, q1, q2, q3, q4⟩ := hch U hbw _ (by rw [← HN.out]; exact hi)
      obtain ⟨r0, r1, r2, r3, r4⟩ := hch U hbw _ (by rw [← HN.out]; exact hi1)
      have HTU := Lib.hid (fun W => HT1.out W _ _ hi1 hi)
      have HS := Lib.hid (idl_step l per rn (show 1 ≤ k + 1 by omega))
      have hbd := HBD.out (k + 1) (by omega)
      have hgb := gap_bd HP1.out.1 HP1.out.2 (r := rn) (k := k + 1) (by rw [← HN.out]; exact hi) (by rw [← HN.out]; exact hi1)
      have hg : gap l per rn (k + 1) = (l.getD (atN rn (k + 1)) ch0).a - (l.getD (atN rn k) ch0).b - trnC (l.getD (atN rn k) ch0) (l.getD (atN rn (k + 1)) ch0) per := rfl
      have hxa := HP1.out.2.a _ (mem_getD (show atN rn (k + 1) < l.length by rw [← HN.out]; exact hi))
      have hxb := HP1.out.2.b _ (mem_getD (show atN rn k < l.length by rw [← HN.out]; exact hi1))
      rw [hg] at hgb HS
      clear hg hc2 hch
      have z1 : (0 : Int) ≤ (atN rn (k + 1) : Int) := by omega
      have z2 : (atN rn (k + 1) : Int) < (n : Int) := by omega
      have z3 : (0 : Int) ≤ (atN rn k : Int) := by omega
      have z4 : (atN rn k : Int) < (n : Int) := by omega
      have yb := cell?_lt q1
      have yd := cell?_lt r1
      have ye := cell?_lt e0
      generalize trnC (l.getD (atN rn k) ch0) (l.getD (atN rn (k + 1)) ch0) per = T at *
      generalize l.getD (atN rn (k + 1)) ch0 = c at *
      generalize l.getD (atN rn k) ch0 = d at *
      generalize atN rn (k + 1) = ii at *
      generalize atN rn k = i1 at *
      generalize idlL l per rn (k + 1) = s at *
      have v1 : IntKind.i64.wrap (c.a - d.b) = c.a - d.b := IntWalk.i64_in _ (by omega)
      have v2 : IntKind.i64.wrap (c.a - d.b - T) = c.a - d.b - T := IntWalk.i64_in _ (by omega)
      have v3 : IntKind.i64.wrap (s + (c.a - d.b - T)) = s + (c.a - d.b - T) := IntWalk.i64_in _ (by omega)
      have u1 : decide (((k + 1 : Nat) : Int) < (m : Int)) = true := decide_eq_true (by omega)
      have u2 : (0 : Int) ≤ ((k + 1 : Nat) : Int) := by omega
      have u3 : ((k + 1 : Nat) : Int) < (m : Int) := by omega
      have u4 : IntKind.i64.wrap (((k + 1 : Nat) : Int) + 1) = ((k + 1 + 1 : Nat) : Int) := IntWalk.i64_in _ (by omega)
      have u5 : IntKind.i64.wrap (((k + 1 : Nat) : Int) - 1) = (k : Int) := by rw [show ((k + 1 : Nat) : Int) - 1 = (k : Int) by omega]; exact IntWalk.i64_in _ (by omega)
      have u6 : (0 : Int) ≤ (k : Int) := by omega
      have u7 : (k : Int) < (m : Int) := by omega
      obtain ⟨K, hK⟩ : ∃ K : Int, K = ((k + 1 : Nat) : Int) := ⟨_, rfl⟩
      have t1 : K.toNat = k + 1 := by rw [hK]; exact Int.toNat_natCast _
      rw [← hK] at u1 u2 u3 u4 u5 ⊢
      clear hK hgb hbd hxa hxb
      go_wp2_with fail
      go_region
      all_goals
        go_wp2_with fail
        refine region_below (by kernel_rfl) (by kernel_rfl) ?_
        (first | go_big_quiet_skip | (go_big_quiet_want; refine quiet_val (v := ?_) ?_ ?_; rotate_left 1; (· (intro Wq hWq; obtain ⟨hWc, hWf⟩ := bcell hWq; go_simp; (try with_reducible rfl))); go_big_quiet_on; (try simp only [Act.put, List.setIfInBounds_toArray, List.set_cons_zero, List.set_cons_succ])))
        (first | go_big_quiet_skip | (go_big_quiet_want; refine quiet_val (v := ?_) ?_ ?_; rotate_left 1; (· (intro Wq hWq; obtain ⟨hWc, hWf⟩ := bcell hWq; go_simp; (try with_reducible rfl))); go_big_quiet_on; (try simp only [Act.put, List.setIfInBounds_toArray, List.set_cons_zero, List.set_cons_succ])))
        (first | go_big_quiet_skip | (go_big_quiet_want; refine quiet_val (v := ?_) ?_ ?_; rotate_left 1; (· (intro Wq hWq; obtain ⟨hWc, hWf⟩ := bcell hWq; go_simp; (try with_reducible rfl))); go_big_quiet_on; (try simp only [Act.put, List.setIfInBounds_toArray, List.set_cons_zero, List.set_cons_succ])))
        (first | go_big_quiet_skip | (go_big_quiet_want; refine quiet_val (v := ?_) ?_ ?_; rotate_left 1; (· (intro Wq hWq; obtain ⟨hWc, hWf⟩ := bcell hWq; go_simp; (try with_reducible rfl))); go_big_quiet_on; (try simp only [Act.put, List.setIfInBounds_toArray, List.set_cons_zero, List.set_cons_succ])))
        (first | go_big_quiet_skip | (go_big_quiet_want; refine quiet_val (v := ?_) ?_ ?_; rotate_left 1; (· (intro Wq hWq; obtain ⟨hWc, hWf⟩ := bcell hWq; go_simp; (try with_reducible rfl))); go_big_quiet_on; (try simp only [Act.put, List.setIfInBounds_toArray, List.set_cons_zero, List.set_cons_succ])))
        (first | go_big_quiet_skip | (go_big_quiet_want; refine quiet_val (v := ?_) ?_ ?_; rotate_left 1; (· (intro Wq hWq; obtain ⟨hWc, hWf⟩ := bcell hWq; go_simp; (try with_reducible rfl))); go_big_quiet_on; (try simp only [Act.put, List.setIfInBounds_toArray, List.set_cons_zero, List.set_cons_succ])))
        (first | go_big_quiet_skip | (go_big_quiet_want; refine quiet_val (v := ?_) ?_ ?_; rotate_left 1; (· (intro Wq hWq; obtain ⟨hWc, hWf⟩ := bcell hWq; go_simp; (try with_reducible rfl))); go_big_quiet_on; (try simp only [Act.put, List.setIfInBounds_toArray, List.set_cons_zero, List.set_cons_succ])))
        (first | go_big_quiet_skip | (go_big_quiet_want; refine quiet_val (v := ?_) ?_ ?_; rotate_left 1; (· (intro Wq hWq; obtain ⟨hWc, hWf⟩ := bcell hWq; go_simp; (try with_reducible rfl))); go_big_quiet_on; (try simp only [Act.put, List.setIfInBounds_toArray, List.set_cons_zero, List.set_cons_succ])))
        (first | go_big_quiet_skip | (go_big_quiet_want; refine quiet_val (v := ?_) ?_ ?_; rotate_left 1; (· (intro Wq hWq; obtain ⟨hWc, hWf⟩ := bcell hWq; go_simp; (try with_reducible rfl))); go_big_quiet_on; (try simp only [Act.put, List.setIfInBounds_toArray, List.set_cons_zero, List.set_cons_succ])))
        go_big_quiet_want; refine quiet_callB (f := 67) (args := ?_) (v := ?_) ?_ ?_ ?_; rotate_left 2
        · (intro Wq hWq; obtain ⟨hWc, hWf⟩ := bcell hWq; go_simp; (first | with_reducible rfl | exact ⟨rfl, rfl⟩))
        · (intro Wq hWq; exact HTU.out _)
        go_big_quiet_on; (try simp only [Act.put, List.setIfInBounds_toArray, List.set_cons_zero, List.set_cons_succ])
        (first | go_big_quiet_skip | (go_big_quiet_want; refine quiet_val (v := ?_) ?_ ?_; rotate_left 1; (· (intro Wq hWq; obtain ⟨hWc, hWf⟩ := bcell hWq; go_simp; (try with_reducible rfl))); go_big_quiet_on; (try simp only [Act.put, List.setIfInBounds_toArray, List.set_cons_zero, List.set_cons_succ])))
        (first | go_big_quiet_skip | (go_big_quiet_want; refine quiet_val (v := ?_) ?_ ?_; rotate_left 1; (· (intro Wq hWq; obtain ⟨hWc, hWf⟩ := bcell hWq; go_simp; (try with_reducible rfl))); go_big_quiet_on; (try simp only [Act.put, List.setIfInBounds_toArray, List.set_cons_zero, List.set_cons_succ])))
        (first | go_big_quiet_skip | (go_big_quiet_want; refine quiet_val (v := ?_) ?_ ?_; rotate_left 1; (· (intro Wq hWq; obtain ⟨hWc, hWf⟩ := bcell hWq; go_simp; (try with_reducible rfl))); go_big_quiet_on; (try simp only [Act.put, List.setIfInBounds_toArray, List.set_cons_zero, List.set_cons_succ])))
        refine wpQuiet_nil ?_; intro V hbV
        have hbV2 : Below w.heap.size w V := Below.low (Below.drew (Below.allocS (Below.allocS hbw _) _)) hbV (by have := hbw.size; simp; omega)
        go_wp2
        go_roundw
        case rel => exact ⟨k + 1 + 1, by omega, .inl (by omega), by first | rfl | go_num, by rw [HS.out], hbV2⟩
        case measure => simp [intOf, t1]; omega
    · have u1 : decide ((k : Int) < (m : Int)) = false := decide_eq_false (by omega)
      have HX := Lib.hid (show idlL l per rn m = idlL l per rn k by
        rcases hk with h | h
        · obtain rfl : k = m := by omega
          rfl
        · subst h
          match m, hlt with
          | 0, _ => rfl
          | 1, _ => rfl
          | m + 2, h => exact absurd (by omega) h)
      go_wp2
      go_ret2
      exact ⟨by rw [HF.out, HG.out, HX.out]; rfl, hbw⟩
set_option maxHeartbeats 4000000 in
set_option maxRecDepth 100000 in
theorem rIdle_c (l : List Ch) (A : Option Addr) (cap : Nat) (L : List Cl) (B : Option Addr) (cb : Nat) (per : Int) (w : World) (h0 : InAt w l A cap L B cb)
    (r : List Int) (m : Nat) (hm : r.length = m) (hn : m ≤ 1000) (C : Option Addr) (cc : Nat) (hr : RdL w w.heap.size inE 1 C r) :
    Calls Try.prog 34 #[.slice A l.length cap, .int .i64 per, .slice C m cc] w fun e w' => e = .returned (.tuple #[.int .i64 (idlV l per r), .int .i64 (idlE l per r)]) ∧ Below w.heap.size w w' := by
  have h := h0.bare
  clear h0
  have H1 := Lib.hid (fun W (hb : Below w.heap.size w W) => rasked_c l A cap [] none 0 per W (h.step hb))
  have H2 := Lib.hid (fun W (hb : Below w.heap.size w W) => there_c l.length h.hl A cap r m hm (by omega) C cc W (hr.step hb))
  have H3 : Hid (∀ W, Below w.heap.size w W → asE l [] per = 0 → lstB l.length r = true → Calls Try.prog 35 #[.slice A l.length cap, .slice none 0 0, .int .i64 per, .slice C m cc] W fun e w' => e = .returned (.bool (rgtB l [] per (nats r))) ∧ Below W.heap.size W w') :=
    Lib.hid (fun W hb h0 h1 => by
      have := rRight_c l A cap [] none 0 per W (h.step hb) r m hm hn C cc (hr.step hb)
      unfold rightE at this
      rw [h0, h1] at this
      exact this)
  have HT := Lib.hid (fun (h0 : asE l [] per = 0) W i j (hi : i < l.length) (hj : j < l.length) => rturn_c (l.getD i ch0) (l.getD j ch0) per ((PlanOk.of_as h0).t _ (mem_getD hi)) ((PlanOk.of_as h0).t _ (mem_getD hj)) (PlanOk.of_as h0).p W)
  have HE : Hid (idlE l per r = if asE l [] per = 0 then (if lstB l.length r = true then (if rgtB l [] per (nats r) = true then 0 else 9) else 5) else asE l [] per) := Lib.hid rfl
  have HV : Hid (idlV l per r = if asE l [] per = 0 ∧ lstB l.length r = true ∧ rgtB l [] per (nats r) = true then idlL l per (nats r) m else 0) := Lib.hid (by rw [← hm]; rfl)
  have HP := Lib.hid (fun h0 : asE l [] per = 0 => And.intro (PlanOk.of_as h0) (ABk.of_ok (as_ok h0).1))
  have HR := Lib.hid hr
  have HIN := Lib.hid h.hr
  have HLT := Lib.hid (@nats_lt l.length r)
  have HLB := Lib.hid (@nats_back l.length r)
  obtain ⟨n, hnl⟩ : ∃ n, n = l.length := ⟨_, rfl⟩
  have HN := Lib.hid hnl
  have HM := Lib.hid hm
  have hl : n ≤ 1000000 := by rw [hnl]; exact h.hl
  rw [← hnl] at H1 H2 H3 HT HE HV HLT HLB ⊢
  clear hr hnl hm h
  generalize idlV l per r = V at *
  generalize idlE l per r = E at *
  generalize asE l [] per = v at *
  by_cases hv : v = 0
  case neg =>
    have q0 : (v != 0) = true := by simp [hv]
    have HF := Lib.hid (show E = v by rw [HE.out, if_neg hv])
    have HG := Lib.hid (show V = 0 by rw [HV.out, if_neg (fun h => hv h.1)])
    go_enter Try.func34, Try.ntmps34
    go_wp2_with fail
    refine (H1.out _ (by (repeat (first | exact Below.refl _ _ | refine Below.drew ?_ | refine Below.allocS ?_ _ | refine Below.step ?_ (by assumption) | refine Below.setCell ?_ (by simp <;> omega) _ | refine Below.drewN' ?_ _)))).mono ?_
    rintro e w1 ⟨rfl, hb1⟩
    have g1 : Below w.heap.size w w1 := by (repeat (first | exact Below.refl _ _ | refine Below.drew ?_ | refine Below.allocS ?_ _ | refine Below.step ?_ (by assumption) | refine Below.setCell ?_ (by simp <;> omega) _ | refine Below.drewN' ?_ _))
    clear hb1
    go_wp2
    go_ret2
    exact ⟨by rw [HF.out, HG.out]; rfl, by (repeat (first | exact Below.refl _ _ | refine Below.drew ?_ | refine Below.allocS ?_ _ | refine Below.step ?_ (by assumption) | refine Below.setCell ?_ (by simp <;> omega) _ | refine Below.drewN' ?_ _))⟩
  subst hv
  have HP1 := Lib.hid (HP.out rfl)
  have HT1 := Lib.hid (fun W i j hi hj => HT.out rfl W i j hi hj)
  clear HP HT
  obtain ⟨X2, hX2⟩ : ∃ x, x = lstB n r := ⟨_, rfl⟩
  cases X2
  case false =>
    rw [← hX2] at H2 HE HV
    have HF := Lib.hid (show E = 5 by rw [HE.out]; rfl)
    have HG := Lib.hid (show V = 0 by rw [HV.out, if_neg (fun h => by cases h.2.1)])
    clear H3 HLT HLB hX2
    go_enter Try.func34, Try.ntmps34
    go_wp2_with fail
    refine (H1.out _ (by (repeat (first | exact Below.refl _ _ | refine Below.drew ?_ | refine Below.allocS ?_ _ | refine Below.step ?_ (by assumption) | refine Below.setCell ?_ (by simp <;> omega) _ | refine Below.drewN' ?_ _)))).mono ?_
    rintro e w1 ⟨rfl, hb1⟩
    have g1 : Below w.heap.size w w1 := by (repeat (first | exact Below.refl _ _ | refine Below.drew ?_ | refine Below.allocS ?_ _ | refine Below.step ?_ (by assumption) | refine Below.setCell ?_ (by simp <;> omega) _ | refine Below.drewN' ?_ _))
    clear hb1
    go_wp2_with fail
    refine (H2.out _ (by (repeat (first | exact Below.refl _ _ | refine Below.drew ?_ | refine Below.allocS ?_ _ | refine Below.step ?_ (by assumption) | refine Below.setCell ?_ (by simp <;> omega) _ | refine Below.drewN' ?_ _)))).mono ?_
    rintro e w2 ⟨rfl, hb2⟩
    have g2 : Below w.heap.size w w2 := by (repeat (first | exact Below.refl _ _ | refine Below.drew ?_ | refine Below.allocS ?_ _ | refine Below.step ?_ (by assumption) | refine Below.setCell ?_ (by simp <;> omega) _ | refine Below.drewN' ?_ _))
    clear hb2 g1 
    go_wp2
    go_ret2
    exact ⟨by rw [HF.out, HG.out]; rfl, by (repeat (first | exact Below.refl _ _ | refine Below.drew ?_ | refine Below.allocS ?_ _ | refine Below.step ?_ (by assumption) | refine Below.setCell ?_ (by simp <;> omega) _ | refine Below.drewN' ?_ _))⟩
  have HLT2 := Lib.hid (HLT.out hX2.symm)
  have HLB2 := Lib.hid (HLB.out hX2.symm)
  have H31 := Lib.hid (fun W hb => H3.out W hb rfl hX2.symm)
  rw [← hX2] at H2 HE HV
  clear HLT HLB hX2 H3
  obtain ⟨X3, hX3⟩ : ∃ x, x = rgtB l [] per (nats r) := ⟨_, rfl⟩
  rw [← hX3] at H31 HE HV
  clear hX3
  cases X3
  case false =>
    have HF := Lib.hid (show E = 9 by rw [HE.out]; rfl)
    have HG := Lib.hid (show V = 0 by rw [HV.out, if_neg (fun h => by cases h.2.2)])
    go_enter Try.func34, Try.ntmps34
    go_wp2_with fail
    refine (H1.out _ (by (repeat (first | exact Below.refl _ _ | refine Below.drew ?_ | refine Below.allocS ?_ _ | refine Below.step ?_ (by assumption) | refine Below.setCell ?_ (by simp <;> omega) _ | refine Below.drewN' ?_ _)))).mono ?_
    rintro e w1 ⟨rfl, hb1⟩
    have g1 : Below w.heap.size w w1 := by (repeat (first | exact Below.refl _ _ | refine Below.drew ?_ | refine Below.allocS ?_ _ | refine Below.step ?_ (by assumption) | refine Below.setCell ?_ (by simp <;> omega) _ | refine Below.drewN' ?_ _))
    clear hb1
    go_wp2_with fail
    refine (H2.out _ (by (repeat (first | exact Below.refl _ _ | refine Below.drew ?_ | refine Below.allocS ?_ _ | refine Below.step ?_ (by assumption) | refine Below.setCell ?_ (by simp <;> omega) _ | refine Below.drewN' ?_ _)))).mono ?_
    rintro e w2 ⟨rfl, hb2⟩
    have g2 : Below w.heap.size w w2 := by (repeat (first | exact Below.refl _ _ | refine Below.drew ?_ | refine Below.allocS ?_ _ | refine Below.step ?_ (by assumption) | refine Below.setCell ?_ (by simp <;> omega) _ | refine Below.drewN' ?_ _))
    clear hb2 g1 
    go_wp2_with fail
    refine (H31.out _ (by (repeat (first | exact Below.refl _ _ | refine Below.drew ?_ | refine Below.allocS ?_ _ | refine Below.step ?_ (by assumption) | refine Below.setCell ?_ (by simp <;> omega) _ | refine Below.drewN' ?_ _)))).mono ?_
    rintro e w3 ⟨rfl, hb3⟩
    have g3 : Below w.heap.size w w3 := by (repeat (first | exact Below.refl _ _ | refine Below.drew ?_ | refine Below.allocS ?_ _ | refine Below.step ?_ (by assumption) | refine Below.setCell ?_ (by simp <;> omega) _ | refine Below.drewN' ?_ _))
    clear hb3 g2 
    go_wp2
    go_ret2
    exact ⟨by rw [HF.out, HG.out]; rfl, by (repeat (first | exact Below.refl _ _ | refine Below.drew ?_ | refine Below.allocS ?_ _ | refine Below.step ?_ (by assumption) | refine Below.setCell ?_ (by simp <;> omega) _ | refine Below.drewN' ?_ _))⟩
  have HF := Lib.hid (show E = 0 by rw [HE.out]; rfl)
  have HG := Lib.hid (show V = idlL l per (nats r) m by rw [HV.out, if_pos ⟨rfl, rfl, rfl⟩])
  have HR2 : Hid (∀ W, Below w.heap.size w W → ∀ k, k < m → ∃ b off, C = some ⟨b, off, none⟩ ∧ b < w.heap.size ∧ ∀ j, j < m → W.cell? ⟨b, off + j, none⟩ = some (.int .i64 (atN (nats r) j))) := Lib.hid (fun W hb k hk => by
    obtain ⟨b, off, e, hb0, hc⟩ := int_cell HR.out hb (by rw [HM.out]; exact hk)
    refine ⟨b, off, e, hb0, fun j hj => ?_⟩
    rw [← atI_nat, HLB2.out]
    exact hc j (by rw [HM.out]; exact hj))
  have HIL : Hid (∀ k, k < m → atN (nats r) k < n) := Lib.hid (fun k hk => HLT2.out _ (atN_mem (by rw [nats_len, HM.out]; exact hk)))
  have HBD := Lib.hid (fun k (hk : k ≤ m) => idl_bd HP1.out.1 HP1.out.2 (r := nats r) (by rw [← HN.out]; exact HLT2.out) (k := k) (by rw [nats_len, HM.out]; exact hk))
  clear HE HV HR HLB2 HLT2
  generalize nats r = rn at *
  go_enter Try.func34, Try.ntmps34
  go_wp2_with fail
  refine (H1.out _ (by (repeat (first | exact Below.refl _ _ | refine Below.drew ?_ | refine Below.allocS ?_ _ | refine Below.step ?_ (by assumption) | refine Below.setCell ?_ (by simp <;> omega) _ | refine Below.drewN' ?_ _)))).mono ?_
  rintro e w1 ⟨rfl, hb1⟩
  have g1 : Below w.heap.size w w1 := by (repeat (first | exact Below.refl _ _ | refine Below.drew ?_ | refine Below.allocS ?_ _ | refine Below.step ?_ (by assumption) | refine Below.setCell ?_ (by simp <;> omega) _ | refine Below.drewN' ?_ _))
  clear hb1
  go_wp2_with fail
  refine (H2.out _ (by (repeat (first | exact Below.refl _ _ | refine Below.drew ?_ | refine Below.allocS ?_ _ | refine Below.step ?_ (by assumption) | refine Below.setCell ?_ (by simp <;> omega) _ | refine Below.drewN' ?_ _)))).mono ?_
  rintro e w2 ⟨rfl, hb2⟩
  have g2 : Below w.heap.size w w2 := by (repeat (first | exact Below.refl _ _ | refine Below.drew ?_ | refine Below.allocS ?_ _ | refine Below.step ?_ (by assumption) | refine Below.setCell ?_ (by simp <;> omega) _ | refine Below.drewN' ?_ _))
  clear hb2 g1 
  go_wp2_with fail
  refine (H31.out _ (by (repeat (first | exact Below.refl _ _ | refine Below.drew ?_ | refine Below.allocS ?_ _ | refine Below.step ?_ (by assumption) | refine Below.setCell ?_ (by simp <;> omega) _ | refine Below.drewN' ?_ _)))).mono ?_
  rintro e w3 ⟨rfl, hb3⟩
  have g3 : Below w.heap.size w w3 := by (repeat (first | exact Below.refl _ _ | refine Below.drew ?_ | refine Below.allocS ?_ _ | refine Below.step ?_ (by assumption) | refine Below.setCell ?_ (by simp <;> omega) _ | refine Below.drewN' ?_ _))
  clear hb3 g2 
  clear H1 H2 H31
  go_wp2_with fail
  go_loopw [9, 10] (fun s i wr => ∃ k : Nat, 1 ≤ k ∧ (k ≤ m ∨ k = 1) ∧ i = .int .i64 k ∧ s = .int .i64 (idlL l per rn k) ∧ Below w.heap.size w wr) (fun _ i _ => m - (intOf i).toNat)
  case atStart => exact ⟨1, Nat.le_refl _, .inr rfl, rfl, rfl, by (repeat (first | (with_reducible exact Below.refl _ _) | (with_reducible assumption) | (with_reducible refine Below.drew ?_) | (with_reducible refine Below.allocS ?_ _) | (with_reducible refine Below.setCell ?_ ?_ _) | (with_reducible refine Below.step ?_ (by assumption)) | (with_reducible refine Below.drewN' ?_ _))); (try any_goals (first | (with_reducible assumption) | (simp; done) | (simp; omega) | omega))⟩
  case round =>
    rename World => U
    obtain ⟨k, hk1, hk, rfl, rfl, hbw⟩ := hrel
    by_cases hlt : k < m
    · obtain ⟨b2, off2, rfl, hb2, hc2⟩ := HR2.out U hbw k hlt
      obtain ⟨k, rfl⟩ : ∃ j, k = j + 1 := ⟨k - 1, by omega⟩
      have c0 := hc2 (k + 1) hlt
      have e0 := hc2 k (by omega)
      have hi := HIL.out (k + 1) hlt
      have hi1 := HIL.out k (by omega)
      obtain ⟨b, off, rfl, hb0, hch⟩ := ch_cells HIN.out (by rw [← HN.out]; omega)
      obtain ⟨q0, q1, q2, q3, q4⟩ := hch U hbw _ (by rw [← HN.out]; exact hi)
      obtain ⟨r0, r1, r2, r3, r4⟩ := hch U hbw _ (by rw [← HN.out]; exact hi1)
      have HTU := Lib.hid (fun W => HT1.out W _ _ hi1 hi)
      have HS := Lib.hid (idl_step l per rn (show 1 ≤ k + 1 by omega))
      have hbd := HBD.out (k + 1) (by omega)
      have hgb := gap_bd HP1.out.1 HP1.out.2 (r := rn) (k := k + 1) (by rw [← HN.out]; exact hi) (by rw [← HN.out]; exact hi1)
      have hg : gap l per rn (k + 1) = (l.getD (atN rn (k + 1)) ch0).a - (l.getD (atN rn k) ch0).b - trnC (l.getD (atN rn k) ch0) (l.getD (atN rn (k + 1)) ch0) per := rfl
      have hxa := HP1.out.2.a _ (mem_getD (show atN rn (k + 1) < l.length by rw [← HN.out]; exact hi))
      have hxb := HP1.out.2.b _ (mem_getD (show atN rn k < l.length by rw [← HN.out]; exact hi1))
      rw [hg] at hgb HS
      clear hg hc2 hch
      have z1 : (0 : Int) ≤ (atN rn (k + 1) : Int) := by omega
      have z2 : (atN rn (k + 1) : Int) < (n : Int) := by omega
      have z3 : (0 : Int) ≤ (atN rn k : Int) := by omega
      have z4 : (atN rn k : Int) < (n : Int) := by omega
      have yb := cell?_lt q1
      have yd := cell?_lt r1
      have ye := cell?_lt e0
      generalize trnC (l.getD (atN rn k) ch0) (l.getD (atN rn (k + 1)) ch0) per = T at *
      generalize l.getD (atN rn (k + 1)) ch0 = c at *
      generalize l.getD (atN rn k) ch0 = d at *
      generalize atN rn (k + 1) = ii at *
      generalize atN rn k = i1 at *
      generalize idlL l per rn (k + 1) = s at *
      have v1 : IntKind.i64.wrap (c.a - d.b) = c.a - d.b := IntWalk.i64_in _ (by omega)
      have v2 : IntKind.i64.wrap (c.a - d.b - T) = c.a - d.b - T := IntWalk.i64_in _ (by omega)
      have v3 : IntKind.i64.wrap (s + (c.a - d.b - T)) = s + (c.a - d.b - T) := IntWalk.i64_in _ (by omega)
      have u1 : decide (((k + 1 : Nat) : Int) < (m : Int)) = true := decide_eq_true (by omega)
      have u2 : (0 : Int) ≤ ((k + 1 : Nat) : Int) := by omega
      have u3 : ((k + 1 : Nat) : Int) < (m : Int) := by omega
      have u4 : IntKind.i64.wrap (((k + 1 : Nat) : Int) + 1) = ((k + 1 + 1 : Nat) : Int) := IntWalk.i64_in _ (by omega)
      have u5 : IntKind.i64.wrap (((k + 1 : Nat) : Int) - 1) = (k : Int) := by rw [show ((k + 1 : Nat) : Int) - 1 = (k : Int) by omega]; exact IntWalk.i64_in _ (by omega)
      have u6 : (0 : Int) ≤ (k : Int) := by omega
      have u7 : (k : Int) < (m : Int) := by omega
      obtain ⟨K, hK⟩ : ∃ K : Int, K = ((k + 1 : Nat) : Int) := ⟨_, rfl⟩
      have t1 : K.toNat = k + 1 := by rw [hK]; exact Int.toNat_natCast _
      rw [← hK] at u1 u2 u3 u4 u5 ⊢
      clear hK hgb hbd hxa hxb
      go_wp2_with fail
      go_region
      all_goals
        go_wp2_with fail
        refine region_below (by kernel_rfl) (by kernel_rfl) ?_
        (first | go_big_quiet_skip | (go_big_quiet_want; refine quiet_val (v := ?_) ?_ ?_; rotate_left 1; (· (intro Wq hWq; obtain ⟨hWc, hWf⟩ := bcell hWq; go_simp; (try with_reducible rfl))); go_big_quiet_on; (try simp only [Act.put, List.setIfInBounds_toArray, List.set_cons_zero, List.set_cons_succ])))
        (first | go_big_quiet_skip | (go_big_quiet_want; refine quiet_val (v := ?_) ?_ ?_; rotate_left 1; (· (intro Wq hWq; obtain ⟨hWc, hWf⟩ := bcell hWq; go_simp; (try with_reducible rfl))); go_big_quiet_on; (try simp only [Act.put, List.setIfInBounds_toArray, List.set_cons_zero, List.set_cons_succ])))
        (first | go_big_quiet_skip | (go_big_quiet_want; refine quiet_val (v := ?_) ?_ ?_; rotate_left 1; (· (intro Wq hWq; obtain ⟨hWc, hWf⟩ := bcell hWq; go_simp; (try with_reducible rfl))); go_big_quiet_on; (try simp only [Act.put, List.setIfInBounds_toArray, List.set_cons_zero, List.set_cons_succ])))
        (first | go_big_quiet_skip | (go_big_quiet_want; refine quiet_val (v := ?_) ?_ ?_; rotate_left 1; (· (intro Wq hWq; obtain ⟨hWc, hWf⟩ := bcell hWq; go_simp; (try with_reducible rfl))); go_big_quiet_on; (try simp only [Act.put, List.setIfInBounds_toArray, List.set_cons_zero, List.set_cons_succ])))
        (first | go_big_quiet_skip | (go_big_quiet_want; refine quiet_val (v := ?_) ?_ ?_; rotate_left 1; (· (intro Wq hWq; obtain ⟨hWc, hWf⟩ := bcell hWq; go_simp; (try with_reducible rfl))); go_big_quiet_on; (try simp only [Act.put, List.setIfInBounds_toArray, List.set_cons_zero, List.set_cons_succ])))
        (first | go_big_quiet_skip | (go_big_quiet_want; refine quiet_val (v := ?_) ?_ ?_; rotate_left 1; (· (intro Wq hWq; obtain ⟨hWc, hWf⟩ := bcell hWq; go_simp; (try with_reducible rfl))); go_big_quiet_on; (try simp only [Act.put, List.setIfInBounds_toArray, List.set_cons_zero, List.set_cons_succ])))
        (first | go_big_quiet_skip | (go_big_quiet_want; refine quiet_val (v := ?_) ?_ ?_; rotate_left 1; (· (intro Wq hWq; obtain ⟨hWc, hWf⟩ := bcell hWq; go_simp; (try with_reducible rfl))); go_big_quiet_on; (try simp only [Act.put, List.setIfInBounds_toArray, List.set_cons_zero, List.set_cons_succ])))
        (first | go_big_quiet_skip | (go_big_quiet_want; refine quiet_val (v := ?_) ?_ ?_; rotate_left 1; (· (intro Wq hWq; obtain ⟨hWc, hWf⟩ := bcell hWq; go_simp; (try with_reducible rfl))); go_big_quiet_on; (try simp only [Act.put, List.setIfInBounds_toArray, List.set_cons_zero, List.set_cons_succ])))
        (first | go_big_quiet_skip | (go_big_quiet_want; refine quiet_val (v := ?_) ?_ ?_; rotate_left 1; (· (intro Wq hWq; obtain ⟨hWc, hWf⟩ := bcell hWq; go_simp; (try with_reducible rfl))); go_big_quiet_on; (try simp only [Act.put, List.setIfInBounds_toArray, List.set_cons_zero, List.set_cons_succ])))
        go_big_quiet_want; refine quiet_callB (f := 70) (args := ?_) (v := ?_) ?_ ?_ ?_; rotate_left 2
        · (intro Wq hWq; obtain ⟨hWc, hWf⟩ := bcell hWq; go_simp; (first | with_reducible rfl | exact ⟨rfl, rfl⟩))
        · (intro Wq hWq; exact HTU.out _)
        go_big_quiet_on; (try simp only [Act.put, List.setIfInBounds_toArray, List.set_cons_zero, List.set_cons_succ])
        (first | go_big_quiet_skip | (go_big_quiet_want; refine quiet_val (v := ?_) ?_ ?_; rotate_left 1; (· (intro Wq hWq; obtain ⟨hWc, hWf⟩ := bcell hWq; go_simp; (try with_reducible rfl))); go_big_quiet_on; (try simp only [Act.put, List.setIfInBounds_toArray, List.set_cons_zero, List.set_cons_succ])))
        (first | go_big_quiet_skip | (go_big_quiet_want; refine quiet_val (v := ?_) ?_ ?_; rotate_left 1; (· (intro Wq hWq; obtain ⟨hWc, hWf⟩ := bcell hWq; go_simp; (try with_reducible rfl))); go_big_quiet_on; (try simp only [Act.put, List.setIfInBounds_toArray, List.set_cons_zero, List.set_cons_succ])))
        (first | go_big_quiet_skip | (go_big_quiet_want; refine quiet_val (v := ?_) ?_ ?_; rotate_left 1; (· (intro Wq hWq; obtain ⟨hWc, hWf⟩ := bcell hWq; go_simp; (try with_reducible rfl))); go_big_quiet_on; (try simp only [Act.put, List.setIfInBounds_toArray, List.set_cons_zero, List.set_cons_succ])))
        refine wpQuiet_nil ?_; intro V hbV
        have hbV2 : Below w.heap.size w V := Below.low (Below.drew (Below.allocS (Below.allocS hbw _) _)) hbV (by have := hbw.size; simp; omega)
        go_wp2
        go_roundw
        case rel => exact ⟨k + 1 + 1, by omega, .inl (by omega), by first | rfl | go_num, by rw [HS.out], hbV2⟩
        case measure => simp [intOf, t1]; omega
    · have u1 : decide ((k : Int) < (m : Int)) = false := decide_eq_false (by omega)
      have HX := Lib.hid (show idlL l per rn m = idlL l per rn k by
        rcases hk with h | h
        · obtain rfl : k = m := by omega
          rfl
        · subst h
          match m, hlt with
          | 0, _ => rfl
          | 1, _ => rfl
          | m + 2, h => exact absurd (by omega) h)
      go_wp2
      go_ret2
      exact ⟨by rw [HF.out, HG.out, HX.out]; rfl, hbw⟩
end Go.Proofs.Ytomgaiokmdcjmaa
