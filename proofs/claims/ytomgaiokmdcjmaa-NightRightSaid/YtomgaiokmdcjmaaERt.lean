/-
  NightRight: the walk. No conditions.
-/
import Derived.Test.YtomgaiokmdcjmaaTN
import Derived.Test.YtomgaiokmdcjmaaNt26
namespace Go.Proofs.Ytomgaiokmdcjmaa
open Go.RowKit Go.Deep
set_option linter.unusedVariables false
set_option linter.unusedSimpArgs false
theorem as_bare {l : List Ch} {L : List Cl} {per : Int} (h : asE l L per = 0) : asE l [] per = 0 := by
  have h1 := as_ok h
  unfold asE
  rw [if_pos (by rw [h1.1]; rfl), if_pos h1.2.2]
theorem rgt_bare {l : List Ch} {L : List Cl} {per : Int} {r : List Nat} (h : rgtB l L per r = true) : rgtB l [] per r = true := by
  unfold rgtB at h ⊢
  rw [Bool.and_eq_true] at h ⊢
  refine ⟨all_end fun j hj => ?_, h.2⟩
  have := all_get h.1 j hj
  unfold rgt1 at this ⊢
  rw [Bool.and_eq_true] at this ⊢
  exact ⟨rfl, this.2⟩
theorem right_ok {l : List Ch} {L : List Cl} {per : Int} {r : List Int} (h : rightE l L per r = true) : asE l L per = 0 ∧ lstB l.length r = true ∧ rgtB l L per (nats r) = true := by
  unfold rightE at h
  simp only [Bool.and_eq_true, decide_eq_true_eq] at h
  exact h
theorem idl_ok {l : List Ch} {L : List Cl} {per : Int} {r : List Int} (h : rightE l L per r = true) : idlE l per r = 0 ∧ idlV l per r = idlL l per (nats r) r.length := by
  have h1 := right_ok h
  have h2 := as_bare h1.1
  have h3 := rgt_bare h1.2.2
  constructor
  · unfold idlE; rw [if_pos h2, if_pos h1.2.1, if_pos h3]
  · unfold idlV; rw [if_pos ⟨h2, h1.2.1, h3⟩]
theorem gap_nonneg {l : List Ch} {L : List Cl} {per : Int} {r : List Nat} (h : rgtB l L per r = true) {k : Nat} (hk : k < r.length) (h1 : 1 ≤ k) : 0 ≤ gap l per r k := by
  unfold rgtB at h
  rw [Bool.and_eq_true] at h
  have := all_get h.1 k hk
  unfold rgt1 at this
  rw [Bool.and_eq_true, Bool.or_eq_true] at this
  rcases this.2 with e | e
  · have := of_decide_eq_true e; omega
  · unfold folC at e
    have := of_decide_eq_true e
    unfold gap
    omega
theorem idl_nonneg {l : List Ch} {L : List Cl} {per : Int} {r : List Nat} (h : rgtB l L per r = true) : ∀ {k : Nat}, k ≤ r.length → 0 ≤ idlL l per r k
  | 0, _ => Int.le_refl _
  | 1, _ => Int.le_refl _
  | k + 2, hk => by
    have h1 := idl_nonneg h (k := k + 1) (by omega)
    have h2 := gap_nonneg h (k := k + 1) (by omega) (by omega)
    simp only [idlL]
    omega
/-- The law's sum. -/
def smL (l : List Ch) (per : Int) (r : List Nat) (M : Int) : Nat → Int
  | 0 => M
  | k + 1 => smL l per r M k + ((l.getD (atN r k) ch0).b - (l.getD (atN r k) ch0).a) + (if k = 0 then 0 else trnC (l.getD (atN r (k - 1)) ch0) (l.getD (atN r k) ch0) per)
theorem sm_tel (l : List Ch) (per : Int) (r : List Nat) (M : Int) : ∀ k, smL l per r M (k + 1) - M + idlL l per r (k + 1) = (l.getD (atN r k) ch0).b - (l.getD (atN r 0) ch0).a
  | 0 => by simp [smL, idlL]; omega
  | k + 1 => by
    have h := sm_tel l per r M k
    have h2 := idl_step l per r (k := k + 1) (by omega)
    have h3 : smL l per r M (k + 2) = smL l per r M (k + 1) + ((l.getD (atN r (k + 1)) ch0).b - (l.getD (atN r (k + 1)) ch0).a) + trnC (l.getD (atN r k) ch0) (l.getD (atN r (k + 1)) ch0) per := by
      rw [smL, if_neg (by omega)]; rfl
    rw [h2, h3]
    unfold gap
    rw [show k + 1 - 1 = k from rfl]
    omega
theorem sm_bd {l : List Ch} {per : Int} (hp : PlanOk l per) (ha : ABk l) {r : List Nat} (hr : ∀ i ∈ r, i < l.length) (M : Int) : ∀ {k : Nat}, k ≤ r.length → M - 3000000000 * (k : Int) ≤ smL l per r M k ∧ smL l per r M k ≤ M + 3000000000 * (k : Int)
  | 0, _ => by simp [smL]
  | k + 1, h => by
    have h1 := sm_bd hp ha hr M (k := k) (by omega)
    have i0 := hr _ (atN_mem (show k < r.length by omega))
    have b0 := ha.a _ (mem_getD i0)
    have b1 := ha.b _ (mem_getD i0)
    simp only [smL]
    by_cases hk : k = 0
    · rw [if_pos hk]; omega
    · rw [if_neg hk]
      have i1 := hr _ (atN_mem (show k - 1 < r.length by omega))
      have h2 := trn_bd (hp.t _ (mem_getD i1)) (hp.t _ (mem_getD i0)) hp.p
      omega
theorem turn_ok {l : List Ch} {L : List Cl} {per : Int} (h : asE l L per = 0) {i j : Nat} (hi : i < l.length) (hj : j < l.length) : trnE (l.getD i ch0) (l.getD j ch0) per = 0 := by
  have h1 := as_ok h
  unfold trnE okX
  rw [okC_of h1.1 _ (mem_getD hi), okC_of h1.1 _ (mem_getD hj), h1.2.2]
  rfl
set_option maxHeartbeats 8000000 in
set_option maxRecDepth 100000 in
theorem NightRight_walk (w : World) (A : Option Addr) (cap : Nat) (l : List Ch) (B : Option Addr) (cb : Nat) (L : List Cl) (per : Int) (C : Option Addr) (cc : Nat) (r : List Int) (hl : l.length ≤ cap) (hm : cap ≤ maxLen) (hr : RdL w w.heap.size chE 5 A l) (hw : ∀ x ∈ l, ChOk x)
    (kl : L.length ≤ cb) (km : cb ≤ maxLen) (kr : RdL w w.heap.size clE 2 B L) (kw : ∀ x ∈ L, ∃ g : Nat → Int, x = (⟨g 0, g 1⟩ : Cl) ∧ ∀ j, j < 2 → I64 (g j)) (hp : I64 per)
    (jl : r.length ≤ cc) (jm : cc ≤ maxLen) (jr : RdL w w.heap.size inE 1 C r) (jw : ∀ x ∈ r, ∃ g : Nat → Int, x = g 0 ∧ ∀ j, j < 1 → I64 (g j)) :
    Calls Try.prog 6 #[.slice A l.length cap, .slice B L.length cb, .int .i64 per, .slice C r.length cc] w fun e w' => e = .returned (.bool true) ∧ Below w.heap.size w w' := by
  have HN1 := Lib.hid (fun W (hb : Below w.heap.size w W) => named_c l A cap (by unfold maxLen at hm; omega) W (hr.step hb))
  have HIN : Hid (l.length ≤ 30 → L.length ≤ 60 → InAt w l A cap L B cb) := Lib.hid (fun h1 h2 => InAt.of_args (cb := cb) hl hr hw kr h1 h2)
  obtain ⟨m, hmm⟩ : ∃ m, m = r.length := ⟨_, rfl⟩
  have HM := Lib.hid hmm.symm
  rw [← hmm]
  have HRW : Hid (RdL w w.heap.size inE 1 C r) := Lib.hid jr
  have H1 := Lib.hid (fun (h1 : m ≤ 1000) W (hb : Below w.heap.size w W) (h : InAt W l A cap L B cb) => Right_c l A cap L B cb per W h r m HM.out h1 C cc (jr.step hb))
  have H2 := Lib.hid (fun (h1 : m ≤ 1000) W (hb : Below w.heap.size w W) (h : InAt W l A cap L B cb) => rRight_c l A cap L B cb per W h r m HM.out h1 C cc (jr.step hb))
  have H3 := Lib.hid (fun (h1 : m ≤ 1000) W (hb : Below w.heap.size w W) (h : InAt W l A cap L B cb) => Worth_c l A cap h.hl h.hs W h.hr r m HM.out h1 C cc (jr.step hb))
  have H4 := Lib.hid (fun (h1 : m ≤ 1000) W (hb : Below w.heap.size w W) (h : InAt W l A cap L B cb) => rWorth_c l A cap h.hl h.hcap h.hs W h.hr r m HM.out h1 C cc (jr.step hb))
  have H5 := Lib.hid (fun (h1 : m ≤ 1000) W (hb : Below w.heap.size w W) (h : InAt W l A cap L B cb) => Idle_c l A cap L B cb per W h r m HM.out h1 C cc (jr.step hb))
  have H6 := Lib.hid (fun (h1 : m ≤ 1000) W (hb : Below w.heap.size w W) (h : InAt W l A cap L B cb) => rIdle_c l A cap L B cb per W h r m HM.out h1 C cc (jr.step hb))
  have HCH := Lib.hid hw
  clear hl hm hr hw kl km kr kw hp jl jm jr jw hmm
  obtain ⟨n, hn⟩ : ∃ n, n = l.length := ⟨_, rfl⟩
  have HN := Lib.hid hn
  rw [← hn] at HN1 HIN H1 H2 H3 H4 H5 H6 ⊢
  clear hn
  obtain ⟨nL, hnL⟩ : ∃ m, m = L.length := ⟨_, rfl⟩
  rw [← hnL] at HIN H1 H2 ⊢
  clear hnL
  have HOK := Lib.hid (@right_ok l L per r)
  have HID := Lib.hid (@idl_ok l L per r)
  generalize wthV l r = V1 at *
  generalize wthE l r = E1 at *
  generalize hV2 : idlV l per r = V2 at *
  have HV2 := Lib.hid hV2
  generalize hE2 : idlE l per r = E2 at *
  clear hV2 hE2
  generalize rightE l L per r = X at *
  go_enter Try.func6, Try.ntmps6
  go_wp2_with fail
  refine (HN1.out _ (by (repeat (first | exact Below.refl _ _ | refine Below.drew ?_ | refine Below.allocS ?_ _ | refine Below.step ?_ (by assumption) | refine Below.setCell ?_ (by simp <;> omega) _ | refine Below.drewN' ?_ _)))).mono ?_
  rintro e w1 ⟨⟨X0, rfl, hX0⟩, hb1⟩
  have g1 : Below w.heap.size w w1 := by (repeat (first | exact Below.refl _ _ | refine Below.drew ?_ | refine Below.allocS ?_ _ | refine Below.step ?_ (by assumption) | refine Below.setCell ?_ (by simp <;> omega) _ | refine Below.drewN' ?_ _))
  clear hb1
  have HX0 := Lib.hid hX0
  clear hX0
  cases X0
  case false =>
    go_wp2_with fail
    refine (awake_c _).mono ?_
    rintro e w2 ⟨rfl, hb2⟩
    go_wp2
    go_ret
    exact ⟨rfl, by (repeat (first | exact Below.refl _ _ | refine Below.drew ?_ | refine Below.allocS ?_ _ | refine Below.step ?_ (by assumption) | refine Below.setCell ?_ (by simp <;> omega) _ | refine Below.drewN' ?_ _))⟩
  have hn30 : n ≤ 30 := HX0.out rfl
  clear HX0
  by_cases hm60 : nL ≤ 60
  case neg =>
    have u1 : decide ((nL : Int) > 60) = true := decide_eq_true (by omega)
    go_wp2_with fail
    refine (awake_c _).mono ?_
    rintro e w3 ⟨rfl, hb3⟩
    go_wp2
    go_ret
    exact ⟨rfl, by (repeat (first | exact Below.refl _ _ | refine Below.drew ?_ | refine Below.allocS ?_ _ | refine Below.step ?_ (by assumption) | refine Below.setCell ?_ (by simp <;> omega) _ | refine Below.drewN' ?_ _))⟩
  have u1 : decide ((nL : Int) > 60) = false := decide_eq_false (by omega)
  by_cases hm40 : m ≤ 40
  case neg =>
    have u2 : decide ((m : Int) > 40) = true := decide_eq_true (by omega)
    go_wp2_with fail
    refine (awake_c _).mono ?_
    rintro e w3 ⟨rfl, hb3⟩
    go_wp2
    go_ret
    exact ⟨rfl, by (repeat (first | exact Below.refl _ _ | refine Below.drew ?_ | refine Below.allocS ?_ _ | refine Below.step ?_ (by assumption) | refine Below.setCell ?_ (by simp <;> omega) _ | refine Below.drewN' ?_ _))⟩
  have u2 : decide ((m : Int) > 40) = false := decide_eq_false (by omega)
  have hm1 : m ≤ 1000 := by omega
  have HI := Lib.hid (HIN.out hn30 hm60)
  have z1 := Lib.hid (H1.out hm1)
  have z2 := Lib.hid (H2.out hm1)
  have z3 := Lib.hid (H3.out hm1)
  have z4 := Lib.hid (H4.out hm1)
  have z5 := Lib.hid (H5.out hm1)
  have z6 := Lib.hid (H6.out hm1)
  clear hn30 hm60 HIN HN1 H1 H2 H3 H4 H5 H6
  go_wp2_with fail
  refine (z1.out _ (by (repeat (first | exact Below.refl _ _ | refine Below.drew ?_ | refine Below.allocS ?_ _ | refine Below.step ?_ (by assumption) | refine Below.setCell ?_ (by simp <;> omega) _ | refine Below.drewN' ?_ _))) (HI.out.step (by (repeat (first | exact Below.refl _ _ | refine Below.drew ?_ | refine Below.allocS ?_ _ | refine Below.step ?_ (by assumption) | refine Below.setCell ?_ (by simp <;> omega) _ | refine Below.drewN' ?_ _))))).mono ?_
  rintro e w2 ⟨rfl, hb2⟩
  have g2 : Below w.heap.size w w2 := by (repeat (first | exact Below.refl _ _ | refine Below.drew ?_ | refine Below.allocS ?_ _ | refine Below.step ?_ (by assumption) | refine Below.setCell ?_ (by simp <;> omega) _ | refine Below.drewN' ?_ _))
  clear hb2 g1 
  go_wp2_with fail
  refine (z3.out _ (by (repeat (first | exact Below.refl _ _ | refine Below.drew ?_ | refine Below.allocS ?_ _ | refine Below.step ?_ (by assumption) | refine Below.setCell ?_ (by simp <;> omega) _ | refine Below.drewN' ?_ _))) (HI.out.step (by (repeat (first | exact Below.refl _ _ | refine Below.drew ?_ | refine Below.allocS ?_ _ | refine Below.step ?_ (by assumption) | refine Below.setCell ?_ (by simp <;> omega) _ | refine Below.drewN' ?_ _))))).mono ?_
  rintro e w3 ⟨rfl, hb3⟩
  have g3 : Below w.heap.size w w3 := by (repeat (first | exact Below.refl _ _ | refine Below.drew ?_ | refine Below.allocS ?_ _ | refine Below.step ?_ (by assumption) | refine Below.setCell ?_ (by simp <;> omega) _ | refine Below.drewN' ?_ _))
  clear hb3 g2 
  go_wp2_with fail
  refine (z4.out _ (by (repeat (first | exact Below.refl _ _ | refine Below.drew ?_ | refine Below.allocS ?_ _ | refine Below.step ?_ (by assumption) | refine Below.setCell ?_ (by simp <;> omega) _ | refine Below.drewN' ?_ _))) (HI.out.step (by (repeat (first | exact Below.refl _ _ | refine Below.drew ?_ | refine Below.allocS ?_ _ | refine Below.step ?_ (by assumption) | refine Below.setCell ?_ (by simp <;> omega) _ | refine Below.drewN' ?_ _))))).mono ?_
  rintro e w4 ⟨rfl, hb4⟩
  have g4 : Below w.heap.size w w4 := by (repeat (first | exact Below.refl _ _ | refine Below.drew ?_ | refine Below.allocS ?_ _ | refine Below.step ?_ (by assumption) | refine Below.setCell ?_ (by simp <;> omega) _ | refine Below.drewN' ?_ _))
  clear hb4 g3 
  go_wp2_with fail
  refine (z5.out _ (by (repeat (first | exact Below.refl _ _ | refine Below.drew ?_ | refine Below.allocS ?_ _ | refine Below.step ?_ (by assumption) | refine Below.setCell ?_ (by simp <;> omega) _ | refine Below.drewN' ?_ _))) (HI.out.step (by (repeat (first | exact Below.refl _ _ | refine Below.drew ?_ | refine Below.allocS ?_ _ | refine Below.step ?_ (by assumption) | refine Below.setCell ?_ (by simp <;> omega) _ | refine Below.drewN' ?_ _))))).mono ?_
  rintro e w5 ⟨rfl, hb5⟩
  have g5 : Below w.heap.size w w5 := by (repeat (first | exact Below.refl _ _ | refine Below.drew ?_ | refine Below.allocS ?_ _ | refine Below.step ?_ (by assumption) | refine Below.setCell ?_ (by simp <;> omega) _ | refine Below.drewN' ?_ _))
  clear hb5 g4 
  go_wp2_with fail
  refine (z6.out _ (by (repeat (first | exact Below.refl _ _ | refine Below.drew ?_ | refine Below.allocS ?_ _ | refine Below.step ?_ (by assumption) | refine Below.setCell ?_ (by simp <;> omega) _ | refine Below.drewN' ?_ _))) (HI.out.step (by (repeat (first | exact Below.refl _ _ | refine Below.drew ?_ | refine Below.allocS ?_ _ | refine Below.step ?_ (by assumption) | refine Below.setCell ?_ (by simp <;> omega) _ | refine Below.drewN' ?_ _))))).mono ?_
  rintro e w6 ⟨rfl, hb6⟩
  have g6 : Below w.heap.size w w6 := by (repeat (first | exact Below.refl _ _ | refine Below.drew ?_ | refine Below.allocS ?_ _ | refine Below.step ?_ (by assumption) | refine Below.setCell ?_ (by simp <;> omega) _ | refine Below.drewN' ?_ _))
  clear hb6 g5 
  go_wp2_with fail
  refine (z2.out _ (by (repeat (first | exact Below.refl _ _ | refine Below.drew ?_ | refine Below.allocS ?_ _ | refine Below.step ?_ (by assumption) | refine Below.setCell ?_ (by simp <;> omega) _ | refine Below.drewN' ?_ _))) (HI.out.step (by (repeat (first | exact Below.refl _ _ | refine Below.drew ?_ | refine Below.allocS ?_ _ | refine Below.step ?_ (by assumption) | refine Below.setCell ?_ (by simp <;> omega) _ | refine Below.drewN' ?_ _))))).mono ?_
  rintro e w7 ⟨rfl, hb7⟩
  have g7 : Below w.heap.size w w7 := by (repeat (first | exact Below.refl _ _ | refine Below.drew ?_ | refine Below.allocS ?_ _ | refine Below.step ?_ (by assumption) | refine Below.setCell ?_ (by simp <;> omega) _ | refine Below.drewN' ?_ _))
  clear hb7 g6 
  clear z1 z2 z3 z4 z5 z6
  cases X
  case false =>
    go_wp2_with fail
    refine (awake_c _).mono ?_
    rintro e w8 ⟨rfl, hb8⟩
    go_wp2
    go_ret
    exact ⟨rfl, by (repeat (first | exact Below.refl _ _ | refine Below.drew ?_ | refine Below.allocS ?_ _ | refine Below.step ?_ (by assumption) | refine Below.setCell ?_ (by simp <;> omega) _ | refine Below.drewN' ?_ _))⟩
  have HOK2 := Lib.hid (HOK.out rfl)
  have HID2 := Lib.hid (HID.out rfl)
  clear HOK HID
  have he2 := HID2.out.1
  subst he2
  by_cases hm0 : m = 0
  · subst hm0
    go_wp2_with fail
    refine (awake_c _).mono ?_
    rintro e w8 ⟨rfl, hb8⟩
    go_wp2
    go_ret
    exact ⟨rfl, by (repeat (first | exact Below.refl _ _ | refine Below.drew ?_ | refine Below.allocS ?_ _ | refine Below.step ?_ (by assumption) | refine Below.setCell ?_ (by simp <;> omega) _ | refine Below.drewN' ?_ _))⟩
  have d0 : (m == 0) = false := by simp [hm0]
  have d0' : ((m : Int) == 0) = false := by simp; omega
  have d0'' : decide ((m : Int) = 0) = false := decide_eq_false (by omega)
  have d0''' : decide (m = 0) = false := decide_eq_false hm0
  have HPO := Lib.hid (And.intro (PlanOk.of_as HOK2.out.1) (ABk.of_ok (as_ok HOK2.out.1).1))
  have HLT := Lib.hid (nats_lt HOK2.out.2.1)
  have HTO := Lib.hid (fun i j (hi : i < n) (hj : j < n) => turn_ok HOK2.out.1 (by rw [← HN.out]; exact hi) (by rw [← HN.out]; exact hj))
  have HTU := Lib.hid (fun W i j (hi : i < n) (hj : j < n) => Turn_c (l.getD i ch0) (l.getD j ch0) per (HCH.out _ (mem_getD (by rw [← HN.out]; exact hi))).n (HCH.out _ (mem_getD (by rw [← HN.out]; exact hj))).n W)
  have HNN := Lib.hid (idl_nonneg HOK2.out.2.2 (k := m) (by rw [nats_len, HM.out]; exact Nat.le_refl _))
  have HBD := Lib.hid (fun k (hk : k ≤ m) => idl_bd HPO.out.1 HPO.out.2 (r := nats r) HLT.out (k := k) (by rw [nats_len, HM.out]; exact hk))
  have HSB := Lib.hid (fun M k (hk : k ≤ m) => sm_bd HPO.out.1 HPO.out.2 (r := nats r) HLT.out M (k := k) (by rw [nats_len, HM.out]; exact hk))
  have HR2 : Hid (∀ W, Below w.heap.size w W → ∀ k, k < m → ∃ b off, C = some ⟨b, off, none⟩ ∧ b < w.heap.size ∧ ∀ j, j < m → W.cell? ⟨b, off + j, none⟩ = some (.int .i64 (atN (nats r) j))) := Lib.hid (fun W hb k hk => by
    obtain ⟨b, off, e, hb0, hc⟩ := int_cell HRW.out hb (by rw [HM.out]; exact hk)
    refine ⟨b, off, e, hb0, fun j hj => ?_⟩
    rw [← atI_nat, nats_back HOK2.out.2.1]
    exact hc j (by rw [HM.out]; exact hj))
  have HIL : Hid (∀ k, k < m → atN (nats r) k < n) := Lib.hid (fun k hk => by rw [HN.out]; exact HLT.out _ (atN_mem (by rw [nats_len, HM.out]; exact hk)))
  have HVE := Lib.hid (show V2 = idlL l per (nats r) m by have := HID2.out.2; rw [HM.out] at this; exact this)
  have hv2 : 0 ≤ V2 ∧ V2 ≤ 80000000000 := by have h1 := HNN.out; have h2 := HBD.out m (Nat.le_refl _); rw [← HVE.out] at h1 h2; omega
  clear HOK2 HID2 HLT HNN HBD HRW HV2
  generalize nats r = rn at *
  obtain ⟨b2, off2, rfl, hb2, hc2w⟩ := HR2.out w (Below.refl _ _) 0 (by omega)
  have HC2 : Hid (∀ W, Below w.heap.size w W → ∀ j, j < m → W.cell? ⟨b2, off2 + j, none⟩ = some (.int .i64 (atN rn j))) := Lib.hid (fun W hb j hj => (hb.cell (p := ⟨b2, _, none⟩) hb2).trans (hc2w j hj))
  have hn0 : 0 < n := by have := HIL.out 0 (by omega); omega
  obtain ⟨b, off, rfl, hb0, hch⟩ := ch_cells HI.out.hr (by rw [← HN.out]; exact hn0)
  have HCC := Lib.hid hch
  clear hch hc2w HR2 HI
  go_wp2_with fail
  go_loopw [18, 106] (fun s i wr => ∃ k : Nat, k ≤ m ∧ i = .int .i64 k ∧ s = .int .i64 (smL l per rn V2 k) ∧ Below w.heap.size w wr) (fun _ i _ => m - (intOf i).toNat)
  case atStart => exact ⟨0, Nat.zero_le _, rfl, rfl, by (repeat (first | exact Below.refl _ _ | refine Below.drew ?_ | refine Below.allocS ?_ _ | refine Below.step ?_ (by assumption) | refine Below.setCell ?_ (by simp <;> omega) _ | refine Below.drewN' ?_ _))⟩
  case round =>
    rename World => U
    obtain ⟨k, hk, rfl, rfl, hbw⟩ := hrel
    have hbwsz := hbw.size
    by_cases hlt : k < m
    · have c0 := HC2.out U hbw k hlt
      have hi := HIL.out k hlt
      obtain ⟨q0, q1, q2, q3, q4⟩ := HCC.out U hbw _ (by rw [← HN.out]; exact hi)
      have yb := cell?_lt q1
      have ye := cell?_lt c0
      have z1 : (0 : Int) ≤ (atN rn k : Int) := by omega
      have z2 : (atN rn k : Int) < (n : Int) := by omega
      have u3 : IntKind.i64.wrap ((k : Int) + 1) = (k : Int) + 1 := IntWalk.i64_in _ (by omega)
      have hs := HSB.out V2 k hk
      have hxa := HPO.out.2.a _ (mem_getD (show atN rn k < l.length by rw [← HN.out]; exact hi))
      have hxb := HPO.out.2.b _ (mem_getD (show atN rn k < l.length by rw [← HN.out]; exact hi))
      by_cases hk0 : k = 0
      · subst hk0
        have c0' : U.cell? ⟨b2, off2, none⟩ = some (.int .i64 (atN rn 0)) := c0
        have HS : Hid (smL l per rn V2 1 = V2 + ((l.getD (atN rn 0) ch0).b - (l.getD (atN rn 0) ch0).a)) := Lib.hid (by simp [smL])
        have hs0 : smL l per rn V2 0 = V2 := rfl
        rw [hs0]
        generalize l.getD (atN rn 0) ch0 = c at *
        generalize atN rn 0 = ii at *
        have v1 : IntKind.i64.wrap (c.b - c.a) = c.b - c.a := IntWalk.i64_in _ (by omega)
        have v2 : IntKind.i64.wrap (V2 + (c.b - c.a)) = V2 + (c.b - c.a) := IntWalk.i64_in _ (by omega)
        clear hs hxa hxb
        go_wp2_with fail
        go_quiet (fail)
        go_wp2
        go_roundw
        case rel => exact ⟨1, by omega, rfl, by rw [HS.out], by (repeat (first | (with_reducible exact Below.refl _ _) | (with_reducible assumption) | (with_reducible refine Below.drew ?_) | (with_reducible refine Below.allocS ?_ _) | (with_reducible refine Below.setCell ?_ ?_ _) | (with_reducible refine Below.step ?_ (by assumption)) | (with_reducible refine Below.drewN' ?_ _))); (try any_goals (first | (with_reducible assumption) | (simp; done) | (simp; omega) | omega))⟩
        case measure => simp [intOf]; omega
      · have g0 : decide ((k : Int) > 0) = true := decide_eq_true (by omega)
        have g1 : decide (0 < (k : Int)) = true := decide_eq_true (by omega)
        have g2 : decide (0 < k) = true := decide_eq_true (by omega)
        have s1 : IntKind.i64.wrap ((k : Int) - 1) = ((k - 1 : Nat) : Int) := (IntWalk.i64_in _ (by omega)).trans (by omega)
        have s2 : (0 : Int) ≤ ((k - 1 : Nat) : Int) := by omega
        have s3 : ((k - 1 : Nat) : Int) < (m : Int) := by omega
        have e0 := HC2.out U hbw (k - 1) (by omega)
        have hi1 := HIL.out (k - 1) (by omega)
        obtain ⟨r0, r1, r2, r3, r4⟩ := HCC.out U hbw _ (by rw [← HN.out]; exact hi1)
        have yd := cell?_lt r1
        have yf := cell?_lt e0
        have s4 : (0 : Int) ≤ (atN rn (k - 1) : Int) := by omega
        have s5 : (atN rn (k - 1) : Int) < (n : Int) := by omega
        have HT1 : Hid (∀ W, Calls Try.prog 21 #[.agg #[.string (l.getD (atN rn (k - 1)) ch0).nm, .int .i64 (l.getD (atN rn (k - 1)) ch0).a, .int .i64 (l.getD (atN rn (k - 1)) ch0).b, .int .i64 (l.getD (atN rn (k - 1)) ch0).t, .int .i64 (l.getD (atN rn (k - 1)) ch0).v], .agg #[.string (l.getD (atN rn k) ch0).nm, .int .i64 (l.getD (atN rn k) ch0).a, .int .i64 (l.getD (atN rn k) ch0).b, .int .i64 (l.getD (atN rn k) ch0).t, .int .i64 (l.getD (atN rn k) ch0).v], .int .i64 per] W fun e w' => e = .returned (.tuple #[.int .i64 (trnC (l.getD (atN rn (k - 1)) ch0) (l.getD (atN rn k) ch0) per), .int .i64 0]) ∧ Below W.heap.size W w') := Lib.hid (fun W => by
          have h1 := HTU.out W _ _ hi1 hi
          have h2 := HTO.out _ _ hi1 hi
          unfold trnV at h1
          rw [h2] at h1
          exact h1)
        have hT := trn_bd (HPO.out.1.t _ (mem_getD (show atN rn (k - 1) < l.length by rw [← HN.out]; exact hi1))) (HPO.out.1.t _ (mem_getD (show atN rn k < l.length by rw [← HN.out]; exact hi))) HPO.out.1.p
        have HS : Hid (smL l per rn V2 (k + 1) = smL l per rn V2 k + ((l.getD (atN rn k) ch0).b - (l.getD (atN rn k) ch0).a) + trnC (l.getD (atN rn (k - 1)) ch0) (l.getD (atN rn k) ch0) per) := Lib.hid (by rw [smL, if_neg hk0])
        generalize trnC (l.getD (atN rn (k - 1)) ch0) (l.getD (atN rn k) ch0) per = T at *
        generalize k - 1 = k1 at *
        generalize l.getD (atN rn k) ch0 = c at *
        generalize l.getD (atN rn k1) ch0 = d at *
        generalize atN rn k = ii at *
        generalize atN rn k1 = i1 at *
        generalize smL l per rn V2 k = s at *
        have v1 : IntKind.i64.wrap (c.b - c.a) = c.b - c.a := IntWalk.i64_in _ (by omega)
        have v2 : IntKind.i64.wrap (s + (c.b - c.a)) = s + (c.b - c.a) := IntWalk.i64_in _ (by omega)
        have v3 : IntKind.i64.wrap (s + (c.b - c.a) + T) = s + (c.b - c.a) + T := IntWalk.i64_in _ (by omega)
        clear hs hxa hxb hT hk0
        go_wp2_with fail
        refine region_below (by kernel_rfl) (by kernel_rfl) ?_
        (first | go_big_quiet_skip | (go_big_quiet_want; refine quiet_val (v := ?_) ?_ ?_; rotate_left 1; (· (intro Wq hWq; obtain ⟨hWc, hWf⟩ := bcell hWq; go_simp; (try with_reducible rfl))); go_big_quiet_on; (try simp only [Act.put, List.setIfInBounds_toArray, List.set_cons_zero, List.set_cons_succ])))
        (first | go_big_quiet_skip | (go_big_quiet_want; refine quiet_val (v := ?_) ?_ ?_; rotate_left 1; (· (intro Wq hWq; obtain ⟨hWc, hWf⟩ := bcell hWq; go_simp; (try with_reducible rfl))); go_big_quiet_on; (try simp only [Act.put, List.setIfInBounds_toArray, List.set_cons_zero, List.set_cons_succ])))
        (first | go_big_quiet_skip | (go_big_quiet_want; refine quiet_val (v := ?_) ?_ ?_; rotate_left 1; (· (intro Wq hWq; obtain ⟨hWc, hWf⟩ := bcell hWq; go_simp; (try with_reducible rfl))); go_big_quiet_on; (try simp only [Act.put, List.setIfInBounds_toArray, List.set_cons_zero, List.set_cons_succ])))
        (first | go_big_quiet_skip | (go_big_quiet_want; refine quiet_val (v := ?_) ?_ ?_; rotate_left 1; (· (intro Wq hWq; obtain ⟨hWc, hWf⟩ := bcell hWq; go_simp; (try with_reducible rfl))); go_big_quiet_on; (try simp only [Act.put, List.setIfInBounds_toArray, List.set_cons_zero, List.set_cons_succ])))
        (first | go_big_quiet_skip | (go_big_quiet_want; refine quiet_val (v := ?_) ?_ ?_; rotate_left 1; (· (intro Wq hWq; obtain ⟨hWc, hWf⟩ := bcell hWq; go_simp; (try with_reducible rfl))); go_big_quiet_on; (try simp only [Act.put, List.setIfInBounds_toArray, List.set_cons_zero, List.set_cons_succ])))
        (first | go_big_quiet_skip | (go_big_quiet_want; refine quiet_val (v := ?_) ?_ ?_; rotate_left 1; (· (intro Wq hWq; obtain ⟨hWc, hWf⟩ := bcell hWq; go_simp; (try with_reducible rfl))); go_big_quiet_on; (try simp only [Act.put, List.setIfInBounds_toArray, List.set_cons_zero, List.set_cons_succ])))
        (first | go_big_quiet_skip | (go_big_quiet_want; refine quiet_val (v := ?_) ?_ ?_; rotate_left 1; (· (intro Wq hWq; obtain ⟨hWc, hWf⟩ := bcell hWq; go_simp; (try with_reducible rfl))); go_big_quiet_on; (try simp only [Act.put, List.setIfInBounds_toArray, List.set_cons_zero, List.set_cons_succ])))
        (first | go_big_quiet_skip | (go_big_quiet_want; refine quiet_val (v := ?_) ?_ ?_; rotate_left 1; (· (intro Wq hWq; obtain ⟨hWc, hWf⟩ := bcell hWq; go_simp; (try with_reducible rfl))); go_big_quiet_on; (try simp only [Act.put, List.setIfInBounds_toArray, List.set_cons_zero, List.set_cons_succ])))
        (first | go_big_quiet_skip | (go_big_quiet_want; refine quiet_val (v := ?_) ?_ ?_; rotate_left 1; (· (intro Wq hWq; obtain ⟨hWc, hWf⟩ := bcell hWq; go_simp; (try with_reducible rfl))); go_big_quiet_on; (try simp only [Act.put, List.setIfInBounds_toArray, List.set_cons_zero, List.set_cons_succ])))
        (first | go_big_quiet_skip | (go_big_quiet_want; refine quiet_val (v := ?_) ?_ ?_; rotate_left 1; (· (intro Wq hWq; obtain ⟨hWc, hWf⟩ := bcell hWq; go_simp; (try with_reducible rfl))); go_big_quiet_on; (try simp only [Act.put, List.setIfInBounds_toArray, List.set_cons_zero, List.set_cons_succ])))
        (first | go_big_quiet_skip | (go_big_quiet_want; refine quiet_val (v := ?_) ?_ ?_; rotate_left 1; (· (intro Wq hWq; obtain ⟨hWc, hWf⟩ := bcell hWq; go_simp; (try with_reducible rfl))); go_big_quiet_on; (try simp only [Act.put, List.setIfInBounds_toArray, List.set_cons_zero, List.set_cons_succ])))
        (first | go_big_quiet_skip | (go_big_quiet_want; refine quiet_val (v := ?_) ?_ ?_; rotate_left 1; (· (intro Wq hWq; obtain ⟨hWc, hWf⟩ := bcell hWq; go_simp; (try with_reducible rfl))); go_big_quiet_on; (try simp only [Act.put, List.setIfInBounds_toArray, List.set_cons_zero, List.set_cons_succ])))
        (first | go_big_quiet_skip | (go_big_quiet_want; refine quiet_val (v := ?_) ?_ ?_; rotate_left 1; (· (intro Wq hWq; obtain ⟨hWc, hWf⟩ := bcell hWq; go_simp; (try with_reducible rfl))); go_big_quiet_on; (try simp only [Act.put, List.setIfInBounds_toArray, List.set_cons_zero, List.set_cons_succ])))
        (first | go_big_quiet_skip | (go_big_quiet_want; refine quiet_val (v := ?_) ?_ ?_; rotate_left 1; (· (intro Wq hWq; obtain ⟨hWc, hWf⟩ := bcell hWq; go_simp; (try with_reducible rfl))); go_big_quiet_on; (try simp only [Act.put, List.setIfInBounds_toArray, List.set_cons_zero, List.set_cons_succ])))
        refine wpQuiet_nil ?_; intro V hbV
        have hbV2 := Below.step hbw hbV
        have hx0 := keep_cell hbV c0
        have hx1 := keep_cell hbV e0
        have t0 := keep_cell hbV q0
        have t1 := keep_cell hbV q1
        have t2 := keep_cell hbV q2
        have t3 := keep_cell hbV q3
        have t4 := keep_cell hbV q4
        have p0 := keep_cell hbV r0
        have p1 := keep_cell hbV r1
        have p2 := keep_cell hbV r2
        have p3 := keep_cell hbV r3
        have p4 := keep_cell hbV r4
        have y0 := cell?_lt hx0
        have y1 := cell?_lt hx1
        have y2 := cell?_lt t0
        have y3 := cell?_lt p0
        clear c0 e0 q0 q1 q2 q3 q4 r0 r1 r2 r3 r4 yb yd ye yf
        go_wp2_with fail
        refine region_below (by kernel_rfl) (by kernel_rfl) ?_
        (first | go_big_quiet_skip | (go_big_quiet_want; refine quiet_val (v := ?_) ?_ ?_; rotate_left 1; (· (intro Wq hWq; obtain ⟨hWc, hWf⟩ := bcell hWq; go_simp; (try with_reducible rfl))); go_big_quiet_on; (try simp only [Act.put, List.setIfInBounds_toArray, List.set_cons_zero, List.set_cons_succ])))
        (first | go_big_quiet_skip | (go_big_quiet_want; refine quiet_val (v := ?_) ?_ ?_; rotate_left 1; (· (intro Wq hWq; obtain ⟨hWc, hWf⟩ := bcell hWq; go_simp; (try with_reducible rfl))); go_big_quiet_on; (try simp only [Act.put, List.setIfInBounds_toArray, List.set_cons_zero, List.set_cons_succ])))
        (first | go_big_quiet_skip | (go_big_quiet_want; refine quiet_val (v := ?_) ?_ ?_; rotate_left 1; (· (intro Wq hWq; obtain ⟨hWc, hWf⟩ := bcell hWq; go_simp; (try with_reducible rfl))); go_big_quiet_on; (try simp only [Act.put, List.setIfInBounds_toArray, List.set_cons_zero, List.set_cons_succ])))
        (first | go_big_quiet_skip | (go_big_quiet_want; refine quiet_val (v := ?_) ?_ ?_; rotate_left 1; (· (intro Wq hWq; obtain ⟨hWc, hWf⟩ := bcell hWq; go_simp; (try with_reducible rfl))); go_big_quiet_on; (try simp only [Act.put, List.setIfInBounds_toArray, List.set_cons_zero, List.set_cons_succ])))
        (first | go_big_quiet_skip | (go_big_quiet_want; refine quiet_val (v := ?_) ?_ ?_; rotate_left 1; (· (intro Wq hWq; obtain ⟨hWc, hWf⟩ := bcell hWq; go_simp; (try with_reducible rfl))); go_big_quiet_on; (try simp only [Act.put, List.setIfInBounds_toArray, List.set_cons_zero, List.set_cons_succ])))
        (first | go_big_quiet_skip | (go_big_quiet_want; refine quiet_val (v := ?_) ?_ ?_; rotate_left 1; (· (intro Wq hWq; obtain ⟨hWc, hWf⟩ := bcell hWq; go_simp; (try with_reducible rfl))); go_big_quiet_on; (try simp only [Act.put, List.setIfInBounds_toArray, List.set_cons_zero, List.set_cons_succ])))
        (first | go_big_quiet_skip | (go_big_quiet_want; refine quiet_val (v := ?_) ?_ ?_; rotate_left 1; (· (intro Wq hWq; obtain ⟨hWc, hWf⟩ := bcell hWq; go_simp; (try with_reducible rfl))); go_big_quiet_on; (try simp only [Act.put, List.setIfInBounds_toArray, List.set_cons_zero, List.set_cons_succ])))
        (first | go_big_quiet_skip | (go_big_quiet_want; refine quiet_val (v := ?_) ?_ ?_; rotate_left 1; (· (intro Wq hWq; obtain ⟨hWc, hWf⟩ := bcell hWq; go_simp; (try with_reducible rfl))); go_big_quiet_on; (try simp only [Act.put, List.setIfInBounds_toArray, List.set_cons_zero, List.set_cons_succ])))
        (first | go_big_quiet_skip | (go_big_quiet_want; refine quiet_val (v := ?_) ?_ ?_; rotate_left 1; (· (intro Wq hWq; obtain ⟨hWc, hWf⟩ := bcell hWq; go_simp; (try with_reducible rfl))); go_big_quiet_on; (try simp only [Act.put, List.setIfInBounds_toArray, List.set_cons_zero, List.set_cons_succ])))
        (first | go_big_quiet_skip | (go_big_quiet_want; refine quiet_val (v := ?_) ?_ ?_; rotate_left 1; (· (intro Wq hWq; obtain ⟨hWc, hWf⟩ := bcell hWq; go_simp; (try with_reducible rfl))); go_big_quiet_on; (try simp only [Act.put, List.setIfInBounds_toArray, List.set_cons_zero, List.set_cons_succ])))
        (first | go_big_quiet_skip | (go_big_quiet_want; refine quiet_val (v := ?_) ?_ ?_; rotate_left 1; (· (intro Wq hWq; obtain ⟨hWc, hWf⟩ := bcell hWq; go_simp; (try with_reducible rfl))); go_big_quiet_on; (try simp only [Act.put, List.setIfInBounds_toArray, List.set_cons_zero, List.set_cons_succ])))
        (first | go_big_quiet_skip | (go_big_quiet_want; refine quiet_val (v := ?_) ?_ ?_; rotate_left 1; (· (intro Wq hWq; obtain ⟨hWc, hWf⟩ := bcell hWq; go_simp; (try with_reducible rfl))); go_big_quiet_on; (try simp only [Act.put, List.setIfInBounds_toArray, List.set_cons_zero, List.set_cons_succ])))
        (first | go_big_quiet_skip | (go_big_quiet_want; refine quiet_val (v := ?_) ?_ ?_; rotate_left 1; (· (intro Wq hWq; obtain ⟨hWc, hWf⟩ := bcell hWq; go_simp; (try with_reducible rfl))); go_big_quiet_on; (try simp only [Act.put, List.setIfInBounds_toArray, List.set_cons_zero, List.set_cons_succ])))
        go_big_quiet_want; refine quiet_callB (f := 21) (args := ?_) (v := ?_) ?_ ?_ ?_; rotate_left 2
        · (intro Wq hWq; obtain ⟨hWc, hWf⟩ := bcell hWq; go_simp; (first | with_reducible rfl | exact ⟨rfl, rfl⟩))
        · (intro Wq hWq; exact HT1.out _)
        go_big_quiet_on; (try simp only [Act.put, List.setIfInBounds_toArray, List.set_cons_zero, List.set_cons_succ])
        (first | go_big_quiet_skip | (go_big_quiet_want; refine quiet_val (v := ?_) ?_ ?_; rotate_left 1; (· (intro Wq hWq; obtain ⟨hWc, hWf⟩ := bcell hWq; go_simp; (try with_reducible rfl))); go_big_quiet_on; (try simp only [Act.put, List.setIfInBounds_toArray, List.set_cons_zero, List.set_cons_succ])))
        (first | go_big_quiet_skip | (go_big_quiet_want; refine quiet_val (v := ?_) ?_ ?_; rotate_left 1; (· (intro Wq hWq; obtain ⟨hWc, hWf⟩ := bcell hWq; go_simp; (try with_reducible rfl))); go_big_quiet_on; (try simp only [Act.put, List.setIfInBounds_toArray, List.set_cons_zero, List.set_cons_succ])))
        (first | go_big_quiet_skip | (go_big_quiet_want; refine quiet_val (v := ?_) ?_ ?_; rotate_left 1; (· (intro Wq hWq; obtain ⟨hWc, hWf⟩ := bcell hWq; go_simp; (try with_reducible rfl))); go_big_quiet_on; (try simp only [Act.put, List.setIfInBounds_toArray, List.set_cons_zero, List.set_cons_succ])))
        (first | go_big_quiet_skip | (go_big_quiet_want; refine quiet_val (v := ?_) ?_ ?_; rotate_left 1; (· (intro Wq hWq; obtain ⟨hWc, hWf⟩ := bcell hWq; go_simp; (try with_reducible rfl))); go_big_quiet_on; (try simp only [Act.put, List.setIfInBounds_toArray, List.set_cons_zero, List.set_cons_succ])))
        (first | go_big_quiet_skip | (go_big_quiet_want; refine quiet_val (v := ?_) ?_ ?_; rotate_left 1; (· (intro Wq hWq; obtain ⟨hWc, hWf⟩ := bcell hWq; go_simp; (try with_reducible rfl))); go_big_quiet_on; (try simp only [Act.put, List.setIfInBounds_toArray, List.set_cons_zero, List.set_cons_succ])))
        refine wpQuiet_nil ?_; intro Z hbZ
        go_wp2
        go_roundw
        case rel => exact ⟨k + 1, by omega, by go_num, by rw [HS.out], Below.step hbV2 hbZ⟩
        case measure => simp [intOf]; omega
    · obtain rfl : k = m := by omega
      have HEQ : Hid (smL l per rn V2 k = (l.getD (atN rn (k - 1)) ch0).b - (l.getD (atN rn 0) ch0).a) := Lib.hid (by
        have h1 := sm_tel l per rn V2 (k - 1)
        rw [show k - 1 + 1 = k by omega, ← HVE.out] at h1
        omega)
      have s1 : IntKind.i64.wrap ((k : Int) - 1) = ((k - 1 : Nat) : Int) := (IntWalk.i64_in _ (by omega)).trans (by omega)
      have s2 : (0 : Int) ≤ ((k - 1 : Nat) : Int) := by omega
      have s3 : ((k - 1 : Nat) : Int) < (k : Int) := by omega
      have s6 : (0 : Int) < (k : Int) := by omega
      have s7 : 0 < k := by omega
      have e0 := HC2.out U hbw (k - 1) (by omega)
      have e1 : U.cell? ⟨b2, off2, none⟩ = some (.int .i64 (atN rn 0)) := HC2.out U hbw 0 (by omega)
      have hi := HIL.out (k - 1) (by omega)
      have hi1 := HIL.out 0 (by omega)
      obtain ⟨q0, q1, q2, q3, q4⟩ := HCC.out U hbw _ (by rw [← HN.out]; exact hi)
      obtain ⟨r0, r1, r2, r3, r4⟩ := HCC.out U hbw _ (by rw [← HN.out]; exact hi1)
      have hxa := HPO.out.2.a _ (mem_getD (show atN rn 0 < l.length by rw [← HN.out]; exact hi1))
      have hxb := HPO.out.2.b _ (mem_getD (show atN rn (k - 1) < l.length by rw [← HN.out]; exact hi))
      have yb := cell?_lt q1
      have yd := cell?_lt r1
      have ye := cell?_lt e0
      have z1 : (0 : Int) ≤ (atN rn (k - 1) : Int) := by omega
      have z2 : (atN rn (k - 1) : Int) < (n : Int) := by omega
      have z3 : (0 : Int) ≤ (atN rn 0 : Int) := by omega
      have z4 : (atN rn 0 : Int) < (n : Int) := by omega
      rw [HEQ.out]
      clear HEQ
      generalize k - 1 = k1 at *
      generalize l.getD (atN rn k1) ch0 = c at *
      generalize l.getD (atN rn 0) ch0 = d at *
      generalize atN rn k1 = ii at *
      generalize atN rn 0 = i1 at *
      have v1 : IntKind.i64.wrap (c.b - d.a) = c.b - d.a := IntWalk.i64_in _ (by omega)
      have v4 : decide (V2 ≥ 0) = true := decide_eq_true (by omega)
      have v5 : decide (0 ≤ V2) = true := decide_eq_true (by omega)
      clear hxa hxb hlt hk
      go_wp2_with fail
      refine region_below (by kernel_rfl) (by kernel_rfl) ?_
      (first | go_big_quiet_skip | (go_big_quiet_want; refine quiet_val (v := ?_) ?_ ?_; rotate_left 1; (· (intro Wq hWq; obtain ⟨hWc, hWf⟩ := bcell hWq; go_simp; (try with_reducible rfl))); go_big_quiet_on; (try simp only [Act.put, List.setIfInBounds_toArray, List.set_cons_zero, List.set_cons_succ])))
      (first | go_big_quiet_skip | (go_big_quiet_want; refine quiet_val (v := ?_) ?_ ?_; rotate_left 1; (· (intro Wq hWq; obtain ⟨hWc, hWf⟩ := bcell hWq; go_simp; (try with_reducible rfl))); go_big_quiet_on; (try simp only [Act.put, List.setIfInBounds_toArray, List.set_cons_zero, List.set_cons_succ])))
      (first | go_big_quiet_skip | (go_big_quiet_want; refine quiet_val (v := ?_) ?_ ?_; rotate_left 1; (· (intro Wq hWq; obtain ⟨hWc, hWf⟩ := bcell hWq; go_simp; (try with_reducible rfl))); go_big_quiet_on; (try simp only [Act.put, List.setIfInBounds_toArray, List.set_cons_zero, List.set_cons_succ])))
      (first | go_big_quiet_skip | (go_big_quiet_want; refine quiet_val (v := ?_) ?_ ?_; rotate_left 1; (· (intro Wq hWq; obtain ⟨hWc, hWf⟩ := bcell hWq; go_simp; (try with_reducible rfl))); go_big_quiet_on; (try simp only [Act.put, List.setIfInBounds_toArray, List.set_cons_zero, List.set_cons_succ])))
      (first | go_big_quiet_skip | (go_big_quiet_want; refine quiet_val (v := ?_) ?_ ?_; rotate_left 1; (· (intro Wq hWq; obtain ⟨hWc, hWf⟩ := bcell hWq; go_simp; (try with_reducible rfl))); go_big_quiet_on; (try simp only [Act.put, List.setIfInBounds_toArray, List.set_cons_zero, List.set_cons_succ])))
      (first | go_big_quiet_skip | (go_big_quiet_want; refine quiet_val (v := ?_) ?_ ?_; rotate_left 1; (· (intro Wq hWq; obtain ⟨hWc, hWf⟩ := bcell hWq; go_simp; (try with_reducible rfl))); go_big_quiet_on; (try simp only [Act.put, List.setIfInBounds_toArray, List.set_cons_zero, List.set_cons_succ])))
      (first | go_big_quiet_skip | (go_big_quiet_want; refine quiet_val (v := ?_) ?_ ?_; rotate_left 1; (· (intro Wq hWq; obtain ⟨hWc, hWf⟩ := bcell hWq; go_simp; (try with_reducible rfl))); go_big_quiet_on; (try simp only [Act.put, List.setIfInBounds_toArray, List.set_cons_zero, List.set_cons_succ])))
      (first | go_big_quiet_skip | (go_big_quiet_want; refine quiet_val (v := ?_) ?_ ?_; rotate_left 1; (· (intro Wq hWq; obtain ⟨hWc, hWf⟩ := bcell hWq; go_simp; (try with_reducible rfl))); go_big_quiet_on; (try simp only [Act.put, List.setIfInBounds_toArray, List.set_cons_zero, List.set_cons_succ])))
      (first | go_big_quiet_skip | (go_big_quiet_want; refine quiet_val (v := ?_) ?_ ?_; rotate_left 1; (· (intro Wq hWq; obtain ⟨hWc, hWf⟩ := bcell hWq; go_simp; (try with_reducible rfl))); go_big_quiet_on; (try simp only [Act.put, List.setIfInBounds_toArray, List.set_cons_zero, List.set_cons_succ])))
      (first | go_big_quiet_skip | (go_big_quiet_want; refine quiet_val (v := ?_) ?_ ?_; rotate_left 1; (· (intro Wq hWq; obtain ⟨hWc, hWf⟩ := bcell hWq; go_simp; (try with_reducible rfl))); go_big_quiet_on; (try simp only [Act.put, List.setIfInBounds_toArray, List.set_cons_zero, List.set_cons_succ])))
      (first | go_big_quiet_skip | (go_big_quiet_want; refine quiet_val (v := ?_) ?_ ?_; rotate_left 1; (· (intro Wq hWq; obtain ⟨hWc, hWf⟩ := bcell hWq; go_simp; (try with_reducible rfl))); go_big_quiet_on; (try simp only [Act.put, List.setIfInBounds_toArray, List.set_cons_zero, List.set_cons_succ])))
      (first | go_big_quiet_skip | (go_big_quiet_want; refine quiet_val (v := ?_) ?_ ?_; rotate_left 1; (· (intro Wq hWq; obtain ⟨hWc, hWf⟩ := bcell hWq; go_simp; (try with_reducible rfl))); go_big_quiet_on; (try simp only [Act.put, List.setIfInBounds_toArray, List.set_cons_zero, List.set_cons_succ])))
      (first | go_big_quiet_skip | (go_big_quiet_want; refine quiet_val (v := ?_) ?_ ?_; rotate_left 1; (· (intro Wq hWq; obtain ⟨hWc, hWf⟩ := bcell hWq; go_simp; (try with_reducible rfl))); go_big_quiet_on; (try simp only [Act.put, List.setIfInBounds_toArray, List.set_cons_zero, List.set_cons_succ])))
      (first | go_big_quiet_skip | (go_big_quiet_want; refine quiet_val (v := ?_) ?_ ?_; rotate_left 1; (· (intro Wq hWq; obtain ⟨hWc, hWf⟩ := bcell hWq; go_simp; (try with_reducible rfl))); go_big_quiet_on; (try simp only [Act.put, List.setIfInBounds_toArray, List.set_cons_zero, List.set_cons_succ])))
      (first | go_big_quiet_skip | (go_big_quiet_want; refine quiet_val (v := ?_) ?_ ?_; rotate_left 1; (· (intro Wq hWq; obtain ⟨hWc, hWf⟩ := bcell hWq; go_simp; (try with_reducible rfl))); go_big_quiet_on; (try simp only [Act.put, List.setIfInBounds_toArray, List.set_cons_zero, List.set_cons_succ])))
      (first | go_big_quiet_skip | (go_big_quiet_want; refine quiet_val (v := ?_) ?_ ?_; rotate_left 1; (· (intro Wq hWq; obtain ⟨hWc, hWf⟩ := bcell hWq; go_simp; (try with_reducible rfl))); go_big_quiet_on; (try simp only [Act.put, List.setIfInBounds_toArray, List.set_cons_zero, List.set_cons_succ])))
      (first | go_big_quiet_skip | (go_big_quiet_want; refine quiet_val (v := ?_) ?_ ?_; rotate_left 1; (· (intro Wq hWq; obtain ⟨hWc, hWf⟩ := bcell hWq; go_simp; (try with_reducible rfl))); go_big_quiet_on; (try simp only [Act.put, List.setIfInBounds_toArray, List.set_cons_zero, List.set_cons_succ])))
      (first | go_big_quiet_skip | (go_big_quiet_want; refine quiet_val (v := ?_) ?_ ?_; rotate_left 1; (· (intro Wq hWq; obtain ⟨hWc, hWf⟩ := bcell hWq; go_simp; (try with_reducible rfl))); go_big_quiet_on; (try simp only [Act.put, List.setIfInBounds_toArray, List.set_cons_zero, List.set_cons_succ])))
      (first | go_big_quiet_skip | (go_big_quiet_want; refine quiet_val (v := ?_) ?_ ?_; rotate_left 1; (· (intro Wq hWq; obtain ⟨hWc, hWf⟩ := bcell hWq; go_simp; (try with_reducible rfl))); go_big_quiet_on; (try simp only [Act.put, List.setIfInBounds_toArray, List.set_cons_zero, List.set_cons_succ])))
      (first | go_big_quiet_skip | (go_big_quiet_want; refine quiet_val (v := ?_) ?_ ?_; rotate_left 1; (· (intro Wq hWq; obtain ⟨hWc, hWf⟩ := bcell hWq; go_simp; (try with_reducible rfl))); go_big_quiet_on; (try simp only [Act.put, List.setIfInBounds_toArray, List.set_cons_zero, List.set_cons_succ])))
      (first | go_big_quiet_skip | (go_big_quiet_want; refine quiet_val (v := ?_) ?_ ?_; rotate_left 1; (· (intro Wq hWq; obtain ⟨hWc, hWf⟩ := bcell hWq; go_simp; (try with_reducible rfl))); go_big_quiet_on; (try simp only [Act.put, List.setIfInBounds_toArray, List.set_cons_zero, List.set_cons_succ])))
      (first | go_big_quiet_skip | (go_big_quiet_want; refine quiet_val (v := ?_) ?_ ?_; rotate_left 1; (· (intro Wq hWq; obtain ⟨hWc, hWf⟩ := bcell hWq; go_simp; (try with_reducible rfl))); go_big_quiet_on; (try simp only [Act.put, List.setIfInBounds_toArray, List.set_cons_zero, List.set_cons_succ])))
      (first | go_big_quiet_skip | (go_big_quiet_want; refine quiet_val (v := ?_) ?_ ?_; rotate_left 1; (· (intro Wq hWq; obtain ⟨hWc, hWf⟩ := bcell hWq; go_simp; (try with_reducible rfl))); go_big_quiet_on; (try simp only [Act.put, List.setIfInBounds_toArray, List.set_cons_zero, List.set_cons_succ])))
      (first | go_big_quiet_skip | (go_big_quiet_want; refine quiet_val (v := ?_) ?_ ?_; rotate_left 1; (· (intro Wq hWq; obtain ⟨hWc, hWf⟩ := bcell hWq; go_simp; (try with_reducible rfl))); go_big_quiet_on; (try simp only [Act.put, List.setIfInBounds_toArray, List.set_cons_zero, List.set_cons_succ])))
      (first | go_big_quiet_skip | (go_big_quiet_want; refine quiet_val (v := ?_) ?_ ?_; rotate_left 1; (· (intro Wq hWq; obtain ⟨hWc, hWf⟩ := bcell hWq; go_simp; (try with_reducible rfl))); go_big_quiet_on; (try simp only [Act.put, List.setIfInBounds_toArray, List.set_cons_zero, List.set_cons_succ])))
      (first | go_big_quiet_skip | (go_big_quiet_want; refine quiet_val (v := ?_) ?_ ?_; rotate_left 1; (· (intro Wq hWq; obtain ⟨hWc, hWf⟩ := bcell hWq; go_simp; (try with_reducible rfl))); go_big_quiet_on; (try simp only [Act.put, List.setIfInBounds_toArray, List.set_cons_zero, List.set_cons_succ])))
      (first | go_big_quiet_skip | (go_big_quiet_want; refine quiet_val (v := ?_) ?_ ?_; rotate_left 1; (· (intro Wq hWq; obtain ⟨hWc, hWf⟩ := bcell hWq; go_simp; (try with_reducible rfl))); go_big_quiet_on; (try simp only [Act.put, List.setIfInBounds_toArray, List.set_cons_zero, List.set_cons_succ])))
      (first | go_big_quiet_skip | (go_big_quiet_want; refine quiet_val (v := ?_) ?_ ?_; rotate_left 1; (· (intro Wq hWq; obtain ⟨hWc, hWf⟩ := bcell hWq; go_simp; (try with_reducible rfl))); go_big_quiet_on; (try simp only [Act.put, List.setIfInBounds_toArray, List.set_cons_zero, List.set_cons_succ])))
      (first | go_big_quiet_skip | (go_big_quiet_want; refine quiet_val (v := ?_) ?_ ?_; rotate_left 1; (· (intro Wq hWq; obtain ⟨hWc, hWf⟩ := bcell hWq; go_simp; (try with_reducible rfl))); go_big_quiet_on; (try simp only [Act.put, List.setIfInBounds_toArray, List.set_cons_zero, List.set_cons_succ])))
      go_big_quiet_want; refine quiet_callB (f := 13) (args := ?_) (v := ?_) ?_ ?_ ?_; rotate_left 2
      · (intro Wq hWq; obtain ⟨hWc, hWf⟩ := bcell hWq; go_simp; (first | with_reducible rfl | exact ⟨rfl, rfl⟩))
      · (intro Wq hWq; exact awake_c _)
      go_big_quiet_on; (try simp only [Act.put, List.setIfInBounds_toArray, List.set_cons_zero, List.set_cons_succ])
      (first | go_big_quiet_skip | (go_big_quiet_want; refine quiet_val (v := ?_) ?_ ?_; rotate_left 1; (· (intro Wq hWq; obtain ⟨hWc, hWf⟩ := bcell hWq; go_simp; (try with_reducible rfl))); go_big_quiet_on; (try simp only [Act.put, List.setIfInBounds_toArray, List.set_cons_zero, List.set_cons_succ])))
      (first | go_big_quiet_skip | (go_big_quiet_want; refine quiet_val (v := ?_) ?_ ?_; rotate_left 1; (· (intro Wq hWq; obtain ⟨hWc, hWf⟩ := bcell hWq; go_simp; (try with_reducible rfl))); go_big_quiet_on; (try simp only [Act.put, List.setIfInBounds_toArray, List.set_cons_zero, List.set_cons_succ])))
      refine wpQuiet_nil ?_; intro Z hbZ
      go_wp2
      go_ret
      exact ⟨rfl, Below.step hbw hbZ⟩
end Go.Proofs.Ytomgaiokmdcjmaa
