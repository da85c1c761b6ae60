/-
  With of night. No conditions.
-/
import Derived.Test.YtomgaiokmdcjmaaNt36
namespace Go.Proofs.Ytomgaiokmdcjmaa
open Go.RowKit Go.Deep
set_option linter.unusedVariables false
set_option linter.unusedSimpArgs false
theorem RdL.of_at {W : World} {b off : Nat} {r : List Int} (hb : b < W.heap.size) (h : ∀ j, j < r.length → W.cell? ⟨b, off + j, none⟩ = some (.int .i64 (atI r j))) : RdL W W.heap.size inE 1 (some ⟨b, off, none⟩) r := by
  intro _
  refine ⟨b, off, rfl, hb, fun i hi j v hv => ?_⟩
  have hj : j < 1 := (List.getElem?_eq_some_iff.1 hv).1
  obtain rfl : j = 0 := by omega
  have := h i hi
  unfold atI at this
  rw [List.getD_eq_getElem?_getD, List.getElem?_eq_getElem hi] at this
  simp [inE] at hv
  subst hv
  simpa using this
/-- The list without its head. -/
theorem beg_tail {W : World} {l : List Ch} {L : List Cl} {per : Int} {i : Nat} (hi : i < l.length) (hc : clB l L i = true) {s : SlL} (h : BegAt W l L per i s) :
    ∃ sb so so' : Nat, s.A = some ⟨sb, so, none⟩ ∧ s.xs.length = (begL l L per i).tail.length + 1 ∧ (if s.c = 1 then (some ⟨sb, so, none⟩ : Option Addr) else some ⟨sb, so + 1, none⟩) = some ⟨sb, so', none⟩ ∧ (begL l L per i).tail.length + 1 ≤ s.c ∧ s.c ≤ maxLen ∧
      RdL W W.heap.size inE 1 (some ⟨sb, so', none⟩) ((begL l L per i).tail.map Int.ofNat) := by
  obtain ⟨-, ⟨t, ht⟩, -⟩ := begL_spec l L per _ i rfl hi hc
  have hx := h.x
  rw [ht] at hx
  rw [ht, List.tail_cons]
  have hl : s.xs.length = t.length + 1 := by rw [hx, List.length_cons]
  obtain ⟨sb, so, e, hb, hcell⟩ := h.a.r (by rw [List.length_map, hl]; omega)
  have hcap := h.a.c
  by_cases h1 : s.c = 1
  · refine ⟨sb, so, so, e, hl, by rw [if_pos h1], by omega, hcap.2, ?_⟩
    have : t = [] := List.eq_nil_of_length_eq_zero (by omega)
    subst this
    exact RdL.nil
  · refine ⟨sb, so, so + 1, e, hl, by rw [if_neg h1], by omega, hcap.2, RdL.of_at hb (fun j hj => ?_)⟩
    rw [List.length_map] at hj
    obtain ⟨b2, o2, e2, -, hc2⟩ := int_cell h.a.r (Below.refl _ _) (k := 0) (by rw [List.length_map, hl]; omega)
    rw [e] at e2
    cases e2
    have := hc2 (j + 1) (by rw [List.length_map, hl]; omega)
    rw [atI_nat, hx] at this
    rw [atI_nat, show so + 1 + j = so + (j + 1) by omega]
    exact this
theorem own_base {W : World} {b0 base sz n : Nat} {e : TypeId} {v : Value} {xs : List Value} (h : W.ownsRow base e sz v n xs) (hb : b0 ≤ base) : W.ownsRow b0 e sz v n xs := by
  refine ⟨h.1, ?_⟩
  rcases h.2 with h | ⟨g, cap, cur, e1, e2, e3⟩
  · exact .inl h
  · exact .inr ⟨g, cap, cur, e1, Nat.le_trans hb e2, e3⟩
set_option maxHeartbeats 1000000 in
set_option maxRecDepth 100000 in
theorem With_c (l : List Ch) (A : Option Addr) (cap : Nat) (L : List Cl) (B : Option Addr) (cb : Nat) (per i : Int) (w : World) (h : InAt w l A cap L B cb) :
    Calls Try.prog 43 #[.slice A l.length cap, .slice B L.length cb, .int .i64 per, .int .i64 i] w fun e w' => (∃ A c, e = .returned (.tuple #[.slice A (wiR l L per i).length c, .int .i64 (wiE l L per i)]) ∧ SlAt w' l.length ⟨A, c, wiR l L per i⟩) ∧ Below w.heap.size w w' := by
  have H1 := Lib.hid (fun W (hb : Below w.heap.size w W) => asked_c l A cap L B cb per W (h.step hb))
  have H2 := Lib.hid (fun (h0 : asE l L per = 0) W (hb : Below w.heap.size w W) => ending_c l A cap L B cb per W (h.step hb) (PlanOk.of_as h0))
  have H3 : Hid (∀ (h0 : asE l L per = 0) (k : Nat) (hk : k < l.length) (hc : clB l L k = true) W, Below w.heap.size w W → Calls Try.prog 89 #[.agg #[.slice A l.length cap, .slice B L.length cb, .int .i64 per], .int .i64 k] W fun e w' => (∃ sb so so' sc : Nat, e = .returned (.slice (some ⟨sb, so, none⟩) ((begL l L per k).tail.length + 1) sc) ∧ (if sc = 1 then (some ⟨sb, so, none⟩ : Option Addr) else some ⟨sb, so + 1, none⟩) = some ⟨sb, so', none⟩ ∧ ((begL l L per k).tail.length + 1 ≤ sc ∧ sc ≤ maxLen) ∧ RdL w' w'.heap.size inE 1 (some ⟨sb, so', none⟩) ((begL l L per k).tail.map Int.ofNat)) ∧ Below W.heap.size W w') :=
    Lib.hid (fun h0 k hk hc W hb => (beginning_c l A cap L B cb per W (h.step hb) (PlanOk.of_as h0) k hk hc).mono (by
      rintro e w' ⟨⟨s, rfl, hs⟩, hb'⟩
      obtain ⟨sb, so, so', e1, e2, e3, e4, e5, e6⟩ := beg_tail hk hc hs
      exact ⟨⟨sb, so, so', s.c, by rw [e1, e2], e3, ⟨e4, e5⟩, e6⟩, hb'⟩))
  have HWL : Hid (∀ k : Nat, k < l.length → clB l L k = true → Rt l L per (withL l L per k) ∧ withL l L per k = endL l L per k ++ (begL l L per k).tail) := Lib.hid (fun k hk hc => ⟨(withL_spec hk hc).1, rfl⟩)
  have HRL := Lib.hid (fun r (hr : Rt l L per r) => And.intro (Rt_len hr) (rgt_iff.2 hr).2)
  have HE : Hid (wiE l L per i = if asE l L per = 0 then (if within i 0 ((l.length : Int) - 1) = true then (if clB l L i.toNat = true then 0 else 8) else 5) else asE l L per) := Lib.hid rfl
  have HR : Hid (wiR l L per i = if wiE l L per i = 0 then withL l L per i.toNat else []) := Lib.hid rfl
  have hl0 := h.hl
  have HP := Lib.hid (fun h0 : asE l L per = 0 => (PlanOk.of_as h0).n)
  clear h
  have HNIL := Lib.hid (fun W => SlAt.nil W l.length)
  generalize wiR l L per i = R at *
  generalize wiE l L per i = E at *
  generalize asE l L per = v at *
  obtain ⟨n, hn⟩ : ∃ n, n = l.length := ⟨_, rfl⟩
  have HN := Lib.hid hn
  rw [← hn] at H1 H2 H3 HE HNIL hl0 HRL HWL HP ⊢
  clear hn
  generalize L.length = m at *
  have s0 : IntKind.i64.wrap ((n : Int) - 1) = (n : Int) - 1 := IntWalk.i64_in _ (by omega)
  by_cases hv : v = 0
  case neg =>
    have q1 : (v != 0) = true := by simp [hv]
    have HE2 := Lib.hid (show E = v by rw [HE.out, if_neg hv])
    have HR2 := Lib.hid (show R = [] by rw [HR.out, if_neg (by rw [HE2.out]; exact hv)])
    clear H2 H3
    go_enter Try.func43, Try.ntmps43
    go_wp2_with fail
    refine (H1.out _ (by (repeat (first | exact Below.refl _ _ | refine Below.drew ?_ | refine Below.allocS ?_ _ | refine Below.step ?_ (by assumption) | refine Below.setCell ?_ (by simp <;> omega) _ | refine Below.drewN' ?_ _)))).mono ?_
    rintro e w1 ⟨rfl, hb1⟩
    have x1_0_0 : w1.cell? ⟨w.heap.size, 0, none⟩ = some (.slice A n cap) := keep_cell hb1 (by simp [go_sem, *])
    have x1_0_1 : w1.cell? ⟨w.heap.size, 1, none⟩ = some (.slice B m cb) := keep_cell hb1 (by simp [go_sem, *])
    have x1_0_2 : w1.cell? ⟨w.heap.size, 2, none⟩ = some (.int .i64 per) := keep_cell hb1 (by simp [go_sem, *])
    have y1_0 : w.heap.size < w1.heap.size := cell?_lt x1_0_0
    have g1 : Below w.heap.size w w1 := by (repeat (first | exact Below.refl _ _ | refine Below.drew ?_ | refine Below.allocS ?_ _ | refine Below.step ?_ (by assumption) | refine Below.setCell ?_ (by simp <;> omega) _ | refine Below.drewN' ?_ _))
    clear hb1
    go_wp2
    go_ret2
    rw [HR2.out, HE2.out]
    exact ⟨⟨none, 0, rfl, HNIL.out _⟩, by (repeat (first | exact Below.refl _ _ | refine Below.drew ?_ | refine Below.allocS ?_ _ | refine Below.step ?_ (by assumption) | refine Below.setCell ?_ (by simp <;> omega) _ | refine Below.drewN' ?_ _))⟩
  subst hv
  have H21 := Lib.hid (H2.out rfl)
  have H31 := Lib.hid (fun k => H3.out rfl k)
  have hn20 := HP.out rfl
  have HE1 : Hid (E = if within i 0 ((n : Int) - 1) = true then (if clB l L i.toNat = true then 0 else 8) else 5) := Lib.hid (by rw [HE.out, if_pos rfl])
  clear H2 H3 HE HP
  obtain ⟨wi, hwi⟩ : ∃ wi, wi = within i 0 ((n : Int) - 1) := ⟨_, rfl⟩
  have HWI := Lib.hid (fun W => within_c i 0 ((n : Int) - 1) W)
  rw [← hwi] at HE1 HWI
  have HWB := Lib.hid hwi
  clear hwi
  cases wi
  case false =>
    have HE2 := Lib.hid (show E = 5 by rw [HE1.out]; rfl)
    have HR2 := Lib.hid (show R = [] by rw [HR.out, if_neg (by rw [HE2.out]; omega)])
    go_enter Try.func43, Try.ntmps43
    go_wp2_with fail
    refine (H1.out _ (by (repeat (first | exact Below.refl _ _ | refine Below.drew ?_ | refine Below.allocS ?_ _ | refine Below.step ?_ (by assumption) | refine Below.setCell ?_ (by simp <;> omega) _ | refine Below.drewN' ?_ _)))).mono ?_
    rintro e w1 ⟨rfl, hb1⟩
    have x1_0_0 : w1.cell? ⟨w.heap.size, 0, none⟩ = some (.slice A n cap) := keep_cell hb1 (by simp [go_sem, *])
    have x1_0_1 : w1.cell? ⟨w.heap.size, 1, none⟩ = some (.slice B m cb) := keep_cell hb1 (by simp [go_sem, *])
    have x1_0_2 : w1.cell? ⟨w.heap.size, 2, none⟩ = some (.int .i64 per) := keep_cell hb1 (by simp [go_sem, *])
    have y1_0 : w.heap.size < w1.heap.size := cell?_lt x1_0_0
    have g1 : Below w.heap.size w w1 := by (repeat (first | exact Below.refl _ _ | refine Below.drew ?_ | refine Below.allocS ?_ _ | refine Below.step ?_ (by assumption) | refine Below.setCell ?_ (by simp <;> omega) _ | refine Below.drewN' ?_ _))
    clear hb1
    go_wp2_with fail
    refine (HWI.out _).mono ?_
    rintro e w' ⟨rfl, hw'⟩; replace hw' := hw'.symm; subst hw'
    go_wp2
    go_ret2
    rw [HR2.out, HE2.out]
    exact ⟨⟨none, 0, rfl, HNIL.out _⟩, by (repeat (first | exact Below.refl _ _ | refine Below.drew ?_ | refine Below.allocS ?_ _ | refine Below.step ?_ (by assumption) | refine Below.setCell ?_ (by simp <;> omega) _ | refine Below.drewN' ?_ _))⟩
  have hwb := within_true HWB.out.symm
  obtain ⟨k, rfl⟩ : ∃ k : Nat, i = (k : Int) := ⟨i.toNat, by omega⟩
  have hkn : k < n := by omega
  have HE2 : Hid (E = if clB l L k = true then 0 else 8) := Lib.hid (by rw [HE1.out, if_pos rfl, Int.toNat_natCast])
  have HR2 : Hid (R = if E = 0 then withL l L per k else []) := Lib.hid (by rw [HR.out, Int.toNat_natCast])
  have H32 := Lib.hid (H31.out k hkn)
  have HWL2 := Lib.hid (HWL.out k hkn)
  clear H31 HR HE1 hwb HWB HWL
  obtain ⟨cB, hcB⟩ : ∃ cB, cB = clB l L k := ⟨_, rfl⟩
  have HCB := Lib.hid hcB
  rw [← hcB] at HE2 H32 HWL2
  clear hcB
  have HKK := Lib.hid (Maps.keyOf_int_mk (P := Try.prog) Try.underlying3 (wf_small (k := k) (by omega)))
  go_enter Try.func43, Try.ntmps43
  go_wp2_with fail
  refine (H1.out _ (by (repeat (first | exact Below.refl _ _ | refine Below.drew ?_ | refine Below.allocS ?_ _ | refine Below.step ?_ (by assumption) | refine Below.setCell ?_ (by simp <;> omega) _ | refine Below.drewN' ?_ _)))).mono ?_
  rintro e w1 ⟨rfl, hb1⟩
  have x1_0_0 : w1.cell? ⟨w.heap.size, 0, none⟩ = some (.slice A n cap) := keep_cell hb1 (by simp [go_sem, *])
  have x1_0_1 : w1.cell? ⟨w.heap.size, 1, none⟩ = some (.slice B m cb) := keep_cell hb1 (by simp [go_sem, *])
  have x1_0_2 : w1.cell? ⟨w.heap.size, 2, none⟩ = some (.int .i64 per) := keep_cell hb1 (by simp [go_sem, *])
  have y1_0 : w.heap.size < w1.heap.size := cell?_lt x1_0_0
  have g1 : Below w.heap.size w w1 := by (repeat (first | exact Below.refl _ _ | refine Below.drew ?_ | refine Below.allocS ?_ _ | refine Below.step ?_ (by assumption) | refine Below.setCell ?_ (by simp <;> omega) _ | refine Below.drewN' ?_ _))
  clear hb1
  go_wp2_with fail
  refine (HWI.out _).mono ?_
  rintro e w' ⟨rfl, hw'⟩; replace hw' := hw'.symm; subst hw'
  go_wp2_with fail
  refine (H21.out _ (by (repeat (first | exact Below.refl _ _ | refine Below.drew ?_ | refine Below.allocS ?_ _ | refine Below.step ?_ (by assumption) | refine Below.setCell ?_ (by simp <;> omega) _ | refine Below.drewN' ?_ _)))).mono ?_
  rintro e w2 ⟨⟨Bm, S, rfl, hM, hS⟩, hb2⟩
  have hlk := hM.look_ok (Maps.int_keyed Try.underlying3) Try.underlying99 (zero_slice w2) HKK.out
  rw [HN.out, eF_get, ← HCB.out] at hlk
  have d0 : w2.cell? ⟨w.heap.size, 0, none⟩ = some (.slice A n cap) := keep_cell hb2 (by simp [go_sem, *])
  have d1 : w2.cell? ⟨w.heap.size, 1, none⟩ = some (.slice B m cb) := keep_cell hb2 (by simp [go_sem, *])
  have d2 : w2.cell? ⟨w.heap.size, 2, none⟩ = some (.int .i64 per) := keep_cell hb2 (by simp [go_sem, *])
  have hbw2 : Below w.heap.size w w2 := by (repeat (first | exact Below.refl _ _ | refine Below.drew ?_ | refine Below.allocS ?_ _ | refine Below.step ?_ (by assumption) | refine Below.setCell ?_ (by simp <;> omega) _ | refine Below.drewN' ?_ _))
  cases cB
  · rw [if_neg (by simp)] at hlk
    have hlk2 : (Instr.lookup 99 (.map (some Bm)) (.int .i64 k) true).run Try.prog w2 = .ok (.tuple #[.slice none 0 0, .bool false]) w2 := hlk
    obtain rfl : E = 8 := HE2.out
    obtain rfl : R = [] := HR2.out
    clear hlk hM hS
    go_wp2
    go_ret2
    exact ⟨⟨none, 0, rfl, HNIL.out _⟩, hbw2⟩
  · rw [if_pos ⟨by first | exact hkn | (rw [← HN.out]; exact hkn), rfl⟩] at hlk
    have HEK := Lib.hid (hS k (by first | exact hkn | (rw [← HN.out]; exact hkn)) HCB.out.symm)
    obtain rfl : E = 0 := HE2.out
    obtain ⟨s, hs⟩ : ∃ s, s = S k := ⟨_, rfl⟩
    rw [← hs] at hlk HEK
    have hlk2 : (Instr.lookup 99 (.map (some Bm)) (.int .i64 k) true).run Try.prog w2 = .ok (.tuple #[.slice s.A s.xs.length s.c, .bool true]) w2 := hlk
    have H33 := Lib.hid (H32.out rfl)
    have HWL3 := Lib.hid (HWL2.out rfl)
    obtain rfl : R = withL l L per k := by rw [HR2.out, if_pos rfl]
    have HXE : Hid (s.xs = endL l L per k) := Lib.hid HEK.out.x
    clear hlk hM hS hs H32 HWL2 HR2 HE2
    have hne : s.A ≠ none := fun hA => HEK.out.ne (List.eq_nil_of_length_eq_zero (by have := HEK.out.a.r.none_len hA; rwa [List.length_map] at this))
    have HBD : Hid (s.xs.length ≤ 1000 ∧ (begL l L per k).tail.length ≤ 1000) := Lib.hid (by
      refine ⟨HEK.out.a.l, ?_⟩
      have h1 := (HRL.out _ HWL3.out.1).1
      rw [HWL3.out.2, List.length_append] at h1
      omega)
    have HCLN := Lib.hid (fun W (hb : Below w2.heap.size w2 W) => CloneI_c s.xs s.xs.length rfl HEK.out.a.l s.A hne s.c W (HEK.out.a.step hb).r)
    generalize (begL l L per k).tail = tl at *
    obtain ⟨xl, hxl⟩ : ∃ xl, xl = s.xs.length := ⟨_, rfl⟩
    have HXL := Lib.hid hxl.symm
    rw [← hxl] at HCLN HBD hlk2
    clear hxl hne
    have p0 : ∀ W, Below w2.heap.size w2 W → W.cell? ⟨w.heap.size, 0, none⟩ = some (.slice A n cap) := fun W hb => keep_cell hb d0
    have p1 : ∀ W, Below w2.heap.size w2 W → W.cell? ⟨w.heap.size, 1, none⟩ = some (.slice B m cb) := fun W hb => keep_cell hb d1
    have p2 : ∀ W, Below w2.heap.size w2 W → W.cell? ⟨w.heap.size, 2, none⟩ = some (.int .i64 per) := fun W hb => keep_cell hb d2
    go_wp2_with fail
    refine wp_region_held_drew (S := fun W => Below w2.heap.size w2 W) (by kernel_rfl) ?_ (fun hHeld => ?_); (· (repeat (first | (with_reducible exact Below.refl _ _) | (with_reducible assumption) | (with_reducible refine Below.drew ?_) | (with_reducible refine Below.allocS ?_ _) | (with_reducible refine Below.setCell ?_ ?_ _) | (with_reducible refine Below.step ?_ (by assumption)) | (with_reducible refine Below.drewN' ?_ _))); (try any_goals (first | (with_reducible assumption) | (simp; done) | (simp; omega) | omega)))
    (first | (refine wpAnyH_take (i := 0) (oi := ⟨_, _, _, _, _, _⟩) (v := ?_) rfl (by kernel_rfl) (by kernel_rfl) (by kernel_rfl) (fun _ _ _ h => h) (Or.inl ⟨by rfl, ?_⟩) (by assumption) ?_; rotate_left 1; (· (intro w0 hSw; (try dsimp only at hSw); go_simp; (try with_reducible rfl)))) | (refine wpAnyH_take (i := 0) (oi := ⟨_, _, _, _, _, _⟩) (v := undef) rfl (by kernel_rfl) (by kernel_rfl) (by kernel_rfl) (fun _ _ _ h => h) (Or.inr ⟨by rfl, rfl⟩) (by assumption) ?_)); (try simp only [Act.put, List.setIfInBounds_toArray, List.set_cons_zero, List.set_cons_succ])
    (first | (refine wpAnyH_take (i := 2) (oi := ⟨_, _, _, _, _, _⟩) (v := ?_) rfl (by kernel_rfl) (by kernel_rfl) (by kernel_rfl) (fun _ _ _ h => h) (Or.inl ⟨by rfl, ?_⟩) (by assumption) ?_; rotate_left 1; (· (intro w0 hSw; (try dsimp only at hSw); go_simp; (try with_reducible rfl)))) | (refine wpAnyH_take (i := 2) (oi := ⟨_, _, _, _, _, _⟩) (v := undef) rfl (by kernel_rfl) (by kernel_rfl) (by kernel_rfl) (fun _ _ _ h => h) (Or.inr ⟨by rfl, rfl⟩) (by assumption) ?_)); (try simp only [Act.put, List.setIfInBounds_toArray, List.set_cons_zero, List.set_cons_succ])
    (first | (refine wpAnyH_take (i := 3) (oi := ⟨_, _, _, _, _, _⟩) (v := ?_) rfl (by kernel_rfl) (by kernel_rfl) (by kernel_rfl) (fun _ _ _ h => h) (Or.inl ⟨by rfl, ?_⟩) (by assumption) ?_; rotate_left 1; (· (intro w0 hSw; (try dsimp only at hSw); go_simp; (try with_reducible rfl)))) | (refine wpAnyH_take (i := 3) (oi := ⟨_, _, _, _, _, _⟩) (v := undef) rfl (by kernel_rfl) (by kernel_rfl) (by kernel_rfl) (fun _ _ _ h => h) (Or.inr ⟨by rfl, rfl⟩) (by assumption) ?_)); (try simp only [Act.put, List.setIfInBounds_toArray, List.set_cons_zero, List.set_cons_succ])
    refine wpAnyH_ready (rs := [1]) (by kernel_rfl) (by simp) ?_
    refine AllReadyH.cons (o := ⟨_, _, _, _, _, _⟩) rfl (fun K hK => ?_) AllReadyH.nil
    go_simp
    go_at_call 88; refine (HCLN.out _ (by assumption)).mono ?_; rintro e W3 ⟨⟨A3, c3, rfl, ho3⟩, hb3⟩
    (try go_wp2_with fail)
    refine hK.out _ _ ?_ (fun hHeld => ?_)
    · exact Below.step (by assumption) hb3
    clear hK K
    (try simp only [Act.put, List.setIfInBounds_toArray, List.set_cons_zero, List.set_cons_succ])
    refine wpAnyH_ready (rs := [4]) (by kernel_rfl) (by simp) ?_
    refine AllReadyH.cons (o := ⟨_, _, _, _, _, _⟩) rfl (fun K hK => ?_) AllReadyH.nil
    go_simp
    go_at_call 89; refine (H33.out _ (Below.step hbw2 (by assumption))).mono ?_; rintro e W4 ⟨⟨sb, so, so', sc, rfl, hif, hsc, hrd⟩, hb4⟩
    (try go_wp2_with fail)
    refine hK.out _ _ ?_ (fun hHeld => ?_)
    · exact Below.step (by assumption) hb4
    clear hK K
    (try simp only [Act.put, List.setIfInBounds_toArray, List.set_cons_zero, List.set_cons_succ])
    have j1 : decide ((1 : Int) ≤ ((tl.length + 1 : Nat) : Int)) = true := decide_eq_true (by omega)
    have j2 : (1 : Int) ≤ ((tl.length + 1 : Nat) : Int) := by omega
    have j3 : 1 ≤ sc := by omega
    have j5 : (1 : Int) ≤ (tl.length : Int) + 1 := by omega
    have j4 : tl.length + 1 ≤ sc := hsc.1
    (first | (refine wpAnyH_take (i := 5) (oi := ⟨_, _, _, _, _, _⟩) (v := ?_) rfl (by kernel_rfl) (by kernel_rfl) (by kernel_rfl) (fun _ _ _ h => h) (Or.inl ⟨by rfl, ?_⟩) (by assumption) ?_; rotate_left 1; (· (intro w0 hSw; (try dsimp only at hSw); go_simp; (try with_reducible rfl)))) | (refine wpAnyH_take (i := 5) (oi := ⟨_, _, _, _, _, _⟩) (v := undef) rfl (by kernel_rfl) (by kernel_rfl) (by kernel_rfl) (fun _ _ _ h => h) (Or.inr ⟨by rfl, rfl⟩) (by assumption) ?_)); (try simp only [Act.put, List.setIfInBounds_toArray, List.set_cons_zero, List.set_cons_succ])
    refine wpAnyH_ready (rs := [6]) (by kernel_rfl) (by simp) ?_
    refine AllReadyH.cons (o := ⟨_, _, _, _, _, _⟩) rfl (fun K hK => ?_) AllReadyH.nil
    have HAPP := Lib.hid (app_spread appI (s.xs.map Int.ofNat) (tl.map Int.ofNat) xl tl.length (by rw [List.length_map]; exact HXL.out) (List.length_map ..) (by have := HBD.out; omega) W4 w2.heap.size (.slice A3 xl c3) (ownsRow_keep (own_base ho3 (Nat.le_refl _)) hb4) (by have := hHeld.size; omega) (some ⟨sb, so', none⟩) (sc - 1) hrd (fun e => by cases e))
    refine step_append_ok rfl (.tmp 39) (.tmp 43) 26 rfl _ _ rfl rfl HAPP.out ?_
    rintro v5 W5 ⟨hown5, hgr5, -⟩
    obtain ⟨A5, c5, rfl, k5, m5⟩ := row_form hown5
    have hb5 : Below w2.heap.size w2 W5 := Below.grown hHeld hgr5 (by have := hHeld.size; omega) (fun j e => (((ownsRow_keep (own_base ho3 (Nat.le_refl _)) hb4)).lt j e).1)
    refine hK.out _ _ ?_ (fun hHeld => ?_)
    · exact hb5
    clear hK K
    (try simp only [Act.put, List.setIfInBounds_toArray, List.set_cons_zero, List.set_cons_succ])
    (first | (refine wpAnyH_take (i := 7) (oi := ⟨_, _, _, _, _, _⟩) (v := ?_) rfl (by kernel_rfl) (by kernel_rfl) (by kernel_rfl) (fun _ _ _ h => h) (Or.inl ⟨by rfl, ?_⟩) (by assumption) ?_; rotate_left 1; (· (intro w0 hSw; (try dsimp only at hSw); go_simp; (try with_reducible rfl)))) | (refine wpAnyH_take (i := 7) (oi := ⟨_, _, _, _, _, _⟩) (v := undef) rfl (by kernel_rfl) (by kernel_rfl) (by kernel_rfl) (fun _ _ _ h => h) (Or.inr ⟨by rfl, rfl⟩) (by assumption) ?_)); (try simp only [Act.put, List.setIfInBounds_toArray, List.set_cons_zero, List.set_cons_succ])
    (first | (refine wpAnyH_take (i := 8) (oi := ⟨_, _, _, _, _, _⟩) (v := ?_) rfl (by kernel_rfl) (by kernel_rfl) (by kernel_rfl) (fun _ _ _ h => h) (Or.inl ⟨by rfl, ?_⟩) (by assumption) ?_; rotate_left 1; (· (intro w0 hSw; (try dsimp only at hSw); go_simp; (try with_reducible rfl)))) | (refine wpAnyH_take (i := 8) (oi := ⟨_, _, _, _, _, _⟩) (v := undef) rfl (by kernel_rfl) (by kernel_rfl) (by kernel_rfl) (fun _ _ _ h => h) (Or.inr ⟨by rfl, rfl⟩) (by assumption) ?_)); (try simp only [Act.put, List.setIfInBounds_toArray, List.set_cons_zero, List.set_cons_succ])
    refine wpAnyH_done (by kernel_rfl) ?_ _
    have HSL : Hid (SlAt W5 n ⟨A5, c5, withL l L per k⟩) := Lib.hid (by
      have e1 : withL l L per k = s.xs ++ tl := by rw [HWL3.out.2, HXE.out]
      have hlen : (withL l L per k).length = xl + tl.length := by rw [e1, List.length_append, HXL.out]
      have hrl := HRL.out _ HWL3.out.1
      refine ⟨?_, hrl.2, ?_, ?_⟩
      · show RdL W5 W5.heap.size inE 1 A5 ((withL l L per k).map Int.ofNat)
        rw [e1, List.map_append]
        exact RdL.of_own (enc := inE) (fun _ => rfl) hown5 (by rw [List.length_append, List.length_map, List.length_map, HXL.out])
      · show (withL l L per k).length ≤ 1000
        omega
      · show (withL l L per k).length ≤ c5 ∧ c5 ≤ maxLen
        omega)
    have HLN : Hid ((withL l L per k).length = xl + tl.length) := Lib.hid (by rw [HWL3.out.2, ← HXE.out, List.length_append, HXL.out])
    clear hown5 hgr5
    go_wp2
    go_ret2
    rw [HLN.out]
    exact ⟨⟨A5, c5, rfl, HSL.out⟩, Below.step hbw2 hHeld⟩
end Go.Proofs.Ytomgaiokmdcjmaa
