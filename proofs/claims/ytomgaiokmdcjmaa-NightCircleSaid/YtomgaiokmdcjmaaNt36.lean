/-
  With of both. No conditions.
-/
import Derived.Test.YtomgaiokmdcjmaaNt35
import Derived.Deep.RegionHeld
namespace Go.Proofs.Ytomgaiokmdcjmaa
open Go.RowKit Go.Deep
set_option linter.unusedVariables false
set_option linter.unusedSimpArgs false
theorem step_append_ok {P : Program} {ops : Array Oper} {o : Oper} {a : Act} {w : World} {K : Act → World → Prop} {Q : Exit → Act → World → Prop} {E : Prop}
    (hg : o.guard = none) (s x : Operand) (t : TypeId) (hop : o.op = Op.call { callee := Callee.builtin Builtin.append, args := #[s, x], argTypes := #[t, t] })
    (v X : Value) (hs : a.eval s = v) (hx : a.eval x = X) {R : Value → World → Prop} (hrun : ∃ v' w', (Builtin.append_ #[t, t] o.type #[v, X]).run P w = .ok v' w' ∧ R v' w')
    (hK : ∀ v' w', R v' w' → K (a.put o.dst v') w') :
    if Region.wanted o (yielded ops a.tmps) = true then Oper.wp P o a w K Q else E := by
  have hw : Region.wanted o (yielded ops a.tmps) = true := by simp [Region.wanted, hg]
  rw [if_pos hw]
  obtain ⟨v', w', hr, h⟩ := hrun
  unfold Oper.wp
  simp [execOp, hop, resolve, invoke, builtin, hs, hx, hr, Result.andThen]
  exact hK v' w' h
theorem CloneI_c (xs : List Nat) (n : Nat) (hn : xs.length = n) (hl : n ≤ 1000) (A : Option Addr) (hA : A ≠ none) (cap : Nat) (w : World) (hr : RdL w w.heap.size inE 1 A (xs.map Int.ofNat)) :
    Calls Try.prog 88 #[.slice A n cap] w fun e w' => (∃ A' c, e = .returned (.slice A' n c) ∧ w'.ownsRow w.heap.size 3 1 (.slice A' n c) n ((xs.map Int.ofNat).flatMap inE)) ∧ Below w.heap.size w w' := by
  cases A with
  | none => exact absurd rfl hA
  | some b =>
    have HA := Lib.hid (app_empty xs n hn hl w (some b) cap hr (fun e => by cases e))
    have qe : ∀ W, (binOp .eql 26 (.slice (some b) n cap) (.slice none 0 0)).run Try.prog W = .ok (.bool false) W := fun W => Lib.run_eql_slice_nil W _ _ _ _ _ _ _ Try.underlying26
    clear hr hn hl hA
    go_enter Try.func88, Try.ntmps88
    go_wp2_with (at_builtin; refine wpList_app rfl (.tmp 5) (.tmp 6) 26 rfl _ _ rfl rfl HA.out ?_; rintro v6 w6 ⟨hown6, hB6⟩; obtain ⟨A6, c6, rfl, -, -⟩ := row_form hown6; have HO := Lib.hid hown6; clear hown6)
    go_ret
    exact ⟨⟨A6, c6, rfl, HO.out⟩, hB6⟩
/-- The error and the list. -/
noncomputable def wiE (l : List Ch) (L : List Cl) (per i : Int) : Int := if asE l L per = 0 then (if within i 0 ((l.length : Int) - 1) = true then (if clB l L i.toNat = true then 0 else 8) else 5) else asE l L per
noncomputable def wiR (l : List Ch) (L : List Cl) (per i : Int) : List Nat := if wiE l L per i = 0 then withL l L per i.toNat else []
theorem wi_ok {l : List Ch} {L : List Cl} {per i : Int} (h : wiE l L per i = 0) : asE l L per = 0 ∧ (∃ k : Nat, i = (k : Int) ∧ k < l.length ∧ clB l L k = true) := by
  unfold wiE at h
  by_cases h0 : asE l L per = 0
  · rw [if_pos h0] at h
    by_cases h1 : within i 0 ((l.length : Int) - 1) = true
    · rw [if_pos h1] at h
      by_cases h2 : clB l L i.toNat = true
      · have := within_true h1
        exact ⟨h0, i.toNat, by omega, by omega, h2⟩
      · rw [if_neg h2] at h; cases h
    · rw [if_neg h1] at h; cases h
  · rw [if_neg h0] at h; exact absurd h h0
set_option maxHeartbeats 1000000 in
theorem rWith_c (l : List Ch) (A : Option Addr) (cap : Nat) (L : List Cl) (B : Option Addr) (cb : Nat) (per i : Int) (hn9 : l.length ≤ 9 ∨ 20 < l.length) (w : World) (h : InAt w l A cap L B cb) :
    Calls Try.prog 44 #[.slice A l.length cap, .slice B L.length cb, .int .i64 per, .int .i64 i] w fun e w' => (∃ A c, e = .returned (.tuple #[.slice A (wiR l L per i).length c, .int .i64 (wiE l L per i)]) ∧ SlAt w' l.length ⟨A, c, wiR l L per i⟩) ∧ Below w.heap.size w w' := by
  have H1 := Lib.hid (fun W (hb : Below w.heap.size w W) => rasked_c l A cap L B cb per W (h.step hb))
  have H2 := Lib.hid (fun (h0 : asE l L per = 0) W (hb : Below w.heap.size w W) => rights0_c l A cap L B cb per (PlanOk.of_as h0) (by have := as_n20 h0; omega) W (h.step hb))
  have H3 : Hid (∀ (h0 : asE l L per = 0) (k : Nat) (hk : k < l.length) W (hb : Below w.heap.size w W) (A' : Option Addr) (c' : Nat) (ls : List SlL), (RdL W W.heap.size slE 1 A' ls ∧ (∀ s ∈ ls, SlAt W l.length s) ∧ ls.length ≤ 1000) → ls.map (·.xs) = rightsL l L per → Calls Try.prog 83 #[.slice A l.length cap, .slice A' ls.length c', .int .i64 k] W fun e w' => (∃ x : SlL, e = .returned (.tuple #[.slice x.A x.xs.length x.c, .bool (clB l L k)]) ∧ SlAt w' l.length x ∧ (clB l L k = true → x.xs = withL l L per k)) ∧ w' = W) :=
    Lib.hid (fun h0 k hk W hb A' c' ls ho hm => by
      have := bestF_c l A cap (PlanOk.of_as h0).v h.hl ls ls.length rfl ho.2.2 A' c' k W (h.step hb).hr ho.1 ho.2.1
      rw [hm] at this
      refine this.mono ?_
      rintro e w' ⟨⟨x, rfl, h1, h2⟩, h3⟩
      have e1 : (rightsL l L per).foldl (bstS l (k : Int)) ([], false) = bstR l L per (k : Int) := rfl
      rw [e1] at h2 ⊢
      by_cases hc : clB l L k = true
      · rw [bst_with hk hc] at h2 ⊢
        exact ⟨⟨x, by rw [hc], h1, fun _ => h2⟩, h3⟩
      · have hc : clB l L k = false := by simpa using hc
        rw [bst_none hc]
        exact ⟨⟨x, by rw [hc], h1, fun e => by rw [hc] at e; cases e⟩, h3⟩)
  have HE : Hid (wiE l L per i = if asE l L per = 0 then (if within i 0 ((l.length : Int) - 1) = true then (if clB l L i.toNat = true then 0 else 8) else 5) else asE l L per) := Lib.hid rfl
  have HR : Hid (wiR l L per i = if wiE l L per i = 0 then withL l L per i.toNat else []) := Lib.hid rfl
  have hl0 := h.hl
  clear h
  have HNIL := Lib.hid (fun W => SlAt.nil W l.length)
  generalize wiR l L per i = R at *
  generalize wiE l L per i = E at *
  generalize asE l L per = v at *
  generalize rightsL l L per = RL at *
  obtain ⟨n, hn⟩ : ∃ n, n = l.length := ⟨_, rfl⟩
  rw [← hn] at H1 H2 H3 HE HNIL hl0 ⊢
  clear hn
  generalize L.length = m at *
  by_cases hv : v = 0
  case neg =>
    have q1 : (v != 0) = true := by simp [hv]
    have HE2 := Lib.hid (show E = v by rw [HE.out, if_neg hv])
    have HR2 := Lib.hid (show R = [] by rw [HR.out, if_neg (by rw [HE2.out]; exact hv)])
    clear H2 H3 hn9
    go_enter Try.func44, Try.ntmps44
    go_wp2_with fail
    refine (H1.out _ (by (repeat (first | exact Below.refl _ _ | refine Below.drew ?_ | refine Below.allocS ?_ _ | refine Below.step ?_ (by assumption) | refine Below.setCell ?_ (by simp <;> omega) _ | refine Below.drewN' ?_ _)))).mono ?_
    rintro e w1 ⟨rfl, hb1⟩
    have g1 : Below w.heap.size w w1 := by (repeat (first | exact Below.refl _ _ | refine Below.drew ?_ | refine Below.allocS ?_ _ | refine Below.step ?_ (by assumption) | refine Below.setCell ?_ (by simp <;> omega) _ | refine Below.drewN' ?_ _))
    clear hb1
    go_wp2
    go_ret2
    rw [HR2.out, HE2.out]
    exact ⟨⟨none, 0, rfl, HNIL.out _⟩, by (repeat (first | exact Below.refl _ _ | refine Below.drew ?_ | refine Below.allocS ?_ _ | refine Below.step ?_ (by assumption) | refine Below.setCell ?_ (by simp <;> omega) _ | refine Below.drewN' ?_ _))⟩
  subst hv
  have H21 := Lib.hid (H2.out rfl)
  have H31 := Lib.hid (fun k => H3.out rfl k)
  have HE1 : Hid (E = if within i 0 ((n : Int) - 1) = true then (if clB l L i.toNat = true then 0 else 8) else 5) := Lib.hid (by rw [HE.out, if_pos rfl])
  clear H2 H3 hn9 HE
  by_cases hlo : i < 0
  · have d1 : decide (i < 0) = true := decide_eq_true hlo
    have HE2 := Lib.hid (show E = 5 by rw [HE1.out, if_neg (by unfold within; rw [decide_eq_false (by omega)]; simp)])
    have HR2 := Lib.hid (show R = [] by rw [HR.out, if_neg (by rw [HE2.out]; omega)])
    clear hlo
    go_enter Try.func44, Try.ntmps44
    go_wp2_with fail
    refine (H1.out _ (by (repeat (first | exact Below.refl _ _ | refine Below.drew ?_ | refine Below.allocS ?_ _ | refine Below.step ?_ (by assumption) | refine Below.setCell ?_ (by simp <;> omega) _ | refine Below.drewN' ?_ _)))).mono ?_
    rintro e w1 ⟨rfl, hb1⟩
    have g1 : Below w.heap.size w w1 := by (repeat (first | exact Below.refl _ _ | refine Below.drew ?_ | refine Below.allocS ?_ _ | refine Below.step ?_ (by assumption) | refine Below.setCell ?_ (by simp <;> omega) _ | refine Below.drewN' ?_ _))
    clear hb1
    go_wp2
    go_ret2
    rw [HR2.out, HE2.out]
    exact ⟨⟨none, 0, rfl, HNIL.out _⟩, by (repeat (first | exact Below.refl _ _ | refine Below.drew ?_ | refine Below.allocS ?_ _ | refine Below.step ?_ (by assumption) | refine Below.setCell ?_ (by simp <;> omega) _ | refine Below.drewN' ?_ _))⟩
  have d1 : decide (i < 0) = false := decide_eq_false hlo
  by_cases hhi : (n : Int) ≤ i
  · have d2 : decide (i ≥ (n : Int)) = true := decide_eq_true hhi
    have HE2 := Lib.hid (show E = 5 by rw [HE1.out, if_neg (by unfold within; rw [decide_eq_false (show ¬ i ≤ (n : Int) - 1 by omega)]; simp)])
    have HR2 := Lib.hid (show R = [] by rw [HR.out, if_neg (by rw [HE2.out]; omega)])
    clear hlo hhi
    go_enter Try.func44, Try.ntmps44
    go_wp2_with fail
    refine (H1.out _ (by (repeat (first | exact Below.refl _ _ | refine Below.drew ?_ | refine Below.allocS ?_ _ | refine Below.step ?_ (by assumption) | refine Below.setCell ?_ (by simp <;> omega) _ | refine Below.drewN' ?_ _)))).mono ?_
    rintro e w1 ⟨rfl, hb1⟩
    have g1 : Below w.heap.size w w1 := by (repeat (first | exact Below.refl _ _ | refine Below.drew ?_ | refine Below.allocS ?_ _ | refine Below.step ?_ (by assumption) | refine Below.setCell ?_ (by simp <;> omega) _ | refine Below.drewN' ?_ _))
    clear hb1
    go_wp2
    go_ret2
    rw [HR2.out, HE2.out]
    exact ⟨⟨none, 0, rfl, HNIL.out _⟩, by (repeat (first | exact Below.refl _ _ | refine Below.drew ?_ | refine Below.allocS ?_ _ | refine Below.step ?_ (by assumption) | refine Below.setCell ?_ (by simp <;> omega) _ | refine Below.drewN' ?_ _))⟩
  have d2 : decide (i ≥ (n : Int)) = false := decide_eq_false hhi
  obtain ⟨k, rfl⟩ : ∃ k : Nat, i = (k : Int) := ⟨i.toNat, by omega⟩
  have hkn : k < n := by omega
  have HE2 : Hid (E = if clB l L k = true then 0 else 8) := Lib.hid (by rw [HE1.out, if_pos (by unfold within; rw [decide_eq_true (by omega), decide_eq_true (by omega)]; rfl), Int.toNat_natCast])
  have HR2 : Hid (R = if E = 0 then withL l L per k else []) := Lib.hid (by rw [HR.out, Int.toNat_natCast])
  have H32 := Lib.hid (H31.out k hkn)
  clear H31 hlo hhi HR HE1
  generalize clB l L k = cB at *
  go_enter Try.func44, Try.ntmps44
  go_wp2_with fail
  refine (H1.out _ (by (repeat (first | exact Below.refl _ _ | refine Below.drew ?_ | refine Below.allocS ?_ _ | refine Below.step ?_ (by assumption) | refine Below.setCell ?_ (by simp <;> omega) _ | refine Below.drewN' ?_ _)))).mono ?_
  rintro e w1 ⟨rfl, hb1⟩
  have g1 : Below w.heap.size w w1 := by (repeat (first | exact Below.refl _ _ | refine Below.drew ?_ | refine Below.allocS ?_ _ | refine Below.step ?_ (by assumption) | refine Below.setCell ?_ (by simp <;> omega) _ | refine Below.drewN' ?_ _))
  clear hb1
  go_wp2_with fail
  refine (H21.out _ (by (repeat (first | exact Below.refl _ _ | refine Below.drew ?_ | refine Below.allocS ?_ _ | refine Below.step ?_ (by assumption) | refine Below.setCell ?_ (by simp <;> omega) _ | refine Below.drewN' ?_ _)))).mono ?_
  rintro e w2 ⟨⟨A', c', ls, rfl, ho, hm⟩, hb2⟩
  have HC := Lib.hid (H32.out w2 (by (repeat (first | exact Below.refl _ _ | refine Below.drew ?_ | refine Below.allocS ?_ _ | refine Below.step ?_ (by assumption) | refine Below.setCell ?_ (by simp <;> omega) _ | refine Below.drewN' ?_ _))) A' c' ls ho hm)
  clear ho hm
  go_wp2_with fail
  refine HC.out.mono ?_
  rintro e w' ⟨⟨x, rfl, hx, hx2⟩, hw'⟩
  replace hw' := hw'.symm
  subst hw'
  have HX := Lib.hid hx
  have HX2 := Lib.hid hx2
  clear hx hx2
  cases cB
  · obtain rfl : E = 8 := HE2.out
    obtain rfl : R = [] := HR2.out
    go_wp2
    go_ret2
    exact ⟨⟨none, 0, rfl, HNIL.out _⟩, by (repeat (first | exact Below.refl _ _ | refine Below.drew ?_ | refine Below.allocS ?_ _ | refine Below.step ?_ (by assumption) | refine Below.setCell ?_ (by simp <;> omega) _ | refine Below.drewN' ?_ _))⟩
  · obtain rfl : E = 0 := HE2.out
    have HR3 := Lib.hid (show x.xs = R by rw [HR2.out, if_pos rfl]; exact HX2.out rfl)
    obtain ⟨xA, xc, xs⟩ := x
    obtain rfl : xs = R := HR3.out
    go_wp2
    go_ret2
    exact ⟨⟨xA, xc, rfl, HX.out⟩, by (repeat (first | exact Below.refl _ _ | refine Below.drew ?_ | refine Below.allocS ?_ _ | refine Below.step ?_ (by assumption) | refine Below.setCell ?_ (by simp <;> omega) _ | refine Below.drewN' ?_ _))⟩
end Go.Proofs.Ytomgaiokmdcjmaa
