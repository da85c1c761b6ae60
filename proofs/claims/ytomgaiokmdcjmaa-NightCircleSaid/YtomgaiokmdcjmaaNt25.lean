/-
  Worth of both. No conditions.
-/
import Derived.Test.YtomgaiokmdcjmaaNt24
namespace Go.Proofs.Ytomgaiokmdcjmaa
open Go.RowKit Go.Deep
set_option linter.unusedVariables false
set_option linter.unusedSimpArgs false
theorem okC_of {l : List Ch} (h : okV l = true) : ∀ x ∈ l, okC x.nm x.a x.b x.t x.v = true := by
  unfold okV at h
  simp only [Bool.and_eq_true, decide_eq_true_eq, List.all_eq_true, List.mem_range] at h
  intro x hx
  obtain ⟨k, hk, e⟩ := List.mem_iff_getElem.1 hx
  have := (okAt_iff.1 (h.1 k hk)).1
  rw [List.getD_eq_getElem?_getD, List.getElem?_eq_getElem hk, Option.getD_some, e] at this
  exact this
theorem VOk.of_ok {l : List Ch} (h : okV l = true) : VOk l := fun x hx => by
  have := okC_of h x hx
  unfold okC at this
  simp only [Bool.and_eq_true] at this
  exact within_true this.2.2.2.2.2
noncomputable def wthE (l : List Ch) (r : List Int) : Int := if okV l = true then (if lstB l.length r = true then (if ascB r = true then 0 else 9) else 5) else 1
noncomputable def wthV (l : List Ch) (r : List Int) : Int := if wthE l r = 0 then worthL l (nats r) else 0
theorem wthE_ok {l : List Ch} {r : List Int} : wthE l r = 0 ↔ okV l = true ∧ lstB l.length r = true ∧ ascB r = true := by
  unfold wthE
  by_cases h1 : okV l = true
  · rw [if_pos h1]
    by_cases h2 : lstB l.length r = true
    · rw [if_pos h2]
      by_cases h3 : ascB r = true
      · rw [if_pos h3]; exact ⟨fun _ => ⟨h1, h2, h3⟩, fun _ => rfl⟩
      · rw [if_neg h3]; exact ⟨fun h => (by cases h), fun h => absurd h.2.2 h3⟩
    · rw [if_neg h2]; exact ⟨fun h => (by cases h), fun h => absurd h.2.1 h2⟩
  · rw [if_neg h1]; exact ⟨fun h => (by cases h), fun h => absurd h.1 h1⟩
set_option maxHeartbeats 1000000 in
theorem Worth_c (l : List Ch) (A : Option Addr) (cap : Nat) (hl : l.length ≤ 1000000) (hs : ∀ x ∈ l, x.nm.size ≤ maxLen) (w : World) (h : RdL w w.heap.size chE 5 A l)
    (r : List Int) (m : Nat) (hm : r.length = m) (hn : m ≤ 1000) (C : Option Addr) (cc : Nat) (hr : RdL w w.heap.size inE 1 C r) :
    Calls Try.prog 15 #[.slice A l.length cap, .slice C m cc] w fun e w' => e = .returned (.tuple #[.int .i64 (wthV l r), .int .i64 (wthE l r)]) ∧ Below w.heap.size w w' := by
  have H1 := Lib.hid (fun W (hb : Below w.heap.size w W) => Valid_c l A cap hl hs W (h.step hb))
  have H2 := Lib.hid (fun W (hb : Below w.heap.size w W) => listed_c l.length hl A cap r m hm (by omega) C cc W (hr.step hb))
  have H3 := Lib.hid (fun W (hb : Below w.heap.size w W) => ascending_c r m hm (by omega) C cc W (hr.step hb))
  have H4 : Hid (∀ W, Below w.heap.size w W → okV l = true → lstB l.length r = true → Calls Try.prog 57 #[.slice A l.length cap, .slice C m cc] W fun e w' => e = .returned (.int .i64 (worthL l (nats r))) ∧ w' = W) :=
    Lib.hid (fun W hb h0 h1 => by
      have := worth_c l A cap (nats r) C cc (VOk.of_ok h0) (nats_lt h1) hl (by rw [nats_len]; omega) W (h.step hb) (by rw [nats_back h1]; exact hr.step hb)
      rw [nats_len, hm] at this
      exact this)
  have HE : Hid (wthE l r = if okV l = true then (if lstB l.length r = true then (if ascB r = true then 0 else 9) else 5) else 1) := Lib.hid rfl
  have HV : Hid (wthV l r = if wthE l r = 0 then worthL l (nats r) else 0) := Lib.hid rfl
  clear h hr hm hs
  generalize wthV l r = V at *
  generalize wthE l r = E at *
  generalize worthL l (nats r) = x at *
  generalize okV l = X1 at *
  generalize lstB l.length r = X2 at *
  generalize ascB r = X3 at *
  generalize l.length = n at *
  cases X1
  · obtain rfl : E = 1 := HE.out
    obtain rfl : V = 0 := HV.out
    go_enter Try.func15, Try.ntmps15
    go_wp2_with fail
    refine (H1.out _ (by (repeat (first | exact Below.refl _ _ | refine Below.drew ?_ | refine Below.allocS ?_ _ | refine Below.step ?_ (by assumption) | refine Below.setCell ?_ (by simp <;> omega) _ | refine Below.drewN' ?_ _)))).mono ?_
    rintro e w1 ⟨rfl, hb1⟩
    have g1 : Below w.heap.size w w1 := by (repeat (first | exact Below.refl _ _ | refine Below.drew ?_ | refine Below.allocS ?_ _ | refine Below.step ?_ (by assumption) | refine Below.setCell ?_ (by simp <;> omega) _ | refine Below.drewN' ?_ _))
    clear hb1
    go_wp2
    go_ret2
    exact ⟨rfl, by (repeat (first | exact Below.refl _ _ | refine Below.drew ?_ | refine Below.allocS ?_ _ | refine Below.step ?_ (by assumption) | refine Below.setCell ?_ (by simp <;> omega) _ | refine Below.drewN' ?_ _))⟩
  cases X2
  · obtain rfl : E = 5 := HE.out
    obtain rfl : V = 0 := HV.out
    go_enter Try.func15, Try.ntmps15
    go_wp2_with fail
    refine (H1.out _ (by (repeat (first | exact Below.refl _ _ | refine Below.drew ?_ | refine Below.allocS ?_ _ | refine Below.step ?_ (by assumption) | refine Below.setCell ?_ (by simp <;> omega) _ | refine Below.drewN' ?_ _)))).mono ?_
    rintro e w1 ⟨rfl, hb1⟩
    have g1 : Below w.heap.size w w1 := by (repeat (first | exact Below.refl _ _ | refine Below.drew ?_ | refine Below.allocS ?_ _ | refine Below.step ?_ (by assumption) | refine Below.setCell ?_ (by simp <;> omega) _ | refine Below.drewN' ?_ _))
    clear hb1
    go_wp2_with fail
    refine (H2.out _ (by (repeat (first | exact Below.refl _ _ | refine Below.drew ?_ | refine Below.allocS ?_ _ | refine Below.step ?_ (by assumption) | refine Below.setCell ?_ (by simp <;> omega) _ | refine Below.drewN' ?_ _)))).mono ?_
    rintro e w2 ⟨rfl, hb2⟩
    have g2 : Below w.heap.size w w2 := by (repeat (first | exact Below.refl _ _ | refine Below.drew ?_ | refine Below.allocS ?_ _ | refine Below.step ?_ (by assumption) | refine Below.setCell ?_ (by simp <;> omega) _ | refine Below.drewN' ?_ _))
    clear hb2 g1 
    go_wp2
    go_ret2
    exact ⟨rfl, by (repeat (first | exact Below.refl _ _ | refine Below.drew ?_ | refine Below.allocS ?_ _ | refine Below.step ?_ (by assumption) | refine Below.setCell ?_ (by simp <;> omega) _ | refine Below.drewN' ?_ _))⟩
  cases X3
  · obtain rfl : E = 9 := HE.out
    obtain rfl : V = 0 := HV.out
    go_enter Try.func15, Try.ntmps15
    go_wp2_with fail
    refine (H1.out _ (by (repeat (first | exact Below.refl _ _ | refine Below.drew ?_ | refine Below.allocS ?_ _ | refine Below.step ?_ (by assumption) | refine Below.setCell ?_ (by simp <;> omega) _ | refine Below.drewN' ?_ _)))).mono ?_
    rintro e w1 ⟨rfl, hb1⟩
    have g1 : Below w.heap.size w w1 := by (repeat (first | exact Below.refl _ _ | refine Below.drew ?_ | refine Below.allocS ?_ _ | refine Below.step ?_ (by assumption) | refine Below.setCell ?_ (by simp <;> omega) _ | refine Below.drewN' ?_ _))
    clear hb1
    go_wp2_with fail
    refine (H2.out _ (by (repeat (first | exact Below.refl _ _ | refine Below.drew ?_ | refine Below.allocS ?_ _ | refine Below.step ?_ (by assumption) | refine Below.setCell ?_ (by simp <;> omega) _ | refine Below.drewN' ?_ _)))).mono ?_
    rintro e w2 ⟨rfl, hb2⟩
    have g2 : Below w.heap.size w w2 := by (repeat (first | exact Below.refl _ _ | refine Below.drew ?_ | refine Below.allocS ?_ _ | refine Below.step ?_ (by assumption) | refine Below.setCell ?_ (by simp <;> omega) _ | refine Below.drewN' ?_ _))
    clear hb2 g1 
    go_wp2_with fail
    refine (H3.out _ (by (repeat (first | exact Below.refl _ _ | refine Below.drew ?_ | refine Below.allocS ?_ _ | refine Below.step ?_ (by assumption) | refine Below.setCell ?_ (by simp <;> omega) _ | refine Below.drewN' ?_ _)))).mono ?_
    rintro e w3 ⟨rfl, hb3⟩
    have g3 : Below w.heap.size w w3 := by (repeat (first | exact Below.refl _ _ | refine Below.drew ?_ | refine Below.allocS ?_ _ | refine Below.step ?_ (by assumption) | refine Below.setCell ?_ (by simp <;> omega) _ | refine Below.drewN' ?_ _))
    clear hb3 g2 
    go_wp2
    go_ret2
    exact ⟨rfl, by (repeat (first | exact Below.refl _ _ | refine Below.drew ?_ | refine Below.allocS ?_ _ | refine Below.step ?_ (by assumption) | refine Below.setCell ?_ (by simp <;> omega) _ | refine Below.drewN' ?_ _))⟩
  obtain rfl : E = 0 := HE.out
  obtain rfl : V = x := HV.out
  go_enter Try.func15, Try.ntmps15
  go_wp2_with fail
  refine (H1.out _ (by (repeat (first | exact Below.refl _ _ | refine Below.drew ?_ | refine Below.allocS ?_ _ | refine Below.step ?_ (by assumption) | refine Below.setCell ?_ (by simp <;> omega) _ | refine Below.drewN' ?_ _)))).mono ?_
  rintro e w1 ⟨rfl, hb1⟩
  have g1 : Below w.heap.size w w1 := by (repeat (first | exact Below.refl _ _ | refine Below.drew ?_ | refine Below.allocS ?_ _ | refine Below.step ?_ (by assumption) | refine Below.setCell ?_ (by simp <;> omega) _ | refine Below.drewN' ?_ _))
  clear hb1
  go_wp2_with fail
  refine (H2.out _ (by (repeat (first | exact Below.refl _ _ | refine Below.drew ?_ | refine Below.allocS ?_ _ | refine Below.step ?_ (by assumption) | refine Below.setCell ?_ (by simp <;> omega) _ | refine Below.drewN' ?_ _)))).mono ?_
  rintro e w2 ⟨rfl, hb2⟩
  have g2 : Below w.heap.size w w2 := by (repeat (first | exact Below.refl _ _ | refine Below.drew ?_ | refine Below.allocS ?_ _ | refine Below.step ?_ (by assumption) | refine Below.setCell ?_ (by simp <;> omega) _ | refine Below.drewN' ?_ _))
  clear hb2 g1 
  go_wp2_with fail
  refine (H3.out _ (by (repeat (first | exact Below.refl _ _ | refine Below.drew ?_ | refine Below.allocS ?_ _ | refine Below.step ?_ (by assumption) | refine Below.setCell ?_ (by simp <;> omega) _ | refine Below.drewN' ?_ _)))).mono ?_
  rintro e w3 ⟨rfl, hb3⟩
  have g3 : Below w.heap.size w w3 := by (repeat (first | exact Below.refl _ _ | refine Below.drew ?_ | refine Below.allocS ?_ _ | refine Below.step ?_ (by assumption) | refine Below.setCell ?_ (by simp <;> omega) _ | refine Below.drewN' ?_ _))
  clear hb3 g2 
  go_wp2_with fail
  refine (H4.out _ (by (repeat (first | exact Below.refl _ _ | refine Below.drew ?_ | refine Below.allocS ?_ _ | refine Below.step ?_ (by assumption) | refine Below.setCell ?_ (by simp <;> omega) _ | refine Below.drewN' ?_ _))) (by first | trivial | rfl) (by first | trivial | rfl)).mono ?_
  rintro e w' ⟨rfl, hw'⟩; replace hw' := hw'.symm; subst hw'
  go_wp2
  go_ret2
  exact ⟨rfl, by (repeat (first | exact Below.refl _ _ | refine Below.drew ?_ | refine Below.allocS ?_ _ | refine Below.step ?_ (by assumption) | refine Below.setCell ?_ (by simp <;> omega) _ | refine Below.drewN' ?_ _))⟩
set_option maxHeartbeats 2000000 in
theorem rWorth_c (l : List Ch) (A : Option Addr) (cap : Nat) (hl : l.length ≤ 1000000) (hcap : l.length ≤ cap) (hs : ∀ x ∈ l, x.nm.size ≤ maxLen) (w : World) (h : RdL w w.heap.size chE 5 A l)
    (r : List Int) (m : Nat) (hm : r.length = m) (hn : m ≤ 1000) (C : Option Addr) (cc : Nat) (hr : RdL w w.heap.size inE 1 C r) :
    Calls Try.prog 32 #[.slice A l.length cap, .slice C m cc] w fun e w' => e = .returned (.tuple #[.int .i64 (wthV l r), .int .i64 (wthE l r)]) ∧ Below w.heap.size w w' := by
  have H1 : Hid (∀ W, Below w.heap.size w W → Calls Try.prog 26 #[.slice A l.length cap] W fun e w' => e = .returned (.bool (okV l)) ∧ Below W.heap.size W w') := Lib.hid (fun W hb => by rw [ok_eq]; exact rValid_c l A cap hl hcap hs W (h.step hb))
  have H2 := Lib.hid (fun W (hb : Below w.heap.size w W) => there_c l.length hl A cap r m hm (by omega) C cc W (hr.step hb))
  have H4 : Hid (∀ W, Below w.heap.size w W → okV l = true → lstB l.length r = true → Calls Try.prog 77 #[.slice A l.length cap, .slice C m cc] W fun e w' => e = .returned (.int .i64 (worthL l (nats r))) ∧ w' = W) :=
    Lib.hid (fun W hb h0 h1 => by
      have := rworth_c l A cap (nats r) C cc (VOk.of_ok h0) (nats_lt h1) hl (by rw [nats_len]; omega) W (h.step hb) (by rw [nats_back h1]; exact hr.step hb)
      rw [nats_len, hm] at this
      exact this)
  have HE : Hid (wthE l r = if okV l = true then (if lstB l.length r = true then (if ascB r = true then 0 else 9) else 5) else 1) := Lib.hid rfl
  have HV : Hid (wthV l r = if wthE l r = 0 then worthL l (nats r) else 0) := Lib.hid rfl
  have HR := Lib.hid hr
  have HM := Lib.hid hm
  clear h hr hs hm
  generalize wthV l r = V at *
  generalize wthE l r = E at *
  generalize worthL l (nats r) = x at *
  generalize okV l = X1 at *
  generalize lstB l.length r = X2 at *
  generalize l.length = n at *
  cases X1
  · obtain rfl : E = 1 := HE.out
    obtain rfl : V = 0 := HV.out
    go_enter Try.func32, Try.ntmps32
    go_wp2_with fail
    refine (H1.out _ (by (repeat (first | exact Below.refl _ _ | refine Below.drew ?_ | refine Below.allocS ?_ _ | refine Below.step ?_ (by assumption) | refine Below.setCell ?_ (by simp <;> omega) _ | refine Below.drewN' ?_ _)))).mono ?_
    rintro e w1 ⟨rfl, hb1⟩
    have g1 : Below w.heap.size w w1 := by (repeat (first | exact Below.refl _ _ | refine Below.drew ?_ | refine Below.allocS ?_ _ | refine Below.step ?_ (by assumption) | refine Below.setCell ?_ (by simp <;> omega) _ | refine Below.drewN' ?_ _))
    clear hb1
    go_wp2
    go_ret2
    exact ⟨rfl, by (repeat (first | exact Below.refl _ _ | refine Below.drew ?_ | refine Below.allocS ?_ _ | refine Below.step ?_ (by assumption) | refine Below.setCell ?_ (by simp <;> omega) _ | refine Below.drewN' ?_ _))⟩
  cases X2
  · obtain rfl : E = 5 := HE.out
    obtain rfl : V = 0 := HV.out
    go_enter Try.func32, Try.ntmps32
    go_wp2_with fail
    refine (H1.out _ (by (repeat (first | exact Below.refl _ _ | refine Below.drew ?_ | refine Below.allocS ?_ _ | refine Below.step ?_ (by assumption) | refine Below.setCell ?_ (by simp <;> omega) _ | refine Below.drewN' ?_ _)))).mono ?_
    rintro e w1 ⟨rfl, hb1⟩
    have g1 : Below w.heap.size w w1 := by (repeat (first | exact Below.refl _ _ | refine Below.drew ?_ | refine Below.allocS ?_ _ | refine Below.step ?_ (by assumption) | refine Below.setCell ?_ (by simp <;> omega) _ | refine Below.drewN' ?_ _))
    clear hb1
    go_wp2_with fail
    refine (H2.out _ (by (repeat (first | exact Below.refl _ _ | refine Below.drew ?_ | refine Below.allocS ?_ _ | refine Below.step ?_ (by assumption) | refine Below.setCell ?_ (by simp <;> omega) _ | refine Below.drewN' ?_ _)))).mono ?_
    rintro e w2 ⟨rfl, hb2⟩
    have g2 : Below w.heap.size w w2 := by (repeat (first | exact Below.refl _ _ | refine Below.drew ?_ | refine Below.allocS ?_ _ | refine Below.step ?_ (by assumption) | refine Below.setCell ?_ (by simp <;> omega) _ | refine Below.drewN' ?_ _))
    clear hb2 g1 
    go_wp2
    go_ret2
    exact ⟨rfl, by (repeat (first | exact Below.refl _ _ | refine Below.drew ?_ | refine Below.allocS ?_ _ | refine Below.step ?_ (by assumption) | refine Below.setCell ?_ (by simp <;> omega) _ | refine Below.drewN' ?_ _))⟩
  have HE2 : Hid (E = if ascB r = true then 0 else 9) := Lib.hid (by rw [HE.out, if_pos rfl, if_pos rfl])
  clear HE
  go_enter Try.func32, Try.ntmps32
  go_wp2_with fail
  refine (H1.out _ (by (repeat (first | exact Below.refl _ _ | refine Below.drew ?_ | refine Below.allocS ?_ _ | refine Below.step ?_ (by assumption) | refine Below.setCell ?_ (by simp <;> omega) _ | refine Below.drewN' ?_ _)))).mono ?_
  rintro e w1 ⟨rfl, hb1⟩
  have g1 : Below w.heap.size w w1 := by (repeat (first | exact Below.refl _ _ | refine Below.drew ?_ | refine Below.allocS ?_ _ | refine Below.step ?_ (by assumption) | refine Below.setCell ?_ (by simp <;> omega) _ | refine Below.drewN' ?_ _))
  clear hb1
  go_wp2_with fail
  refine (H2.out _ (by (repeat (first | exact Below.refl _ _ | refine Below.drew ?_ | refine Below.allocS ?_ _ | refine Below.step ?_ (by assumption) | refine Below.setCell ?_ (by simp <;> omega) _ | refine Below.drewN' ?_ _)))).mono ?_
  rintro e w2 ⟨rfl, hb2⟩
  have g2 : Below w.heap.size w w2 := by (repeat (first | exact Below.refl _ _ | refine Below.drew ?_ | refine Below.allocS ?_ _ | refine Below.step ?_ (by assumption) | refine Below.setCell ?_ (by simp <;> omega) _ | refine Below.drewN' ?_ _))
  clear hb2 g1 
  clear H1 H2
  go_wp2_with fail
  go_loopw [6] (fun i wr => ∃ k : Nat, 1 ≤ k ∧ (k ≤ m ∨ k = 1) ∧ i = .int .i64 k ∧ (∀ j, j < k → ascAt r j = true) ∧ Below w.heap.size w wr) (fun i _ => m - (intOf i).toNat)
  case atStart => exact ⟨1, Nat.le_refl _, .inr rfl, rfl, fun j hj => (by have h0 : j = 0 := (by omega); subst h0; rfl), by (repeat (first | (with_reducible exact Below.refl _ _) | (with_reducible assumption) | (with_reducible refine Below.drew ?_) | (with_reducible refine Below.allocS ?_ _) | (with_reducible refine Below.setCell ?_ ?_ _) | (with_reducible refine Below.step ?_ (by assumption)) | (with_reducible refine Below.drewN' ?_ _))); (try any_goals (first | (with_reducible assumption) | (simp; done) | (simp; omega) | omega))⟩
  case round =>
    rename World => U
    obtain ⟨k, hk1, hk, rfl, hj, hbw⟩ := hrel
    have HJ := Lib.hid hj
    clear hj
    by_cases hlt : k < m
    · have hl1 : k < r.length := by rw [HM.out]; exact hlt
      obtain ⟨b, off, rfl, hb0, hc⟩ := int_cell HR.out hbw hl1
      obtain ⟨k, rfl⟩ : ∃ j, k = j + 1 := ⟨k - 1, by omega⟩
      have c0 := hc (k + 1) hl1
      have c1 := hc k (by omega)
      have HA := Lib.hid (show ascAt r (k + 1) = decide (atI r k < atI r (k + 1)) by unfold ascAt; simp)
      have yb := cell?_lt c0
      generalize atI r (k + 1) = x1 at *
      generalize atI r k = y at *
      have u1 : decide (((k + 1 : Nat) : Int) < (m : Int)) = true := decide_eq_true (by omega)
      have u2 : (0 : Int) ≤ ((k + 1 : Nat) : Int) := by omega
      have u3 : ((k + 1 : Nat) : Int) < (m : Int) := by omega
      have u4 : IntKind.i64.wrap (((k + 1 : Nat) : Int) + 1) = ((k + 1 + 1 : Nat) : Int) := IntWalk.i64_in _ (by omega)
      have u5 : IntKind.i64.wrap (((k + 1 : Nat) : Int) - 1) = (k : Int) := by rw [show ((k + 1 : Nat) : Int) - 1 = (k : Int) by omega]; exact IntWalk.i64_in _ (by omega)
      have u6 : (0 : Int) ≤ (k : Int) := by omega
      have u7 : (k : Int) < (m : Int) := by omega
      clear hc
      obtain ⟨K, hK⟩ : ∃ K : Int, K = ((k + 1 : Nat) : Int) := ⟨_, rfl⟩
      have t1 : K.toNat = k + 1 := by rw [hK]; exact Int.toNat_natCast _
      rw [← hK] at u1 u2 u3 u4 u5 ⊢
      clear hK
      by_cases h1 : x1 ≤ y
      · have d1 : decide (x1 ≤ y) = true := decide_eq_true h1
        have HF := Lib.hid (show ascB r = false from all_false hl1 (by rw [HA.out]; exact decide_eq_false (by omega)))
        have HEE := Lib.hid (show E = 9 by rw [HE2.out, HF.out]; rfl)
        have HVV := Lib.hid (show V = 0 by rw [HV.out, HEE.out]; rfl)
        clear h1 hl1
        go_wp2_with fail
        go_quiet (fail)
        go_wp2
        go_ret2
        exact ⟨by rw [HVV.out, HEE.out]; rfl, by (repeat (first | (with_reducible exact Below.refl _ _) | (with_reducible assumption) | (with_reducible refine Below.drew ?_) | (with_reducible refine Below.allocS ?_ _) | (with_reducible refine Below.setCell ?_ ?_ _) | (with_reducible refine Below.step ?_ (by assumption)) | (with_reducible refine Below.drewN' ?_ _))); (try any_goals (first | (with_reducible assumption) | (simp; done) | (simp; omega) | omega))⟩
      have d1 : decide (x1 ≤ y) = false := decide_eq_false h1
      have HN := Lib.hid (show ascAt r (k + 1) = true by rw [HA.out]; exact decide_eq_true (by omega))
      clear h1 hl1
      go_wp2_with fail
      go_quiet (fail)
      go_wp2
      go_roundw
      case rel => exact ⟨k + 1 + 1, by omega, .inl (by omega), by first | rfl | go_num, fun j hj => (by rcases Nat.lt_succ_iff_lt_or_eq.1 hj with h | rfl; exact HJ.out j h; exact HN.out), by (repeat (first | (with_reducible exact Below.refl _ _) | (with_reducible assumption) | (with_reducible refine Below.drew ?_) | (with_reducible refine Below.allocS ?_ _) | (with_reducible refine Below.setCell ?_ ?_ _) | (with_reducible refine Below.step ?_ (by assumption)) | (with_reducible refine Below.drewN' ?_ _))); (try any_goals (first | (with_reducible assumption) | (simp; done) | (simp; omega) | omega))⟩
      case measure => simp [intOf, t1]; omega
    · have u1 : decide ((k : Int) < (m : Int)) = false := decide_eq_false (by omega)
      have HF := Lib.hid (show ascB r = true from all_end (fun j hj => HJ.out j (by rw [HM.out] at hj; omega)))
      have HEE := Lib.hid (show E = 0 by rw [HE2.out, HF.out]; rfl)
      have HVV := Lib.hid (show V = x by rw [HV.out, HEE.out]; rfl)
      go_wp2_with fail
      refine (H4.out _ hbw (by first | trivial | rfl) (by first | trivial | rfl)).mono ?_
      rintro e w' ⟨rfl, hw'⟩; replace hw' := hw'.symm; subst hw'
      go_wp2
      go_ret2
      exact ⟨by rw [HVV.out, HEE.out]; rfl, hbw⟩
end Go.Proofs.Ytomgaiokmdcjmaa
