/-
  More to choose from makes no best list worth less: plain laws, no program. No conditions.
-/
import Derived.Test.YtomgaiokmdcjmaaEBt
import Derived.Test.YtomgaiokmdcjmaaNt26
namespace Go.Proofs.Ytomgaiokmdcjmaa
open Go.RowKit Go.Deep
set_option linter.unusedVariables false
set_option linter.unusedSimpArgs false
theorem RdL.take {α : Type} {w : World} {B sz : Nat} {enc : α → List Value} {A : Option Addr} {l : List α} (h : RdL w B enc sz A l) (d : Nat) : RdL w B enc sz A (l.take d) := by
  intro hl
  rw [List.length_take] at hl
  obtain ⟨b, off, e, hlt, hc⟩ := h (by omega)
  refine ⟨b, off, e, hlt, fun i hi j v hv => hc i (by rw [List.length_take] at hi; omega) j v ?_⟩
  rw [← hv]; simp
theorem RdL.drop {α : Type} {w : World} {B sz b off : Nat} {enc : α → List Value} {l : List α} (h : RdL w B enc sz (some ⟨b, off, none⟩) l) (d : Nat) : RdL w B enc sz (some ⟨b, off + d * sz, none⟩) (l.drop d) := by
  intro hl
  rw [List.length_drop] at hl
  obtain ⟨b', off', e, hlt, hc⟩ := h (by omega)
  injection e with e
  injection e with e1 e2
  subst e1 e2
  refine ⟨_, _, rfl, hlt, fun i hi j v hv => ?_⟩
  have hi' : d + i < l.length := by rw [List.length_drop] at hi; omega
  have := hc (d + i) hi' j v (by rw [← hv]; simp)
  rw [← this]; congr 2; rw [Nat.add_mul]; omega
theorem Rt_mono {l : List Ch} {L L' : List Cl} {per per' : Int} (hc : ∀ i, i < l.length → clB l L i = true → clB l L' i = true) (hf : ∀ i j, i < l.length → j < l.length → folC (l.getD i ch0) (l.getD j ch0) per = true → folC (l.getD i ch0) (l.getD j ch0) per' = true) {r : List Nat} (h : Rt l L per r) : Rt l L' per' r := by
  unfold Rt at *
  rw [RtP_at] at h ⊢
  refine ⟨fun k hk => ⟨(h.1 k hk).1, hc _ (h.1 k hk).1 (h.1 k hk).2⟩, fun k hk => ⟨(h.2 k hk).1, hf _ _ (h.1 k (by omega)).1 (h.1 (k + 1) hk).1 (h.2 k hk).2⟩⟩
theorem as_intro {l : List Ch} {L : List Cl} {per : Int} (h1 : okV l = true) (h2 : okCl L = true) (h3 : within per 0 10000 = true) : asE l L per = 0 := by
  unfold asE
  rw [if_pos (by rw [h1, h2]; rfl), if_pos h3]
theorem okCl_take {L : List Cl} (h : okCl L = true) (k : Nat) : okCl (L.take k) = true := by
  unfold okCl at *
  simp only [Bool.and_eq_true, decide_eq_true_eq, Bool.not_eq_true', List.any_eq_false] at h ⊢
  exact ⟨by rw [List.length_take]; omega, fun x hx => h.2 x (List.mem_of_mem_take hx)⟩
theorem clB_take {l : List Ch} {L : List Cl} {i : Nat} (h : clB l L i = true) (k : Nat) : clB l (L.take k) i = true := by
  unfold clB covB at *
  simp only [Bool.not_eq_true', List.any_eq_false] at h ⊢
  exact fun x hx => h x (List.mem_of_mem_take hx)
/-- What one best list is worth against another one. -/
theorem worth_more {l : List Ch} {L L' : List Cl} {per per' : Int} (h0 : asE l L per = 0) (h1 : asE l L' per' = 0) (hm : ∀ r, Rt l L per r → Rt l L' per' r) : wthV l ((bstE l L per).map Int.ofNat) ≤ wthV l ((bstE l L' per').map Int.ofNat) := by
  have hb := best_facts h0
  have hb' := best_facts h1
  have hr := bestL_spec l L per
  rw [hb.1]
  exact (hb'.2.2.2.2.2 _ (right_of h1 (hm _ hr.1))).2.1
theorem as_take {l : List Ch} {L : List Cl} {per : Int} (h : asE l L per = 0) (k : Nat) : asE l (L.take k) per = 0 := by
  have h1 := as_ok h
  exact as_intro h1.1 (okCl_take h1.2.1 k) h1.2.2
theorem more_take {l : List Ch} {L : List Cl} {per : Int} (h : asE l L per = 0) (k : Nat) : wthV l ((bstE l L per).map Int.ofNat) ≤ wthV l ((bstE l (L.take k) per).map Int.ofNat) :=
  worth_more h (as_take h k) (fun r hr => Rt_mono (fun i _ hc => clB_take hc k) (fun i j _ _ hf => hf) hr)
theorem half_bd {per : Int} (h : within per 0 10000 = true) : 0 ≤ per.tdiv 2 ∧ per.tdiv 2 ≤ per ∧ per.tdiv 2 ≤ 10000 := by
  have := within_true h
  have h1 : per.tdiv 2 = per / 2 := Int.tdiv_eq_ediv_of_nonneg this.1
  omega
theorem as_half {l : List Ch} {L : List Cl} {per : Int} (h : asE l L per = 0) : asE l L (per.tdiv 2) = 0 := by
  have h1 := as_ok h
  have h2 := half_bd h1.2.2
  exact as_intro h1.1 h1.2.1 (by unfold within; rw [decide_eq_true h2.1, decide_eq_true h2.2.2]; rfl)
theorem more_half {l : List Ch} {L : List Cl} {per : Int} (h : asE l L per = 0) : wthV l ((bstE l L per).map Int.ofNat) ≤ wthV l ((bstE l L (per.tdiv 2)).map Int.ofNat) := by
  refine worth_more h (as_half h) (fun r hr => Rt_mono (fun i _ hc => hc) (fun i j _ _ hf => ?_) hr)
  have h2 := half_bd (as_ok h).2.2
  unfold folC trnC at *
  have hf := of_decide_eq_true hf
  refine decide_eq_true ?_
  by_cases ht : (l.getD j ch0).t < (l.getD i ch0).t
  · rw [if_pos ht] at hf ⊢
    have := Int.mul_le_mul_of_nonneg_left h2.2.1 (show 0 ≤ (l.getD i ch0).t - (l.getD j ch0).t by omega)
    omega
  · rw [if_neg ht] at hf ⊢
    have := Int.mul_le_mul_of_nonneg_left h2.2.1 (show 0 ≤ (l.getD j ch0).t - (l.getD i ch0).t by omega)
    omega
/-- One chance less. -/
def lessL (l : List Ch) (q : Nat) : List Ch := l.take q ++ l.drop (q + 1)
def phi (q j : Nat) : Nat := if j < q then j else j + 1
theorem phi_lt {q i j : Nat} : phi q i < phi q j ↔ i < j := by
  unfold phi
  by_cases h1 : i < q
  · rw [if_pos h1]
    by_cases h2 : j < q
    · rw [if_pos h2]
    · rw [if_neg h2]; omega
  · rw [if_neg h1]
    by_cases h2 : j < q
    · rw [if_pos h2]; omega
    · rw [if_neg h2]; omega
theorem less_len {l : List Ch} {q : Nat} (hq : q < l.length) : (lessL l q).length + 1 = l.length := by
  unfold lessL; rw [List.length_append, List.length_take, List.length_drop]; omega
theorem less_get {l : List Ch} {q : Nat} (hq : q < l.length) (j : Nat) : (lessL l q).getD j ch0 = l.getD (phi q j) ch0 := by
  unfold lessL phi
  rw [List.getD_eq_getElem?_getD, List.getD_eq_getElem?_getD]
  by_cases h : j < q
  · rw [if_pos h, List.getElem?_append_left (by rw [List.length_take]; omega), List.getElem?_take, if_pos h]
  · rw [if_neg h, List.getElem?_append_right (by rw [List.length_take]; omega), List.length_take, List.getElem?_drop]
    congr 2
    omega
theorem phi_bd {l : List Ch} {q j : Nat} (hq : q < l.length) (hj : j < (lessL l q).length) : phi q j < l.length := by
  have := less_len hq
  unfold phi
  by_cases h : j < q
  · rw [if_pos h]; omega
  · rw [if_neg h]; omega
theorem ok_less {l : List Ch} {q : Nat} (hq : q < l.length) (h : okV l = true) : okV (lessL l q) = true := by
  rw [ok_eq] at h ⊢
  unfold rokV at h ⊢
  rw [Bool.and_eq_true] at h ⊢
  have hl := less_len hq
  refine ⟨all_end fun k hk => ?_, decide_eq_true (by have := of_decide_eq_true h.2; omega)⟩
  have h1 := rokAt_iff.1 (all_get h.1 (phi q k) (phi_bd hq hk))
  refine rokAt_iff.2 ?_
  rw [less_get hq]
  refine ⟨h1.1, fun j hj => ?_⟩
  rw [less_get hq]
  exact h1.2 _ (phi_lt.2 hj)
theorem as_less {l : List Ch} {L : List Cl} {per : Int} {q : Nat} (hq : q < l.length) (h : asE l L per = 0) : asE (lessL l q) L per = 0 := by
  have h1 := as_ok h
  exact as_intro (ok_less hq h1.1) h1.2.1 h1.2.2
theorem atN_map (q : Nat) (r : List Nat) {k : Nat} (hk : k < r.length) : atN (r.map (phi q)) k = phi q (atN r k) := by
  unfold atN
  rw [List.getD_eq_getElem?_getD, List.getD_eq_getElem?_getD, List.getElem?_map, List.getElem?_eq_getElem hk]
  rfl
theorem Rt_less {l : List Ch} {L : List Cl} {per : Int} {q : Nat} (hq : q < l.length) {r : List Nat} (h : Rt (lessL l q) L per r) : Rt l L per (r.map (phi q)) := by
  unfold Rt at *
  rw [RtP_at] at h ⊢
  simp only [List.length_map]
  refine ⟨fun k hk => ?_, fun k hk => ?_⟩
  · rw [atN_map q r hk]
    have h1 := h.1 k hk
    refine ⟨phi_bd hq h1.1, ?_⟩
    have h2 := h1.2
    unfold clB at h2 ⊢
    rw [less_get hq] at h2
    exact h2
  · rw [atN_map q r (by omega), atN_map q r hk]
    have h1 := h.2 k hk
    refine ⟨phi_lt.2 h1.1, ?_⟩
    have h2 := h1.2
    rw [less_get hq, less_get hq] at h2
    exact h2
theorem worth_less {l : List Ch} {q : Nat} (hq : q < l.length) : ∀ r : List Nat, worthL (lessL l q) r = worthL l (r.map (phi q))
  | [] => rfl
  | i :: r => by
    simp only [List.map_cons, worthL]
    rw [worth_less hq r, less_get hq]
theorem more_less {l : List Ch} {L : List Cl} {per : Int} {q : Nat} (hq : q < l.length) (h : asE l L per = 0) : wthV (lessL l q) ((bstE (lessL l q) L per).map Int.ofNat) ≤ wthV l ((bstE l L per).map Int.ofNat) := by
  have h0 := as_less hq h
  have hb := best_facts h0
  have hr := bestL_spec (lessL l q) L per
  have hw := wth_of (right_of h0 hr.1)
  rw [hb.1, hw.2, nats_map, worth_less hq]
  have hR := right_of h (Rt_less hq hr.1)
  have h2 := (best_facts h).2.2.2.2.2 _ hR
  rw [(wth_of hR).2, nats_map] at h2
  exact h2.2.1
end Go.Proofs.Ytomgaiokmdcjmaa
