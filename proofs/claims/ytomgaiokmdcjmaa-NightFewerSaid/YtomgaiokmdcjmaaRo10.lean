/-
  Rota, IsRota and Rotas of the reference. No conditions.
-/
import Derived.Test.YtomgaiokmdcjmaaRo9
import Derived.Test.YtomgaiokmdcjmaaRo7
namespace Go.Proofs.Ytomgaiokmdcjmaa
open Go.RowKit Go.Deep
set_option linter.unusedVariables false
set_option linter.unusedSimpArgs false
theorem rdl_take {α : Type} {w : World} {B sz : Nat} {enc : α → List Value} {A : Option Addr} {l : List α} (h : RdL w B enc sz A l) (d : Nat) : RdL w B enc sz A (l.take d) := by
  intro hl
  rw [List.length_take] at hl
  obtain ⟨b, off, e, hlt, hc⟩ := h (by omega)
  refine ⟨b, off, e, hlt, fun i hi j v hv => hc i (by rw [List.length_take] at hi; omega) j v ?_⟩
  rw [← hv]; simp
def rtaE (xs : List Int) (o m : Int) : Int := if askB xs o m = true then (if rN (crw xs o m) xs.length [] = 0 then 8 else 0) else 7
def rtaL (xs : List Int) (o m : Int) : List Nat := if rtaE xs o m = 0 then rF (crw xs o m) xs.length [] else []
theorem rtaE_no {xs : List Int} {o m : Int} (h : askB xs o m = false) : rtaE xs o m = 7 ∧ rtaL xs o m = [] := by
  have h1 : rtaE xs o m = 7 := by unfold rtaE; rw [if_neg (by rw [h]; simp)]
  exact ⟨h1, by unfold rtaL; rw [h1]; rfl⟩
theorem rtaE_none {xs : List Int} {o m : Int} (h : askB xs o m = true) (h0 : rN (crw xs o m) xs.length [] = 0) : rtaE xs o m = 8 ∧ rtaL xs o m = [] := by
  have h1 : rtaE xs o m = 8 := by unfold rtaE; rw [if_pos h, if_pos h0]
  exact ⟨h1, by unfold rtaL; rw [h1]; rfl⟩
theorem rtaE_yes {xs : List Int} {o m : Int} (h : askB xs o m = true) (h0 : rN (crw xs o m) xs.length [] ≠ 0) : rtaE xs o m = 0 ∧ rtaL xs o m = rF (crw xs o m) xs.length [] := by
  have h1 : rtaE xs o m = 0 := by unfold rtaE; rw [if_pos h, if_neg h0]
  exact ⟨h1, by unfold rtaL; rw [if_pos h1]⟩
/-- rotas, as it is asked at first. -/
theorem rrotas_first (xs : List Int) (n : Nat) (hn : xs.length = n) (A : Option Addr) (cap : Nat) (o m : Int) (h : askB xs o m = true) (w : World) (hA : RdL w w.heap.size inE 1 A xs) :
    Calls Try.prog 92 #[.slice A n cap, .int .i64 o, .int .i64 m, .slice none 0 0] w fun e w' => (∃ A' c', e = .returned (.tuple #[.int .i64 (rN (crw xs o m) n [] : Nat), .slice A' (rF (crw xs o m) n []).length c']) ∧ RdL w' w'.heap.size inE 1 A' ((rF (crw xs o m) n []).map Int.ofNat)) ∧ Below w.heap.size w w' := by
  obtain ⟨h1, h2, h3, h4, h5, h6, h7, h8⟩ := crw_ok h
  have := rrotas_c (crw xs o m) n (h7.trans hn) (by omega) (by omega) (by omega) h8 A cap n [] 0 none 0 w rfl (by omega) (fun _ => rfl) (by rw [h6]; exact hA) RdL.nil
  rw [h4, h5] at this
  exact this
theorem rRotas_c (xs : List Int) (n : Nat) (hn : xs.length = n) (hl : n ≤ 1000000) (A : Option Addr) (cap : Nat) (o m : Int) (w : World) (hr : RdL w w.heap.size inE 1 A xs) :
    Calls Try.prog 47 #[.slice A n cap, .int .i64 o, .int .i64 m] w fun e w' => e = .returned (.tuple #[.int .i64 (rtV xs o m), .int .i64 (askQ xs o m)]) ∧ Below w.heap.size w w' := by
  have HQ := Lib.hid (fun W (hb : Below w.heap.size w W) => rotaError_c xs n hn hl A cap o m W (hr.step hb))
  cases h : askB xs o m with
  | false =>
    have HV : Hid (rtV xs o m = 0) := Lib.hid (by unfold rtV; rw [h]; rfl)
    rw [askQ_no h] at HQ
    rw [HV.out, askQ_no h]
    clear hr hn
    go_enter Try.func47, Try.ntmps47
    go_wp2_with fail
    refine (HQ.out _ (by (repeat (first | (with_reducible exact Below.refl _ _) | (with_reducible assumption) | (with_reducible refine Below.drew ?_) | (with_reducible refine Below.allocS ?_ _) | (with_reducible refine Below.setCell ?_ ?_ _) | (with_reducible refine Below.step ?_ (by assumption)) | (with_reducible refine Below.drewN' ?_ _))); (try any_goals (first | (with_reducible assumption) | (simp; done) | (simp; omega) | omega)))).mono ?_
    rintro e w1 ⟨rfl, hb1⟩
    have g1 : Below w.heap.size w w1 := by (repeat (first | exact Below.refl _ _ | refine Below.drew ?_ | refine Below.allocS ?_ _ | refine Below.step ?_ (by assumption) | refine Below.setCell ?_ (by simp <;> omega) _ | refine Below.drewN' ?_ _))
    clear hb1
    go_wp2
    go_ret2
    exact ⟨rfl, by (repeat (first | exact Below.refl _ _ | refine Below.drew ?_ | refine Below.allocS ?_ _ | refine Below.step ?_ (by assumption) | refine Below.setCell ?_ (by simp <;> omega) _ | refine Below.drewN' ?_ _))⟩
  | true =>
    have HV : Hid (rtV xs o m = (rN (crw xs o m) n [] : Int)) := Lib.hid (by unfold rtV; rw [h, hn]; rfl)
    have HC := Lib.hid (fun W (hb : Below w.heap.size w W) => rrotas_first xs n hn A cap o m h W (hr.step hb))
    rw [askQ_yes h] at HQ
    rw [HV.out, askQ_yes h]
    generalize rN (crw xs o m) n [] = R at *
    clear hr hn HV
    go_enter Try.func47, Try.ntmps47
    go_wp2_with fail
    refine (HQ.out _ (by (repeat (first | (with_reducible exact Below.refl _ _) | (with_reducible assumption) | (with_reducible refine Below.drew ?_) | (with_reducible refine Below.allocS ?_ _) | (with_reducible refine Below.setCell ?_ ?_ _) | (with_reducible refine Below.step ?_ (by assumption)) | (with_reducible refine Below.drewN' ?_ _))); (try any_goals (first | (with_reducible assumption) | (simp; done) | (simp; omega) | omega)))).mono ?_
    rintro e w1 ⟨rfl, hb1⟩
    have g1 : Below w.heap.size w w1 := by (repeat (first | exact Below.refl _ _ | refine Below.drew ?_ | refine Below.allocS ?_ _ | refine Below.step ?_ (by assumption) | refine Below.setCell ?_ (by simp <;> omega) _ | refine Below.drewN' ?_ _))
    clear hb1
    go_wp2_with fail
    refine (HC.out _ (by (repeat (first | exact Below.refl _ _ | refine Below.drew ?_ | refine Below.allocS ?_ _ | refine Below.step ?_ (by assumption) | refine Below.setCell ?_ (by simp <;> omega) _ | refine Below.drewN' ?_ _)))).mono ?_
    rintro e w2 ⟨⟨A', c', rfl, -⟩, hb2⟩
    go_wp2
    go_ret2
    exact ⟨rfl, by (repeat (first | exact Below.refl _ _ | refine Below.drew ?_ | refine Below.allocS ?_ _ | refine Below.step ?_ (by assumption) | refine Below.setCell ?_ (by simp <;> omega) _ | refine Below.drewN' ?_ _))⟩
theorem rRota_c (xs : List Int) (n : Nat) (hn : xs.length = n) (hl : n ≤ 1000000) (A : Option Addr) (cap : Nat) (o m : Int) (w : World) (hr : RdL w w.heap.size inE 1 A xs) :
    Calls Try.prog 46 #[.slice A n cap, .int .i64 o, .int .i64 m] w fun e w' => (∃ A' c', e = .returned (.tuple #[.slice A' (rtaL xs o m).length c', .int .i64 (rtaE xs o m)]) ∧ RdL w' w'.heap.size inE 1 A' ((rtaL xs o m).map Int.ofNat)) ∧ Below w.heap.size w w' := by
  have HQ := Lib.hid (fun W (hb : Below w.heap.size w W) => rotaError_c xs n hn hl A cap o m W (hr.step hb))
  cases h : askB xs o m with
  | false =>
    obtain ⟨h1, h2⟩ := rtaE_no h
    rw [askQ_no h] at HQ
    rw [h1, h2]
    clear hr hn h1 h2
    go_enter Try.func46, Try.ntmps46
    go_wp2_with fail
    refine (HQ.out _ (by (repeat (first | (with_reducible exact Below.refl _ _) | (with_reducible assumption) | (with_reducible refine Below.drew ?_) | (with_reducible refine Below.allocS ?_ _) | (with_reducible refine Below.setCell ?_ ?_ _) | (with_reducible refine Below.step ?_ (by assumption)) | (with_reducible refine Below.drewN' ?_ _))); (try any_goals (first | (with_reducible assumption) | (simp; done) | (simp; omega) | omega)))).mono ?_
    rintro e w1 ⟨rfl, hb1⟩
    have g1 : Below w.heap.size w w1 := by (repeat (first | exact Below.refl _ _ | refine Below.drew ?_ | refine Below.allocS ?_ _ | refine Below.step ?_ (by assumption) | refine Below.setCell ?_ (by simp <;> omega) _ | refine Below.drewN' ?_ _))
    clear hb1
    go_wp2
    go_ret2
    exact ⟨⟨none, 0, rfl, RdL.nil⟩, by (repeat (first | exact Below.refl _ _ | refine Below.drew ?_ | refine Below.allocS ?_ _ | refine Below.step ?_ (by assumption) | refine Below.setCell ?_ (by simp <;> omega) _ | refine Below.drewN' ?_ _))⟩
  | true =>
    have HC := Lib.hid (fun W (hb : Below w.heap.size w W) => rrotas_first xs n hn A cap o m h W (hr.step hb))
    rw [askQ_yes h] at HQ
    by_cases h0 : rN (crw xs o m) n [] = 0
    · obtain ⟨h1, h2⟩ := rtaE_none h (by rw [hn]; exact h0)
      rw [h0] at HC
      rw [h1, h2]
      clear hr hn h1 h2 h0
      generalize rF (crw xs o m) n [] = L at *
      go_enter Try.func46, Try.ntmps46
      go_wp2_with fail
      refine (HQ.out _ (by (repeat (first | (with_reducible exact Below.refl _ _) | (with_reducible assumption) | (with_reducible refine Below.drew ?_) | (with_reducible refine Below.allocS ?_ _) | (with_reducible refine Below.setCell ?_ ?_ _) | (with_reducible refine Below.step ?_ (by assumption)) | (with_reducible refine Below.drewN' ?_ _))); (try any_goals (first | (with_reducible assumption) | (simp; done) | (simp; omega) | omega)))).mono ?_
      rintro e w1 ⟨rfl, hb1⟩
      have g1 : Below w.heap.size w w1 := by (repeat (first | exact Below.refl _ _ | refine Below.drew ?_ | refine Below.allocS ?_ _ | refine Below.step ?_ (by assumption) | refine Below.setCell ?_ (by simp <;> omega) _ | refine Below.drewN' ?_ _))
      clear hb1
      go_wp2_with fail
      refine (HC.out _ (by (repeat (first | exact Below.refl _ _ | refine Below.drew ?_ | refine Below.allocS ?_ _ | refine Below.step ?_ (by assumption) | refine Below.setCell ?_ (by simp <;> omega) _ | refine Below.drewN' ?_ _)))).mono ?_
      rintro e w2 ⟨⟨A', c', rfl, -⟩, hb2⟩
      go_wp2
      go_ret2
      exact ⟨⟨none, 0, rfl, RdL.nil⟩, by (repeat (first | exact Below.refl _ _ | refine Below.drew ?_ | refine Below.allocS ?_ _ | refine Below.step ?_ (by assumption) | refine Below.setCell ?_ (by simp <;> omega) _ | refine Below.drewN' ?_ _))⟩
    · obtain ⟨h1, h2⟩ := rtaE_yes h (by rw [hn]; exact h0)
      rw [hn] at h2
      rw [h1, h2]
      generalize rN (crw xs o m) n [] = R at *
      have d1 : ((R : Int) == 0) = false := by simp [h0]
      generalize rF (crw xs o m) n [] = L at *
      clear hr hn h1 h2 h0
      go_enter Try.func46, Try.ntmps46
      go_wp2_with fail
      refine (HQ.out _ (by (repeat (first | (with_reducible exact Below.refl _ _) | (with_reducible assumption) | (with_reducible refine Below.drew ?_) | (with_reducible refine Below.allocS ?_ _) | (with_reducible refine Below.setCell ?_ ?_ _) | (with_reducible refine Below.step ?_ (by assumption)) | (with_reducible refine Below.drewN' ?_ _))); (try any_goals (first | (with_reducible assumption) | (simp; done) | (simp; omega) | omega)))).mono ?_
      rintro e w1 ⟨rfl, hb1⟩
      have g1 : Below w.heap.size w w1 := by (repeat (first | exact Below.refl _ _ | refine Below.drew ?_ | refine Below.allocS ?_ _ | refine Below.step ?_ (by assumption) | refine Below.setCell ?_ (by simp <;> omega) _ | refine Below.drewN' ?_ _))
      clear hb1
      go_wp2_with fail
      refine (HC.out _ (by (repeat (first | exact Below.refl _ _ | refine Below.drew ?_ | refine Below.allocS ?_ _ | refine Below.step ?_ (by assumption) | refine Below.setCell ?_ (by simp <;> omega) _ | refine Below.drewN' ?_ _)))).mono ?_
      rintro e w2 ⟨⟨A', c', rfl, r2⟩, hb2⟩
      have HR2 := Lib.hid r2
      clear r2
      go_wp2
      go_ret2
      exact ⟨⟨A', c', rfl, HR2.out⟩, by (repeat (first | exact Below.refl _ _ | refine Below.drew ?_ | refine Below.allocS ?_ _ | refine Below.step ?_ (by assumption) | refine Below.setCell ?_ (by simp <;> omega) _ | refine Below.drewN' ?_ _))⟩
/-- A list of numbers is a rota, behind a beginning. -/
def isRI (K : Crw) : List Nat → List Int → Bool
  | _, [] => true
  | b, x :: t => (decide (0 ≤ x) && decide (x < (K.obs : Int))) && (fitB K b x.toNat && isRI K (b ++ [x.toNat]) t)
def isRB (xs : List Int) (o m : Int) (t : List Int) : Bool := askB xs o m && (decide (t.length = xs.length) && isRI (crw xs o m) [] t)
set_option maxHeartbeats 2000000 in
set_option maxRecDepth 100000 in
theorem rIsRota_c (xs : List Int) (n : Nat) (hn : xs.length = n) (hl : n ≤ 1000000) (A : Option Addr) (cap : Nat) (o m : Int) (t : List Int) (tl : Nat) (htl : t.length = tl) (htl2 : tl ≤ 1000000) (B : Option Addr) (cb : Nat) (hcb : tl ≤ cb) (w : World) (hr : RdL w w.heap.size inE 1 A xs) (hB : RdL w w.heap.size inE 1 B t) :
    Calls Try.prog 49 #[.slice A n cap, .int .i64 o, .int .i64 m, .slice B tl cb] w fun e w' => e = .returned (.bool (isRB xs o m t)) ∧ Below w.heap.size w w' := by
  have HQ := Lib.hid (fun W (hb : Below w.heap.size w W) => rotaError_c xs n hn hl A cap o m W (hr.step hb))
  have HIS : Hid (isRB xs o m t = (askB xs o m && (decide (tl = n) && isRI (crw xs o m) [] t))) := Lib.hid (by unfold isRB; rw [htl, hn])
  cases h : askB xs o m with
  | false =>
    rw [askQ_no h] at HQ
    rw [HIS.out, h]
    clear hr hn hB htl HIS
    go_enter Try.func49, Try.ntmps49
    go_wp2_with fail
    refine (HQ.out _ (by (repeat (first | (with_reducible exact Below.refl _ _) | (with_reducible assumption) | (with_reducible refine Below.drew ?_) | (with_reducible refine Below.allocS ?_ _) | (with_reducible refine Below.setCell ?_ ?_ _) | (with_reducible refine Below.step ?_ (by assumption)) | (with_reducible refine Below.drewN' ?_ _))); (try any_goals (first | (with_reducible assumption) | (simp; done) | (simp; omega) | omega)))).mono ?_
    rintro e w1 ⟨rfl, hb1⟩
    have g1 : Below w.heap.size w w1 := by (repeat (first | exact Below.refl _ _ | refine Below.drew ?_ | refine Below.allocS ?_ _ | refine Below.step ?_ (by assumption) | refine Below.setCell ?_ (by simp <;> omega) _ | refine Below.drewN' ?_ _))
    clear hb1
    go_wp2
    go_ret
    exact ⟨rfl, by (repeat (first | exact Below.refl _ _ | refine Below.drew ?_ | refine Below.allocS ?_ _ | refine Below.step ?_ (by assumption) | refine Below.setCell ?_ (by simp <;> omega) _ | refine Below.drewN' ?_ _))⟩
  | true =>
    rw [askQ_yes h] at HQ
    rw [h] at HIS
    obtain ⟨h1, h2, h3, h4, h5, h6, h7, h8⟩ := crw_ok h
    by_cases htn : tl = n
    case neg =>
      have d1 : ((tl : Int) != (n : Int)) = true := by simp; omega
      rw [HIS.out, decide_eq_false htn]
      clear hr hn hB htl HIS htn h6 h8 h7
      go_enter Try.func49, Try.ntmps49
      go_wp2_with fail
      refine (HQ.out _ (by (repeat (first | (with_reducible exact Below.refl _ _) | (with_reducible assumption) | (with_reducible refine Below.drew ?_) | (with_reducible refine Below.allocS ?_ _) | (with_reducible refine Below.setCell ?_ ?_ _) | (with_reducible refine Below.step ?_ (by assumption)) | (with_reducible refine Below.drewN' ?_ _))); (try any_goals (first | (with_reducible assumption) | (simp; done) | (simp; omega) | omega)))).mono ?_
      rintro e w1 ⟨rfl, hb1⟩
      have g1 : Below w.heap.size w w1 := by (repeat (first | exact Below.refl _ _ | refine Below.drew ?_ | refine Below.allocS ?_ _ | refine Below.step ?_ (by assumption) | refine Below.setCell ?_ (by simp <;> omega) _ | refine Below.drewN' ?_ _))
      clear hb1
      go_wp2
      go_ret
      exact ⟨rfl, by (repeat (first | exact Below.refl _ _ | refine Below.drew ?_ | refine Below.allocS ?_ _ | refine Below.step ?_ (by assumption) | refine Below.setCell ?_ (by simp <;> omega) _ | refine Below.drewN' ?_ _))⟩
    have d1 : ((tl : Int) != (n : Int)) = false := by simp [htn]
    rw [decide_eq_true htn] at HIS
    obtain ⟨K, hK⟩ : ∃ K, K = crw xs o m := ⟨_, rfl⟩
    rw [← hK] at HIS h4 h5 h6 h7 h8
    have hob : K.obs ≤ 8 := by omega
    have HFI := Lib.hid (fun (b : List Nat) (k : Nat) (hbk : b.length = k) (hk : k < n) (q : Nat) (hq : q < 8) (C : Option Addr) (cc : Nat) W (hb : Below w.heap.size w W) (hC : RdL W W.heap.size inE 1 C (b.map Int.ofNat)) => by
      have := fits_c K n (h7.trans hn) (by omega) (by omega) h8 A cap b k hbk hk C cc q hq W (by rw [h6]; exact hr.step hb) hC
      rw [h5] at this
      exact this)
    have HB := Lib.hid hB
    have HTL := Lib.hid htl
    have h4' : (K.obs : Int) = o := h4
    have htn' : tl ≤ n := by omega
    obtain ⟨R, hR⟩ : ∃ R, R = isRB xs o m t := ⟨_, rfl⟩
    have HR : Hid (R = isRI K [] t) := Lib.hid (by rw [hR, HIS.out]; rfl)
    rw [← hR]
    clear hr hn hB htl HIS htn h6 h8 h7 hK hR h4 h5
    go_enter Try.func49, Try.ntmps49
    go_wp2_with fail
    refine (HQ.out _ (by (repeat (first | (with_reducible exact Below.refl _ _) | (with_reducible assumption) | (with_reducible refine Below.drew ?_) | (with_reducible refine Below.allocS ?_ _) | (with_reducible refine Below.setCell ?_ ?_ _) | (with_reducible refine Below.step ?_ (by assumption)) | (with_reducible refine Below.drewN' ?_ _))); (try any_goals (first | (with_reducible assumption) | (simp; done) | (simp; omega) | omega)))).mono ?_
    rintro e w1 ⟨rfl, hb1⟩
    have g1 : Below w.heap.size w w1 := by (repeat (first | exact Below.refl _ _ | refine Below.drew ?_ | refine Below.allocS ?_ _ | refine Below.step ?_ (by assumption) | refine Below.setCell ?_ (by simp <;> omega) _ | refine Below.drewN' ?_ _))
    clear hb1
    have hbw1 : Below w.heap.size w w1 := by (repeat (first | exact Below.refl _ _ | refine Below.drew ?_ | refine Below.allocS ?_ _ | refine Below.step ?_ (by assumption) | refine Below.setCell ?_ (by simp <;> omega) _ | refine Below.drewN' ?_ _))
    clear HQ
    go_wp2
    go_loopw [25] (fun i wr => ∃ k : Nat, k ≤ tl ∧ i = .int .i64 k ∧ ((t.take k).map Int.toNat).map Int.ofNat = t.take k ∧ isRI K [] t = isRI K ((t.take k).map Int.toNat) (t.drop k) ∧ Below w.heap.size w wr) (fun i _ => tl - (intOf i).toNat)
    case atStart => exact ⟨0, Nat.zero_le _, rfl, rfl, rfl, hbw1⟩
    case round =>
      rename World => U
      obtain ⟨k, hk, rfl, hmp, his, hbu⟩ := hrel
      have HMP := Lib.hid hmp
      have HI := Lib.hid his
      clear hmp his
      by_cases hlt : k < tl
      case neg =>
        obtain rfl : tl = k := by omega
        have v1 : decide ((tl : Int) < (tl : Int)) = false := decide_eq_false (by omega)
        obtain rfl : R = true := by rw [HR.out, HI.out, List.drop_of_length_le (by rw [HTL.out]; exact Nat.le_refl _)]; rfl
        go_wp2
        go_ret
        exact ⟨rfl, hbu⟩
      have v1 : decide ((k : Int) < (tl : Int)) = true := decide_eq_true (by omega)
      have v3 : IntKind.i64.wrap ((k : Int) + 1) = (k : Int) + 1 := IntWalk.i64_in _ (by omega)
      have hkt : k < t.length := by rw [HTL.out]; exact hlt
      obtain ⟨b, off, rfl, hb0, hcc⟩ := int_cell HB.out hbu (k := k) hkt
      have c0 := hcc k hkt
      have yb : b < U.heap.size := cell?_lt c0
      have z4 : (k : Int) < (tl : Int) := by omega
      have HDR : Hid (t.drop k = atI t k :: t.drop (k + 1)) := Lib.hid (by rw [List.drop_eq_getElem_cons hkt]; unfold atI; rw [List.getD_eq_getElem?_getD, List.getElem?_eq_getElem hkt]; rfl)
      have HTK : Hid (t.take (k + 1) = t.take k ++ [atI t k]) := Lib.hid (by rw [List.take_add_one, List.getElem?_eq_getElem hkt]; unfold atI; rw [List.getD_eq_getElem?_getD, List.getElem?_eq_getElem hkt]; rfl)
      generalize atI t k = x at *
      clear hcc hkt
      have HI2 := HI.out
      rw [HDR.out] at HI2
      have HI3 : Hid (R = ((decide (0 ≤ x) && decide (x < (K.obs : Int))) && (fitB K ((t.take k).map Int.toNat) x.toNat && isRI K ((t.take k).map Int.toNat ++ [x.toNat]) (t.drop (k + 1))))) := Lib.hid (HR.out.trans HI2)
      clear HI2 HDR
      by_cases hx0 : x < 0
      case pos =>
        have v4 : decide (x < 0) = true := decide_eq_true hx0
        obtain rfl : R = false := by rw [HI3.out, decide_eq_false (by omega)]; simp
        clear HI3 HI HR hx0
        go_wp2
        go_ret
        exact ⟨rfl, hbu⟩
      have v4 : decide (x < 0) = false := decide_eq_false hx0
      by_cases hxo : o ≤ x
      case pos =>
        have v5 : decide (x ≥ o) = true := decide_eq_true hxo
        have v6 : decide (o ≤ x) = true := decide_eq_true hxo
        obtain rfl : R = false := by rw [HI3.out, decide_eq_false (show ¬ x < (K.obs : Int) by omega)]; simp
        clear HI3 HI HR hx0 hxo
        go_wp2
        go_ret
        exact ⟨rfl, hbu⟩
      have v5 : decide (x ≥ o) = false := decide_eq_false hxo
      have v6 : decide (o ≤ x) = false := decide_eq_false hxo
      obtain ⟨q, rfl⟩ : ∃ q : Nat, x = (q : Int) := ⟨x.toNat, by omega⟩
      have hlk : ((t.take k).map Int.toNat).length = k := by rw [List.length_map, List.length_take, HTL.out]; omega
      have HF := Lib.hid (HFI.out ((t.take k).map Int.toNat) k hlk (by omega) q (by omega) (some ⟨b, off, none⟩) cb U hbu (by rw [HMP.out]; exact rdl_take (HB.out.step hbu) k))
      have HI4 : Hid (R = (fitB K ((t.take k).map Int.toNat) q && isRI K ((t.take (k + 1)).map Int.toNat) (t.drop (k + 1)))) := Lib.hid (by
        rw [HI3.out, decide_eq_true (show (0 : Int) ≤ (q : Int) by omega), decide_eq_true (show (q : Int) < (K.obs : Int) by omega), HTK.out, List.map_append]; rfl)
      have HM2 : Hid (((t.take (k + 1)).map Int.toNat).map Int.ofNat = t.take (k + 1)) := Lib.hid (by rw [HTK.out, List.map_append, List.map_append, HMP.out]; rfl)
      have z5 : (0 : Int) ≤ (k : Int) := by omega
      have z6 : (k : Int) ≤ (cb : Int) := by omega
      have z7 : k ≤ cb := by omega
      clear HI3 HI hx0 hxo hlk HTK HMP
      generalize fitB K ((t.take k).map Int.toNat) q = X at *
      cases X with
      | false =>
        obtain rfl : R = false := by rw [HI4.out]; rfl
        go_wp2_with fail
        refine HF.out.mono ?_
        rintro e W1 ⟨rfl, hb1⟩
        go_wp2
        go_ret
        exact ⟨rfl, Below.step hbu hb1⟩
      | true =>
        have HI5 : Hid (isRI K [] t = isRI K ((t.take (k + 1)).map Int.toNat) (t.drop (k + 1))) := Lib.hid (by rw [← HR.out, HI4.out]; rfl)
        clear HI4
        go_wp2_with fail
        refine HF.out.mono ?_
        rintro e W1 ⟨rfl, hb1⟩
        go_wp2
        go_roundw
        case rel => exact ⟨k + 1, by omega, by go_num, HM2.out, HI5.out, Below.step hbu hb1⟩
        case measure => simp [intOf]; omega
end Go.Proofs.Ytomgaiokmdcjmaa
