/-
  Habits and CircleError of the reference. No conditions.
-/
import Derived.Test.YtomgaiokmdcjmaaNt49
namespace Go.Proofs.Ytomgaiokmdcjmaa
open Go.RowKit Go.Deep
set_option linter.unusedVariables false
set_option linter.unusedSimpArgs false
theorem ArN.rd {W : World} {base g n : Nat} {f : Nat → Int} (h : ArN W base g n f) : RdL W W.heap.size inE 1 (some ⟨g, 0, none⟩) ((List.range n).map f) := by
  intro h0
  refine ⟨g, 0, rfl, h.lt, fun i hi j v hv => ?_⟩
  have hin : i < n := by simpa using hi
  have hj : j < 1 := by have := (List.getElem?_eq_some_iff.1 hv).1; simpa [inE] using this
  obtain rfl : j = 0 := by omega
  have := h.c i hin
  simp [inE] at hv
  subst hv
  simpa using this
theorem gN_fst {l : List Sg} {n : Nat} {K : Nat → Option Hb} (h : HAll l n K) {o : Nat} (ho : o < n) : gN K o = (fstK K o : Int) := by
  cases hc : K o with
  | none => exact absurd hc (h.all o ho)
  | some x => rw [gN_some hc]; unfold fstK; rw [hc]
set_option maxHeartbeats 4000000 in
set_option maxRecDepth 100000 in
theorem rHabits_c (n : Int) (l : List Sg) (A : Option Addr) (cap : Nat) (hl : l.length ≤ 9223372036854775807) (w : World) (hA : RdL w w.heap.size sgE 5 A l) :
    Calls Try.prog 37 #[.int .i64 n, .slice A l.length cap] w fun e w' => (∃ A' c', e = .returned (.tuple #[.slice A' (habR n l).length c', .int .i64 (habE n l)]) ∧ RdL w' w'.heap.size inE 1 A' (habR n l)) ∧ Below w.heap.size w w' := by
  have HV := Lib.hid (fun W (hb : Below w.heap.size w W) => seen_c n l A cap hl W (hA.step hb))
  cases hvd : vdB n l with
  | false =>
    have HE := Lib.hid (habE_7 hvd)
    have HR := Lib.hid (habR_nil (n := n) (l := l) (by rw [HE.out]; omega))
    rw [seenE_no hvd] at HV
    clear hA hvd
    generalize l.length = m at *
    go_enter Try.func37, Try.ntmps37
    go_wp2_with fail
    refine (HV.out _ (by (repeat (first | exact Below.refl _ _ | refine Below.drew ?_ | refine Below.allocS ?_ _ | refine Below.step ?_ (by assumption) | refine Below.setCell ?_ (by simp <;> omega) _ | refine Below.drewN' ?_ _)))).mono ?_
    rintro e w1 ⟨rfl, hb1⟩
    have g1 : Below w.heap.size w w1 := by (repeat (first | exact Below.refl _ _ | refine Below.drew ?_ | refine Below.allocS ?_ _ | refine Below.step ?_ (by assumption) | refine Below.setCell ?_ (by simp <;> omega) _ | refine Below.drewN' ?_ _))
    clear hb1
    go_wp2
    go_ret2
    rw [HE.out, HR.out]
    exact ⟨⟨none, 0, rfl, RdL.nil⟩, by (repeat (first | exact Below.refl _ _ | refine Below.drew ?_ | refine Below.allocS ?_ _ | refine Below.step ?_ (by assumption) | refine Below.setCell ?_ (by simp <;> omega) _ | refine Below.drewN' ?_ _))⟩
  | true =>
    rw [seenE_yes hvd] at HV
    obtain ⟨n, rfl⟩ := vd_nat hvd
    have hd := VdP.of hvd
    have HVD := Lib.hid hvd
    have HD := Lib.hid hd
    have HS := Lib.hid (fun W (hb : Below w.heap.size w W) => rspread_c l A cap n hd W (hA.step hb))
    have hn8 := hd.n8
    have hn1 := hd.n1
    clear hA hvd hd
    obtain ⟨m, hm⟩ : ∃ m, m = l.length := ⟨_, rfl⟩
    rw [← hm] at HV HS ⊢
    clear hm hl
    go_enter Try.func37, Try.ntmps37
    go_wp2_with fail
    refine (HV.out _ (by (repeat (first | exact Below.refl _ _ | refine Below.drew ?_ | refine Below.allocS ?_ _ | refine Below.step ?_ (by assumption) | refine Below.setCell ?_ (by simp <;> omega) _ | refine Below.drewN' ?_ _)))).mono ?_
    rintro e w1 ⟨rfl, hb1⟩
    have g1 : Below w.heap.size w w1 := by (repeat (first | exact Below.refl _ _ | refine Below.drew ?_ | refine Below.allocS ?_ _ | refine Below.step ?_ (by assumption) | refine Below.setCell ?_ (by simp <;> omega) _ | refine Below.drewN' ?_ _))
    clear hb1
    go_wp2_with fail
    refine (HS.out _ (by (repeat (first | exact Below.refl _ _ | refine Below.drew ?_ | refine Below.allocS ?_ _ | refine Below.step ?_ (by assumption) | refine Below.setCell ?_ (by simp <;> omega) _ | refine Below.drewN' ?_ _)))).mono ?_
    rintro e w2 ⟨⟨Hs, Gs, K, ok, rfl, ah, ag, hall, hok⟩, hb2⟩
    have g2 : Below w.heap.size w w2 := by (repeat (first | exact Below.refl _ _ | refine Below.drew ?_ | refine Below.allocS ?_ _ | refine Below.step ?_ (by assumption) | refine Below.setCell ?_ (by simp <;> omega) _ | refine Below.drewN' ?_ _))
    have HAH := Lib.hid ah
    have HAG := Lib.hid ag
    have HAL := Lib.hid hall
    have HSP := Lib.hid (hall.spec HD.out)
    have HOK := Lib.hid hok
    clear ah ag hall hok hb2
    cases ok
    case false =>
      have HE := Lib.hid (habE_9 HVD.out (fun h => by have := HOK.out.2 ((satE_iff HD.out HSP.out).2 h); cases this))
      have HR := Lib.hid (habR_nil (n := (n : Int)) (l := l) (by rw [HE.out]; omega))
      go_wp2
      go_ret2
      rw [HE.out, HR.out]
      exact ⟨⟨none, 0, rfl, RdL.nil⟩, g2⟩
    have HS1 := Lib.hid (HOK.out.1 rfl)
    have HSE := Lib.hid ((satE_iff HD.out HSP.out).1 HS1.out)
    clear HOK HS HV
    go_wp2_with fail
    go_loopw [29] (fun i wr => ∃ k : Nat, k ≤ n ∧ i = .int .i64 k ∧ (∀ o, o < k → fstK K o = 0) ∧ wr = w2) (fun i _ => n - (intOf i).toNat)
    case atStart => exact ⟨0, Nat.zero_le _, rfl, fun o h => absurd h (Nat.not_lt_zero _), rfl⟩
    case round =>
      obtain ⟨k, hk, rfl, hf, rfl⟩ := hrel
      have HF := Lib.hid hf
      clear hf
      by_cases hlt : k < n
      · have c0 := HAG.out.c k hlt
        rw [gN_fst HAL.out hlt] at c0
        have u3 : IntKind.i64.wrap ((k : Int) + 1) = (k : Int) + 1 := IntWalk.i64_in _ (by omega)
        have u1 : decide ((k : Int) < (n : Int)) = true := decide_eq_true (by omega)
        by_cases h0 : fstK K k = 0
        · rw [h0] at c0
          have c0' : wr.cell? ⟨Gs, k, none⟩ = some (.int .i64 0) := c0
          have HF1 := Lib.hid (show ∀ o, o < k + 1 → fstK K o = 0 from fun o ho => by
            rcases Nat.lt_succ_iff_lt_or_eq.1 ho with h | rfl
            · exact HF.out o h
            · exact h0)
          clear h0 c0
          go_wp2
          go_roundw
          case rel => exact ⟨k + 1, by omega, by go_num, HF1.out, trivial⟩
          case measure => simp [intOf]; omega
        · have HE := Lib.hid (habE_8 HVD.out HSE.out (fun hj => h0 ((joinE_iff HSP.out).2 hj k hlt)))
          have HR := Lib.hid (habR_nil (n := (n : Int)) (l := l) (by rw [HE.out]; omega))
          have d1 : ((fstK K k : Int) != 0) = true := by simp; omega
          generalize fstK K k = F at *
          clear h0
          go_wp2
          go_ret2
          rw [HE.out, HR.out]
          exact ⟨⟨none, 0, rfl, RdL.nil⟩, g2⟩
      · obtain rfl : k = n := by omega
        have u1 : decide ((k : Int) < (k : Int)) = false := decide_eq_false (by omega)
        have HE := Lib.hid (habE_0 HVD.out HSE.out ((joinE_iff HSP.out).1 HF.out))
        have HR := Lib.hid (habR_eq HD.out HE.out HSP.out HS1.out HF.out)
        have HRL : Hid ((habR (k : Int) l).length = k) := Lib.hid (by rw [HR.out]; simp)
        have HRD : Hid (RdL wr wr.heap.size inE 1 (some ⟨Hs, 0, none⟩) (habR (k : Int) l)) := Lib.hid (by rw [HR.out]; exact HAH.out.rd)
        go_wp2
        go_ret2
        rw [HRL.out, HE.out]
        exact ⟨⟨_, k, rfl, HRD.out⟩, g2⟩
open Classical in
/-- The error of Circle. -/
noncomputable def cirE (n : Int) (l : List Sg) : Int := if vdB n l = true then (if SatE l n.toNat then 8 else 0) else 7
theorem cirE_7 {n : Int} {l : List Sg} (h : vdB n l = false) : cirE n l = 7 := by unfold cirE; rw [if_neg (by rw [h]; simp)]
theorem cirE_8 {n : Nat} {l : List Sg} (h : vdB (n : Int) l = true) (hs : SatE l n) : cirE (n : Int) l = 8 := by
  unfold cirE; rw [if_pos h, if_pos (by rw [Int.toNat_natCast]; exact hs)]
theorem cirE_0 {n : Nat} {l : List Sg} (h : vdB (n : Int) l = true) (hs : ¬ SatE l n) : cirE (n : Int) l = 0 := by
  unfold cirE; rw [if_pos h, if_neg (by rw [Int.toNat_natCast]; exact hs)]
set_option maxHeartbeats 4000000 in
set_option maxRecDepth 100000 in
theorem CircleError_c (n : Int) (l : List Sg) (A : Option Addr) (cap : Nat) (hl : l.length ≤ 9223372036854775807) (w : World) (hA : RdL w w.heap.size sgE 5 A l) :
    Calls Try.prog 51 #[.int .i64 n, .slice A l.length cap] w fun e w' => e = .returned (.int .i64 (cirE n l)) ∧ Below w.heap.size w w' := by
  have HV := Lib.hid (fun W (hb : Below w.heap.size w W) => seen_c n l A cap hl W (hA.step hb))
  cases hvd : vdB n l with
  | false =>
    have HE := Lib.hid (cirE_7 hvd)
    rw [seenE_no hvd] at HV
    clear hA hvd
    rw [HE.out]
    clear HE
    generalize l.length = m at *
    go_enter Try.func51, Try.ntmps51
    go_wp2_with fail
    refine (HV.out _ (by (repeat (first | exact Below.refl _ _ | refine Below.drew ?_ | refine Below.allocS ?_ _ | refine Below.step ?_ (by assumption) | refine Below.setCell ?_ (by simp <;> omega) _ | refine Below.drewN' ?_ _)))).mono ?_
    rintro e w1 ⟨rfl, hb1⟩
    have g1 : Below w.heap.size w w1 := by (repeat (first | exact Below.refl _ _ | refine Below.drew ?_ | refine Below.allocS ?_ _ | refine Below.step ?_ (by assumption) | refine Below.setCell ?_ (by simp <;> omega) _ | refine Below.drewN' ?_ _))
    clear hb1
    go_wp2
    go_ret
    exact ⟨rfl, by (repeat (first | exact Below.refl _ _ | refine Below.drew ?_ | refine Below.allocS ?_ _ | refine Below.step ?_ (by assumption) | refine Below.setCell ?_ (by simp <;> omega) _ | refine Below.drewN' ?_ _))⟩
  | true =>
    rw [seenE_yes hvd] at HV
    obtain ⟨n, rfl⟩ := vd_nat hvd
    have hd := VdP.of hvd
    have HVD := Lib.hid hvd
    have HD := Lib.hid hd
    have HS := Lib.hid (fun W (hb : Below w.heap.size w W) => rspread_c l A cap n hd W (hA.step hb))
    clear hA hvd hd
    obtain ⟨C, hC⟩ : ∃ C, C = cirE (n : Int) l := ⟨_, rfl⟩
    have HC := Lib.hid hC
    rw [← hC]
    clear hC
    obtain ⟨m, hm⟩ : ∃ m, m = l.length := ⟨_, rfl⟩
    rw [← hm] at HV HS ⊢
    clear hm hl
    go_enter Try.func51, Try.ntmps51
    go_wp2_with fail
    refine (HV.out _ (by (repeat (first | exact Below.refl _ _ | refine Below.drew ?_ | refine Below.allocS ?_ _ | refine Below.step ?_ (by assumption) | refine Below.setCell ?_ (by simp <;> omega) _ | refine Below.drewN' ?_ _)))).mono ?_
    rintro e w1 ⟨rfl, hb1⟩
    have g1 : Below w.heap.size w w1 := by (repeat (first | exact Below.refl _ _ | refine Below.drew ?_ | refine Below.allocS ?_ _ | refine Below.step ?_ (by assumption) | refine Below.setCell ?_ (by simp <;> omega) _ | refine Below.drewN' ?_ _))
    clear hb1
    go_wp2_with fail
    refine (HS.out _ (by (repeat (first | exact Below.refl _ _ | refine Below.drew ?_ | refine Below.allocS ?_ _ | refine Below.step ?_ (by assumption) | refine Below.setCell ?_ (by simp <;> omega) _ | refine Below.drewN' ?_ _)))).mono ?_
    rintro e w2 ⟨⟨Hs, Gs, K, ok, rfl, ah, ag, hall, hok⟩, hb2⟩
    have g2 : Below w.heap.size w w2 := by (repeat (first | exact Below.refl _ _ | refine Below.drew ?_ | refine Below.allocS ?_ _ | refine Below.step ?_ (by assumption) | refine Below.setCell ?_ (by simp <;> omega) _ | refine Below.drewN' ?_ _))
    have HSP := Lib.hid (hall.spec HD.out)
    have HOK := Lib.hid hok
    clear ah ag hall hok hb2
    cases ok
    case false =>
      have HE := Lib.hid (show C = 0 by rw [HC.out]; exact cirE_0 HVD.out (fun h => by have := HOK.out.2 ((satE_iff HD.out HSP.out).2 h); cases this))
      clear HC
      go_wp2
      go_ret
      exact ⟨by rw [HE.out]; rfl, g2⟩
    have HE := Lib.hid (show C = 8 by rw [HC.out]; exact cirE_8 HVD.out ((satE_iff HD.out HSP.out).1 (HOK.out.1 rfl)))
    clear HC
    go_wp2
    go_ret
    exact ⟨by rw [HE.out]; rfl, g2⟩
end Go.Proofs.Ytomgaiokmdcjmaa
