/-
  Plain law: the logs of a good noon and of a ball that is dropped again are runs, and their verdicts are good and again.
-/
import Derived.Test.YtcdohibphhbllaaB12
import Derived.Test.YtcdohibphhbllaaB10
namespace Go.Proofs.Ytcdohibphhbllaa
open Go.RowKit
set_option linter.unusedVariables false
def secondL (x : Ms) : List Ev := [⟨x.noon - x.half, 2, 0⟩, ⟨x.noon - x.full, 3, 0⟩, ⟨x.noon, 5, 0⟩, ⟨x.noon, 6, 0⟩, ⟨x.noon + x.again - x.half, 2, 0⟩, ⟨x.noon + x.again - x.full, 3, 0⟩, ⟨x.noon + x.again, 4, 0⟩]
theorem run_step {x : Ms} {s : Bl} {k : Nat} {t kd n : Int} {l : List Ev} (hf : fineB ⟨t, kd, n⟩ = true) (hs : s.at' ≤ t) (ha : allowB x s t kd = true) :
    runFrom x s k (⟨t, kd, n⟩ :: l) = runFrom x (doB s kd n t) (k + 1) l := by
  obtain ⟨e1, e2⟩ := nextE_ok (x := x) (s := s) (e := ⟨t, kd, n⟩) hf hs ha
  rw [runFrom, if_pos e1, e2]
theorem hoist_one {x : Ms} (h : OkMast x) : hoist x (x.noon - x.half) = true := by
  obtain ⟨n0, n1, f0, fh, h1, hn', l0, l1, a0, a1, na, w0, w1⟩ := h
  unfold hoist
  rw [show within (x.noon - x.half) (x.noon - x.half) (x.noon - x.full - 1) = true by simp [within]; omega, Bool.true_or]
theorem hoist_two {x : Ms} (h : OkMast x) : hoist x (x.noon + x.again - x.half) = true := by
  obtain ⟨n0, n1, f0, fh, h1, hn', l0, l1, a0, a1, na, w0, w1⟩ := h
  unfold hoist
  rw [show within (x.noon + x.again - x.half) (x.noon + x.again - x.half) (x.noon + x.again - x.full - 1) = true by simp [within]; omega, Bool.or_true]
theorem allow_half {x : Ms} {s : Bl} {t : Int} (h1 : s.place = 0) (h2 : s.wind ≤ x.wind) (h3 : hoist x t = true) : allowB x s t 2 = true := by
  show (decide (s.place = 0) && (decide (s.wind ≤ x.wind) && hoist x t)) = true
  simp [h1, h2, h3]
theorem plan_run (x : Ms) (ho : okMast x = true) : vdE x (planL x) = 0 := by
  obtain ⟨n0, n1, f0, fh, h1, hn', l0, l1, a0, a1, na, w0, w1⟩ := okMast_true ho
  have e : runFrom x bl0 0 (planL x) = (⟨0, 0, false, x.noon⟩, 3, 0) := by
    unfold planL
    rw [run_step (by simp [fineB, within]; omega) (by simp [bl0]; omega) (allow_half (by simp [bl0]) (by simp [bl0]; omega) (hoist_one (okMast_true ho)))]
    rw [run_step (by simp [fineB, within]; omega) (by simp [doB]; omega) (by simp [allowB, within, doB]; omega)]
    rw [run_step (by simp [fineB, within]; omega) (by simp [doB]; omega) (by simp [allowB, doB])]
    simp [runFrom, doB, bl0]
  unfold vdE runG
  rw [ho, if_pos rfl, if_pos (by simp [planL]), e]
theorem second_run (x : Ms) (ho : okMast x = true) : vdE x (secondL x) = 0 := by
  obtain ⟨n0, n1, f0, fh, h1, hn', l0, l1, a0, a1, na, w0, w1⟩ := okMast_true ho
  have e : runFrom x bl0 0 (secondL x) = (⟨0, 0, true, x.noon + x.again⟩, 7, 0) := by
    unfold secondL
    rw [run_step (by simp [fineB, within]; omega) (by simp [bl0]; omega) (allow_half (by simp [bl0]) (by simp [bl0]; omega) (hoist_one (okMast_true ho)))]
    rw [run_step (by simp [fineB, within]; omega) (by simp [doB]; omega) (by simp [allowB, within, doB]; omega)]
    rw [run_step (by simp [fineB, within]; omega) (by simp [doB]; omega) (by simp [allowB, doB])]
    rw [run_step (by simp [fineB, within]; omega) (by simp [doB]) (by simp [allowB, doB, bl0])]
    rw [run_step (by simp [fineB, within]; omega) (by simp [doB]; omega) (allow_half (by simp [doB]) (by simp [doB, bl0]; omega) (hoist_two (okMast_true ho)))]
    rw [run_step (by simp [fineB, within]; omega) (by simp [doB]; omega) (by simp [allowB, within, doB]; omega)]
    rw [run_step (by simp [fineB, within]; omega) (by simp [doB]; omega) (by simp [allowB, doB])]
    simp [runFrom, doB, bl0]
  unfold vdE runG
  rw [ho, if_pos rfl, if_pos (by simp [secondL]), e]
theorem plan_verd (x : Ms) (ho : okMast x = true) : vdV x (planL x) = 0 ∧ offE x (planL x) = 0 ∧ offV x (planL x) = 0 := by
  obtain ⟨n0, n1, f0, fh, h1, hn', l0, l1, a0, a1, na, w0, w1⟩ := okMast_true ho
  have he := plan_run x ho
  have h4 : (planL x).any (isK 4) = true := by simp [planL, isK]
  have hn : dN (planL x) = 2 := by simp [dN, planL, isK, List.findIdx_cons]
  have ha : dAt (planL x) = x.noon := by unfold dAt; rw [hn]; rfl
  have hv : verdV x (planL x) = 0 := by
    unfold verdV
    rw [h4, if_pos rfl, ha, if_pos (by simp [within]; omega)]
  obtain ⟨o1, o2⟩ := off_ok he h4
  refine ⟨by unfold vdV; rw [if_pos he, hv], o1, ?_⟩
  rw [o2, hv, ha, if_neg (by decide)]; omega
theorem second_verd (x : Ms) (ho : okMast x = true) : vdV x (secondL x) = 3 ∧ offE x (secondL x) = 0 ∧ offV x (secondL x) = 0 := by
  obtain ⟨n0, n1, f0, fh, h1, hn', l0, l1, a0, a1, na, w0, w1⟩ := okMast_true ho
  have he := second_run x ho
  have h4 : (secondL x).any (isK 4) = true := by simp [secondL, isK]
  have hn : dN (secondL x) = 6 := by simp [dN, secondL, isK, List.findIdx_cons]
  have ha : dAt (secondL x) = x.noon + x.again := by unfold dAt; rw [hn]; rfl
  have h6 : ((secondL x).take 6).any (isK 6) = true := by simp [secondL, isK]
  have hv : verdV x (secondL x) = 3 := by
    unfold verdV
    rw [h4, if_pos rfl, ha, hn, h6, if_neg (by simp [within]; omega), if_pos (by simp [within]; omega)]
  obtain ⟨o1, o2⟩ := off_ok he h4
  refine ⟨by unfold vdV; rw [if_pos he, hv], o1, ?_⟩
  rw [o2, hv, ha, if_pos rfl]; omega
end Go.Proofs.Ytcdohibphhbllaa
