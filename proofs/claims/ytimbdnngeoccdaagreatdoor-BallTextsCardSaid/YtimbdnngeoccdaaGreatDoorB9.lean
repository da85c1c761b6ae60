/-
  Verdict and Off, of ball and of its reference.
-/
import Derived.Test.YtimbdnngeoccdaaGreatDoorB7
import Derived.Test.YtimbdnngeoccdaaGreatDoorB8
namespace Go.Proofs.YtimbdnngeoccdaaGreatDoor
open Go.RowKit
set_option linter.unusedVariables false

theorem verdict_c (x : Ms) (hx : OkMast x) (l : List Ev) (A : Option Addr) (cap : Nat) (hl : l.length ≤ 100) (hcap : l.length ≤ cap) (hcap' : cap ≤ maxLen) (w : World) (hr : RdL w w.heap.size evE 3 A l) :
    Calls Tryz.prog 45 #[msV x, .slice A l.length cap] w fun e w' => e = .returned (.tuple #[.int .i64 (verdV x l), .int .i64 (dIx l)]) ∧ Below w.heap.size w w' := by
  cases h4 : l.any (isK 4)
  · exact verdict_none x l h4 A cap (by omega) w hr
  · exact verdict_some x hx l h4 A cap hl hcap hcap' w hr

def vdE (x : Ms) (l : List Ev) : Int := (runG x l).2.2
def vdV (x : Ms) (l : List Ev) : Int := if vdE x l = 0 then verdV x l else 0
def offE (x : Ms) (l : List Ev) : Int := if vdE x l = 0 then (if l.any (isK 4) then 0 else 8) else vdE x l
def offV (x : Ms) (l : List Ev) : Int := if offE x l = 0 then (if verdV x l = 3 then dAt l - x.noon - x.again else dAt l - x.noon) else 0

theorem RunV_c (x : Ms) (l : List Ev) (A : Option Addr) (cap : Nat) (hl : l.length ≤ 9223372036854775807) (w : World) (hr : RdL w w.heap.size evE 3 A l) :
    ∃ (gs : Bl) (gn : Nat), ∀ W, Below w.heap.size w W → Calls Tryz.prog 44 #[msV x, .slice A l.length cap] W fun e w' => e = .returned (.tuple #[blV gs, .int .i64 gn, .int .i64 (vdE x l)]) ∧ Below W.heap.size W w' :=
  ⟨(runG x l).1, (runG x l).2.1, fun W hb => Run_c x l A cap hl W (hr.step hb)⟩
set_option maxHeartbeats 1000000 in
theorem Verdict_c (x : Ms) (l : List Ev) (A : Option Addr) (cap : Nat) (hl : l.length ≤ 9223372036854775807) (hcap : l.length ≤ cap) (hcap' : cap ≤ maxLen) (w : World) (hr : RdL w w.heap.size evE 3 A l) :
    Calls Tryz.prog 22 #[msV x, .slice A l.length cap] w fun e w' => e = .returned (.tuple #[.int .i64 (vdV x l), .int .i64 (vdE x l)]) ∧ Below w.heap.size w w' := by
  obtain ⟨gs, gn, hR⟩ := RunV_c x l A cap hl w hr
  have HRn := Lib.hid hR
  have HR := Lib.hid hr
  have hp : vdE x l = 0 → okMast x = true ∧ l.length ≤ 100 := fun h => ⟨(runG_parts h).1, (runG_parts h).2.1⟩
  clear hR hr
  by_cases he : vdE x l = 0
  · obtain ⟨p1, p2⟩ := hp he
    have HV := Lib.hid (show vdV x l = verdV x l by unfold vdV; rw [if_pos he])
    have HVd := Lib.hid (fun W (hb : Below w.heap.size w W) => verdict_c x (okMast_true p1) l A cap p2 hcap hcap' W (HR.out.step hb))
    rw [HV.out, he]
    rw [he] at HRn
    generalize verdV x l = v at *
    clear hp he p1
    unfold msV blV at *
    go_enter Tryz.func22, Tryz.ntmps22
    go_wp2_with fail
    refine (HRn.out _ (by (repeat (first | exact Below.refl _ _ | refine Below.drew ?_ | refine Below.allocS ?_ _ | refine Below.step ?_ (by assumption) | refine Below.setCell ?_ (by simp <;> omega) _ | refine Below.drewN' ?_ _)))).mono ?_
    rintro e w1 ⟨rfl, hb1⟩
    have x1_0_0 : w1.cell? ⟨w.heap.size, 0, none⟩ = some (.int .i64 x.noon) := keep_cell hb1 (by simp [go_sem, *])
    have x1_0_1 : w1.cell? ⟨w.heap.size, 1, none⟩ = some (.int .i64 x.half) := keep_cell hb1 (by simp [go_sem, *])
    have x1_0_2 : w1.cell? ⟨w.heap.size, 2, none⟩ = some (.int .i64 x.full) := keep_cell hb1 (by simp [go_sem, *])
    have x1_0_3 : w1.cell? ⟨w.heap.size, 3, none⟩ = some (.int .i64 x.late) := keep_cell hb1 (by simp [go_sem, *])
    have x1_0_4 : w1.cell? ⟨w.heap.size, 4, none⟩ = some (.int .i64 x.again) := keep_cell hb1 (by simp [go_sem, *])
    have x1_0_5 : w1.cell? ⟨w.heap.size, 5, none⟩ = some (.int .i64 x.wind) := keep_cell hb1 (by simp [go_sem, *])
    have y1_0 : w.heap.size < w1.heap.size := cell?_lt x1_0_0
    have g1 : Below w.heap.size w w1 := by (repeat (first | exact Below.refl _ _ | refine Below.drew ?_ | refine Below.allocS ?_ _ | refine Below.step ?_ (by assumption) | refine Below.setCell ?_ (by simp <;> omega) _ | refine Below.drewN' ?_ _))
    clear hb1
    go_wp2_with fail
    refine (HVd.out _ (by (repeat (first | exact Below.refl _ _ | refine Below.drew ?_ | refine Below.allocS ?_ _ | refine Below.step ?_ (by assumption) | refine Below.setCell ?_ (by simp <;> omega) _ | refine Below.drewN' ?_ _)))).mono ?_
    rintro e w2 ⟨rfl, hb2⟩
    have x2_0_0 : w2.cell? ⟨w.heap.size, 0, none⟩ = some (.int .i64 x.noon) := keep_cell hb2 (by simp [go_sem, *])
    have x2_0_1 : w2.cell? ⟨w.heap.size, 1, none⟩ = some (.int .i64 x.half) := keep_cell hb2 (by simp [go_sem, *])
    have x2_0_2 : w2.cell? ⟨w.heap.size, 2, none⟩ = some (.int .i64 x.full) := keep_cell hb2 (by simp [go_sem, *])
    have x2_0_3 : w2.cell? ⟨w.heap.size, 3, none⟩ = some (.int .i64 x.late) := keep_cell hb2 (by simp [go_sem, *])
    have x2_0_4 : w2.cell? ⟨w.heap.size, 4, none⟩ = some (.int .i64 x.again) := keep_cell hb2 (by simp [go_sem, *])
    have x2_0_5 : w2.cell? ⟨w.heap.size, 5, none⟩ = some (.int .i64 x.wind) := keep_cell hb2 (by simp [go_sem, *])
    have y2_0 : w.heap.size < w2.heap.size := cell?_lt x2_0_0
    have g2 : Below w.heap.size w w2 := by (repeat (first | exact Below.refl _ _ | refine Below.drew ?_ | refine Below.allocS ?_ _ | refine Below.step ?_ (by assumption) | refine Below.setCell ?_ (by simp <;> omega) _ | refine Below.drewN' ?_ _))
    clear hb2 g1 x1_0_0 x1_0_1 x1_0_2 x1_0_3 x1_0_4 x1_0_5 y1_0
    go_wp2
    go_ret2
    exact ⟨rfl, by (repeat (first | (with_reducible exact Below.refl _ _) | (with_reducible assumption) | (with_reducible refine Below.drew ?_) | (with_reducible refine Below.allocS ?_ _) | (with_reducible refine Below.setCell ?_ ?_ _) | (with_reducible refine Below.step ?_ (by assumption)) | (with_reducible refine Below.drewN' ?_ _))); (try any_goals (first | (with_reducible assumption) | (simp; done) | (simp; omega) | omega))⟩
  · have HV := Lib.hid (show vdV x l = 0 by unfold vdV; rw [if_neg he])
    rw [HV.out]
    generalize vdE x l = E at *
    have hb : (E != 0) = true := by simpa using he
    unfold msV blV at *
    go_enter Tryz.func22, Tryz.ntmps22
    go_wp2_with fail
    refine (HRn.out _ (by (repeat (first | exact Below.refl _ _ | refine Below.drew ?_ | refine Below.allocS ?_ _ | refine Below.step ?_ (by assumption) | refine Below.setCell ?_ (by simp <;> omega) _ | refine Below.drewN' ?_ _)))).mono ?_
    rintro e w1 ⟨rfl, hb1⟩
    have x1_0_0 : w1.cell? ⟨w.heap.size, 0, none⟩ = some (.int .i64 x.noon) := keep_cell hb1 (by simp [go_sem, *])
    have x1_0_1 : w1.cell? ⟨w.heap.size, 1, none⟩ = some (.int .i64 x.half) := keep_cell hb1 (by simp [go_sem, *])
    have x1_0_2 : w1.cell? ⟨w.heap.size, 2, none⟩ = some (.int .i64 x.full) := keep_cell hb1 (by simp [go_sem, *])
    have x1_0_3 : w1.cell? ⟨w.heap.size, 3, none⟩ = some (.int .i64 x.late) := keep_cell hb1 (by simp [go_sem, *])
    have x1_0_4 : w1.cell? ⟨w.heap.size, 4, none⟩ = some (.int .i64 x.again) := keep_cell hb1 (by simp [go_sem, *])
    have x1_0_5 : w1.cell? ⟨w.heap.size, 5, none⟩ = some (.int .i64 x.wind) := keep_cell hb1 (by simp [go_sem, *])
    have y1_0 : w.heap.size < w1.heap.size := cell?_lt x1_0_0
    have g1 : Below w.heap.size w w1 := by (repeat (first | exact Below.refl _ _ | refine Below.drew ?_ | refine Below.allocS ?_ _ | refine Below.step ?_ (by assumption) | refine Below.setCell ?_ (by simp <;> omega) _ | refine Below.drewN' ?_ _))
    clear hb1
    go_wp2
    go_ret2
    exact ⟨rfl, by (repeat (first | (with_reducible exact Below.refl _ _) | (with_reducible assumption) | (with_reducible refine Below.drew ?_) | (with_reducible refine Below.allocS ?_ _) | (with_reducible refine Below.setCell ?_ ?_ _) | (with_reducible refine Below.step ?_ (by assumption)) | (with_reducible refine Below.drewN' ?_ _))); (try any_goals (first | (with_reducible assumption) | (simp; done) | (simp; omega) | omega))⟩

def fstN (kind : Int) (l : List Ev) (f : Nat) : Nat := f + (l.drop f).findIdx (isK kind)
theorem fstN_none {kind : Int} {l : List Ev} (h : l.any (isK kind) = false) : fstN kind l 0 = l.length := by unfold fstN; simp [find_no h]
theorem fstN_zero (kind : Int) (l : List Ev) : fstN kind l 0 = l.findIdx (isK kind) := by unfold fstN; simp
theorem dAt_fine {l : List Ev} (h4 : l.any (isK 4) = true) (hf : ∀ e ∈ l, fineB e = true) : 0 ≤ dAt l ∧ dAt l ≤ 86399999 := by
  have hd : dN l < l.length := find_lt h4
  unfold dAt
  rw [List.getD_eq_getElem?_getD, List.getElem?_eq_getElem hd]
  exact (fineB_true (hf _ (List.getElem_mem hd))).1

end Go.Proofs.YtimbdnngeoccdaaGreatDoor
