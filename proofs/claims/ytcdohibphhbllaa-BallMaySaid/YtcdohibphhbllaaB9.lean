/-
  Verdict and Off, of ball and of its reference.
-/
import Derived.Test.YtcdohibphhbllaaB7
import Derived.Test.YtcdohibphhbllaaB8
namespace Go.Proofs.Ytcdohibphhbllaa
open Go.RowKit
set_option linter.unusedVariables false

theorem verdict_c (x : Ms) (hx : OkMast x) (l : List Ev) (A : Option Addr) (cap : Nat) (hl : l.length ≤ 100) (hcap : l.length ≤ cap) (hcap' : cap ≤ maxLen) (w : World) (hr : RdL w w.heap.size evE 3 A l) :
    Calls Try.prog 51 #[msV x, .slice A l.length cap] w fun e w' => e = .returned (.tuple #[.int .i64 (verdV x l), .int .i64 (dIx l)]) ∧ Below w.heap.size w w' := by
  cases h4 : l.any (isK 4)
  · exact verdict_none x l h4 A cap (by omega) w hr
  · exact verdict_some x hx l h4 A cap hl hcap hcap' w hr

def vdE (x : Ms) (l : List Ev) : Int := (runG x l).2.2
def vdV (x : Ms) (l : List Ev) : Int := if vdE x l = 0 then verdV x l else 0
def offE (x : Ms) (l : List Ev) : Int := if vdE x l = 0 then (if l.any (isK 4) then 0 else 8) else vdE x l
def offV (x : Ms) (l : List Ev) : Int := if offE x l = 0 then (if verdV x l = 3 then dAt l - x.noon - x.again else dAt l - x.noon) else 0

theorem RunV_c (x : Ms) (l : List Ev) (A : Option Addr) (cap : Nat) (hl : l.length ≤ 9223372036854775807) (w : World) (hr : RdL w w.heap.size evE 3 A l) :
    ∃ (gs : Bl) (gn : Nat), ∀ W, Below w.heap.size w W → Calls Try.prog 15 #[msV x, .slice A l.length cap] W fun e w' => e = .returned (.tuple #[blV gs, .int .i64 gn, .int .i64 (vdE x l)]) ∧ Below W.heap.size W w' :=
  ⟨(runG x l).1, (runG x l).2.1, fun W hb => Run_c x l A cap hl W (hr.step hb)⟩
theorem rRunV_c (x : Ms) (l : List Ev) (A : Option Addr) (cap : Nat) (hl : l.length ≤ 9223372036854775807) (w : World) (hr : RdL w w.heap.size evE 3 A l) :
    ∃ (gs : Bl) (gn : Nat), ∀ W, Below w.heap.size w W → Calls Try.prog 16 #[msV x, .slice A l.length cap] W fun e w' => e = .returned (.tuple #[blV gs, .int .i64 gn, .int .i64 (vdE x l)]) ∧ Below W.heap.size W w' :=
  ⟨(runG x l).1, (runG x l).2.1, fun W hb => rRun_c x l A cap hl W (hr.step hb)⟩

set_option maxHeartbeats 1000000 in
theorem Verdict_c (x : Ms) (l : List Ev) (A : Option Addr) (cap : Nat) (hl : l.length ≤ 9223372036854775807) (hcap : l.length ≤ cap) (hcap' : cap ≤ maxLen) (w : World) (hr : RdL w w.heap.size evE 3 A l) :
    Calls Try.prog 17 #[msV x, .slice A l.length cap] w fun e w' => e = .returned (.tuple #[.int .i64 (vdV x l), .int .i64 (vdE x l)]) ∧ Below w.heap.size w w' := by
  obtain ⟨gs, gn, hR⟩ := RunV_c x l A cap hl w hr
  have HRn := Lib.hid hR
  have HR := Lib.hid hr
  have hp : vdE x l = 0 → okMast x = true ∧ l.length ≤ 100 := fun h => ⟨(runG_parts h).1, (runG_parts h).2.1⟩
  clear hR hr
  by_cases he : vdE x l = 0
  · obtain ⟨p1, p2⟩ := hp he
    have HV := Lib.hid (show vdV x l = verdV x l by unfold vdV; rw [if_pos he])
    have HVd := Lib.hid (fun W (hb : Below w.heap.size w W) => verdict_c x (okMast_true p1) l A cap p2 hcap hcap' W (HR.out.step hb))
    rw [HV.out, he]
    rw [he] at HRn
    generalize verdV x l = v at *
    clear hp he p1
    unfold msV blV at *
    go_enter Try.func17, Try.ntmps17
    go_wp2_with fail
    refine (HRn.out _ (by (repeat (first | exact Below.refl _ _ | refine Below.drew ?_ | refine Below.allocS ?_ _ | refine Below.step ?_ (by assumption) | refine Below.setCell ?_ (by simp <;> omega) _ | refine Below.drewN' ?_ _)))).mono ?_
    rintro e w1 ⟨rfl, hb1⟩
    have x1_0_0 : w1.cell? ⟨w.heap.size, 0, none⟩ = some (.int .i64 x.noon) := keep_cell hb1 (by simp [go_sem, *])
    have x1_0_1 : w1.cell? ⟨w.heap.size, 1, none⟩ = some (.int .i64 x.half) := keep_cell hb1 (by simp [go_sem, *])
    have x1_0_2 : w1.cell? ⟨w.heap.size, 2, none⟩ = some (.int .i64 x.full) := keep_cell hb1 (by simp [go_sem, *])
    have x1_0_3 : w1.cell? ⟨w.heap.size, 3, none⟩ = some (.int .i64 x.late) := keep_cell hb1 (by simp [go_sem, *])
    have x1_0_4 : w1.cell? ⟨w.heap.size, 4, none⟩ = some (.int .i64 x.again) := keep_cell hb1 (by simp [go_sem, *])
    have x1_0_5 : w1.cell? ⟨w.heap.size, 5, none⟩ = some (.int .i64 x.wind) := keep_cell hb1 (by simp [go_sem, *])
    have y1_0 : w.heap.size < w1.heap.size := cell?_lt x1_0_0
    have g1 : Below w.heap.size w w1 := by (repeat (first | exact Below.refl _ _ | refine Below.drew ?_ | refine Below.allocS ?_ _ | refine Below.step ?_ (by assumption) | refine Below.setCell ?_ (by simp <;> omega) _ | refine Below.drewN' ?_ _))
    clear hb1
    go_wp2_with fail
    refine (HVd.out _ (by (repeat (first | exact Below.refl _ _ | refine Below.drew ?_ | refine Below.allocS ?_ _ | refine Below.step ?_ (by assumption) | refine Below.setCell ?_ (by simp <;> omega) _ | refine Below.drewN' ?_ _)))).mono ?_
    rintro e w2 ⟨rfl, hb2⟩
    have x2_0_0 : w2.cell? ⟨w.heap.size, 0, none⟩ = some (.int .i64 x.noon) := keep_cell hb2 (by simp [go_sem, *])
    have x2_0_1 : w2.cell? ⟨w.heap.size, 1, none⟩ = some (.int .i64 x.half) := keep_cell hb2 (by simp [go_sem, *])
    have x2_0_2 : w2.cell? ⟨w.heap.size, 2, none⟩ = some (.int .i64 x.full) := keep_cell hb2 (by simp [go_sem, *])
    have x2_0_3 : w2.cell? ⟨w.heap.size, 3, none⟩ = some (.int .i64 x.late) := keep_cell hb2 (by simp [go_sem, *])
    have x2_0_4 : w2.cell? ⟨w.heap.size, 4, none⟩ = some (.int .i64 x.again) := keep_cell hb2 (by simp [go_sem, *])
    have x2_0_5 : w2.cell? ⟨w.heap.size, 5, none⟩ = some (.int .i64 x.wind) := keep_cell hb2 (by simp [go_sem, *])
    have y2_0 : w.heap.size < w2.heap.size := cell?_lt x2_0_0
    have g2 : Below w.heap.size w w2 := by (repeat (first | exact Below.refl _ _ | refine Below.drew ?_ | refine Below.allocS ?_ _ | refine Below.step ?_ (by assumption) | refine Below.setCell ?_ (by simp <;> omega) _ | refine Below.drewN' ?_ _))
    clear hb2 g1 x1_0_0 x1_0_1 x1_0_2 x1_0_3 x1_0_4 x1_0_5 y1_0
    go_wp2
    go_ret2
    exact ⟨rfl, by (repeat (first | (with_reducible exact Below.refl _ _) | (with_reducible assumption) | (with_reducible refine Below.drew ?_) | (with_reducible refine Below.allocS ?_ _) | (with_reducible refine Below.setCell ?_ ?_ _) | (with_reducible refine Below.step ?_ (by assumption)) | (with_reducible refine Below.drewN' ?_ _))); (try any_goals (first | (with_reducible assumption) | (simp; done) | (simp; omega) | omega))⟩
  · have HV := Lib.hid (show vdV x l = 0 by unfold vdV; rw [if_neg he])
    rw [HV.out]
    generalize vdE x l = E at *
    have hb : (E != 0) = true := by simpa using he
    unfold msV blV at *
    go_enter Try.func17, Try.ntmps17
    go_wp2_with fail
    refine (HRn.out _ (by (repeat (first | exact Below.refl _ _ | refine Below.drew ?_ | refine Below.allocS ?_ _ | refine Below.step ?_ (by assumption) | refine Below.setCell ?_ (by simp <;> omega) _ | refine Below.drewN' ?_ _)))).mono ?_
    rintro e w1 ⟨rfl, hb1⟩
    have x1_0_0 : w1.cell? ⟨w.heap.size, 0, none⟩ = some (.int .i64 x.noon) := keep_cell hb1 (by simp [go_sem, *])
    have x1_0_1 : w1.cell? ⟨w.heap.size, 1, none⟩ = some (.int .i64 x.half) := keep_cell hb1 (by simp [go_sem, *])
    have x1_0_2 : w1.cell? ⟨w.heap.size, 2, none⟩ = some (.int .i64 x.full) := keep_cell hb1 (by simp [go_sem, *])
    have x1_0_3 : w1.cell? ⟨w.heap.size, 3, none⟩ = some (.int .i64 x.late) := keep_cell hb1 (by simp [go_sem, *])
    have x1_0_4 : w1.cell? ⟨w.heap.size, 4, none⟩ = some (.int .i64 x.again) := keep_cell hb1 (by simp [go_sem, *])
    have x1_0_5 : w1.cell? ⟨w.heap.size, 5, none⟩ = some (.int .i64 x.wind) := keep_cell hb1 (by simp [go_sem, *])
    have y1_0 : w.heap.size < w1.heap.size := cell?_lt x1_0_0
    have g1 : Below w.heap.size w w1 := by (repeat (first | exact Below.refl _ _ | refine Below.drew ?_ | refine Below.allocS ?_ _ | refine Below.step ?_ (by assumption) | refine Below.setCell ?_ (by simp <;> omega) _ | refine Below.drewN' ?_ _))
    clear hb1
    go_wp2
    go_ret2
    exact ⟨rfl, by (repeat (first | (with_reducible exact Below.refl _ _) | (with_reducible assumption) | (with_reducible refine Below.drew ?_) | (with_reducible refine Below.allocS ?_ _) | (with_reducible refine Below.setCell ?_ ?_ _) | (with_reducible refine Below.step ?_ (by assumption)) | (with_reducible refine Below.drewN' ?_ _))); (try any_goals (first | (with_reducible assumption) | (simp; done) | (simp; omega) | omega))⟩

def fstN (kind : Int) (l : List Ev) (f : Nat) : Nat := f + (l.drop f).findIdx (isK kind)
theorem first_c (l : List Ev) (kind : Int) (f : Nat) (hf : f ≤ l.length) (A : Option Addr) (cap : Nat) (hl : l.length ≤ 9223372036854775807) (w : World) (hr : RdL w w.heap.size evE 3 A l) :
    Calls Try.prog 59 #[.slice A l.length cap, .int .i64 kind, .int .i64 f] w fun e w' => e = .returned (.int .i64 (fstN kind l f : Nat)) ∧ w = w' := by
  have HR := Lib.hid hr
  clear hr
  go_enter Try.func59, Try.ntmps59
  go_wp2
  go_loop [7] (fun i => ∃ k : Nat, k ≤ l.length ∧ i = .int .i64 k ∧ fstN kind l f = k + (l.drop k).findIdx (isK kind)) (fun i => l.length - (intOf i).toNat)
  case atStart => exact ⟨f, hf, rfl, rfl⟩
  case round =>
    obtain ⟨k, hk, rfl, hx⟩ := hrel
    have HX := Lib.hid hx
    clear hx
    by_cases hlt : k < l.length
    · obtain ⟨b, off, rfl, hb0, hc⟩ := HR.out (by omega)
      have c1 := hc k hlt 1 _ rfl
      clear hc
      have hd : l.drop k = l[k] :: l.drop (k + 1) := List.drop_eq_getElem_cons hlt
      have HD := Lib.hid hd
      clear hd
      cases hp : (l[k].kind == kind)
      · have HP := Lib.hid (show isK kind l[k] = false from hp)
        go_wp2
        go_round
        case rel => exact ⟨k + 1, by omega, by go_num, by rw [HX.out, HD.out, List.findIdx_cons, HP.out]; simp; omega⟩
        case measure => simp [intOf]; omega
      · have HP := Lib.hid (show isK kind l[k] = true from hp)
        go_wp2
        go_ret
        exact ⟨congrArg (fun n : Nat => Ending.returned (.int .i64 (n : Int))) (by rw [HX.out, HD.out, List.findIdx_cons, HP.out]; rfl : k = fstN kind l f), rfl⟩
    · obtain rfl : k = l.length := by omega
      go_wp2
      go_ret
      exact ⟨congrArg (fun n : Nat => Ending.returned (.int .i64 (n : Int))) (by rw [HX.out]; simp : l.length = fstN kind l f), rfl⟩
theorem near_c (a b m : Int) (ha : -1000000000 ≤ a) (ha1 : a ≤ 1000000000) (hb : -1000000000 ≤ b) (hb1 : b ≤ 1000000000) (w : World) :
    Calls Try.prog 60 #[.int .i64 a, .int .i64 b, .int .i64 m] w fun e w' => e = .returned (.bool (within a (b - m) (b + m))) ∧ w = w' := by
  by_cases h : a - b ≤ m
  · have e : within a (b - m) (b + m) = decide (b - a ≤ m) := by rw [Bool.eq_iff_iff]; simp [within]; omega
    rw [e]
    clear e
    go_enter Try.func60, Try.ntmps60
    go_wp2
    go_ret
    exact ⟨rfl, rfl⟩
  · have e : within a (b - m) (b + m) = false := by
      cases h2 : within a (b - m) (b + m)
      · rfl
      · have := within_true h2; omega
    rw [e]
    clear e
    go_enter Try.func60, Try.ntmps60
    go_wp2
    go_ret
    exact ⟨rfl, rfl⟩

theorem fstN_none {kind : Int} {l : List Ev} (h : l.any (isK kind) = false) : fstN kind l 0 = l.length := by unfold fstN; simp [find_no h]
theorem fstN_zero (kind : Int) (l : List Ev) : fstN kind l 0 = l.findIdx (isK kind) := by unfold fstN; simp
theorem dAt_fine {l : List Ev} (h4 : l.any (isK 4) = true) (hf : ∀ e ∈ l, fineB e = true) : 0 ≤ dAt l ∧ dAt l ≤ 86399999 := by
  have hd : dN l < l.length := find_lt h4
  unfold dAt
  rw [List.getD_eq_getElem?_getD, List.getElem?_eq_getElem hd]
  exact (fineB_true (hf _ (List.getElem_mem hd))).1

set_option maxHeartbeats 2000000 in
theorem rVerdict_c (x : Ms) (l : List Ev) (A : Option Addr) (cap : Nat) (hl : l.length ≤ 9223372036854775807) (hcap : l.length ≤ cap) (hcap' : cap ≤ maxLen) (w : World) (hr : RdL w w.heap.size evE 3 A l) :
    Calls Try.prog 22 #[msV x, .slice A l.length cap] w fun e w' => e = .returned (.tuple #[.int .i64 (vdV x l), .int .i64 (vdE x l)]) ∧ Below w.heap.size w w' := by
  obtain ⟨gs, gn, hR⟩ := rRunV_c x l A cap hl w hr
  have HRn := Lib.hid hR
  have HR := Lib.hid hr
  have hp : vdE x l = 0 → okMast x = true ∧ l.length ≤ 100 ∧ ∀ e ∈ l, fineB e = true := fun h => runG_parts h
  clear hR
  by_cases he : vdE x l = 0
  · obtain ⟨p1, p2, p3⟩ := hp he
    have HV := Lib.hid (show vdV x l = verdV x l by unfold vdV; rw [if_pos he])
    have HF := Lib.hid (fun k f W (hf : f ≤ l.length) (hb : Below w.heap.size w W) => first_c l k f hf A cap hl W (HR.out.step hb))
    rw [HV.out, he]
    rw [he] at HRn
    have HX := Lib.hid (okMast_true p1)
    clear hp he p1 HV
    unfold msV blV at *
    cases h4 : l.any (isK 4)
    · have h4' := fstN_none h4
      cases h6 : l.any (isK 6)
      · have h6' := fstN_none h6
        have HD := Lib.hid (show verdV x l = 5 by unfold verdV; rw [h4, h6]; rfl)
        rw [HD.out]
        have H4 := Lib.hid h4'
        have H6 := Lib.hid h6'
        clear h4 h6 h4' h6' hr p3
        go_enter Try.func22, Try.ntmps22
        go_wp2_with fail
        refine (HRn.out _ (by (repeat (first | exact Below.refl _ _ | refine Below.drew ?_ | refine Below.allocS ?_ _ | refine Below.step ?_ (by assumption) | refine Below.setCell ?_ (by simp <;> omega) _ | refine Below.drewN' ?_ _)))).mono ?_
        rintro e w1 ⟨rfl, hb1⟩
        have x1_0_0 : w1.cell? ⟨w.heap.size, 0, none⟩ = some (.int .i64 x.noon) := keep_cell hb1 (by simp [go_sem, *])
        have x1_0_1 : w1.cell? ⟨w.heap.size, 1, none⟩ = some (.int .i64 x.half) := keep_cell hb1 (by simp [go_sem, *])
        have x1_0_2 : w1.cell? ⟨w.heap.size, 2, none⟩ = some (.int .i64 x.full) := keep_cell hb1 (by simp [go_sem, *])
        have x1_0_3 : w1.cell? ⟨w.heap.size, 3, none⟩ = some (.int .i64 x.late) := keep_cell hb1 (by simp [go_sem, *])
        have x1_0_4 : w1.cell? ⟨w.heap.size, 4, none⟩ = some (.int .i64 x.again) := keep_cell hb1 (by simp [go_sem, *])
        have x1_0_5 : w1.cell? ⟨w.heap.size, 5, none⟩ = some (.int .i64 x.wind) := keep_cell hb1 (by simp [go_sem, *])
        have y1_0 : w.heap.size < w1.heap.size := cell?_lt x1_0_0
        have g1 : Below w.heap.size w w1 := by (repeat (first | exact Below.refl _ _ | refine Below.drew ?_ | refine Below.allocS ?_ _ | refine Below.step ?_ (by assumption) | refine Below.setCell ?_ (by simp <;> omega) _ | refine Below.drewN' ?_ _))
        clear hb1
        go_wp2_with fail
        refine (HF.out 6 0 _ (Nat.zero_le _) (by (repeat (first | (with_reducible exact Below.refl _ _) | (with_reducible assumption) | (with_reducible refine Below.drew ?_) | (with_reducible refine Below.allocS ?_ _) | (with_reducible refine Below.setCell ?_ ?_ _) | (with_reducible refine Below.step ?_ (by assumption)) | (with_reducible refine Below.drewN' ?_ _))); (try any_goals (first | (with_reducible assumption) | (simp; done) | (simp; omega) | omega)))).mono ?_
        rintro e w' ⟨rfl, rfl⟩
        rw [H6.out]
        go_wp2_with fail
        refine (HF.out 4 0 _ (Nat.zero_le _) (by (repeat (first | (with_reducible exact Below.refl _ _) | (with_reducible assumption) | (with_reducible refine Below.drew ?_) | (with_reducible refine Below.allocS ?_ _) | (with_reducible refine Below.setCell ?_ ?_ _) | (with_reducible refine Below.step ?_ (by assumption)) | (with_reducible refine Below.drewN' ?_ _))); (try any_goals (first | (with_reducible assumption) | (simp; done) | (simp; omega) | omega)))).mono ?_
        rintro e w' ⟨rfl, rfl⟩
        rw [H4.out]
        go_wp2
        go_ret2
        exact ⟨rfl, by (repeat (first | (with_reducible exact Below.refl _ _) | (with_reducible assumption) | (with_reducible refine Below.drew ?_) | (with_reducible refine Below.allocS ?_ _) | (with_reducible refine Below.setCell ?_ ?_ _) | (with_reducible refine Below.step ?_ (by assumption)) | (with_reducible refine Below.drewN' ?_ _))); (try any_goals (first | (with_reducible assumption) | (simp; done) | (simp; omega) | omega))⟩
      · have h6' : ((fstN 6 l 0 : Nat) : Int) < (l.length : Int) := by rw [fstN_zero]; have := find_lt h6; omega
        have HD := Lib.hid (show verdV x l = 4 by unfold verdV; rw [h4, h6]; rfl)
        rw [HD.out]
        have H4 := Lib.hid h4'
        clear h4 h6 h4' hr p3
        go_enter Try.func22, Try.ntmps22
        go_wp2_with fail
        refine (HRn.out _ (by (repeat (first | exact Below.refl _ _ | refine Below.drew ?_ | refine Below.allocS ?_ _ | refine Below.step ?_ (by assumption) | refine Below.setCell ?_ (by simp <;> omega) _ | refine Below.drewN' ?_ _)))).mono ?_
        rintro e w1 ⟨rfl, hb1⟩
        have x1_0_0 : w1.cell? ⟨w.heap.size, 0, none⟩ = some (.int .i64 x.noon) := keep_cell hb1 (by simp [go_sem, *])
        have x1_0_1 : w1.cell? ⟨w.heap.size, 1, none⟩ = some (.int .i64 x.half) := keep_cell hb1 (by simp [go_sem, *])
        have x1_0_2 : w1.cell? ⟨w.heap.size, 2, none⟩ = some (.int .i64 x.full) := keep_cell hb1 (by simp [go_sem, *])
        have x1_0_3 : w1.cell? ⟨w.heap.size, 3, none⟩ = some (.int .i64 x.late) := keep_cell hb1 (by simp [go_sem, *])
        have x1_0_4 : w1.cell? ⟨w.heap.size, 4, none⟩ = some (.int .i64 x.again) := keep_cell hb1 (by simp [go_sem, *])
        have x1_0_5 : w1.cell? ⟨w.heap.size, 5, none⟩ = some (.int .i64 x.wind) := keep_cell hb1 (by simp [go_sem, *])
        have y1_0 : w.heap.size < w1.heap.size := cell?_lt x1_0_0
        have g1 : Below w.heap.size w w1 := by (repeat (first | exact Below.refl _ _ | refine Below.drew ?_ | refine Below.allocS ?_ _ | refine Below.step ?_ (by assumption) | refine Below.setCell ?_ (by simp <;> omega) _ | refine Below.drewN' ?_ _))
        clear hb1
        go_wp2_with fail
        refine (HF.out 6 0 _ (Nat.zero_le _) (by (repeat (first | (with_reducible exact Below.refl _ _) | (with_reducible assumption) | (with_reducible refine Below.drew ?_) | (with_reducible refine Below.allocS ?_ _) | (with_reducible refine Below.setCell ?_ ?_ _) | (with_reducible refine Below.step ?_ (by assumption)) | (with_reducible refine Below.drewN' ?_ _))); (try any_goals (first | (with_reducible assumption) | (simp; done) | (simp; omega) | omega)))).mono ?_
        rintro e w' ⟨rfl, rfl⟩
        go_wp2_with fail
        refine (HF.out 4 0 _ (Nat.zero_le _) (by (repeat (first | (with_reducible exact Below.refl _ _) | (with_reducible assumption) | (with_reducible refine Below.drew ?_) | (with_reducible refine Below.allocS ?_ _) | (with_reducible refine Below.setCell ?_ ?_ _) | (with_reducible refine Below.step ?_ (by assumption)) | (with_reducible refine Below.drewN' ?_ _))); (try any_goals (first | (with_reducible assumption) | (simp; done) | (simp; omega) | omega)))).mono ?_
        rintro e w' ⟨rfl, rfl⟩
        rw [H4.out]
        go_wp2
        go_ret2
        exact ⟨rfl, by (repeat (first | (with_reducible exact Below.refl _ _) | (with_reducible assumption) | (with_reducible refine Below.drew ?_) | (with_reducible refine Below.allocS ?_ _) | (with_reducible refine Below.setCell ?_ ?_ _) | (with_reducible refine Below.step ?_ (by assumption)) | (with_reducible refine Below.drewN' ?_ _))); (try any_goals (first | (with_reducible assumption) | (simp; done) | (simp; omega) | omega))⟩
    · have hd : dN l < l.length := find_lt h4
      have hat := dAt_fine h4 p3
      obtain ⟨b, off, rfl, hb0, hc⟩ := hr (by omega)
      have e0 := hc (dN l) hd 0 _ rfl
      have hat' : l[dN l].at' = dAt l := by unfold dAt; rw [List.getD_eq_getElem?_getD, List.getElem?_eq_getElem hd]; rfl
      rw [hat'] at e0
      simp at e0
      have E0 := Lib.hid e0
      have H4 := Lib.hid (show fstN 4 l 0 = dN l from fstN_zero 4 l)
      have hall : (verdV x l = 0 ∧ within (dAt l) (x.noon - x.late) (x.noon + x.late) = true) ∨ (verdV x l = 3 ∧ within (dAt l) (x.noon - x.late) (x.noon + x.late) = false ∧ x.noon + x.again - x.half ≤ dAt l ∧ fstN 6 l 0 < dN l ∧ within (dAt l) (x.noon + x.again - x.late) (x.noon + x.again + x.late) = true) ∨
          ((verdV x l = 1 ∧ fstN 6 l (dN l) < l.length ∨ verdV x l = 2 ∧ l.length ≤ fstN 6 l (dN l)) ∧ within (dAt l) (x.noon - x.late) (x.noon + x.late) = false ∧ (dAt l < x.noon + x.again - x.half ∨ x.noon + x.again - x.half ≤ dAt l ∧ (dN l ≤ fstN 6 l 0 ∨ fstN 6 l 0 < dN l ∧ within (dAt l) (x.noon + x.again - x.late) (x.noon + x.again + x.late) = false))) := by
        have t1 := any_take (isK 6) l (dN l) (by omega)
        have t2 := any_drop (isK 6) l (dN l) (by omega)
        rw [fstN_zero]
        show _ ∨ _ ∨ ((verdV x l = 1 ∧ dN l + (l.drop (dN l)).findIdx (isK 6) < l.length ∨ verdV x l = 2 ∧ l.length ≤ dN l + (l.drop (dN l)).findIdx (isK 6)) ∧ _)
        unfold verdV
        rw [h4, if_pos rfl, t1, t2]
        cases within (dAt l) (x.noon - x.late) (x.noon + x.late)
        · by_cases g2 : x.noon + x.again - x.half ≤ dAt l
          · by_cases g3 : l.findIdx (isK 6) < dN l
            · cases within (dAt l) (x.noon + x.again - x.late) (x.noon + x.again + x.late)
              · by_cases g4 : dN l + (l.drop (dN l)).findIdx (isK 6) < l.length <;> simp [g2, g3, g4] <;> omega
              · simp [g2, g3]
            · by_cases g4 : dN l + (l.drop (dN l)).findIdx (isK 6) < l.length <;> simp [g2, g3, g4] <;> omega
          · by_cases g4 : dN l + (l.drop (dN l)).findIdx (isK 6) < l.length <;> simp [g2, g4] <;> omega
        · simp
      generalize verdV x l = V at *
      generalize hz : fstN 6 l 0 = f6 at *
      generalize hy : fstN 6 l (dN l) = f7 at *
      generalize dAt l = t at *
      generalize dN l = d at *
      have H6 := Lib.hid hz
      have H7 := Lib.hid hy
      have HA := Lib.hid hall
      obtain ⟨n0, n1, f0, fh, h1, hn', l0, l1, a0, a1, na, w0, w1⟩ := HX.out
      obtain ⟨t0, t1⟩ := hat
      clear hall hz hy hc e0 hat' h4 hr p3
      rcases HA.out with ⟨rfl, g1⟩ | ⟨rfl, g1, g2, g3, g4⟩ | ⟨⟨rfl, g5⟩ | ⟨rfl, g5⟩, g1, g2 | ⟨g2, g3 | ⟨g3, g4⟩⟩⟩
      all_goals
        have G1 := Lib.hid g1
        clear HA
        go_enter Try.func22, Try.ntmps22
        go_wp2_with fail
        refine (HRn.out _ (by (repeat (first | exact Below.refl _ _ | refine Below.drew ?_ | refine Below.allocS ?_ _ | refine Below.step ?_ (by assumption) | refine Below.setCell ?_ (by simp <;> omega) _ | refine Below.drewN' ?_ _)))).mono ?_
        rintro e w1 ⟨rfl, hb1⟩
        have x1_0_0 : w1.cell? ⟨w.heap.size, 0, none⟩ = some (.int .i64 x.noon) := keep_cell hb1 (by simp [go_sem, *])
        have x1_0_1 : w1.cell? ⟨w.heap.size, 1, none⟩ = some (.int .i64 x.half) := keep_cell hb1 (by simp [go_sem, *])
        have x1_0_2 : w1.cell? ⟨w.heap.size, 2, none⟩ = some (.int .i64 x.full) := keep_cell hb1 (by simp [go_sem, *])
        have x1_0_3 : w1.cell? ⟨w.heap.size, 3, none⟩ = some (.int .i64 x.late) := keep_cell hb1 (by simp [go_sem, *])
        have x1_0_4 : w1.cell? ⟨w.heap.size, 4, none⟩ = some (.int .i64 x.again) := keep_cell hb1 (by simp [go_sem, *])
        have x1_0_5 : w1.cell? ⟨w.heap.size, 5, none⟩ = some (.int .i64 x.wind) := keep_cell hb1 (by simp [go_sem, *])
        have y1_0 : w.heap.size < w1.heap.size := cell?_lt x1_0_0
        have g1 : Below w.heap.size w w1 := by (repeat (first | exact Below.refl _ _ | refine Below.drew ?_ | refine Below.allocS ?_ _ | refine Below.step ?_ (by assumption) | refine Below.setCell ?_ (by simp <;> omega) _ | refine Below.drewN' ?_ _))
        clear hb1
        have e0 := keep_cell ‹Below w.heap.size w _› E0.out
        have yb : b < w1.heap.size := cell?_lt e0
        go_wp2_with fail
        refine (HF.out 6 0 _ (Nat.zero_le _) (by (repeat (first | (with_reducible exact Below.refl _ _) | (with_reducible assumption) | (with_reducible refine Below.drew ?_) | (with_reducible refine Below.allocS ?_ _) | (with_reducible refine Below.setCell ?_ ?_ _) | (with_reducible refine Below.step ?_ (by assumption)) | (with_reducible refine Below.drewN' ?_ _))); (try any_goals (first | (with_reducible assumption) | (simp; done) | (simp; omega) | omega)))).mono ?_
        rintro e w' ⟨rfl, rfl⟩
        rw [H6.out]
        go_wp2_with fail
        refine (HF.out 4 0 _ (Nat.zero_le _) (by (repeat (first | (with_reducible exact Below.refl _ _) | (with_reducible assumption) | (with_reducible refine Below.drew ?_) | (with_reducible refine Below.allocS ?_ _) | (with_reducible refine Below.setCell ?_ ?_ _) | (with_reducible refine Below.step ?_ (by assumption)) | (with_reducible refine Below.drewN' ?_ _))); (try any_goals (first | (with_reducible assumption) | (simp; done) | (simp; omega) | omega)))).mono ?_
        rintro e w' ⟨rfl, rfl⟩
        rw [H4.out]
        go_wp2_with (first
          | (go_at_call 60; (with_reducible refine (near_c _ _ _ (by omega) (by omega) (by omega) (by omega) _).mono ?_); rintro e w' ⟨rfl, rfl⟩)
          | (go_at_call 59; refine (HF.out 6 d _ (by omega) (by (repeat (first | (with_reducible exact Below.refl _ _) | (with_reducible assumption) | (with_reducible refine Below.drew ?_) | (with_reducible refine Below.allocS ?_ _) | (with_reducible refine Below.setCell ?_ ?_ _) | (with_reducible refine Below.step ?_ (by assumption)) | (with_reducible refine Below.drewN' ?_ _))); (try any_goals (first | (with_reducible assumption) | (simp; done) | (simp; omega) | omega)))).mono ?_; rintro e w' ⟨rfl, rfl⟩; rw [H7.out]))
        go_ret2
        exact ⟨rfl, by (repeat (first | (with_reducible exact Below.refl _ _) | (with_reducible assumption) | (with_reducible refine Below.drew ?_) | (with_reducible refine Below.allocS ?_ _) | (with_reducible refine Below.setCell ?_ ?_ _) | (with_reducible refine Below.step ?_ (by assumption)) | (with_reducible refine Below.drewN' ?_ _))); (try any_goals (first | (with_reducible assumption) | (simp; done) | (simp; omega) | omega))⟩
  · have HV := Lib.hid (show vdV x l = 0 by unfold vdV; rw [if_neg he])
    rw [HV.out]
    generalize vdE x l = E at *
    have hb : (E != 0) = true := by simpa using he
    unfold msV blV at *
    go_enter Try.func22, Try.ntmps22
    go_wp2_with fail
    refine (HRn.out _ (by (repeat (first | exact Below.refl _ _ | refine Below.drew ?_ | refine Below.allocS ?_ _ | refine Below.step ?_ (by assumption) | refine Below.setCell ?_ (by simp <;> omega) _ | refine Below.drewN' ?_ _)))).mono ?_
    rintro e w1 ⟨rfl, hb1⟩
    have x1_0_0 : w1.cell? ⟨w.heap.size, 0, none⟩ = some (.int .i64 x.noon) := keep_cell hb1 (by simp [go_sem, *])
    have x1_0_1 : w1.cell? ⟨w.heap.size, 1, none⟩ = some (.int .i64 x.half) := keep_cell hb1 (by simp [go_sem, *])
    have x1_0_2 : w1.cell? ⟨w.heap.size, 2, none⟩ = some (.int .i64 x.full) := keep_cell hb1 (by simp [go_sem, *])
    have x1_0_3 : w1.cell? ⟨w.heap.size, 3, none⟩ = some (.int .i64 x.late) := keep_cell hb1 (by simp [go_sem, *])
    have x1_0_4 : w1.cell? ⟨w.heap.size, 4, none⟩ = some (.int .i64 x.again) := keep_cell hb1 (by simp [go_sem, *])
    have x1_0_5 : w1.cell? ⟨w.heap.size, 5, none⟩ = some (.int .i64 x.wind) := keep_cell hb1 (by simp [go_sem, *])
    have y1_0 : w.heap.size < w1.heap.size := cell?_lt x1_0_0
    have g1 : Below w.heap.size w w1 := by (repeat (first | exact Below.refl _ _ | refine Below.drew ?_ | refine Below.allocS ?_ _ | refine Below.step ?_ (by assumption) | refine Below.setCell ?_ (by simp <;> omega) _ | refine Below.drewN' ?_ _))
    clear hb1
    go_wp2
    go_ret2
    exact ⟨rfl, by (repeat (first | (with_reducible exact Below.refl _ _) | (with_reducible assumption) | (with_reducible refine Below.drew ?_) | (with_reducible refine Below.allocS ?_ _) | (with_reducible refine Below.setCell ?_ ?_ _) | (with_reducible refine Below.step ?_ (by assumption)) | (with_reducible refine Below.drewN' ?_ _))); (try any_goals (first | (with_reducible assumption) | (simp; done) | (simp; omega) | omega))⟩
end Go.Proofs.Ytcdohibphhbllaa
