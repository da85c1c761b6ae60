/-
  The closures of verdict, and verdict, of ball.
-/
import Derived.Test.YtimbdnngeoccdaaGreatDoorB4
import Derived.Test.YtimbdnngeoccdaaGreatDoorIdx
import Derived.Deep.RegionHeld3
import Derived.IntWalk
import Derived.Deep.DeepCutAuto
import Derived.Outline
namespace Go.Proofs.YtimbdnngeoccdaaGreatDoor
open Go.RowKit
set_option linter.unusedVariables false

set_option maxHeartbeats 1000000 in
theorem IndexFuncEv (l : List Ev) (A : Option Addr) (cap : Nat) (hl : l.length ≤ 9223372036854775807) (fv : Nat) (caps : Array Value) (p : Ev → Bool) (w : World) (hr : RdL w w.heap.size evE 3 A l)
    (hcall : ∀ (args : Array Value) (W : World), (callFunc fv args).run Tryz.prog W = .ok (.enter fv args) W)
    (hf : ∀ x ∈ l, ∀ W, Below w.heap.size w W → Calls Tryz.prog fv (#[.agg #[.int .i64 x.at', .int .i64 x.kind, .int .i64 x.n]] ++ caps) W fun e W' => e = .returned (.bool (p x)) ∧ Below W.heap.size W W') :
    Calls Tryz.prog 74 #[.slice A l.length cap, .func (.func fv) #[] caps] w fun e w' => e = .returned (.int .i64 (idxOf p l 0)) ∧ Below w.heap.size w w' := by
  have HF := Lib.hid hf
  have HR := Lib.hid hr
  clear hf hr
  go_enter Tryz.func74, Tryz.ntmps74
  go_wp2
  go_loopw [5, 8] (fun u i wr => ∃ k : Nat, k ≤ l.length ∧ i = .int .i64 k ∧ Below w.heap.size w wr ∧ idxOf p l 0 = idxOf p (l.drop k) k) (fun u i _ => l.length - (intOf i).toNat)
  case atStart => exact ⟨0, Nat.zero_le _, rfl, Below.refl _ _, rfl⟩
  case round =>
    obtain ⟨k, hk, rfl, hbw, hx⟩ := hrel
    have HX := Lib.hid hx
    clear hx
    by_cases hlt : k < l.length
    · obtain ⟨b, off, rfl, hb0, hc⟩ := HR.out (by omega)
      have c0 := hc k hlt 0 _ rfl
      have c1 := hc k hlt 1 _ rfl
      have c2 := hc k hlt 2 _ rfl
      clear hc
      rw [← hbw.cell (p := ⟨b, _, none⟩) hb0] at c0 c1 c2
      simp at c0
      have hmem : l[k] ∈ l := List.getElem_mem hlt
      have hcc := Lib.hid (HF.out l[k] hmem wr hbw)
      have hd : l.drop k = l[k] :: l.drop (k + 1) := List.drop_eq_getElem_cons hlt
      have HD := Lib.hid hd
      clear hd
      cases hp : p l[k]
      · go_wp2_with fail
        refine hcc.out.mono ?_
        rintro e w1 ⟨rfl, hb⟩
        rw [hp]
        go_wp2
        go_roundw
        case rel => exact ⟨k + 1, by omega, by go_num, Below.step hbw hb, by rw [HX.out, HD.out, idxOf_false _ _ _ _ hp]⟩
        case measure => simp [intOf]; omega
      · go_wp2_with fail
        refine hcc.out.mono ?_
        rintro e w1 ⟨rfl, hb⟩
        rw [hp]
        go_wp2
        go_ret
        exact ⟨by rw [HX.out, HD.out, idxOf_true _ _ _ _ hp]; rfl, Below.step hbw hb⟩
    · obtain rfl : k = l.length := by omega
      go_wp2
      go_ret
      exact ⟨by rw [HX.out]; simp [idxOf], hbw⟩
theorem ContainsFuncEv (l : List Ev) (A : Option Addr) (cap : Nat) (hl : l.length ≤ 9223372036854775807) (fv : Nat) (caps : Array Value) (p : Ev → Bool) (w : World) (hr : RdL w w.heap.size evE 3 A l)
    (hcall : ∀ (args : Array Value) (W : World), (callFunc fv args).run Tryz.prog W = .ok (.enter fv args) W)
    (hf : ∀ x ∈ l, ∀ W, Below w.heap.size w W → Calls Tryz.prog fv (#[.agg #[.int .i64 x.at', .int .i64 x.kind, .int .i64 x.n]] ++ caps) W fun e W' => e = .returned (.bool (p x)) ∧ Below W.heap.size W W') :
    Calls Tryz.prog 71 #[.slice A l.length cap, .func (.func fv) #[] caps] w fun e w' => e = .returned (.bool (l.any p)) ∧ Below w.heap.size w w' := by
  have HI := Lib.hid (IndexFuncEv l A cap hl fv caps p w hr hcall hf)
  have HE := Lib.hid (idxOf_any p l 0)
  clear hf hr hcall
  go_enter Tryz.func71, Tryz.ntmps71
  go_wp2_with (go_at_call 74; refine HI.out.mono ?_; rintro e w1 ⟨rfl, hb⟩)
  go_ret
  exact ⟨by rw [← HE.out]; rfl, hb⟩


/-- Is an event of a kind. -/
def isK (k : Int) (e : Ev) : Bool := e.kind == k
theorem isFlag_c (e : Ev) (w : World) : Calls Tryz.prog 72 #[.agg #[.int .i64 e.at', .int .i64 e.kind, .int .i64 e.n]] w fun r w' => r = .returned (.bool (isK 6 e)) ∧ Below w.heap.size w w' := by
  go_enter Tryz.func72, Tryz.ntmps72
  go_wp2
  go_ret
  exact ⟨rfl, by (repeat (first | exact Below.refl _ _ | refine Below.drew ?_ | refine Below.allocS ?_ _ | refine Below.step ?_ (by assumption) | refine Below.setCell ?_ (by simp <;> omega) _ | refine Below.drewN' ?_ _))⟩
theorem call_isFlag (args : Array Value) (W : World) : (callFunc 72 args).run Tryz.prog W = .ok (.enter 72 args) W := by kernel_rfl
theorem isDrop_c (e : Ev) (w : World) : Calls Tryz.prog 75 #[.agg #[.int .i64 e.at', .int .i64 e.kind, .int .i64 e.n]] w fun r w' => r = .returned (.bool (isK 4 e)) ∧ Below w.heap.size w w' := by
  go_enter Tryz.func75, Tryz.ntmps75
  go_wp2
  go_ret
  exact ⟨rfl, by (repeat (first | exact Below.refl _ _ | refine Below.drew ?_ | refine Below.allocS ?_ _ | refine Below.step ?_ (by assumption) | refine Below.setCell ?_ (by simp <;> omega) _ | refine Below.drewN' ?_ _))⟩
theorem call_isDrop (args : Array Value) (W : World) : (callFunc 75 args).run Tryz.prog W = .ok (.enter 75 args) W := by kernel_rfl

theorem flagged_c (l : List Ev) (n : Nat) (hn : l.length = n) (A : Option Addr) (cap : Nat) (hl : l.length ≤ 9223372036854775807) (w : World) (hr : RdL w w.heap.size evE 3 A l) :
    Calls Tryz.prog 70 #[.slice A n cap] w fun e w' => e = .returned (.bool (l.any (isK 6))) ∧ Below w.heap.size w w' := by
  subst hn
  have HC := Lib.hid (ContainsFuncEv l A cap hl _ #[] (isK 6) w hr call_isFlag (fun x _ W _ => by simpa using isFlag_c x W))
  clear hr
  go_enter Tryz.func70, Tryz.ntmps70
  go_wp2_with (go_at_call 71; refine HC.out.mono ?_; rintro e w1 ⟨rfl, hb⟩)
  go_ret
  exact ⟨rfl, hb⟩
theorem intime_c (a n late : Int) (hn : 0 ≤ n) (hn1 : n < 200000000) (hl0 : 0 ≤ late) (hl1 : late ≤ 1000) (bx : Nat) (w : World) (d3 : w.cell? ⟨bx, 3, none⟩ = some (.int .i64 late)) :
    Calls Tryz.prog 73 #[.int .i64 a, .int .i64 n, .pointer (some ⟨bx, 0, none⟩)] w fun e w' => e = .returned (.bool (within a (n - late) (n + late))) ∧ w = w' := by
  have y1 := cell?_lt d3
  go_enter Tryz.func73, Tryz.ntmps73
  go_wp2_with (go_at_call 55; (with_reducible refine (within_c _ _ _ _).mono ?_); rintro e w' ⟨rfl, rfl⟩)
  go_ret
  exact ⟨rfl, rfl⟩
theorem intime_q (a n late : Int) (hn : 0 ≤ n) (hn1 : n < 200000000) (hl0 : 0 ≤ late) (hl1 : late ≤ 1000) (bx : Nat) (w : World) (d3 : w.cell? ⟨bx, 3, none⟩ = some (.int .i64 late)) (m : Nat) :
    Calls Tryz.prog 73 #[.int .i64 a, .int .i64 n, .pointer (some ⟨bx, 0, none⟩)] (w.drewN m) fun e w'' => e = .returned (.bool (within a (n - late) (n + late))) ∧ ∃ k, w'' = w.drewN k :=
  Calls.quiet_of_same ((intime_c a n late hn hn1 hl0 hl1 bx (w.drewN m) d3).mono fun _ _ ⟨h1, h2⟩ => ⟨h1, h2.symm⟩)

def dIx (l : List Ev) : Int := idxOf (isK 4) l 0
def dN (l : List Ev) : Nat := l.findIdx (isK 4)
def dAt (l : List Ev) : Int := (l.getD (dN l) ⟨0, 0, 0⟩).at'
def verdV (x : Ms) (l : List Ev) : Int :=
  if l.any (isK 4) then (if within (dAt l) (x.noon - x.late) (x.noon + x.late) then 0 else if decide (x.noon + x.again - x.half ≤ dAt l) && ((l.take (dN l)).any (isK 6) && within (dAt l) (x.noon + x.again - x.late) (x.noon + x.again + x.late)) then 3 else if (l.drop (dN l)).any (isK 6) then 1 else 2)
  else if l.any (isK 6) then 4 else 5

theorem verdict_none (x : Ms) (l : List Ev) (h4 : l.any (isK 4) = false) (A : Option Addr) (cap : Nat) (hl : l.length ≤ 9223372036854775807) (w : World) (hr : RdL w w.heap.size evE 3 A l) :
    Calls Tryz.prog 45 #[msV x, .slice A l.length cap] w fun e w' => e = .returned (.tuple #[.int .i64 (verdV x l), .int .i64 (dIx l)]) ∧ Below w.heap.size w w' := by
  have HV := Lib.hid (show verdV x l = if l.any (isK 6) then 4 else 5 by unfold verdV; rw [h4]; rfl)
  have HD := Lib.hid (idxOf_no (isK 4) l 0 h4)
  unfold dIx
  rw [HV.out, HD.out]
  have HR := Lib.hid hr
  have HI := Lib.hid (fun W (hb : Below w.heap.size w W) => IndexFuncEv l A cap hl _ #[] (isK 4) W (HR.out.step hb) call_isDrop (fun x _ W _ => by simpa using isDrop_c x W))
  rw [HD.out] at HI
  have HF := Lib.hid (fun W (hb : Below w.heap.size w W) => flagged_c l _ rfl A cap hl W (HR.out.step hb))
  unfold msV
  cases h6 : l.any (isK 6)
  all_goals
    rw [h6] at HF
    clear hr h4 h6
    go_enter Tryz.func45, Tryz.ntmps45
    go_wp2_with fail
    refine (HI.out _ (by (repeat (first | exact Below.refl _ _ | refine Below.drew ?_ | refine Below.allocS ?_ _ | refine Below.step ?_ (by assumption) | refine Below.setCell ?_ (by simp <;> omega) _ | refine Below.drewN' ?_ _)))).mono ?_
    rintro e w1 ⟨rfl, hb1⟩
    have x1_0_0 : w1.cell? ⟨w.heap.size, 0, none⟩ = some (.int .i64 x.noon) := keep_cell hb1 (by simp [go_sem, *])
    have x1_0_1 : w1.cell? ⟨w.heap.size, 1, none⟩ = some (.int .i64 x.half) := keep_cell hb1 (by simp [go_sem, *])
    have x1_0_2 : w1.cell? ⟨w.heap.size, 2, none⟩ = some (.int .i64 x.full) := keep_cell hb1 (by simp [go_sem, *])
    have x1_0_3 : w1.cell? ⟨w.heap.size, 3, none⟩ = some (.int .i64 x.late) := keep_cell hb1 (by simp [go_sem, *])
    have x1_0_4 : w1.cell? ⟨w.heap.size, 4, none⟩ = some (.int .i64 x.again) := keep_cell hb1 (by simp [go_sem, *])
    have x1_0_5 : w1.cell? ⟨w.heap.size, 5, none⟩ = some (.int .i64 x.wind) := keep_cell hb1 (by simp [go_sem, *])
    have y1_0 : w.heap.size < w1.heap.size := cell?_lt x1_0_0
    have g1 : Below w.heap.size w w1 := by (repeat (first | exact Below.refl _ _ | refine Below.drew ?_ | refine Below.allocS ?_ _ | refine Below.step ?_ (by assumption) | refine Below.setCell ?_ (by simp <;> omega) _ | refine Below.drewN' ?_ _))
    clear hb1
    go_wp2_with fail
    refine (HF.out _ (by (repeat (first | exact Below.refl _ _ | refine Below.drew ?_ | refine Below.allocS ?_ _ | refine Below.step ?_ (by assumption) | refine Below.setCell ?_ (by simp <;> omega) _ | refine Below.drewN' ?_ _)))).mono ?_
    rintro e w2 ⟨rfl, hb2⟩
    have x2_0_0 : w2.cell? ⟨w.heap.size, 0, none⟩ = some (.int .i64 x.noon) := keep_cell hb2 (by simp [go_sem, *])
    have x2_0_1 : w2.cell? ⟨w.heap.size, 1, none⟩ = some (.int .i64 x.half) := keep_cell hb2 (by simp [go_sem, *])
    have x2_0_2 : w2.cell? ⟨w.heap.size, 2, none⟩ = some (.int .i64 x.full) := keep_cell hb2 (by simp [go_sem, *])
    have x2_0_3 : w2.cell? ⟨w.heap.size, 3, none⟩ = some (.int .i64 x.late) := keep_cell hb2 (by simp [go_sem, *])
    have x2_0_4 : w2.cell? ⟨w.heap.size, 4, none⟩ = some (.int .i64 x.again) := keep_cell hb2 (by simp [go_sem, *])
    have x2_0_5 : w2.cell? ⟨w.heap.size, 5, none⟩ = some (.int .i64 x.wind) := keep_cell hb2 (by simp [go_sem, *])
    have y2_0 : w.heap.size < w2.heap.size := cell?_lt x2_0_0
    have g2 : Below w.heap.size w w2 := by (repeat (first | exact Below.refl _ _ | refine Below.drew ?_ | refine Below.allocS ?_ _ | refine Below.step ?_ (by assumption) | refine Below.setCell ?_ (by simp <;> omega) _ | refine Below.drewN' ?_ _))
    clear hb2 g1 x1_0_0 x1_0_1 x1_0_2 x1_0_3 x1_0_4 x1_0_5 y1_0
    go_wp2
    go_ret2
    exact ⟨rfl, by (repeat (first | exact Below.refl _ _ | refine Below.drew ?_ | refine Below.allocS ?_ _ | refine Below.step ?_ (by assumption) | refine Below.setCell ?_ (by simp <;> omega) _ | refine Below.drewN' ?_ _))⟩

set_option maxHeartbeats 2000000 in
set_option maxRecDepth 100000 in
theorem verdict_some (x : Ms) (hx : OkMast x) (l : List Ev) (h4 : l.any (isK 4) = true) (A : Option Addr) (cap : Nat) (hl : l.length ≤ 100) (hcap : l.length ≤ cap) (hcap' : cap ≤ maxLen) (w : World) (hr : RdL w w.heap.size evE 3 A l) :
    Calls Tryz.prog 45 #[msV x, .slice A l.length cap] w fun e w' => e = .returned (.tuple #[.int .i64 (verdV x l), .int .i64 (dIx l)]) ∧ Below w.heap.size w w' := by
  have HV := Lib.hid (show verdV x l = if within (dAt l) (x.noon - x.late) (x.noon + x.late) then 0 else if decide (x.noon + x.again - x.half ≤ dAt l) && ((l.take (dN l)).any (isK 6) && within (dAt l) (x.noon + x.again - x.late) (x.noon + x.again + x.late)) then 3 else if (l.drop (dN l)).any (isK 6) then 1 else 2 by unfold verdV; rw [h4]; rfl)
  have HD := Lib.hid (idxOf_yes (isK 4) l 0 h4)
  unfold dIx
  rw [HV.out, HD.out, Nat.add_zero]
  have hd : dN l < l.length := find_lt h4
  have HR := Lib.hid hr
  have HI := Lib.hid (fun W (hb : Below w.heap.size w W) => IndexFuncEv l A cap (by omega) _ #[] (isK 4) W (HR.out.step hb) call_isDrop (fun x _ W _ => by simpa using isDrop_c x W))
  rw [HD.out, Nat.add_zero] at HI
  obtain ⟨b, off, rfl, hb0, hc⟩ := hr (by omega)
  have e0 := hc (dN l) hd 0 _ rfl
  have hat : l[dN l].at' = dAt l := by unfold dAt; rw [List.getD_eq_getElem?_getD, List.getElem?_eq_getElem hd]; rfl
  rw [hat] at e0
  simp at e0
  have E0 := Lib.hid e0
  have HT := Lib.hid (fun W (hb : Below w.heap.size w W) => flagged_c (l.take (dN l)) (dN l) (by rw [List.length_take]; omega) _ cap (by rw [List.length_take]; omega) W ((HR.out.take (dN l)).step hb))
  have HW := Lib.hid (fun W (hb : Below w.heap.size w W) => flagged_c (l.drop (dN l)) (l.length - dN l) (by rw [List.length_drop]) _ (cap - dN l) (by rw [List.length_drop]; omega) W ((HR.out.drop (dN l)).step hb))
  unfold dN at *
  generalize l.findIdx (isK 4) = d at *
  generalize dAt l = t at *
  generalize (l.take d).any (isK 6) = p1 at *
  generalize (l.drop d).any (isK 6) = p2 at *
  obtain ⟨n0, n1, f0, fh, h1, hn', l0, l1, a0, a1, na, w0, w1⟩ := hx
  unfold msV
  clear hc h4 hat e0
  by_cases g1 : within t (x.noon - x.late) (x.noon + x.late) = true
  · have G1 := Lib.hid g1
    clear g1
    rw [G1.out]
    go_enter Tryz.func45, Tryz.ntmps45
    go_wp2_with fail
    refine (HI.out _ (by (repeat (first | exact Below.refl _ _ | refine Below.drew ?_ | refine Below.allocS ?_ _ | refine Below.step ?_ (by assumption) | refine Below.setCell ?_ (by simp <;> omega) _ | refine Below.drewN' ?_ _)))).mono ?_
    rintro e w1 ⟨rfl, hb1⟩
    have x1_0_0 : w1.cell? ⟨w.heap.size, 0, none⟩ = some (.int .i64 x.noon) := keep_cell hb1 (by simp [go_sem, *])
    have x1_0_1 : w1.cell? ⟨w.heap.size, 1, none⟩ = some (.int .i64 x.half) := keep_cell hb1 (by simp [go_sem, *])
    have x1_0_2 : w1.cell? ⟨w.heap.size, 2, none⟩ = some (.int .i64 x.full) := keep_cell hb1 (by simp [go_sem, *])
    have x1_0_3 : w1.cell? ⟨w.heap.size, 3, none⟩ = some (.int .i64 x.late) := keep_cell hb1 (by simp [go_sem, *])
    have x1_0_4 : w1.cell? ⟨w.heap.size, 4, none⟩ = some (.int .i64 x.again) := keep_cell hb1 (by simp [go_sem, *])
    have x1_0_5 : w1.cell? ⟨w.heap.size, 5, none⟩ = some (.int .i64 x.wind) := keep_cell hb1 (by simp [go_sem, *])
    have y1_0 : w.heap.size < w1.heap.size := cell?_lt x1_0_0
    have g1 : Below w.heap.size w w1 := by (repeat (first | exact Below.refl _ _ | refine Below.drew ?_ | refine Below.allocS ?_ _ | refine Below.step ?_ (by assumption) | refine Below.setCell ?_ (by simp <;> omega) _ | refine Below.drewN' ?_ _))
    clear hb1
    have e0 := keep_cell g1 E0.out
    go_wp2_with fail
    go_quiet ((go_at_call 73; exact intime_q t x.noon x.late (by omega) (by omega) (by omega) (by omega) _ _ x1_0_3 _))
    rw [G1.out]
    obtain ⟨W2, hW2⟩ : ∃ W, w1.drewN nq = W := ⟨_, rfl⟩
    have x2_0 : W2.cell? ⟨w.heap.size, 0, none⟩ = some (.int .i64 x.noon) := by rw [← hW2]; exact x1_0_0
    have x2_1 : W2.cell? ⟨w.heap.size, 1, none⟩ = some (.int .i64 x.half) := by rw [← hW2]; exact x1_0_1
    have x2_3 : W2.cell? ⟨w.heap.size, 3, none⟩ = some (.int .i64 x.late) := by rw [← hW2]; exact x1_0_3
    have x2_4 : W2.cell? ⟨w.heap.size, 4, none⟩ = some (.int .i64 x.again) := by rw [← hW2]; exact x1_0_4
    have e2 : W2.cell? ⟨b, off + d * 3, none⟩ = some (.int .i64 t) := by rw [← hW2]; exact e0
    have b2 : Below w.heap.size w W2 := by rw [← hW2]; exact Below.drewN' g1 _
    rw [hW2]
    clear hW2 x1_0_0 x1_0_1 x1_0_2 x1_0_3 x1_0_4 x1_0_5 e0 g1
    go_wp2
    go_ret2
    exact ⟨rfl, b2⟩
  have G1 := Lib.hid (by simpa using g1 : within t (x.noon - x.late) (x.noon + x.late) = false)
  clear g1
  rw [G1.out]
  by_cases g2 : x.noon + x.again - x.half ≤ t
  · have G2 := Lib.hid (show decide (x.noon + x.again - x.half ≤ t) = true by simpa using g2)
    rw [G2.out]
    have g2' : x.noon + x.again - x.half ≤ t := g2
    clear g2
    cases p1
    · rw [Bool.false_and, Bool.and_false, if_neg (by simp), if_neg (by simp)]
      go_enter Tryz.func45, Tryz.ntmps45
      go_wp2_with fail
      refine (HI.out _ (by (repeat (first | exact Below.refl _ _ | refine Below.drew ?_ | refine Below.allocS ?_ _ | refine Below.step ?_ (by assumption) | refine Below.setCell ?_ (by simp <;> omega) _ | refine Below.drewN' ?_ _)))).mono ?_
      rintro e w1 ⟨rfl, hb1⟩
      have x1_0_0 : w1.cell? ⟨w.heap.size, 0, none⟩ = some (.int .i64 x.noon) := keep_cell hb1 (by simp [go_sem, *])
      have x1_0_1 : w1.cell? ⟨w.heap.size, 1, none⟩ = some (.int .i64 x.half) := keep_cell hb1 (by simp [go_sem, *])
      have x1_0_2 : w1.cell? ⟨w.heap.size, 2, none⟩ = some (.int .i64 x.full) := keep_cell hb1 (by simp [go_sem, *])
      have x1_0_3 : w1.cell? ⟨w.heap.size, 3, none⟩ = some (.int .i64 x.late) := keep_cell hb1 (by simp [go_sem, *])
      have x1_0_4 : w1.cell? ⟨w.heap.size, 4, none⟩ = some (.int .i64 x.again) := keep_cell hb1 (by simp [go_sem, *])
      have x1_0_5 : w1.cell? ⟨w.heap.size, 5, none⟩ = some (.int .i64 x.wind) := keep_cell hb1 (by simp [go_sem, *])
      have y1_0 : w.heap.size < w1.heap.size := cell?_lt x1_0_0
      have g1 : Below w.heap.size w w1 := by (repeat (first | exact Below.refl _ _ | refine Below.drew ?_ | refine Below.allocS ?_ _ | refine Below.step ?_ (by assumption) | refine Below.setCell ?_ (by simp <;> omega) _ | refine Below.drewN' ?_ _))
      clear hb1
      have e0 := keep_cell g1 E0.out
      go_wp2_with fail
      go_quiet ((go_at_call 73; exact intime_q t x.noon x.late (by omega) (by omega) (by omega) (by omega) _ _ x1_0_3 _))
      rw [G1.out]
      obtain ⟨W2, hW2⟩ : ∃ W, w1.drewN nq = W := ⟨_, rfl⟩
      have x2_0 : W2.cell? ⟨w.heap.size, 0, none⟩ = some (.int .i64 x.noon) := by rw [← hW2]; exact x1_0_0
      have x2_1 : W2.cell? ⟨w.heap.size, 1, none⟩ = some (.int .i64 x.half) := by rw [← hW2]; exact x1_0_1
      have x2_3 : W2.cell? ⟨w.heap.size, 3, none⟩ = some (.int .i64 x.late) := by rw [← hW2]; exact x1_0_3
      have x2_4 : W2.cell? ⟨w.heap.size, 4, none⟩ = some (.int .i64 x.again) := by rw [← hW2]; exact x1_0_4
      have e2 : W2.cell? ⟨b, off + d * 3, none⟩ = some (.int .i64 t) := by rw [← hW2]; exact e0
      have b2 : Below w.heap.size w W2 := by rw [← hW2]; exact Below.drewN' g1 _
      rw [hW2]
      clear hW2 x1_0_0 x1_0_1 x1_0_2 x1_0_3 x1_0_4 x1_0_5 e0 g1
      go_wp2_with fail
      have d0 : (0 : Int) ≤ (d : Int) := by omega
      have d1 : (d : Int) ≤ (cap : Int) := by omega
      have d2 : (d : Int) < (l.length : Int) := by omega
      have u1 : 0 ≤ x.noon + x.again := by omega
      have u2 : x.noon + x.again < 200000000 := by omega
      have s1 : IntKind.i64.wrap (x.noon + x.again) = x.noon + x.again := IntWalk.i64_in _ (by omega)
      have s2 : IntKind.i64.wrap (x.noon + x.again - x.half) = x.noon + x.again - x.half := IntWalk.i64_in _ (by omega)
      refine wp_region_held_drew (S := (fun W => W.cell? ⟨w.heap.size, 0, none⟩ = some (.int .i64 x.noon) ∧ W.cell? ⟨w.heap.size, 1, none⟩ = some (.int .i64 x.half) ∧ W.cell? ⟨w.heap.size, 3, none⟩ = some (.int .i64 x.late) ∧ W.cell? ⟨w.heap.size, 4, none⟩ = some (.int .i64 x.again) ∧ W.cell? ⟨b, off + d * 3, none⟩ = some (.int .i64 t) ∧ Below w.heap.size w W)) (by kernel_rfl) ?_ (fun hHeld => ?_); (· exact ⟨x2_0, x2_1, x2_3, x2_4, e2, Below.drew b2⟩)
      (first | (refine wpAnyH_take (i := 0) (oi := ⟨_, _, _, _, _, _⟩) (v := ?_) rfl (by kernel_rfl) (by kernel_rfl) (by kernel_rfl) (fun _ _ _ h => h) (Or.inl ⟨by rfl, ?_⟩) (by assumption) ?_; rotate_left 1; (· (intro w0 hSw; (try dsimp only at hSw); go_simp; (try with_reducible rfl)))) | (refine wpAnyH_take (i := 0) (oi := ⟨_, _, _, _, _, _⟩) (v := undef) rfl (by kernel_rfl) (by kernel_rfl) (by kernel_rfl) (fun _ _ _ h => h) (Or.inr ⟨by rfl, rfl⟩) (by assumption) ?_)); (try simp only [Act.put, List.setIfInBounds_toArray, List.set_cons_zero, List.set_cons_succ])
      (first | (refine wpAnyH_take (i := 1) (oi := ⟨_, _, _, _, _, _⟩) (v := ?_) rfl (by kernel_rfl) (by kernel_rfl) (by kernel_rfl) (fun _ _ _ h => h) (Or.inl ⟨by rfl, ?_⟩) (by assumption) ?_; rotate_left 1; (· (intro w0 hSw; (try dsimp only at hSw); go_simp; (try with_reducible rfl)))) | (refine wpAnyH_take (i := 1) (oi := ⟨_, _, _, _, _, _⟩) (v := undef) rfl (by kernel_rfl) (by kernel_rfl) (by kernel_rfl) (fun _ _ _ h => h) (Or.inr ⟨by rfl, rfl⟩) (by assumption) ?_)); (try simp only [Act.put, List.setIfInBounds_toArray, List.set_cons_zero, List.set_cons_succ])
      (first | (refine wpAnyH_take (i := 2) (oi := ⟨_, _, _, _, _, _⟩) (v := ?_) rfl (by kernel_rfl) (by kernel_rfl) (by kernel_rfl) (fun _ _ _ h => h) (Or.inl ⟨by rfl, ?_⟩) (by assumption) ?_; rotate_left 1; (· (intro w0 hSw; (try dsimp only at hSw); go_simp; (try with_reducible rfl)))) | (refine wpAnyH_take (i := 2) (oi := ⟨_, _, _, _, _, _⟩) (v := undef) rfl (by kernel_rfl) (by kernel_rfl) (by kernel_rfl) (fun _ _ _ h => h) (Or.inr ⟨by rfl, rfl⟩) (by assumption) ?_)); (try simp only [Act.put, List.setIfInBounds_toArray, List.set_cons_zero, List.set_cons_succ])
      (first | (refine wpAnyH_take (i := 3) (oi := ⟨_, _, _, _, _, _⟩) (v := ?_) rfl (by kernel_rfl) (by kernel_rfl) (by kernel_rfl) (fun _ _ _ h => h) (Or.inl ⟨by rfl, ?_⟩) (by assumption) ?_; rotate_left 1; (· (intro w0 hSw; (try dsimp only at hSw); go_simp; (try with_reducible rfl)))) | (refine wpAnyH_take (i := 3) (oi := ⟨_, _, _, _, _, _⟩) (v := undef) rfl (by kernel_rfl) (by kernel_rfl) (by kernel_rfl) (fun _ _ _ h => h) (Or.inr ⟨by rfl, rfl⟩) (by assumption) ?_)); (try simp only [Act.put, List.setIfInBounds_toArray, List.set_cons_zero, List.set_cons_succ])
      (first | (refine wpAnyH_take (i := 4) (oi := ⟨_, _, _, _, _, _⟩) (v := ?_) rfl (by kernel_rfl) (by kernel_rfl) (by kernel_rfl) (fun _ _ _ h => h) (Or.inl ⟨by rfl, ?_⟩) (by assumption) ?_; rotate_left 1; (· (intro w0 hSw; (try dsimp only at hSw); go_simp; (try with_reducible rfl)))) | (refine wpAnyH_take (i := 4) (oi := ⟨_, _, _, _, _, _⟩) (v := undef) rfl (by kernel_rfl) (by kernel_rfl) (by kernel_rfl) (fun _ _ _ h => h) (Or.inr ⟨by rfl, rfl⟩) (by assumption) ?_)); (try simp only [Act.put, List.setIfInBounds_toArray, List.set_cons_zero, List.set_cons_succ])
      (first | (refine wpAnyH_take (i := 5) (oi := ⟨_, _, _, _, _, _⟩) (v := ?_) rfl (by kernel_rfl) (by kernel_rfl) (by kernel_rfl) (fun _ _ _ h => h) (Or.inl ⟨by rfl, ?_⟩) (by assumption) ?_; rotate_left 1; (· (intro w0 hSw; (try dsimp only at hSw); go_simp; (try with_reducible rfl)))) | (refine wpAnyH_take (i := 5) (oi := ⟨_, _, _, _, _, _⟩) (v := undef) rfl (by kernel_rfl) (by kernel_rfl) (by kernel_rfl) (fun _ _ _ h => h) (Or.inr ⟨by rfl, rfl⟩) (by assumption) ?_)); (try simp only [Act.put, List.setIfInBounds_toArray, List.set_cons_zero, List.set_cons_succ])
      (first | (refine wpAnyH_take (i := 6) (oi := ⟨_, _, _, _, _, _⟩) (v := ?_) rfl (by kernel_rfl) (by kernel_rfl) (by kernel_rfl) (fun _ _ _ h => h) (Or.inl ⟨by rfl, ?_⟩) (by assumption) ?_; rotate_left 1; (· (intro w0 hSw; (try dsimp only at hSw); go_simp; (try with_reducible rfl)))) | (refine wpAnyH_take (i := 6) (oi := ⟨_, _, _, _, _, _⟩) (v := undef) rfl (by kernel_rfl) (by kernel_rfl) (by kernel_rfl) (fun _ _ _ h => h) (Or.inr ⟨by rfl, rfl⟩) (by assumption) ?_)); (try simp only [Act.put, List.setIfInBounds_toArray, List.set_cons_zero, List.set_cons_succ])
      (first | (refine wpAnyH_take (i := 7) (oi := ⟨_, _, _, _, _, _⟩) (v := ?_) rfl (by kernel_rfl) (by kernel_rfl) (by kernel_rfl) (fun _ _ _ h => h) (Or.inl ⟨by rfl, ?_⟩) (by assumption) ?_; rotate_left 1; (· (intro w0 hSw; (try dsimp only at hSw); go_simp; (try with_reducible rfl)))) | (refine wpAnyH_take (i := 7) (oi := ⟨_, _, _, _, _, _⟩) (v := undef) rfl (by kernel_rfl) (by kernel_rfl) (by kernel_rfl) (fun _ _ _ h => h) (Or.inr ⟨by rfl, rfl⟩) (by assumption) ?_)); (try simp only [Act.put, List.setIfInBounds_toArray, List.set_cons_zero, List.set_cons_succ])
      (first | (refine wpAnyH_take (i := 8) (oi := ⟨_, _, _, _, _, _⟩) (v := ?_) rfl (by kernel_rfl) (by kernel_rfl) (by kernel_rfl) (fun _ _ _ h => h) (Or.inl ⟨by rfl, ?_⟩) (by assumption) ?_; rotate_left 1; (· (intro w0 hSw; (try dsimp only at hSw); go_simp; (try with_reducible rfl)))) | (refine wpAnyH_take (i := 8) (oi := ⟨_, _, _, _, _, _⟩) (v := undef) rfl (by kernel_rfl) (by kernel_rfl) (by kernel_rfl) (fun _ _ _ h => h) (Or.inr ⟨by rfl, rfl⟩) (by assumption) ?_)); (try simp only [Act.put, List.setIfInBounds_toArray, List.set_cons_zero, List.set_cons_succ])
      (first | (refine wpAnyH_take (i := 9) (oi := ⟨_, _, _, _, _, _⟩) (v := ?_) rfl (by kernel_rfl) (by kernel_rfl) (by kernel_rfl) (fun _ _ _ h => h) (Or.inl ⟨by rfl, ?_⟩) (by assumption) ?_; rotate_left 1; (· (intro w0 hSw; (try dsimp only at hSw); go_simp; (try with_reducible rfl)))) | (refine wpAnyH_take (i := 9) (oi := ⟨_, _, _, _, _, _⟩) (v := undef) rfl (by kernel_rfl) (by kernel_rfl) (by kernel_rfl) (fun _ _ _ h => h) (Or.inr ⟨by rfl, rfl⟩) (by assumption) ?_)); (try simp only [Act.put, List.setIfInBounds_toArray, List.set_cons_zero, List.set_cons_succ])
      (first | (refine wpAnyH_take (i := 10) (oi := ⟨_, _, _, _, _, _⟩) (v := ?_) rfl (by kernel_rfl) (by kernel_rfl) (by kernel_rfl) (fun _ _ _ h => h) (Or.inl ⟨by rfl, ?_⟩) (by assumption) ?_; rotate_left 1; (· (intro w0 hSw; (try dsimp only at hSw); go_simp; (try with_reducible rfl)))) | (refine wpAnyH_take (i := 10) (oi := ⟨_, _, _, _, _, _⟩) (v := undef) rfl (by kernel_rfl) (by kernel_rfl) (by kernel_rfl) (fun _ _ _ h => h) (Or.inr ⟨by rfl, rfl⟩) (by assumption) ?_)); (try simp only [Act.put, List.setIfInBounds_toArray, List.set_cons_zero, List.set_cons_succ])
      (first | (refine wpAnyH_take (i := 11) (oi := ⟨_, _, _, _, _, _⟩) (v := ?_) rfl (by kernel_rfl) (by kernel_rfl) (by kernel_rfl) (fun _ _ _ h => h) (Or.inl ⟨by rfl, ?_⟩) (by assumption) ?_; rotate_left 1; (· (intro w0 hSw; (try dsimp only at hSw); go_simp; (try with_reducible rfl)))) | (refine wpAnyH_take (i := 11) (oi := ⟨_, _, _, _, _, _⟩) (v := undef) rfl (by kernel_rfl) (by kernel_rfl) (by kernel_rfl) (fun _ _ _ h => h) (Or.inr ⟨by rfl, rfl⟩) (by assumption) ?_)); (try simp only [Act.put, List.setIfInBounds_toArray, List.set_cons_zero, List.set_cons_succ])
      (first | (refine wpAnyH_take (i := 12) (oi := ⟨_, _, _, _, _, _⟩) (v := ?_) rfl (by kernel_rfl) (by kernel_rfl) (by kernel_rfl) (fun _ _ _ h => h) (Or.inl ⟨by rfl, ?_⟩) (by assumption) ?_; rotate_left 1; (· (intro w0 hSw; (try dsimp only at hSw); go_simp; (try with_reducible rfl)))) | (refine wpAnyH_take (i := 12) (oi := ⟨_, _, _, _, _, _⟩) (v := undef) rfl (by kernel_rfl) (by kernel_rfl) (by kernel_rfl) (fun _ _ _ h => h) (Or.inr ⟨by rfl, rfl⟩) (by assumption) ?_)); (try simp only [Act.put, List.setIfInBounds_toArray, List.set_cons_zero, List.set_cons_succ])
      (first | (refine wpAnyH_take (i := 13) (oi := ⟨_, _, _, _, _, _⟩) (v := ?_) rfl (by kernel_rfl) (by kernel_rfl) (by kernel_rfl) (fun _ _ _ h => h) (Or.inl ⟨by rfl, ?_⟩) (by assumption) ?_; rotate_left 1; (· (intro w0 hSw; (try dsimp only at hSw); go_simp; (try with_reducible rfl)))) | (refine wpAnyH_take (i := 13) (oi := ⟨_, _, _, _, _, _⟩) (v := undef) rfl (by kernel_rfl) (by kernel_rfl) (by kernel_rfl) (fun _ _ _ h => h) (Or.inr ⟨by rfl, rfl⟩) (by assumption) ?_)); (try simp only [Act.put, List.setIfInBounds_toArray, List.set_cons_zero, List.set_cons_succ])
      (first | (refine wpAnyH_take (i := 14) (oi := ⟨_, _, _, _, _, _⟩) (v := ?_) rfl (by kernel_rfl) (by kernel_rfl) (by kernel_rfl) (fun _ _ _ h => h) (Or.inl ⟨by rfl, ?_⟩) (by assumption) ?_; rotate_left 1; (· (intro w0 hSw; (try dsimp only at hSw); go_simp; (try with_reducible rfl)))) | (refine wpAnyH_take (i := 14) (oi := ⟨_, _, _, _, _, _⟩) (v := undef) rfl (by kernel_rfl) (by kernel_rfl) (by kernel_rfl) (fun _ _ _ h => h) (Or.inr ⟨by rfl, rfl⟩) (by assumption) ?_)); (try simp only [Act.put, List.setIfInBounds_toArray, List.set_cons_zero, List.set_cons_succ])
      (first | (refine wpAnyH_take (i := 15) (oi := ⟨_, _, _, _, _, _⟩) (v := ?_) rfl (by kernel_rfl) (by kernel_rfl) (by kernel_rfl) (fun _ _ _ h => h) (Or.inl ⟨by rfl, ?_⟩) (by assumption) ?_; rotate_left 1; (· (intro w0 hSw; (try dsimp only at hSw); go_simp; (try with_reducible rfl)))) | (refine wpAnyH_take (i := 15) (oi := ⟨_, _, _, _, _, _⟩) (v := undef) rfl (by kernel_rfl) (by kernel_rfl) (by kernel_rfl) (fun _ _ _ h => h) (Or.inr ⟨by rfl, rfl⟩) (by assumption) ?_)); (try simp only [Act.put, List.setIfInBounds_toArray, List.set_cons_zero, List.set_cons_succ])
      (first | (refine wpAnyH_take (i := 16) (oi := ⟨_, _, _, _, _, _⟩) (v := ?_) rfl (by kernel_rfl) (by kernel_rfl) (by kernel_rfl) (fun _ _ _ h => h) (Or.inl ⟨by rfl, ?_⟩) (by assumption) ?_; rotate_left 1; (· (intro w0 hSw; (try dsimp only at hSw); go_simp; (try with_reducible rfl)))) | (refine wpAnyH_take (i := 16) (oi := ⟨_, _, _, _, _, _⟩) (v := undef) rfl (by kernel_rfl) (by kernel_rfl) (by kernel_rfl) (fun _ _ _ h => h) (Or.inr ⟨by rfl, rfl⟩) (by assumption) ?_)); (try simp only [Act.put, List.setIfInBounds_toArray, List.set_cons_zero, List.set_cons_succ])
      (first | (refine wpAnyH_take (i := 17) (oi := ⟨_, _, _, _, _, _⟩) (v := ?_) rfl (by kernel_rfl) (by kernel_rfl) (by kernel_rfl) (fun _ _ _ h => h) (Or.inl ⟨by rfl, ?_⟩) (by assumption) ?_; rotate_left 1; (· (intro w0 hSw; (try dsimp only at hSw); go_simp; (try with_reducible rfl)))) | (refine wpAnyH_take (i := 17) (oi := ⟨_, _, _, _, _, _⟩) (v := undef) rfl (by kernel_rfl) (by kernel_rfl) (by kernel_rfl) (fun _ _ _ h => h) (Or.inr ⟨by rfl, rfl⟩) (by assumption) ?_)); (try simp only [Act.put, List.setIfInBounds_toArray, List.set_cons_zero, List.set_cons_succ])
      (first | (refine wpAnyH_take (i := 18) (oi := ⟨_, _, _, _, _, _⟩) (v := ?_) rfl (by kernel_rfl) (by kernel_rfl) (by kernel_rfl) (fun _ _ _ h => h) (Or.inl ⟨by rfl, ?_⟩) (by assumption) ?_; rotate_left 1; (· (intro w0 hSw; (try dsimp only at hSw); go_simp; (try with_reducible rfl)))) | (refine wpAnyH_take (i := 18) (oi := ⟨_, _, _, _, _, _⟩) (v := undef) rfl (by kernel_rfl) (by kernel_rfl) (by kernel_rfl) (fun _ _ _ h => h) (Or.inr ⟨by rfl, rfl⟩) (by assumption) ?_)); (try simp only [Act.put, List.setIfInBounds_toArray, List.set_cons_zero, List.set_cons_succ])
      refine wpAnyH_ready (rs := [19]) (by kernel_rfl) (by simp) ?_
      refine AllReadyH.cons (o := ⟨_, _, _, _, _, _⟩) rfl (fun K hK => ?_) AllReadyH.nil
      go_simp
      go_at_call 70; refine (HT.out _ ((fun (h : _ ∧ _ ∧ _ ∧ _ ∧ _ ∧ Below w.heap.size w _) => h.2.2.2.2.2) (by assumption))).mono ?_; rintro e w3 ⟨rfl, hb⟩
      (try go_wp2_with fail)
      refine hK.out _ _ ?_ (fun hHeld => ?_)
      · ((exact And.imp (keep_cell (by assumption)) (And.imp (keep_cell (by assumption)) (And.imp (keep_cell (by assumption)) (And.imp (keep_cell (by assumption)) (And.imp (keep_cell (by assumption)) (fun h => Below.step h (by assumption)))))) (by assumption)))
      clear hK K
      (try simp only [Act.put, List.setIfInBounds_toArray, List.set_cons_zero, List.set_cons_succ])
      (first | (refine wpAnyH_take (i := 20) (oi := ⟨_, _, _, _, _, _⟩) (v := ?_) rfl (by kernel_rfl) (by kernel_rfl) (by kernel_rfl) (fun _ _ _ h => h) (Or.inl ⟨by rfl, ?_⟩) (by assumption) ?_; rotate_left 1; (· (intro w0 hSw; (try dsimp only at hSw); go_simp; (try with_reducible rfl)))) | (refine wpAnyH_take (i := 20) (oi := ⟨_, _, _, _, _, _⟩) (v := undef) rfl (by kernel_rfl) (by kernel_rfl) (by kernel_rfl) (fun _ _ _ h => h) (Or.inr ⟨by rfl, rfl⟩) (by assumption) ?_)); (try simp only [Act.put, List.setIfInBounds_toArray, List.set_cons_zero, List.set_cons_succ])
      (first | (refine wpAnyH_take (i := 21) (oi := ⟨_, _, _, _, _, _⟩) (v := ?_) rfl (by kernel_rfl) (by kernel_rfl) (by kernel_rfl) (fun _ _ _ h => h) (Or.inl ⟨by rfl, ?_⟩) (by assumption) ?_; rotate_left 1; (· (intro w0 hSw; (try dsimp only at hSw); go_simp; (try with_reducible rfl)))) | (refine wpAnyH_take (i := 21) (oi := ⟨_, _, _, _, _, _⟩) (v := undef) rfl (by kernel_rfl) (by kernel_rfl) (by kernel_rfl) (fun _ _ _ h => h) (Or.inr ⟨by rfl, rfl⟩) (by assumption) ?_)); (try simp only [Act.put, List.setIfInBounds_toArray, List.set_cons_zero, List.set_cons_succ])
      (first | (refine wpAnyH_take (i := 22) (oi := ⟨_, _, _, _, _, _⟩) (v := ?_) rfl (by kernel_rfl) (by kernel_rfl) (by kernel_rfl) (fun _ _ _ h => h) (Or.inl ⟨by rfl, ?_⟩) (by assumption) ?_; rotate_left 1; (· (intro w0 hSw; (try dsimp only at hSw); go_simp; (try with_reducible rfl)))) | (refine wpAnyH_take (i := 22) (oi := ⟨_, _, _, _, _, _⟩) (v := undef) rfl (by kernel_rfl) (by kernel_rfl) (by kernel_rfl) (fun _ _ _ h => h) (Or.inr ⟨by rfl, rfl⟩) (by assumption) ?_)); (try simp only [Act.put, List.setIfInBounds_toArray, List.set_cons_zero, List.set_cons_succ])
      (first | (refine wpAnyH_take (i := 23) (oi := ⟨_, _, _, _, _, _⟩) (v := ?_) rfl (by kernel_rfl) (by kernel_rfl) (by kernel_rfl) (fun _ _ _ h => h) (Or.inl ⟨by rfl, ?_⟩) (by assumption) ?_; rotate_left 1; (· (intro w0 hSw; (try dsimp only at hSw); go_simp; (try with_reducible rfl)))) | (refine wpAnyH_take (i := 23) (oi := ⟨_, _, _, _, _, _⟩) (v := undef) rfl (by kernel_rfl) (by kernel_rfl) (by kernel_rfl) (fun _ _ _ h => h) (Or.inr ⟨by rfl, rfl⟩) (by assumption) ?_)); (try simp only [Act.put, List.setIfInBounds_toArray, List.set_cons_zero, List.set_cons_succ])
      (first | (refine wpAnyH_take (i := 24) (oi := ⟨_, _, _, _, _, _⟩) (v := ?_) rfl (by kernel_rfl) (by kernel_rfl) (by kernel_rfl) (fun _ _ _ h => h) (Or.inl ⟨by rfl, ?_⟩) (by assumption) ?_; rotate_left 1; (· (intro w0 hSw; (try dsimp only at hSw); go_simp; (try with_reducible rfl)))) | (refine wpAnyH_take (i := 24) (oi := ⟨_, _, _, _, _, _⟩) (v := undef) rfl (by kernel_rfl) (by kernel_rfl) (by kernel_rfl) (fun _ _ _ h => h) (Or.inr ⟨by rfl, rfl⟩) (by assumption) ?_)); (try simp only [Act.put, List.setIfInBounds_toArray, List.set_cons_zero, List.set_cons_succ])
      (first | (refine wpAnyH_take (i := 25) (oi := ⟨_, _, _, _, _, _⟩) (v := ?_) rfl (by kernel_rfl) (by kernel_rfl) (by kernel_rfl) (fun _ _ _ h => h) (Or.inl ⟨by rfl, ?_⟩) (by assumption) ?_; rotate_left 1; (· (intro w0 hSw; (try dsimp only at hSw); go_simp; (try with_reducible rfl)))) | (refine wpAnyH_take (i := 25) (oi := ⟨_, _, _, _, _, _⟩) (v := undef) rfl (by kernel_rfl) (by kernel_rfl) (by kernel_rfl) (fun _ _ _ h => h) (Or.inr ⟨by rfl, rfl⟩) (by assumption) ?_)); (try simp only [Act.put, List.setIfInBounds_toArray, List.set_cons_zero, List.set_cons_succ])
      (first | (refine wpAnyH_take (i := 26) (oi := ⟨_, _, _, _, _, _⟩) (v := ?_) rfl (by kernel_rfl) (by kernel_rfl) (by kernel_rfl) (fun _ _ _ h => h) (Or.inl ⟨by rfl, ?_⟩) (by assumption) ?_; rotate_left 1; (· (intro w0 hSw; (try dsimp only at hSw); go_simp; (try with_reducible rfl)))) | (refine wpAnyH_take (i := 26) (oi := ⟨_, _, _, _, _, _⟩) (v := undef) rfl (by kernel_rfl) (by kernel_rfl) (by kernel_rfl) (fun _ _ _ h => h) (Or.inr ⟨by rfl, rfl⟩) (by assumption) ?_)); (try simp only [Act.put, List.setIfInBounds_toArray, List.set_cons_zero, List.set_cons_succ])
      (first | (refine wpAnyH_take (i := 27) (oi := ⟨_, _, _, _, _, _⟩) (v := ?_) rfl (by kernel_rfl) (by kernel_rfl) (by kernel_rfl) (fun _ _ _ h => h) (Or.inl ⟨by rfl, ?_⟩) (by assumption) ?_; rotate_left 1; (· (intro w0 hSw; (try dsimp only at hSw); go_simp; (try with_reducible rfl)))) | (refine wpAnyH_take (i := 27) (oi := ⟨_, _, _, _, _, _⟩) (v := undef) rfl (by kernel_rfl) (by kernel_rfl) (by kernel_rfl) (fun _ _ _ h => h) (Or.inr ⟨by rfl, rfl⟩) (by assumption) ?_)); (try simp only [Act.put, List.setIfInBounds_toArray, List.set_cons_zero, List.set_cons_succ])
      (first | (refine wpAnyH_take (i := 28) (oi := ⟨_, _, _, _, _, _⟩) (v := ?_) rfl (by kernel_rfl) (by kernel_rfl) (by kernel_rfl) (fun _ _ _ h => h) (Or.inl ⟨by rfl, ?_⟩) (by assumption) ?_; rotate_left 1; (· (intro w0 hSw; (try dsimp only at hSw); go_simp; (try with_reducible rfl)))) | (refine wpAnyH_take (i := 28) (oi := ⟨_, _, _, _, _, _⟩) (v := undef) rfl (by kernel_rfl) (by kernel_rfl) (by kernel_rfl) (fun _ _ _ h => h) (Or.inr ⟨by rfl, rfl⟩) (by assumption) ?_)); (try simp only [Act.put, List.setIfInBounds_toArray, List.set_cons_zero, List.set_cons_succ])
      (first | (refine wpAnyH_take (i := 29) (oi := ⟨_, _, _, _, _, _⟩) (v := ?_) rfl (by kernel_rfl) (by kernel_rfl) (by kernel_rfl) (fun _ _ _ h => h) (Or.inl ⟨by rfl, ?_⟩) (by assumption) ?_; rotate_left 1; (· (intro w0 hSw; (try dsimp only at hSw); go_simp; (try with_reducible rfl)))) | (refine wpAnyH_take (i := 29) (oi := ⟨_, _, _, _, _, _⟩) (v := undef) rfl (by kernel_rfl) (by kernel_rfl) (by kernel_rfl) (fun _ _ _ h => h) (Or.inr ⟨by rfl, rfl⟩) (by assumption) ?_)); (try simp only [Act.put, List.setIfInBounds_toArray, List.set_cons_zero, List.set_cons_succ])
      (first | (refine wpAnyH_take (i := 30) (oi := ⟨_, _, _, _, _, _⟩) (v := ?_) rfl (by kernel_rfl) (by kernel_rfl) (by kernel_rfl) (fun _ _ _ h => h) (Or.inl ⟨by rfl, ?_⟩) (by assumption) ?_; rotate_left 1; (· (intro w0 hSw; (try dsimp only at hSw); go_simp; (try with_reducible rfl)))) | (refine wpAnyH_take (i := 30) (oi := ⟨_, _, _, _, _, _⟩) (v := undef) rfl (by kernel_rfl) (by kernel_rfl) (by kernel_rfl) (fun _ _ _ h => h) (Or.inr ⟨by rfl, rfl⟩) (by assumption) ?_)); (try simp only [Act.put, List.setIfInBounds_toArray, List.set_cons_zero, List.set_cons_succ])
      (first | (refine wpAnyH_take (i := 31) (oi := ⟨_, _, _, _, _, _⟩) (v := ?_) rfl (by kernel_rfl) (by kernel_rfl) (by kernel_rfl) (fun _ _ _ h => h) (Or.inl ⟨by rfl, ?_⟩) (by assumption) ?_; rotate_left 1; (· (intro w0 hSw; (try dsimp only at hSw); go_simp; (try with_reducible rfl)))) | (refine wpAnyH_take (i := 31) (oi := ⟨_, _, _, _, _, _⟩) (v := undef) rfl (by kernel_rfl) (by kernel_rfl) (by kernel_rfl) (fun _ _ _ h => h) (Or.inr ⟨by rfl, rfl⟩) (by assumption) ?_)); (try simp only [Act.put, List.setIfInBounds_toArray, List.set_cons_zero, List.set_cons_succ])
      (first | (refine wpAnyH_take (i := 32) (oi := ⟨_, _, _, _, _, _⟩) (v := ?_) rfl (by kernel_rfl) (by kernel_rfl) (by kernel_rfl) (fun _ _ _ h => h) (Or.inl ⟨by rfl, ?_⟩) (by assumption) ?_; rotate_left 1; (· (intro w0 hSw; (try dsimp only at hSw); go_simp; (try with_reducible rfl)))) | (refine wpAnyH_take (i := 32) (oi := ⟨_, _, _, _, _, _⟩) (v := undef) rfl (by kernel_rfl) (by kernel_rfl) (by kernel_rfl) (fun _ _ _ h => h) (Or.inr ⟨by rfl, rfl⟩) (by assumption) ?_)); (try simp only [Act.put, List.setIfInBounds_toArray, List.set_cons_zero, List.set_cons_succ])
      (first | (refine wpAnyH_take (i := 33) (oi := ⟨_, _, _, _, _, _⟩) (v := ?_) rfl (by kernel_rfl) (by kernel_rfl) (by kernel_rfl) (fun _ _ _ h => h) (Or.inl ⟨by rfl, ?_⟩) (by assumption) ?_; rotate_left 1; (· (intro w0 hSw; (try dsimp only at hSw); go_simp; (try with_reducible rfl)))) | (refine wpAnyH_take (i := 33) (oi := ⟨_, _, _, _, _, _⟩) (v := undef) rfl (by kernel_rfl) (by kernel_rfl) (by kernel_rfl) (fun _ _ _ h => h) (Or.inr ⟨by rfl, rfl⟩) (by assumption) ?_)); (try simp only [Act.put, List.setIfInBounds_toArray, List.set_cons_zero, List.set_cons_succ])
      (first | (refine wpAnyH_take (i := 34) (oi := ⟨_, _, _, _, _, _⟩) (v := ?_) rfl (by kernel_rfl) (by kernel_rfl) (by kernel_rfl) (fun _ _ _ h => h) (Or.inl ⟨by rfl, ?_⟩) (by assumption) ?_; rotate_left 1; (· (intro w0 hSw; (try dsimp only at hSw); go_simp; (try with_reducible rfl)))) | (refine wpAnyH_take (i := 34) (oi := ⟨_, _, _, _, _, _⟩) (v := undef) rfl (by kernel_rfl) (by kernel_rfl) (by kernel_rfl) (fun _ _ _ h => h) (Or.inr ⟨by rfl, rfl⟩) (by assumption) ?_)); (try simp only [Act.put, List.setIfInBounds_toArray, List.set_cons_zero, List.set_cons_succ])
      (first | (refine wpAnyH_take (i := 35) (oi := ⟨_, _, _, _, _, _⟩) (v := ?_) rfl (by kernel_rfl) (by kernel_rfl) (by kernel_rfl) (fun _ _ _ h => h) (Or.inl ⟨by rfl, ?_⟩) (by assumption) ?_; rotate_left 1; (· (intro w0 hSw; (try dsimp only at hSw); go_simp; (try with_reducible rfl)))) | (refine wpAnyH_take (i := 35) (oi := ⟨_, _, _, _, _, _⟩) (v := undef) rfl (by kernel_rfl) (by kernel_rfl) (by kernel_rfl) (fun _ _ _ h => h) (Or.inr ⟨by rfl, rfl⟩) (by assumption) ?_)); (try simp only [Act.put, List.setIfInBounds_toArray, List.set_cons_zero, List.set_cons_succ])
      refine wpAnyH_done (by kernel_rfl) ?_ _
      clear s1 s2
      cases p2
      all_goals
        go_wp2_with fail
        refine (HW.out _ ((fun (h : _ ∧ _ ∧ _ ∧ _ ∧ _ ∧ Below w.heap.size w _) => h.2.2.2.2.2) (by assumption))).mono ?_
        rintro e w4 ⟨rfl, hb4⟩
        have hB := Below.step ((fun (h : _ ∧ _ ∧ _ ∧ _ ∧ _ ∧ Below w.heap.size w _) => h.2.2.2.2.2) (by assumption)) hb4
        go_wp2
        go_ret2
        exact ⟨rfl, hB⟩
    · cases g3 : within t (x.noon + x.again - x.late) (x.noon + x.again + x.late)
      · have G3 := Lib.hid g3
        clear g3
        rw [Bool.and_false, Bool.and_false, if_neg (by simp), if_neg (by simp)]
        go_enter Tryz.func45, Tryz.ntmps45
        go_wp2_with fail
        refine (HI.out _ (by (repeat (first | exact Below.refl _ _ | refine Below.drew ?_ | refine Below.allocS ?_ _ | refine Below.step ?_ (by assumption) | refine Below.setCell ?_ (by simp <;> omega) _ | refine Below.drewN' ?_ _)))).mono ?_
        rintro e w1 ⟨rfl, hb1⟩
        have x1_0_0 : w1.cell? ⟨w.heap.size, 0, none⟩ = some (.int .i64 x.noon) := keep_cell hb1 (by simp [go_sem, *])
        have x1_0_1 : w1.cell? ⟨w.heap.size, 1, none⟩ = some (.int .i64 x.half) := keep_cell hb1 (by simp [go_sem, *])
        have x1_0_2 : w1.cell? ⟨w.heap.size, 2, none⟩ = some (.int .i64 x.full) := keep_cell hb1 (by simp [go_sem, *])
        have x1_0_3 : w1.cell? ⟨w.heap.size, 3, none⟩ = some (.int .i64 x.late) := keep_cell hb1 (by simp [go_sem, *])
        have x1_0_4 : w1.cell? ⟨w.heap.size, 4, none⟩ = some (.int .i64 x.again) := keep_cell hb1 (by simp [go_sem, *])
        have x1_0_5 : w1.cell? ⟨w.heap.size, 5, none⟩ = some (.int .i64 x.wind) := keep_cell hb1 (by simp [go_sem, *])
        have y1_0 : w.heap.size < w1.heap.size := cell?_lt x1_0_0
        have g1 : Below w.heap.size w w1 := by (repeat (first | exact Below.refl _ _ | refine Below.drew ?_ | refine Below.allocS ?_ _ | refine Below.step ?_ (by assumption) | refine Below.setCell ?_ (by simp <;> omega) _ | refine Below.drewN' ?_ _))
        clear hb1
        have e0 := keep_cell g1 E0.out
        go_wp2_with fail
        go_quiet ((go_at_call 73; exact intime_q t x.noon x.late (by omega) (by omega) (by omega) (by omega) _ _ x1_0_3 _))
        rw [G1.out]
        obtain ⟨W2, hW2⟩ : ∃ W, w1.drewN nq = W := ⟨_, rfl⟩
        have x2_0 : W2.cell? ⟨w.heap.size, 0, none⟩ = some (.int .i64 x.noon) := by rw [← hW2]; exact x1_0_0
        have x2_1 : W2.cell? ⟨w.heap.size, 1, none⟩ = some (.int .i64 x.half) := by rw [← hW2]; exact x1_0_1
        have x2_3 : W2.cell? ⟨w.heap.size, 3, none⟩ = some (.int .i64 x.late) := by rw [← hW2]; exact x1_0_3
        have x2_4 : W2.cell? ⟨w.heap.size, 4, none⟩ = some (.int .i64 x.again) := by rw [← hW2]; exact x1_0_4
        have e2 : W2.cell? ⟨b, off + d * 3, none⟩ = some (.int .i64 t) := by rw [← hW2]; exact e0
        have b2 : Below w.heap.size w W2 := by rw [← hW2]; exact Below.drewN' g1 _
        rw [hW2]
        clear hW2 x1_0_0 x1_0_1 x1_0_2 x1_0_3 x1_0_4 x1_0_5 e0 g1
        go_wp2_with fail
        have d0 : (0 : Int) ≤ (d : Int) := by omega
        have d1 : (d : Int) ≤ (cap : Int) := by omega
        have d2 : (d : Int) < (l.length : Int) := by omega
        have u1 : 0 ≤ x.noon + x.again := by omega
        have u2 : x.noon + x.again < 200000000 := by omega
        have s1 : IntKind.i64.wrap (x.noon + x.again) = x.noon + x.again := IntWalk.i64_in _ (by omega)
        have s2 : IntKind.i64.wrap (x.noon + x.again - x.half) = x.noon + x.again - x.half := IntWalk.i64_in _ (by omega)
        refine wp_region_held_drew (S := (fun W => W.cell? ⟨w.heap.size, 0, none⟩ = some (.int .i64 x.noon) ∧ W.cell? ⟨w.heap.size, 1, none⟩ = some (.int .i64 x.half) ∧ W.cell? ⟨w.heap.size, 3, none⟩ = some (.int .i64 x.late) ∧ W.cell? ⟨w.heap.size, 4, none⟩ = some (.int .i64 x.again) ∧ W.cell? ⟨b, off + d * 3, none⟩ = some (.int .i64 t) ∧ Below w.heap.size w W)) (by kernel_rfl) ?_ (fun hHeld => ?_); (· exact ⟨x2_0, x2_1, x2_3, x2_4, e2, Below.drew b2⟩)
        (first | (refine wpAnyH_take (i := 0) (oi := ⟨_, _, _, _, _, _⟩) (v := ?_) rfl (by kernel_rfl) (by kernel_rfl) (by kernel_rfl) (fun _ _ _ h => h) (Or.inl ⟨by rfl, ?_⟩) (by assumption) ?_; rotate_left 1; (· (intro w0 hSw; (try dsimp only at hSw); go_simp; (try with_reducible rfl)))) | (refine wpAnyH_take (i := 0) (oi := ⟨_, _, _, _, _, _⟩) (v := undef) rfl (by kernel_rfl) (by kernel_rfl) (by kernel_rfl) (fun _ _ _ h => h) (Or.inr ⟨by rfl, rfl⟩) (by assumption) ?_)); (try simp only [Act.put, List.setIfInBounds_toArray, List.set_cons_zero, List.set_cons_succ])
        (first | (refine wpAnyH_take (i := 1) (oi := ⟨_, _, _, _, _, _⟩) (v := ?_) rfl (by kernel_rfl) (by kernel_rfl) (by kernel_rfl) (fun _ _ _ h => h) (Or.inl ⟨by rfl, ?_⟩) (by assumption) ?_; rotate_left 1; (· (intro w0 hSw; (try dsimp only at hSw); go_simp; (try with_reducible rfl)))) | (refine wpAnyH_take (i := 1) (oi := ⟨_, _, _, _, _, _⟩) (v := undef) rfl (by kernel_rfl) (by kernel_rfl) (by kernel_rfl) (fun _ _ _ h => h) (Or.inr ⟨by rfl, rfl⟩) (by assumption) ?_)); (try simp only [Act.put, List.setIfInBounds_toArray, List.set_cons_zero, List.set_cons_succ])
        (first | (refine wpAnyH_take (i := 2) (oi := ⟨_, _, _, _, _, _⟩) (v := ?_) rfl (by kernel_rfl) (by kernel_rfl) (by kernel_rfl) (fun _ _ _ h => h) (Or.inl ⟨by rfl, ?_⟩) (by assumption) ?_; rotate_left 1; (· (intro w0 hSw; (try dsimp only at hSw); go_simp; (try with_reducible rfl)))) | (refine wpAnyH_take (i := 2) (oi := ⟨_, _, _, _, _, _⟩) (v := undef) rfl (by kernel_rfl) (by kernel_rfl) (by kernel_rfl) (fun _ _ _ h => h) (Or.inr ⟨by rfl, rfl⟩) (by assumption) ?_)); (try simp only [Act.put, List.setIfInBounds_toArray, List.set_cons_zero, List.set_cons_succ])
        (first | (refine wpAnyH_take (i := 3) (oi := ⟨_, _, _, _, _, _⟩) (v := ?_) rfl (by kernel_rfl) (by kernel_rfl) (by kernel_rfl) (fun _ _ _ h => h) (Or.inl ⟨by rfl, ?_⟩) (by assumption) ?_; rotate_left 1; (· (intro w0 hSw; (try dsimp only at hSw); go_simp; (try with_reducible rfl)))) | (refine wpAnyH_take (i := 3) (oi := ⟨_, _, _, _, _, _⟩) (v := undef) rfl (by kernel_rfl) (by kernel_rfl) (by kernel_rfl) (fun _ _ _ h => h) (Or.inr ⟨by rfl, rfl⟩) (by assumption) ?_)); (try simp only [Act.put, List.setIfInBounds_toArray, List.set_cons_zero, List.set_cons_succ])
        (first | (refine wpAnyH_take (i := 4) (oi := ⟨_, _, _, _, _, _⟩) (v := ?_) rfl (by kernel_rfl) (by kernel_rfl) (by kernel_rfl) (fun _ _ _ h => h) (Or.inl ⟨by rfl, ?_⟩) (by assumption) ?_; rotate_left 1; (· (intro w0 hSw; (try dsimp only at hSw); go_simp; (try with_reducible rfl)))) | (refine wpAnyH_take (i := 4) (oi := ⟨_, _, _, _, _, _⟩) (v := undef) rfl (by kernel_rfl) (by kernel_rfl) (by kernel_rfl) (fun _ _ _ h => h) (Or.inr ⟨by rfl, rfl⟩) (by assumption) ?_)); (try simp only [Act.put, List.setIfInBounds_toArray, List.set_cons_zero, List.set_cons_succ])
        (first | (refine wpAnyH_take (i := 5) (oi := ⟨_, _, _, _, _, _⟩) (v := ?_) rfl (by kernel_rfl) (by kernel_rfl) (by kernel_rfl) (fun _ _ _ h => h) (Or.inl ⟨by rfl, ?_⟩) (by assumption) ?_; rotate_left 1; (· (intro w0 hSw; (try dsimp only at hSw); go_simp; (try with_reducible rfl)))) | (refine wpAnyH_take (i := 5) (oi := ⟨_, _, _, _, _, _⟩) (v := undef) rfl (by kernel_rfl) (by kernel_rfl) (by kernel_rfl) (fun _ _ _ h => h) (Or.inr ⟨by rfl, rfl⟩) (by assumption) ?_)); (try simp only [Act.put, List.setIfInBounds_toArray, List.set_cons_zero, List.set_cons_succ])
        (first | (refine wpAnyH_take (i := 6) (oi := ⟨_, _, _, _, _, _⟩) (v := ?_) rfl (by kernel_rfl) (by kernel_rfl) (by kernel_rfl) (fun _ _ _ h => h) (Or.inl ⟨by rfl, ?_⟩) (by assumption) ?_; rotate_left 1; (· (intro w0 hSw; (try dsimp only at hSw); go_simp; (try with_reducible rfl)))) | (refine wpAnyH_take (i := 6) (oi := ⟨_, _, _, _, _, _⟩) (v := undef) rfl (by kernel_rfl) (by kernel_rfl) (by kernel_rfl) (fun _ _ _ h => h) (Or.inr ⟨by rfl, rfl⟩) (by assumption) ?_)); (try simp only [Act.put, List.setIfInBounds_toArray, List.set_cons_zero, List.set_cons_succ])
        (first | (refine wpAnyH_take (i := 7) (oi := ⟨_, _, _, _, _, _⟩) (v := ?_) rfl (by kernel_rfl) (by kernel_rfl) (by kernel_rfl) (fun _ _ _ h => h) (Or.inl ⟨by rfl, ?_⟩) (by assumption) ?_; rotate_left 1; (· (intro w0 hSw; (try dsimp only at hSw); go_simp; (try with_reducible rfl)))) | (refine wpAnyH_take (i := 7) (oi := ⟨_, _, _, _, _, _⟩) (v := undef) rfl (by kernel_rfl) (by kernel_rfl) (by kernel_rfl) (fun _ _ _ h => h) (Or.inr ⟨by rfl, rfl⟩) (by assumption) ?_)); (try simp only [Act.put, List.setIfInBounds_toArray, List.set_cons_zero, List.set_cons_succ])
        (first | (refine wpAnyH_take (i := 8) (oi := ⟨_, _, _, _, _, _⟩) (v := ?_) rfl (by kernel_rfl) (by kernel_rfl) (by kernel_rfl) (fun _ _ _ h => h) (Or.inl ⟨by rfl, ?_⟩) (by assumption) ?_; rotate_left 1; (· (intro w0 hSw; (try dsimp only at hSw); go_simp; (try with_reducible rfl)))) | (refine wpAnyH_take (i := 8) (oi := ⟨_, _, _, _, _, _⟩) (v := undef) rfl (by kernel_rfl) (by kernel_rfl) (by kernel_rfl) (fun _ _ _ h => h) (Or.inr ⟨by rfl, rfl⟩) (by assumption) ?_)); (try simp only [Act.put, List.setIfInBounds_toArray, List.set_cons_zero, List.set_cons_succ])
        (first | (refine wpAnyH_take (i := 9) (oi := ⟨_, _, _, _, _, _⟩) (v := ?_) rfl (by kernel_rfl) (by kernel_rfl) (by kernel_rfl) (fun _ _ _ h => h) (Or.inl ⟨by rfl, ?_⟩) (by assumption) ?_; rotate_left 1; (· (intro w0 hSw; (try dsimp only at hSw); go_simp; (try with_reducible rfl)))) | (refine wpAnyH_take (i := 9) (oi := ⟨_, _, _, _, _, _⟩) (v := undef) rfl (by kernel_rfl) (by kernel_rfl) (by kernel_rfl) (fun _ _ _ h => h) (Or.inr ⟨by rfl, rfl⟩) (by assumption) ?_)); (try simp only [Act.put, List.setIfInBounds_toArray, List.set_cons_zero, List.set_cons_succ])
        (first | (refine wpAnyH_take (i := 10) (oi := ⟨_, _, _, _, _, _⟩) (v := ?_) rfl (by kernel_rfl) (by kernel_rfl) (by kernel_rfl) (fun _ _ _ h => h) (Or.inl ⟨by rfl, ?_⟩) (by assumption) ?_; rotate_left 1; (· (intro w0 hSw; (try dsimp only at hSw); go_simp; (try with_reducible rfl)))) | (refine wpAnyH_take (i := 10) (oi := ⟨_, _, _, _, _, _⟩) (v := undef) rfl (by kernel_rfl) (by kernel_rfl) (by kernel_rfl) (fun _ _ _ h => h) (Or.inr ⟨by rfl, rfl⟩) (by assumption) ?_)); (try simp only [Act.put, List.setIfInBounds_toArray, List.set_cons_zero, List.set_cons_succ])
        (first | (refine wpAnyH_take (i := 11) (oi := ⟨_, _, _, _, _, _⟩) (v := ?_) rfl (by kernel_rfl) (by kernel_rfl) (by kernel_rfl) (fun _ _ _ h => h) (Or.inl ⟨by rfl, ?_⟩) (by assumption) ?_; rotate_left 1; (· (intro w0 hSw; (try dsimp only at hSw); go_simp; (try with_reducible rfl)))) | (refine wpAnyH_take (i := 11) (oi := ⟨_, _, _, _, _, _⟩) (v := undef) rfl (by kernel_rfl) (by kernel_rfl) (by kernel_rfl) (fun _ _ _ h => h) (Or.inr ⟨by rfl, rfl⟩) (by assumption) ?_)); (try simp only [Act.put, List.setIfInBounds_toArray, List.set_cons_zero, List.set_cons_succ])
        (first | (refine wpAnyH_take (i := 12) (oi := ⟨_, _, _, _, _, _⟩) (v := ?_) rfl (by kernel_rfl) (by kernel_rfl) (by kernel_rfl) (fun _ _ _ h => h) (Or.inl ⟨by rfl, ?_⟩) (by assumption) ?_; rotate_left 1; (· (intro w0 hSw; (try dsimp only at hSw); go_simp; (try with_reducible rfl)))) | (refine wpAnyH_take (i := 12) (oi := ⟨_, _, _, _, _, _⟩) (v := undef) rfl (by kernel_rfl) (by kernel_rfl) (by kernel_rfl) (fun _ _ _ h => h) (Or.inr ⟨by rfl, rfl⟩) (by assumption) ?_)); (try simp only [Act.put, List.setIfInBounds_toArray, List.set_cons_zero, List.set_cons_succ])
        (first | (refine wpAnyH_take (i := 13) (oi := ⟨_, _, _, _, _, _⟩) (v := ?_) rfl (by kernel_rfl) (by kernel_rfl) (by kernel_rfl) (fun _ _ _ h => h) (Or.inl ⟨by rfl, ?_⟩) (by assumption) ?_; rotate_left 1; (· (intro w0 hSw; (try dsimp only at hSw); go_simp; (try with_reducible rfl)))) | (refine wpAnyH_take (i := 13) (oi := ⟨_, _, _, _, _, _⟩) (v := undef) rfl (by kernel_rfl) (by kernel_rfl) (by kernel_rfl) (fun _ _ _ h => h) (Or.inr ⟨by rfl, rfl⟩) (by assumption) ?_)); (try simp only [Act.put, List.setIfInBounds_toArray, List.set_cons_zero, List.set_cons_succ])
        (first | (refine wpAnyH_take (i := 14) (oi := ⟨_, _, _, _, _, _⟩) (v := ?_) rfl (by kernel_rfl) (by kernel_rfl) (by kernel_rfl) (fun _ _ _ h => h) (Or.inl ⟨by rfl, ?_⟩) (by assumption) ?_; rotate_left 1; (· (intro w0 hSw; (try dsimp only at hSw); go_simp; (try with_reducible rfl)))) | (refine wpAnyH_take (i := 14) (oi := ⟨_, _, _, _, _, _⟩) (v := undef) rfl (by kernel_rfl) (by kernel_rfl) (by kernel_rfl) (fun _ _ _ h => h) (Or.inr ⟨by rfl, rfl⟩) (by assumption) ?_)); (try simp only [Act.put, List.setIfInBounds_toArray, List.set_cons_zero, List.set_cons_succ])
        (first | (refine wpAnyH_take (i := 15) (oi := ⟨_, _, _, _, _, _⟩) (v := ?_) rfl (by kernel_rfl) (by kernel_rfl) (by kernel_rfl) (fun _ _ _ h => h) (Or.inl ⟨by rfl, ?_⟩) (by assumption) ?_; rotate_left 1; (· (intro w0 hSw; (try dsimp only at hSw); go_simp; (try with_reducible rfl)))) | (refine wpAnyH_take (i := 15) (oi := ⟨_, _, _, _, _, _⟩) (v := undef) rfl (by kernel_rfl) (by kernel_rfl) (by kernel_rfl) (fun _ _ _ h => h) (Or.inr ⟨by rfl, rfl⟩) (by assumption) ?_)); (try simp only [Act.put, List.setIfInBounds_toArray, List.set_cons_zero, List.set_cons_succ])
        (first | (refine wpAnyH_take (i := 16) (oi := ⟨_, _, _, _, _, _⟩) (v := ?_) rfl (by kernel_rfl) (by kernel_rfl) (by kernel_rfl) (fun _ _ _ h => h) (Or.inl ⟨by rfl, ?_⟩) (by assumption) ?_; rotate_left 1; (· (intro w0 hSw; (try dsimp only at hSw); go_simp; (try with_reducible rfl)))) | (refine wpAnyH_take (i := 16) (oi := ⟨_, _, _, _, _, _⟩) (v := undef) rfl (by kernel_rfl) (by kernel_rfl) (by kernel_rfl) (fun _ _ _ h => h) (Or.inr ⟨by rfl, rfl⟩) (by assumption) ?_)); (try simp only [Act.put, List.setIfInBounds_toArray, List.set_cons_zero, List.set_cons_succ])
        (first | (refine wpAnyH_take (i := 17) (oi := ⟨_, _, _, _, _, _⟩) (v := ?_) rfl (by kernel_rfl) (by kernel_rfl) (by kernel_rfl) (fun _ _ _ h => h) (Or.inl ⟨by rfl, ?_⟩) (by assumption) ?_; rotate_left 1; (· (intro w0 hSw; (try dsimp only at hSw); go_simp; (try with_reducible rfl)))) | (refine wpAnyH_take (i := 17) (oi := ⟨_, _, _, _, _, _⟩) (v := undef) rfl (by kernel_rfl) (by kernel_rfl) (by kernel_rfl) (fun _ _ _ h => h) (Or.inr ⟨by rfl, rfl⟩) (by assumption) ?_)); (try simp only [Act.put, List.setIfInBounds_toArray, List.set_cons_zero, List.set_cons_succ])
        (first | (refine wpAnyH_take (i := 18) (oi := ⟨_, _, _, _, _, _⟩) (v := ?_) rfl (by kernel_rfl) (by kernel_rfl) (by kernel_rfl) (fun _ _ _ h => h) (Or.inl ⟨by rfl, ?_⟩) (by assumption) ?_; rotate_left 1; (· (intro w0 hSw; (try dsimp only at hSw); go_simp; (try with_reducible rfl)))) | (refine wpAnyH_take (i := 18) (oi := ⟨_, _, _, _, _, _⟩) (v := undef) rfl (by kernel_rfl) (by kernel_rfl) (by kernel_rfl) (fun _ _ _ h => h) (Or.inr ⟨by rfl, rfl⟩) (by assumption) ?_)); (try simp only [Act.put, List.setIfInBounds_toArray, List.set_cons_zero, List.set_cons_succ])
        refine wpAnyH_ready (rs := [19]) (by kernel_rfl) (by simp) ?_
        refine AllReadyH.cons (o := ⟨_, _, _, _, _, _⟩) rfl (fun K hK => ?_) AllReadyH.nil
        go_simp
        go_at_call 70; refine (HT.out _ ((fun (h : _ ∧ _ ∧ _ ∧ _ ∧ _ ∧ Below w.heap.size w _) => h.2.2.2.2.2) (by assumption))).mono ?_; rintro e w3 ⟨rfl, hb⟩
        (try go_wp2_with fail)
        refine hK.out _ _ ?_ (fun hHeld => ?_)
        · ((exact And.imp (keep_cell (by assumption)) (And.imp (keep_cell (by assumption)) (And.imp (keep_cell (by assumption)) (And.imp (keep_cell (by assumption)) (And.imp (keep_cell (by assumption)) (fun h => Below.step h (by assumption)))))) (by assumption)))
        clear hK K
        (try simp only [Act.put, List.setIfInBounds_toArray, List.set_cons_zero, List.set_cons_succ])
        (first | (refine wpAnyH_take (i := 20) (oi := ⟨_, _, _, _, _, _⟩) (v := ?_) rfl (by kernel_rfl) (by kernel_rfl) (by kernel_rfl) (fun _ _ _ h => h) (Or.inl ⟨by rfl, ?_⟩) (by assumption) ?_; rotate_left 1; (· (intro w0 hSw; (try dsimp only at hSw); go_simp; (try with_reducible rfl)))) | (refine wpAnyH_take (i := 20) (oi := ⟨_, _, _, _, _, _⟩) (v := undef) rfl (by kernel_rfl) (by kernel_rfl) (by kernel_rfl) (fun _ _ _ h => h) (Or.inr ⟨by rfl, rfl⟩) (by assumption) ?_)); (try simp only [Act.put, List.setIfInBounds_toArray, List.set_cons_zero, List.set_cons_succ])
        (first | (refine wpAnyH_take (i := 21) (oi := ⟨_, _, _, _, _, _⟩) (v := ?_) rfl (by kernel_rfl) (by kernel_rfl) (by kernel_rfl) (fun _ _ _ h => h) (Or.inl ⟨by rfl, ?_⟩) (by assumption) ?_; rotate_left 1; (· (intro w0 hSw; (try dsimp only at hSw); go_simp; (try with_reducible rfl)))) | (refine wpAnyH_take (i := 21) (oi := ⟨_, _, _, _, _, _⟩) (v := undef) rfl (by kernel_rfl) (by kernel_rfl) (by kernel_rfl) (fun _ _ _ h => h) (Or.inr ⟨by rfl, rfl⟩) (by assumption) ?_)); (try simp only [Act.put, List.setIfInBounds_toArray, List.set_cons_zero, List.set_cons_succ])
        (first | (refine wpAnyH_take (i := 22) (oi := ⟨_, _, _, _, _, _⟩) (v := ?_) rfl (by kernel_rfl) (by kernel_rfl) (by kernel_rfl) (fun _ _ _ h => h) (Or.inl ⟨by rfl, ?_⟩) (by assumption) ?_; rotate_left 1; (· (intro w0 hSw; (try dsimp only at hSw); go_simp; (try with_reducible rfl)))) | (refine wpAnyH_take (i := 22) (oi := ⟨_, _, _, _, _, _⟩) (v := undef) rfl (by kernel_rfl) (by kernel_rfl) (by kernel_rfl) (fun _ _ _ h => h) (Or.inr ⟨by rfl, rfl⟩) (by assumption) ?_)); (try simp only [Act.put, List.setIfInBounds_toArray, List.set_cons_zero, List.set_cons_succ])
        (first | (refine wpAnyH_take (i := 23) (oi := ⟨_, _, _, _, _, _⟩) (v := ?_) rfl (by kernel_rfl) (by kernel_rfl) (by kernel_rfl) (fun _ _ _ h => h) (Or.inl ⟨by rfl, ?_⟩) (by assumption) ?_; rotate_left 1; (· (intro w0 hSw; (try dsimp only at hSw); go_simp; (try with_reducible rfl)))) | (refine wpAnyH_take (i := 23) (oi := ⟨_, _, _, _, _, _⟩) (v := undef) rfl (by kernel_rfl) (by kernel_rfl) (by kernel_rfl) (fun _ _ _ h => h) (Or.inr ⟨by rfl, rfl⟩) (by assumption) ?_)); (try simp only [Act.put, List.setIfInBounds_toArray, List.set_cons_zero, List.set_cons_succ])
        (first | (refine wpAnyH_take (i := 24) (oi := ⟨_, _, _, _, _, _⟩) (v := ?_) rfl (by kernel_rfl) (by kernel_rfl) (by kernel_rfl) (fun _ _ _ h => h) (Or.inl ⟨by rfl, ?_⟩) (by assumption) ?_; rotate_left 1; (· (intro w0 hSw; (try dsimp only at hSw); go_simp; (try with_reducible rfl)))) | (refine wpAnyH_take (i := 24) (oi := ⟨_, _, _, _, _, _⟩) (v := undef) rfl (by kernel_rfl) (by kernel_rfl) (by kernel_rfl) (fun _ _ _ h => h) (Or.inr ⟨by rfl, rfl⟩) (by assumption) ?_)); (try simp only [Act.put, List.setIfInBounds_toArray, List.set_cons_zero, List.set_cons_succ])
        (first | (refine wpAnyH_take (i := 25) (oi := ⟨_, _, _, _, _, _⟩) (v := ?_) rfl (by kernel_rfl) (by kernel_rfl) (by kernel_rfl) (fun _ _ _ h => h) (Or.inl ⟨by rfl, ?_⟩) (by assumption) ?_; rotate_left 1; (· (intro w0 hSw; (try dsimp only at hSw); go_simp; (try with_reducible rfl)))) | (refine wpAnyH_take (i := 25) (oi := ⟨_, _, _, _, _, _⟩) (v := undef) rfl (by kernel_rfl) (by kernel_rfl) (by kernel_rfl) (fun _ _ _ h => h) (Or.inr ⟨by rfl, rfl⟩) (by assumption) ?_)); (try simp only [Act.put, List.setIfInBounds_toArray, List.set_cons_zero, List.set_cons_succ])
        (first | (refine wpAnyH_take (i := 26) (oi := ⟨_, _, _, _, _, _⟩) (v := ?_) rfl (by kernel_rfl) (by kernel_rfl) (by kernel_rfl) (fun _ _ _ h => h) (Or.inl ⟨by rfl, ?_⟩) (by assumption) ?_; rotate_left 1; (· (intro w0 hSw; (try dsimp only at hSw); go_simp; (try with_reducible rfl)))) | (refine wpAnyH_take (i := 26) (oi := ⟨_, _, _, _, _, _⟩) (v := undef) rfl (by kernel_rfl) (by kernel_rfl) (by kernel_rfl) (fun _ _ _ h => h) (Or.inr ⟨by rfl, rfl⟩) (by assumption) ?_)); (try simp only [Act.put, List.setIfInBounds_toArray, List.set_cons_zero, List.set_cons_succ])
        (first | (refine wpAnyH_take (i := 27) (oi := ⟨_, _, _, _, _, _⟩) (v := ?_) rfl (by kernel_rfl) (by kernel_rfl) (by kernel_rfl) (fun _ _ _ h => h) (Or.inl ⟨by rfl, ?_⟩) (by assumption) ?_; rotate_left 1; (· (intro w0 hSw; (try dsimp only at hSw); go_simp; (try with_reducible rfl)))) | (refine wpAnyH_take (i := 27) (oi := ⟨_, _, _, _, _, _⟩) (v := undef) rfl (by kernel_rfl) (by kernel_rfl) (by kernel_rfl) (fun _ _ _ h => h) (Or.inr ⟨by rfl, rfl⟩) (by assumption) ?_)); (try simp only [Act.put, List.setIfInBounds_toArray, List.set_cons_zero, List.set_cons_succ])
        (first | (refine wpAnyH_take (i := 28) (oi := ⟨_, _, _, _, _, _⟩) (v := ?_) rfl (by kernel_rfl) (by kernel_rfl) (by kernel_rfl) (fun _ _ _ h => h) (Or.inl ⟨by rfl, ?_⟩) (by assumption) ?_; rotate_left 1; (· (intro w0 hSw; (try dsimp only at hSw); go_simp; (try with_reducible rfl)))) | (refine wpAnyH_take (i := 28) (oi := ⟨_, _, _, _, _, _⟩) (v := undef) rfl (by kernel_rfl) (by kernel_rfl) (by kernel_rfl) (fun _ _ _ h => h) (Or.inr ⟨by rfl, rfl⟩) (by assumption) ?_)); (try simp only [Act.put, List.setIfInBounds_toArray, List.set_cons_zero, List.set_cons_succ])
        (first | (refine wpAnyH_take (i := 29) (oi := ⟨_, _, _, _, _, _⟩) (v := ?_) rfl (by kernel_rfl) (by kernel_rfl) (by kernel_rfl) (fun _ _ _ h => h) (Or.inl ⟨by rfl, ?_⟩) (by assumption) ?_; rotate_left 1; (· (intro w0 hSw; (try dsimp only at hSw); go_simp; (try with_reducible rfl)))) | (refine wpAnyH_take (i := 29) (oi := ⟨_, _, _, _, _, _⟩) (v := undef) rfl (by kernel_rfl) (by kernel_rfl) (by kernel_rfl) (fun _ _ _ h => h) (Or.inr ⟨by rfl, rfl⟩) (by assumption) ?_)); (try simp only [Act.put, List.setIfInBounds_toArray, List.set_cons_zero, List.set_cons_succ])
        (first | (refine wpAnyH_take (i := 30) (oi := ⟨_, _, _, _, _, _⟩) (v := ?_) rfl (by kernel_rfl) (by kernel_rfl) (by kernel_rfl) (fun _ _ _ h => h) (Or.inl ⟨by rfl, ?_⟩) (by assumption) ?_; rotate_left 1; (· (intro w0 hSw; (try dsimp only at hSw); go_simp; (try with_reducible rfl)))) | (refine wpAnyH_take (i := 30) (oi := ⟨_, _, _, _, _, _⟩) (v := undef) rfl (by kernel_rfl) (by kernel_rfl) (by kernel_rfl) (fun _ _ _ h => h) (Or.inr ⟨by rfl, rfl⟩) (by assumption) ?_)); (try simp only [Act.put, List.setIfInBounds_toArray, List.set_cons_zero, List.set_cons_succ])
        (first | (refine wpAnyH_take (i := 31) (oi := ⟨_, _, _, _, _, _⟩) (v := ?_) rfl (by kernel_rfl) (by kernel_rfl) (by kernel_rfl) (fun _ _ _ h => h) (Or.inl ⟨by rfl, ?_⟩) (by assumption) ?_; rotate_left 1; (· (intro w0 hSw; (try dsimp only at hSw); go_simp; (try with_reducible rfl)))) | (refine wpAnyH_take (i := 31) (oi := ⟨_, _, _, _, _, _⟩) (v := undef) rfl (by kernel_rfl) (by kernel_rfl) (by kernel_rfl) (fun _ _ _ h => h) (Or.inr ⟨by rfl, rfl⟩) (by assumption) ?_)); (try simp only [Act.put, List.setIfInBounds_toArray, List.set_cons_zero, List.set_cons_succ])
        (first | (refine wpAnyH_take (i := 32) (oi := ⟨_, _, _, _, _, _⟩) (v := ?_) rfl (by kernel_rfl) (by kernel_rfl) (by kernel_rfl) (fun _ _ _ h => h) (Or.inl ⟨by rfl, ?_⟩) (by assumption) ?_; rotate_left 1; (· (intro w0 hSw; (try dsimp only at hSw); go_simp; (try with_reducible rfl)))) | (refine wpAnyH_take (i := 32) (oi := ⟨_, _, _, _, _, _⟩) (v := undef) rfl (by kernel_rfl) (by kernel_rfl) (by kernel_rfl) (fun _ _ _ h => h) (Or.inr ⟨by rfl, rfl⟩) (by assumption) ?_)); (try simp only [Act.put, List.setIfInBounds_toArray, List.set_cons_zero, List.set_cons_succ])
        refine wpAnyH_ready (rs := [33]) (by kernel_rfl) (by simp) ?_
        refine AllReadyH.cons (o := ⟨_, _, _, _, _, _⟩) rfl (fun K hK => ?_) AllReadyH.nil
        go_simp
        go_at_call 73; refine (intime_c t (x.noon + x.again) x.late u1 u2 l0 l1 _ _ ((fun (h : _ ∧ _ ∧ _ = some (Value.int .i64 x.late) ∧ _) => h.2.2.1) (by assumption))).mono ?_; rintro e w' ⟨rfl, rfl⟩
        (try go_wp2_with fail)
        refine hK.out _ _ ?_ (fun hHeld => ?_)
        · assumption
        clear hK K
        (try simp only [Act.put, List.setIfInBounds_toArray, List.set_cons_zero, List.set_cons_succ])
        (first | (refine wpAnyH_take (i := 34) (oi := ⟨_, _, _, _, _, _⟩) (v := ?_) rfl (by kernel_rfl) (by kernel_rfl) (by kernel_rfl) (fun _ _ _ h => h) (Or.inl ⟨by rfl, ?_⟩) (by assumption) ?_; rotate_left 1; (· (intro w0 hSw; (try dsimp only at hSw); go_simp; (try with_reducible rfl)))) | (refine wpAnyH_take (i := 34) (oi := ⟨_, _, _, _, _, _⟩) (v := undef) rfl (by kernel_rfl) (by kernel_rfl) (by kernel_rfl) (fun _ _ _ h => h) (Or.inr ⟨by rfl, rfl⟩) (by assumption) ?_)); (try simp only [Act.put, List.setIfInBounds_toArray, List.set_cons_zero, List.set_cons_succ])
        (first | (refine wpAnyH_take (i := 35) (oi := ⟨_, _, _, _, _, _⟩) (v := ?_) rfl (by kernel_rfl) (by kernel_rfl) (by kernel_rfl) (fun _ _ _ h => h) (Or.inl ⟨by rfl, ?_⟩) (by assumption) ?_; rotate_left 1; (· (intro w0 hSw; (try dsimp only at hSw); go_simp; (try with_reducible rfl)))) | (refine wpAnyH_take (i := 35) (oi := ⟨_, _, _, _, _, _⟩) (v := undef) rfl (by kernel_rfl) (by kernel_rfl) (by kernel_rfl) (fun _ _ _ h => h) (Or.inr ⟨by rfl, rfl⟩) (by assumption) ?_)); (try simp only [Act.put, List.setIfInBounds_toArray, List.set_cons_zero, List.set_cons_succ])
        refine wpAnyH_done (by kernel_rfl) ?_ _
        rw [G3.out]
        clear s1 s2
        cases p2
        all_goals
          go_wp2_with fail
          refine (HW.out _ ((fun (h : _ ∧ _ ∧ _ ∧ _ ∧ _ ∧ Below w.heap.size w _) => h.2.2.2.2.2) (by assumption))).mono ?_
          rintro e w4 ⟨rfl, hb4⟩
          have hB := Below.step ((fun (h : _ ∧ _ ∧ _ ∧ _ ∧ _ ∧ Below w.heap.size w _) => h.2.2.2.2.2) (by assumption)) hb4
          go_wp2
          go_ret2
          exact ⟨rfl, hB⟩
      · have G3 := Lib.hid g3
        clear g3
        rw [Bool.and_true, Bool.and_true, if_neg (by simp), if_pos (by simp)]
        go_enter Tryz.func45, Tryz.ntmps45
        go_wp2_with fail
        refine (HI.out _ (by (repeat (first | exact Below.refl _ _ | refine Below.drew ?_ | refine Below.allocS ?_ _ | refine Below.step ?_ (by assumption) | refine Below.setCell ?_ (by simp <;> omega) _ | refine Below.drewN' ?_ _)))).mono ?_
        rintro e w1 ⟨rfl, hb1⟩
        have x1_0_0 : w1.cell? ⟨w.heap.size, 0, none⟩ = some (.int .i64 x.noon) := keep_cell hb1 (by simp [go_sem, *])
        have x1_0_1 : w1.cell? ⟨w.heap.size, 1, none⟩ = some (.int .i64 x.half) := keep_cell hb1 (by simp [go_sem, *])
        have x1_0_2 : w1.cell? ⟨w.heap.size, 2, none⟩ = some (.int .i64 x.full) := keep_cell hb1 (by simp [go_sem, *])
        have x1_0_3 : w1.cell? ⟨w.heap.size, 3, none⟩ = some (.int .i64 x.late) := keep_cell hb1 (by simp [go_sem, *])
        have x1_0_4 : w1.cell? ⟨w.heap.size, 4, none⟩ = some (.int .i64 x.again) := keep_cell hb1 (by simp [go_sem, *])
        have x1_0_5 : w1.cell? ⟨w.heap.size, 5, none⟩ = some (.int .i64 x.wind) := keep_cell hb1 (by simp [go_sem, *])
        have y1_0 : w.heap.size < w1.heap.size := cell?_lt x1_0_0
        have g1 : Below w.heap.size w w1 := by (repeat (first | exact Below.refl _ _ | refine Below.drew ?_ | refine Below.allocS ?_ _ | refine Below.step ?_ (by assumption) | refine Below.setCell ?_ (by simp <;> omega) _ | refine Below.drewN' ?_ _))
        clear hb1
        have e0 := keep_cell g1 E0.out
        go_wp2_with fail
        go_quiet ((go_at_call 73; exact intime_q t x.noon x.late (by omega) (by omega) (by omega) (by omega) _ _ x1_0_3 _))
        rw [G1.out]
        obtain ⟨W2, hW2⟩ : ∃ W, w1.drewN nq = W := ⟨_, rfl⟩
        have x2_0 : W2.cell? ⟨w.heap.size, 0, none⟩ = some (.int .i64 x.noon) := by rw [← hW2]; exact x1_0_0
        have x2_1 : W2.cell? ⟨w.heap.size, 1, none⟩ = some (.int .i64 x.half) := by rw [← hW2]; exact x1_0_1
        have x2_3 : W2.cell? ⟨w.heap.size, 3, none⟩ = some (.int .i64 x.late) := by rw [← hW2]; exact x1_0_3
        have x2_4 : W2.cell? ⟨w.heap.size, 4, none⟩ = some (.int .i64 x.again) := by rw [← hW2]; exact x1_0_4
        have e2 : W2.cell? ⟨b, off + d * 3, none⟩ = some (.int .i64 t) := by rw [← hW2]; exact e0
        have b2 : Below w.heap.size w W2 := by rw [← hW2]; exact Below.drewN' g1 _
        rw [hW2]
        clear hW2 x1_0_0 x1_0_1 x1_0_2 x1_0_3 x1_0_4 x1_0_5 e0 g1
        go_wp2_with fail
        have d0 : (0 : Int) ≤ (d : Int) := by omega
        have d1 : (d : Int) ≤ (cap : Int) := by omega
        have d2 : (d : Int) < (l.length : Int) := by omega
        have u1 : 0 ≤ x.noon + x.again := by omega
        have u2 : x.noon + x.again < 200000000 := by omega
        have s1 : IntKind.i64.wrap (x.noon + x.again) = x.noon + x.again := IntWalk.i64_in _ (by omega)
        have s2 : IntKind.i64.wrap (x.noon + x.again - x.half) = x.noon + x.again - x.half := IntWalk.i64_in _ (by omega)
        refine wp_region_held_drew (S := (fun W => W.cell? ⟨w.heap.size, 0, none⟩ = some (.int .i64 x.noon) ∧ W.cell? ⟨w.heap.size, 1, none⟩ = some (.int .i64 x.half) ∧ W.cell? ⟨w.heap.size, 3, none⟩ = some (.int .i64 x.late) ∧ W.cell? ⟨w.heap.size, 4, none⟩ = some (.int .i64 x.again) ∧ W.cell? ⟨b, off + d * 3, none⟩ = some (.int .i64 t) ∧ Below w.heap.size w W)) (by kernel_rfl) ?_ (fun hHeld => ?_); (· exact ⟨x2_0, x2_1, x2_3, x2_4, e2, Below.drew b2⟩)
        (first | (refine wpAnyH_take (i := 0) (oi := ⟨_, _, _, _, _, _⟩) (v := ?_) rfl (by kernel_rfl) (by kernel_rfl) (by kernel_rfl) (fun _ _ _ h => h) (Or.inl ⟨by rfl, ?_⟩) (by assumption) ?_; rotate_left 1; (· (intro w0 hSw; (try dsimp only at hSw); go_simp; (try with_reducible rfl)))) | (refine wpAnyH_take (i := 0) (oi := ⟨_, _, _, _, _, _⟩) (v := undef) rfl (by kernel_rfl) (by kernel_rfl) (by kernel_rfl) (fun _ _ _ h => h) (Or.inr ⟨by rfl, rfl⟩) (by assumption) ?_)); (try simp only [Act.put, List.setIfInBounds_toArray, List.set_cons_zero, List.set_cons_succ])
        (first | (refine wpAnyH_take (i := 1) (oi := ⟨_, _, _, _, _, _⟩) (v := ?_) rfl (by kernel_rfl) (by kernel_rfl) (by kernel_rfl) (fun _ _ _ h => h) (Or.inl ⟨by rfl, ?_⟩) (by assumption) ?_; rotate_left 1; (· (intro w0 hSw; (try dsimp only at hSw); go_simp; (try with_reducible rfl)))) | (refine wpAnyH_take (i := 1) (oi := ⟨_, _, _, _, _, _⟩) (v := undef) rfl (by kernel_rfl) (by kernel_rfl) (by kernel_rfl) (fun _ _ _ h => h) (Or.inr ⟨by rfl, rfl⟩) (by assumption) ?_)); (try simp only [Act.put, List.setIfInBounds_toArray, List.set_cons_zero, List.set_cons_succ])
        (first | (refine wpAnyH_take (i := 2) (oi := ⟨_, _, _, _, _, _⟩) (v := ?_) rfl (by kernel_rfl) (by kernel_rfl) (by kernel_rfl) (fun _ _ _ h => h) (Or.inl ⟨by rfl, ?_⟩) (by assumption) ?_; rotate_left 1; (· (intro w0 hSw; (try dsimp only at hSw); go_simp; (try with_reducible rfl)))) | (refine wpAnyH_take (i := 2) (oi := ⟨_, _, _, _, _, _⟩) (v := undef) rfl (by kernel_rfl) (by kernel_rfl) (by kernel_rfl) (fun _ _ _ h => h) (Or.inr ⟨by rfl, rfl⟩) (by assumption) ?_)); (try simp only [Act.put, List.setIfInBounds_toArray, List.set_cons_zero, List.set_cons_succ])
        (first | (refine wpAnyH_take (i := 3) (oi := ⟨_, _, _, _, _, _⟩) (v := ?_) rfl (by kernel_rfl) (by kernel_rfl) (by kernel_rfl) (fun _ _ _ h => h) (Or.inl ⟨by rfl, ?_⟩) (by assumption) ?_; rotate_left 1; (· (intro w0 hSw; (try dsimp only at hSw); go_simp; (try with_reducible rfl)))) | (refine wpAnyH_take (i := 3) (oi := ⟨_, _, _, _, _, _⟩) (v := undef) rfl (by kernel_rfl) (by kernel_rfl) (by kernel_rfl) (fun _ _ _ h => h) (Or.inr ⟨by rfl, rfl⟩) (by assumption) ?_)); (try simp only [Act.put, List.setIfInBounds_toArray, List.set_cons_zero, List.set_cons_succ])
        (first | (refine wpAnyH_take (i := 4) (oi := ⟨_, _, _, _, _, _⟩) (v := ?_) rfl (by kernel_rfl) (by kernel_rfl) (by kernel_rfl) (fun _ _ _ h => h) (Or.inl ⟨by rfl, ?_⟩) (by assumption) ?_; rotate_left 1; (· (intro w0 hSw; (try dsimp only at hSw); go_simp; (try with_reducible rfl)))) | (refine wpAnyH_take (i := 4) (oi := ⟨_, _, _, _, _, _⟩) (v := undef) rfl (by kernel_rfl) (by kernel_rfl) (by kernel_rfl) (fun _ _ _ h => h) (Or.inr ⟨by rfl, rfl⟩) (by assumption) ?_)); (try simp only [Act.put, List.setIfInBounds_toArray, List.set_cons_zero, List.set_cons_succ])
        (first | (refine wpAnyH_take (i := 5) (oi := ⟨_, _, _, _, _, _⟩) (v := ?_) rfl (by kernel_rfl) (by kernel_rfl) (by kernel_rfl) (fun _ _ _ h => h) (Or.inl ⟨by rfl, ?_⟩) (by assumption) ?_; rotate_left 1; (· (intro w0 hSw; (try dsimp only at hSw); go_simp; (try with_reducible rfl)))) | (refine wpAnyH_take (i := 5) (oi := ⟨_, _, _, _, _, _⟩) (v := undef) rfl (by kernel_rfl) (by kernel_rfl) (by kernel_rfl) (fun _ _ _ h => h) (Or.inr ⟨by rfl, rfl⟩) (by assumption) ?_)); (try simp only [Act.put, List.setIfInBounds_toArray, List.set_cons_zero, List.set_cons_succ])
        (first | (refine wpAnyH_take (i := 6) (oi := ⟨_, _, _, _, _, _⟩) (v := ?_) rfl (by kernel_rfl) (by kernel_rfl) (by kernel_rfl) (fun _ _ _ h => h) (Or.inl ⟨by rfl, ?_⟩) (by assumption) ?_; rotate_left 1; (· (intro w0 hSw; (try dsimp only at hSw); go_simp; (try with_reducible rfl)))) | (refine wpAnyH_take (i := 6) (oi := ⟨_, _, _, _, _, _⟩) (v := undef) rfl (by kernel_rfl) (by kernel_rfl) (by kernel_rfl) (fun _ _ _ h => h) (Or.inr ⟨by rfl, rfl⟩) (by assumption) ?_)); (try simp only [Act.put, List.setIfInBounds_toArray, List.set_cons_zero, List.set_cons_succ])
        (first | (refine wpAnyH_take (i := 7) (oi := ⟨_, _, _, _, _, _⟩) (v := ?_) rfl (by kernel_rfl) (by kernel_rfl) (by kernel_rfl) (fun _ _ _ h => h) (Or.inl ⟨by rfl, ?_⟩) (by assumption) ?_; rotate_left 1; (· (intro w0 hSw; (try dsimp only at hSw); go_simp; (try with_reducible rfl)))) | (refine wpAnyH_take (i := 7) (oi := ⟨_, _, _, _, _, _⟩) (v := undef) rfl (by kernel_rfl) (by kernel_rfl) (by kernel_rfl) (fun _ _ _ h => h) (Or.inr ⟨by rfl, rfl⟩) (by assumption) ?_)); (try simp only [Act.put, List.setIfInBounds_toArray, List.set_cons_zero, List.set_cons_succ])
        (first | (refine wpAnyH_take (i := 8) (oi := ⟨_, _, _, _, _, _⟩) (v := ?_) rfl (by kernel_rfl) (by kernel_rfl) (by kernel_rfl) (fun _ _ _ h => h) (Or.inl ⟨by rfl, ?_⟩) (by assumption) ?_; rotate_left 1; (· (intro w0 hSw; (try dsimp only at hSw); go_simp; (try with_reducible rfl)))) | (refine wpAnyH_take (i := 8) (oi := ⟨_, _, _, _, _, _⟩) (v := undef) rfl (by kernel_rfl) (by kernel_rfl) (by kernel_rfl) (fun _ _ _ h => h) (Or.inr ⟨by rfl, rfl⟩) (by assumption) ?_)); (try simp only [Act.put, List.setIfInBounds_toArray, List.set_cons_zero, List.set_cons_succ])
        (first | (refine wpAnyH_take (i := 9) (oi := ⟨_, _, _, _, _, _⟩) (v := ?_) rfl (by kernel_rfl) (by kernel_rfl) (by kernel_rfl) (fun _ _ _ h => h) (Or.inl ⟨by rfl, ?_⟩) (by assumption) ?_; rotate_left 1; (· (intro w0 hSw; (try dsimp only at hSw); go_simp; (try with_reducible rfl)))) | (refine wpAnyH_take (i := 9) (oi := ⟨_, _, _, _, _, _⟩) (v := undef) rfl (by kernel_rfl) (by kernel_rfl) (by kernel_rfl) (fun _ _ _ h => h) (Or.inr ⟨by rfl, rfl⟩) (by assumption) ?_)); (try simp only [Act.put, List.setIfInBounds_toArray, List.set_cons_zero, List.set_cons_succ])
        (first | (refine wpAnyH_take (i := 10) (oi := ⟨_, _, _, _, _, _⟩) (v := ?_) rfl (by kernel_rfl) (by kernel_rfl) (by kernel_rfl) (fun _ _ _ h => h) (Or.inl ⟨by rfl, ?_⟩) (by assumption) ?_; rotate_left 1; (· (intro w0 hSw; (try dsimp only at hSw); go_simp; (try with_reducible rfl)))) | (refine wpAnyH_take (i := 10) (oi := ⟨_, _, _, _, _, _⟩) (v := undef) rfl (by kernel_rfl) (by kernel_rfl) (by kernel_rfl) (fun _ _ _ h => h) (Or.inr ⟨by rfl, rfl⟩) (by assumption) ?_)); (try simp only [Act.put, List.setIfInBounds_toArray, List.set_cons_zero, List.set_cons_succ])
        (first | (refine wpAnyH_take (i := 11) (oi := ⟨_, _, _, _, _, _⟩) (v := ?_) rfl (by kernel_rfl) (by kernel_rfl) (by kernel_rfl) (fun _ _ _ h => h) (Or.inl ⟨by rfl, ?_⟩) (by assumption) ?_; rotate_left 1; (· (intro w0 hSw; (try dsimp only at hSw); go_simp; (try with_reducible rfl)))) | (refine wpAnyH_take (i := 11) (oi := ⟨_, _, _, _, _, _⟩) (v := undef) rfl (by kernel_rfl) (by kernel_rfl) (by kernel_rfl) (fun _ _ _ h => h) (Or.inr ⟨by rfl, rfl⟩) (by assumption) ?_)); (try simp only [Act.put, List.setIfInBounds_toArray, List.set_cons_zero, List.set_cons_succ])
        (first | (refine wpAnyH_take (i := 12) (oi := ⟨_, _, _, _, _, _⟩) (v := ?_) rfl (by kernel_rfl) (by kernel_rfl) (by kernel_rfl) (fun _ _ _ h => h) (Or.inl ⟨by rfl, ?_⟩) (by assumption) ?_; rotate_left 1; (· (intro w0 hSw; (try dsimp only at hSw); go_simp; (try with_reducible rfl)))) | (refine wpAnyH_take (i := 12) (oi := ⟨_, _, _, _, _, _⟩) (v := undef) rfl (by kernel_rfl) (by kernel_rfl) (by kernel_rfl) (fun _ _ _ h => h) (Or.inr ⟨by rfl, rfl⟩) (by assumption) ?_)); (try simp only [Act.put, List.setIfInBounds_toArray, List.set_cons_zero, List.set_cons_succ])
        (first | (refine wpAnyH_take (i := 13) (oi := ⟨_, _, _, _, _, _⟩) (v := ?_) rfl (by kernel_rfl) (by kernel_rfl) (by kernel_rfl) (fun _ _ _ h => h) (Or.inl ⟨by rfl, ?_⟩) (by assumption) ?_; rotate_left 1; (· (intro w0 hSw; (try dsimp only at hSw); go_simp; (try with_reducible rfl)))) | (refine wpAnyH_take (i := 13) (oi := ⟨_, _, _, _, _, _⟩) (v := undef) rfl (by kernel_rfl) (by kernel_rfl) (by kernel_rfl) (fun _ _ _ h => h) (Or.inr ⟨by rfl, rfl⟩) (by assumption) ?_)); (try simp only [Act.put, List.setIfInBounds_toArray, List.set_cons_zero, List.set_cons_succ])
        (first | (refine wpAnyH_take (i := 14) (oi := ⟨_, _, _, _, _, _⟩) (v := ?_) rfl (by kernel_rfl) (by kernel_rfl) (by kernel_rfl) (fun _ _ _ h => h) (Or.inl ⟨by rfl, ?_⟩) (by assumption) ?_; rotate_left 1; (· (intro w0 hSw; (try dsimp only at hSw); go_simp; (try with_reducible rfl)))) | (refine wpAnyH_take (i := 14) (oi := ⟨_, _, _, _, _, _⟩) (v := undef) rfl (by kernel_rfl) (by kernel_rfl) (by kernel_rfl) (fun _ _ _ h => h) (Or.inr ⟨by rfl, rfl⟩) (by assumption) ?_)); (try simp only [Act.put, List.setIfInBounds_toArray, List.set_cons_zero, List.set_cons_succ])
        (first | (refine wpAnyH_take (i := 15) (oi := ⟨_, _, _, _, _, _⟩) (v := ?_) rfl (by kernel_rfl) (by kernel_rfl) (by kernel_rfl) (fun _ _ _ h => h) (Or.inl ⟨by rfl, ?_⟩) (by assumption) ?_; rotate_left 1; (· (intro w0 hSw; (try dsimp only at hSw); go_simp; (try with_reducible rfl)))) | (refine wpAnyH_take (i := 15) (oi := ⟨_, _, _, _, _, _⟩) (v := undef) rfl (by kernel_rfl) (by kernel_rfl) (by kernel_rfl) (fun _ _ _ h => h) (Or.inr ⟨by rfl, rfl⟩) (by assumption) ?_)); (try simp only [Act.put, List.setIfInBounds_toArray, List.set_cons_zero, List.set_cons_succ])
        (first | (refine wpAnyH_take (i := 16) (oi := ⟨_, _, _, _, _, _⟩) (v := ?_) rfl (by kernel_rfl) (by kernel_rfl) (by kernel_rfl) (fun _ _ _ h => h) (Or.inl ⟨by rfl, ?_⟩) (by assumption) ?_; rotate_left 1; (· (intro w0 hSw; (try dsimp only at hSw); go_simp; (try with_reducible rfl)))) | (refine wpAnyH_take (i := 16) (oi := ⟨_, _, _, _, _, _⟩) (v := undef) rfl (by kernel_rfl) (by kernel_rfl) (by kernel_rfl) (fun _ _ _ h => h) (Or.inr ⟨by rfl, rfl⟩) (by assumption) ?_)); (try simp only [Act.put, List.setIfInBounds_toArray, List.set_cons_zero, List.set_cons_succ])
        (first | (refine wpAnyH_take (i := 17) (oi := ⟨_, _, _, _, _, _⟩) (v := ?_) rfl (by kernel_rfl) (by kernel_rfl) (by kernel_rfl) (fun _ _ _ h => h) (Or.inl ⟨by rfl, ?_⟩) (by assumption) ?_; rotate_left 1; (· (intro w0 hSw; (try dsimp only at hSw); go_simp; (try with_reducible rfl)))) | (refine wpAnyH_take (i := 17) (oi := ⟨_, _, _, _, _, _⟩) (v := undef) rfl (by kernel_rfl) (by kernel_rfl) (by kernel_rfl) (fun _ _ _ h => h) (Or.inr ⟨by rfl, rfl⟩) (by assumption) ?_)); (try simp only [Act.put, List.setIfInBounds_toArray, List.set_cons_zero, List.set_cons_succ])
        (first | (refine wpAnyH_take (i := 18) (oi := ⟨_, _, _, _, _, _⟩) (v := ?_) rfl (by kernel_rfl) (by kernel_rfl) (by kernel_rfl) (fun _ _ _ h => h) (Or.inl ⟨by rfl, ?_⟩) (by assumption) ?_; rotate_left 1; (· (intro w0 hSw; (try dsimp only at hSw); go_simp; (try with_reducible rfl)))) | (refine wpAnyH_take (i := 18) (oi := ⟨_, _, _, _, _, _⟩) (v := undef) rfl (by kernel_rfl) (by kernel_rfl) (by kernel_rfl) (fun _ _ _ h => h) (Or.inr ⟨by rfl, rfl⟩) (by assumption) ?_)); (try simp only [Act.put, List.setIfInBounds_toArray, List.set_cons_zero, List.set_cons_succ])
        refine wpAnyH_ready (rs := [19]) (by kernel_rfl) (by simp) ?_
        refine AllReadyH.cons (o := ⟨_, _, _, _, _, _⟩) rfl (fun K hK => ?_) AllReadyH.nil
        go_simp
        go_at_call 70; refine (HT.out _ ((fun (h : _ ∧ _ ∧ _ ∧ _ ∧ _ ∧ Below w.heap.size w _) => h.2.2.2.2.2) (by assumption))).mono ?_; rintro e w3 ⟨rfl, hb⟩
        (try go_wp2_with fail)
        refine hK.out _ _ ?_ (fun hHeld => ?_)
        · ((exact And.imp (keep_cell (by assumption)) (And.imp (keep_cell (by assumption)) (And.imp (keep_cell (by assumption)) (And.imp (keep_cell (by assumption)) (And.imp (keep_cell (by assumption)) (fun h => Below.step h (by assumption)))))) (by assumption)))
        clear hK K
        (try simp only [Act.put, List.setIfInBounds_toArray, List.set_cons_zero, List.set_cons_succ])
        (first | (refine wpAnyH_take (i := 20) (oi := ⟨_, _, _, _, _, _⟩) (v := ?_) rfl (by kernel_rfl) (by kernel_rfl) (by kernel_rfl) (fun _ _ _ h => h) (Or.inl ⟨by rfl, ?_⟩) (by assumption) ?_; rotate_left 1; (· (intro w0 hSw; (try dsimp only at hSw); go_simp; (try with_reducible rfl)))) | (refine wpAnyH_take (i := 20) (oi := ⟨_, _, _, _, _, _⟩) (v := undef) rfl (by kernel_rfl) (by kernel_rfl) (by kernel_rfl) (fun _ _ _ h => h) (Or.inr ⟨by rfl, rfl⟩) (by assumption) ?_)); (try simp only [Act.put, List.setIfInBounds_toArray, List.set_cons_zero, List.set_cons_succ])
        (first | (refine wpAnyH_take (i := 21) (oi := ⟨_, _, _, _, _, _⟩) (v := ?_) rfl (by kernel_rfl) (by kernel_rfl) (by kernel_rfl) (fun _ _ _ h => h) (Or.inl ⟨by rfl, ?_⟩) (by assumption) ?_; rotate_left 1; (· (intro w0 hSw; (try dsimp only at hSw); go_simp; (try with_reducible rfl)))) | (refine wpAnyH_take (i := 21) (oi := ⟨_, _, _, _, _, _⟩) (v := undef) rfl (by kernel_rfl) (by kernel_rfl) (by kernel_rfl) (fun _ _ _ h => h) (Or.inr ⟨by rfl, rfl⟩) (by assumption) ?_)); (try simp only [Act.put, List.setIfInBounds_toArray, List.set_cons_zero, List.set_cons_succ])
        (first | (refine wpAnyH_take (i := 22) (oi := ⟨_, _, _, _, _, _⟩) (v := ?_) rfl (by kernel_rfl) (by kernel_rfl) (by kernel_rfl) (fun _ _ _ h => h) (Or.inl ⟨by rfl, ?_⟩) (by assumption) ?_; rotate_left 1; (· (intro w0 hSw; (try dsimp only at hSw); go_simp; (try with_reducible rfl)))) | (refine wpAnyH_take (i := 22) (oi := ⟨_, _, _, _, _, _⟩) (v := undef) rfl (by kernel_rfl) (by kernel_rfl) (by kernel_rfl) (fun _ _ _ h => h) (Or.inr ⟨by rfl, rfl⟩) (by assumption) ?_)); (try simp only [Act.put, List.setIfInBounds_toArray, List.set_cons_zero, List.set_cons_succ])
        (first | (refine wpAnyH_take (i := 23) (oi := ⟨_, _, _, _, _, _⟩) (v := ?_) rfl (by kernel_rfl) (by kernel_rfl) (by kernel_rfl) (fun _ _ _ h => h) (Or.inl ⟨by rfl, ?_⟩) (by assumption) ?_; rotate_left 1; (· (intro w0 hSw; (try dsimp only at hSw); go_simp; (try with_reducible rfl)))) | (refine wpAnyH_take (i := 23) (oi := ⟨_, _, _, _, _, _⟩) (v := undef) rfl (by kernel_rfl) (by kernel_rfl) (by kernel_rfl) (fun _ _ _ h => h) (Or.inr ⟨by rfl, rfl⟩) (by assumption) ?_)); (try simp only [Act.put, List.setIfInBounds_toArray, List.set_cons_zero, List.set_cons_succ])
        (first | (refine wpAnyH_take (i := 24) (oi := ⟨_, _, _, _, _, _⟩) (v := ?_) rfl (by kernel_rfl) (by kernel_rfl) (by kernel_rfl) (fun _ _ _ h => h) (Or.inl ⟨by rfl, ?_⟩) (by assumption) ?_; rotate_left 1; (· (intro w0 hSw; (try dsimp only at hSw); go_simp; (try with_reducible rfl)))) | (refine wpAnyH_take (i := 24) (oi := ⟨_, _, _, _, _, _⟩) (v := undef) rfl (by kernel_rfl) (by kernel_rfl) (by kernel_rfl) (fun _ _ _ h => h) (Or.inr ⟨by rfl, rfl⟩) (by assumption) ?_)); (try simp only [Act.put, List.setIfInBounds_toArray, List.set_cons_zero, List.set_cons_succ])
        (first | (refine wpAnyH_take (i := 25) (oi := ⟨_, _, _, _, _, _⟩) (v := ?_) rfl (by kernel_rfl) (by kernel_rfl) (by kernel_rfl) (fun _ _ _ h => h) (Or.inl ⟨by rfl, ?_⟩) (by assumption) ?_; rotate_left 1; (· (intro w0 hSw; (try dsimp only at hSw); go_simp; (try with_reducible rfl)))) | (refine wpAnyH_take (i := 25) (oi := ⟨_, _, _, _, _, _⟩) (v := undef) rfl (by kernel_rfl) (by kernel_rfl) (by kernel_rfl) (fun _ _ _ h => h) (Or.inr ⟨by rfl, rfl⟩) (by assumption) ?_)); (try simp only [Act.put, List.setIfInBounds_toArray, List.set_cons_zero, List.set_cons_succ])
        (first | (refine wpAnyH_take (i := 26) (oi := ⟨_, _, _, _, _, _⟩) (v := ?_) rfl (by kernel_rfl) (by kernel_rfl) (by kernel_rfl) (fun _ _ _ h => h) (Or.inl ⟨by rfl, ?_⟩) (by assumption) ?_; rotate_left 1; (· (intro w0 hSw; (try dsimp only at hSw); go_simp; (try with_reducible rfl)))) | (refine wpAnyH_take (i := 26) (oi := ⟨_, _, _, _, _, _⟩) (v := undef) rfl (by kernel_rfl) (by kernel_rfl) (by kernel_rfl) (fun _ _ _ h => h) (Or.inr ⟨by rfl, rfl⟩) (by assumption) ?_)); (try simp only [Act.put, List.setIfInBounds_toArray, List.set_cons_zero, List.set_cons_succ])
        (first | (refine wpAnyH_take (i := 27) (oi := ⟨_, _, _, _, _, _⟩) (v := ?_) rfl (by kernel_rfl) (by kernel_rfl) (by kernel_rfl) (fun _ _ _ h => h) (Or.inl ⟨by rfl, ?_⟩) (by assumption) ?_; rotate_left 1; (· (intro w0 hSw; (try dsimp only at hSw); go_simp; (try with_reducible rfl)))) | (refine wpAnyH_take (i := 27) (oi := ⟨_, _, _, _, _, _⟩) (v := undef) rfl (by kernel_rfl) (by kernel_rfl) (by kernel_rfl) (fun _ _ _ h => h) (Or.inr ⟨by rfl, rfl⟩) (by assumption) ?_)); (try simp only [Act.put, List.setIfInBounds_toArray, List.set_cons_zero, List.set_cons_succ])
        (first | (refine wpAnyH_take (i := 28) (oi := ⟨_, _, _, _, _, _⟩) (v := ?_) rfl (by kernel_rfl) (by kernel_rfl) (by kernel_rfl) (fun _ _ _ h => h) (Or.inl ⟨by rfl, ?_⟩) (by assumption) ?_; rotate_left 1; (· (intro w0 hSw; (try dsimp only at hSw); go_simp; (try with_reducible rfl)))) | (refine wpAnyH_take (i := 28) (oi := ⟨_, _, _, _, _, _⟩) (v := undef) rfl (by kernel_rfl) (by kernel_rfl) (by kernel_rfl) (fun _ _ _ h => h) (Or.inr ⟨by rfl, rfl⟩) (by assumption) ?_)); (try simp only [Act.put, List.setIfInBounds_toArray, List.set_cons_zero, List.set_cons_succ])
        (first | (refine wpAnyH_take (i := 29) (oi := ⟨_, _, _, _, _, _⟩) (v := ?_) rfl (by kernel_rfl) (by kernel_rfl) (by kernel_rfl) (fun _ _ _ h => h) (Or.inl ⟨by rfl, ?_⟩) (by assumption) ?_; rotate_left 1; (· (intro w0 hSw; (try dsimp only at hSw); go_simp; (try with_reducible rfl)))) | (refine wpAnyH_take (i := 29) (oi := ⟨_, _, _, _, _, _⟩) (v := undef) rfl (by kernel_rfl) (by kernel_rfl) (by kernel_rfl) (fun _ _ _ h => h) (Or.inr ⟨by rfl, rfl⟩) (by assumption) ?_)); (try simp only [Act.put, List.setIfInBounds_toArray, List.set_cons_zero, List.set_cons_succ])
        (first | (refine wpAnyH_take (i := 30) (oi := ⟨_, _, _, _, _, _⟩) (v := ?_) rfl (by kernel_rfl) (by kernel_rfl) (by kernel_rfl) (fun _ _ _ h => h) (Or.inl ⟨by rfl, ?_⟩) (by assumption) ?_; rotate_left 1; (· (intro w0 hSw; (try dsimp only at hSw); go_simp; (try with_reducible rfl)))) | (refine wpAnyH_take (i := 30) (oi := ⟨_, _, _, _, _, _⟩) (v := undef) rfl (by kernel_rfl) (by kernel_rfl) (by kernel_rfl) (fun _ _ _ h => h) (Or.inr ⟨by rfl, rfl⟩) (by assumption) ?_)); (try simp only [Act.put, List.setIfInBounds_toArray, List.set_cons_zero, List.set_cons_succ])
        (first | (refine wpAnyH_take (i := 31) (oi := ⟨_, _, _, _, _, _⟩) (v := ?_) rfl (by kernel_rfl) (by kernel_rfl) (by kernel_rfl) (fun _ _ _ h => h) (Or.inl ⟨by rfl, ?_⟩) (by assumption) ?_; rotate_left 1; (· (intro w0 hSw; (try dsimp only at hSw); go_simp; (try with_reducible rfl)))) | (refine wpAnyH_take (i := 31) (oi := ⟨_, _, _, _, _, _⟩) (v := undef) rfl (by kernel_rfl) (by kernel_rfl) (by kernel_rfl) (fun _ _ _ h => h) (Or.inr ⟨by rfl, rfl⟩) (by assumption) ?_)); (try simp only [Act.put, List.setIfInBounds_toArray, List.set_cons_zero, List.set_cons_succ])
        (first | (refine wpAnyH_take (i := 32) (oi := ⟨_, _, _, _, _, _⟩) (v := ?_) rfl (by kernel_rfl) (by kernel_rfl) (by kernel_rfl) (fun _ _ _ h => h) (Or.inl ⟨by rfl, ?_⟩) (by assumption) ?_; rotate_left 1; (· (intro w0 hSw; (try dsimp only at hSw); go_simp; (try with_reducible rfl)))) | (refine wpAnyH_take (i := 32) (oi := ⟨_, _, _, _, _, _⟩) (v := undef) rfl (by kernel_rfl) (by kernel_rfl) (by kernel_rfl) (fun _ _ _ h => h) (Or.inr ⟨by rfl, rfl⟩) (by assumption) ?_)); (try simp only [Act.put, List.setIfInBounds_toArray, List.set_cons_zero, List.set_cons_succ])
        refine wpAnyH_ready (rs := [33]) (by kernel_rfl) (by simp) ?_
        refine AllReadyH.cons (o := ⟨_, _, _, _, _, _⟩) rfl (fun K hK => ?_) AllReadyH.nil
        go_simp
        go_at_call 73; refine (intime_c t (x.noon + x.again) x.late u1 u2 l0 l1 _ _ ((fun (h : _ ∧ _ ∧ _ = some (Value.int .i64 x.late) ∧ _) => h.2.2.1) (by assumption))).mono ?_; rintro e w' ⟨rfl, rfl⟩
        (try go_wp2_with fail)
        refine hK.out _ _ ?_ (fun hHeld => ?_)
        · assumption
        clear hK K
        (try simp only [Act.put, List.setIfInBounds_toArray, List.set_cons_zero, List.set_cons_succ])
        (first | (refine wpAnyH_take (i := 34) (oi := ⟨_, _, _, _, _, _⟩) (v := ?_) rfl (by kernel_rfl) (by kernel_rfl) (by kernel_rfl) (fun _ _ _ h => h) (Or.inl ⟨by rfl, ?_⟩) (by assumption) ?_; rotate_left 1; (· (intro w0 hSw; (try dsimp only at hSw); go_simp; (try with_reducible rfl)))) | (refine wpAnyH_take (i := 34) (oi := ⟨_, _, _, _, _, _⟩) (v := undef) rfl (by kernel_rfl) (by kernel_rfl) (by kernel_rfl) (fun _ _ _ h => h) (Or.inr ⟨by rfl, rfl⟩) (by assumption) ?_)); (try simp only [Act.put, List.setIfInBounds_toArray, List.set_cons_zero, List.set_cons_succ])
        (first | (refine wpAnyH_take (i := 35) (oi := ⟨_, _, _, _, _, _⟩) (v := ?_) rfl (by kernel_rfl) (by kernel_rfl) (by kernel_rfl) (fun _ _ _ h => h) (Or.inl ⟨by rfl, ?_⟩) (by assumption) ?_; rotate_left 1; (· (intro w0 hSw; (try dsimp only at hSw); go_simp; (try with_reducible rfl)))) | (refine wpAnyH_take (i := 35) (oi := ⟨_, _, _, _, _, _⟩) (v := undef) rfl (by kernel_rfl) (by kernel_rfl) (by kernel_rfl) (fun _ _ _ h => h) (Or.inr ⟨by rfl, rfl⟩) (by assumption) ?_)); (try simp only [Act.put, List.setIfInBounds_toArray, List.set_cons_zero, List.set_cons_succ])
        refine wpAnyH_done (by kernel_rfl) ?_ _
        rw [G3.out]
        have hB := ((fun (h : _ ∧ _ ∧ _ ∧ _ ∧ _ ∧ Below w.heap.size w _) => h.2.2.2.2.2) (by assumption))
        clear s1 s2
        go_wp2
        go_ret2
        exact ⟨rfl, hB⟩
  · have G2 := Lib.hid (show decide (x.noon + x.again - x.half ≤ t) = false by simpa using g2)
    rw [G2.out]
    have g2' : t < x.noon + x.again - x.half := by omega
    clear g2
    rw [Bool.false_and, if_neg (by simp), if_neg (by simp)]
    go_enter Tryz.func45, Tryz.ntmps45
    go_wp2_with fail
    refine (HI.out _ (by (repeat (first | exact Below.refl _ _ | refine Below.drew ?_ | refine Below.allocS ?_ _ | refine Below.step ?_ (by assumption) | refine Below.setCell ?_ (by simp <;> omega) _ | refine Below.drewN' ?_ _)))).mono ?_
    rintro e w1 ⟨rfl, hb1⟩
    have x1_0_0 : w1.cell? ⟨w.heap.size, 0, none⟩ = some (.int .i64 x.noon) := keep_cell hb1 (by simp [go_sem, *])
    have x1_0_1 : w1.cell? ⟨w.heap.size, 1, none⟩ = some (.int .i64 x.half) := keep_cell hb1 (by simp [go_sem, *])
    have x1_0_2 : w1.cell? ⟨w.heap.size, 2, none⟩ = some (.int .i64 x.full) := keep_cell hb1 (by simp [go_sem, *])
    have x1_0_3 : w1.cell? ⟨w.heap.size, 3, none⟩ = some (.int .i64 x.late) := keep_cell hb1 (by simp [go_sem, *])
    have x1_0_4 : w1.cell? ⟨w.heap.size, 4, none⟩ = some (.int .i64 x.again) := keep_cell hb1 (by simp [go_sem, *])
    have x1_0_5 : w1.cell? ⟨w.heap.size, 5, none⟩ = some (.int .i64 x.wind) := keep_cell hb1 (by simp [go_sem, *])
    have y1_0 : w.heap.size < w1.heap.size := cell?_lt x1_0_0
    have g1 : Below w.heap.size w w1 := by (repeat (first | exact Below.refl _ _ | refine Below.drew ?_ | refine Below.allocS ?_ _ | refine Below.step ?_ (by assumption) | refine Below.setCell ?_ (by simp <;> omega) _ | refine Below.drewN' ?_ _))
    clear hb1
    have e0 := keep_cell g1 E0.out
    go_wp2_with fail
    go_quiet ((go_at_call 73; exact intime_q t x.noon x.late (by omega) (by omega) (by omega) (by omega) _ _ x1_0_3 _))
    rw [G1.out]
    obtain ⟨W2, hW2⟩ : ∃ W, w1.drewN nq = W := ⟨_, rfl⟩
    have x2_0 : W2.cell? ⟨w.heap.size, 0, none⟩ = some (.int .i64 x.noon) := by rw [← hW2]; exact x1_0_0
    have x2_1 : W2.cell? ⟨w.heap.size, 1, none⟩ = some (.int .i64 x.half) := by rw [← hW2]; exact x1_0_1
    have x2_3 : W2.cell? ⟨w.heap.size, 3, none⟩ = some (.int .i64 x.late) := by rw [← hW2]; exact x1_0_3
    have x2_4 : W2.cell? ⟨w.heap.size, 4, none⟩ = some (.int .i64 x.again) := by rw [← hW2]; exact x1_0_4
    have e2 : W2.cell? ⟨b, off + d * 3, none⟩ = some (.int .i64 t) := by rw [← hW2]; exact e0
    have b2 : Below w.heap.size w W2 := by rw [← hW2]; exact Below.drewN' g1 _
    rw [hW2]
    clear hW2 x1_0_0 x1_0_1 x1_0_2 x1_0_3 x1_0_4 x1_0_5 e0 g1
    go_wp2_with fail
    have d0 : (0 : Int) ≤ (d : Int) := by omega
    have d1 : (d : Int) ≤ (cap : Int) := by omega
    have d2 : (d : Int) < (l.length : Int) := by omega
    have u1 : 0 ≤ x.noon + x.again := by omega
    have u2 : x.noon + x.again < 200000000 := by omega
    have s1 : IntKind.i64.wrap (x.noon + x.again) = x.noon + x.again := IntWalk.i64_in _ (by omega)
    have s2 : IntKind.i64.wrap (x.noon + x.again - x.half) = x.noon + x.again - x.half := IntWalk.i64_in _ (by omega)
    have g3 := G2.out
    refine wp_region_held_drew (S := (fun W => W.cell? ⟨w.heap.size, 0, none⟩ = some (.int .i64 x.noon) ∧ W.cell? ⟨w.heap.size, 1, none⟩ = some (.int .i64 x.half) ∧ W.cell? ⟨w.heap.size, 3, none⟩ = some (.int .i64 x.late) ∧ W.cell? ⟨w.heap.size, 4, none⟩ = some (.int .i64 x.again) ∧ W.cell? ⟨b, off + d * 3, none⟩ = some (.int .i64 t) ∧ Below w.heap.size w W)) (by kernel_rfl) ?_ (fun hHeld => ?_); (· exact ⟨x2_0, x2_1, x2_3, x2_4, e2, Below.drew b2⟩)
    (first | (refine wpAnyH_take (i := 0) (oi := ⟨_, _, _, _, _, _⟩) (v := ?_) rfl (by kernel_rfl) (by kernel_rfl) (by kernel_rfl) (fun _ _ _ h => h) (Or.inl ⟨by rfl, ?_⟩) (by assumption) ?_; rotate_left 1; (· (intro w0 hSw; (try dsimp only at hSw); go_simp; (try with_reducible rfl)))) | (refine wpAnyH_take (i := 0) (oi := ⟨_, _, _, _, _, _⟩) (v := undef) rfl (by kernel_rfl) (by kernel_rfl) (by kernel_rfl) (fun _ _ _ h => h) (Or.inr ⟨by rfl, rfl⟩) (by assumption) ?_)); (try simp only [Act.put, List.setIfInBounds_toArray, List.set_cons_zero, List.set_cons_succ])
    (first | (refine wpAnyH_take (i := 1) (oi := ⟨_, _, _, _, _, _⟩) (v := ?_) rfl (by kernel_rfl) (by kernel_rfl) (by kernel_rfl) (fun _ _ _ h => h) (Or.inl ⟨by rfl, ?_⟩) (by assumption) ?_; rotate_left 1; (· (intro w0 hSw; (try dsimp only at hSw); go_simp; (try with_reducible rfl)))) | (refine wpAnyH_take (i := 1) (oi := ⟨_, _, _, _, _, _⟩) (v := undef) rfl (by kernel_rfl) (by kernel_rfl) (by kernel_rfl) (fun _ _ _ h => h) (Or.inr ⟨by rfl, rfl⟩) (by assumption) ?_)); (try simp only [Act.put, List.setIfInBounds_toArray, List.set_cons_zero, List.set_cons_succ])
    (first | (refine wpAnyH_take (i := 2) (oi := ⟨_, _, _, _, _, _⟩) (v := ?_) rfl (by kernel_rfl) (by kernel_rfl) (by kernel_rfl) (fun _ _ _ h => h) (Or.inl ⟨by rfl, ?_⟩) (by assumption) ?_; rotate_left 1; (· (intro w0 hSw; (try dsimp only at hSw); go_simp; (try with_reducible rfl)))) | (refine wpAnyH_take (i := 2) (oi := ⟨_, _, _, _, _, _⟩) (v := undef) rfl (by kernel_rfl) (by kernel_rfl) (by kernel_rfl) (fun _ _ _ h => h) (Or.inr ⟨by rfl, rfl⟩) (by assumption) ?_)); (try simp only [Act.put, List.setIfInBounds_toArray, List.set_cons_zero, List.set_cons_succ])
    (first | (refine wpAnyH_take (i := 3) (oi := ⟨_, _, _, _, _, _⟩) (v := ?_) rfl (by kernel_rfl) (by kernel_rfl) (by kernel_rfl) (fun _ _ _ h => h) (Or.inl ⟨by rfl, ?_⟩) (by assumption) ?_; rotate_left 1; (· (intro w0 hSw; (try dsimp only at hSw); go_simp; (try with_reducible rfl)))) | (refine wpAnyH_take (i := 3) (oi := ⟨_, _, _, _, _, _⟩) (v := undef) rfl (by kernel_rfl) (by kernel_rfl) (by kernel_rfl) (fun _ _ _ h => h) (Or.inr ⟨by rfl, rfl⟩) (by assumption) ?_)); (try simp only [Act.put, List.setIfInBounds_toArray, List.set_cons_zero, List.set_cons_succ])
    (first | (refine wpAnyH_take (i := 4) (oi := ⟨_, _, _, _, _, _⟩) (v := ?_) rfl (by kernel_rfl) (by kernel_rfl) (by kernel_rfl) (fun _ _ _ h => h) (Or.inl ⟨by rfl, ?_⟩) (by assumption) ?_; rotate_left 1; (· (intro w0 hSw; (try dsimp only at hSw); go_simp; (try with_reducible rfl)))) | (refine wpAnyH_take (i := 4) (oi := ⟨_, _, _, _, _, _⟩) (v := undef) rfl (by kernel_rfl) (by kernel_rfl) (by kernel_rfl) (fun _ _ _ h => h) (Or.inr ⟨by rfl, rfl⟩) (by assumption) ?_)); (try simp only [Act.put, List.setIfInBounds_toArray, List.set_cons_zero, List.set_cons_succ])
    (first | (refine wpAnyH_take (i := 5) (oi := ⟨_, _, _, _, _, _⟩) (v := ?_) rfl (by kernel_rfl) (by kernel_rfl) (by kernel_rfl) (fun _ _ _ h => h) (Or.inl ⟨by rfl, ?_⟩) (by assumption) ?_; rotate_left 1; (· (intro w0 hSw; (try dsimp only at hSw); go_simp; (try with_reducible rfl)))) | (refine wpAnyH_take (i := 5) (oi := ⟨_, _, _, _, _, _⟩) (v := undef) rfl (by kernel_rfl) (by kernel_rfl) (by kernel_rfl) (fun _ _ _ h => h) (Or.inr ⟨by rfl, rfl⟩) (by assumption) ?_)); (try simp only [Act.put, List.setIfInBounds_toArray, List.set_cons_zero, List.set_cons_succ])
    (first | (refine wpAnyH_take (i := 6) (oi := ⟨_, _, _, _, _, _⟩) (v := ?_) rfl (by kernel_rfl) (by kernel_rfl) (by kernel_rfl) (fun _ _ _ h => h) (Or.inl ⟨by rfl, ?_⟩) (by assumption) ?_; rotate_left 1; (· (intro w0 hSw; (try dsimp only at hSw); go_simp; (try with_reducible rfl)))) | (refine wpAnyH_take (i := 6) (oi := ⟨_, _, _, _, _, _⟩) (v := undef) rfl (by kernel_rfl) (by kernel_rfl) (by kernel_rfl) (fun _ _ _ h => h) (Or.inr ⟨by rfl, rfl⟩) (by assumption) ?_)); (try simp only [Act.put, List.setIfInBounds_toArray, List.set_cons_zero, List.set_cons_succ])
    (first | (refine wpAnyH_take (i := 7) (oi := ⟨_, _, _, _, _, _⟩) (v := ?_) rfl (by kernel_rfl) (by kernel_rfl) (by kernel_rfl) (fun _ _ _ h => h) (Or.inl ⟨by rfl, ?_⟩) (by assumption) ?_; rotate_left 1; (· (intro w0 hSw; (try dsimp only at hSw); go_simp; (try with_reducible rfl)))) | (refine wpAnyH_take (i := 7) (oi := ⟨_, _, _, _, _, _⟩) (v := undef) rfl (by kernel_rfl) (by kernel_rfl) (by kernel_rfl) (fun _ _ _ h => h) (Or.inr ⟨by rfl, rfl⟩) (by assumption) ?_)); (try simp only [Act.put, List.setIfInBounds_toArray, List.set_cons_zero, List.set_cons_succ])
    (first | (refine wpAnyH_take (i := 8) (oi := ⟨_, _, _, _, _, _⟩) (v := ?_) rfl (by kernel_rfl) (by kernel_rfl) (by kernel_rfl) (fun _ _ _ h => h) (Or.inl ⟨by rfl, ?_⟩) (by assumption) ?_; rotate_left 1; (· (intro w0 hSw; (try dsimp only at hSw); go_simp; (try with_reducible rfl)))) | (refine wpAnyH_take (i := 8) (oi := ⟨_, _, _, _, _, _⟩) (v := undef) rfl (by kernel_rfl) (by kernel_rfl) (by kernel_rfl) (fun _ _ _ h => h) (Or.inr ⟨by rfl, rfl⟩) (by assumption) ?_)); (try simp only [Act.put, List.setIfInBounds_toArray, List.set_cons_zero, List.set_cons_succ])
    (first | (refine wpAnyH_take (i := 9) (oi := ⟨_, _, _, _, _, _⟩) (v := ?_) rfl (by kernel_rfl) (by kernel_rfl) (by kernel_rfl) (fun _ _ _ h => h) (Or.inl ⟨by rfl, ?_⟩) (by assumption) ?_; rotate_left 1; (· (intro w0 hSw; (try dsimp only at hSw); go_simp; (try with_reducible rfl)))) | (refine wpAnyH_take (i := 9) (oi := ⟨_, _, _, _, _, _⟩) (v := undef) rfl (by kernel_rfl) (by kernel_rfl) (by kernel_rfl) (fun _ _ _ h => h) (Or.inr ⟨by rfl, rfl⟩) (by assumption) ?_)); (try simp only [Act.put, List.setIfInBounds_toArray, List.set_cons_zero, List.set_cons_succ])
    (first | (refine wpAnyH_take (i := 10) (oi := ⟨_, _, _, _, _, _⟩) (v := ?_) rfl (by kernel_rfl) (by kernel_rfl) (by kernel_rfl) (fun _ _ _ h => h) (Or.inl ⟨by rfl, ?_⟩) (by assumption) ?_; rotate_left 1; (· (intro w0 hSw; (try dsimp only at hSw); go_simp; (try with_reducible rfl)))) | (refine wpAnyH_take (i := 10) (oi := ⟨_, _, _, _, _, _⟩) (v := undef) rfl (by kernel_rfl) (by kernel_rfl) (by kernel_rfl) (fun _ _ _ h => h) (Or.inr ⟨by rfl, rfl⟩) (by assumption) ?_)); (try simp only [Act.put, List.setIfInBounds_toArray, List.set_cons_zero, List.set_cons_succ])
    (first | (refine wpAnyH_take (i := 11) (oi := ⟨_, _, _, _, _, _⟩) (v := ?_) rfl (by kernel_rfl) (by kernel_rfl) (by kernel_rfl) (fun _ _ _ h => h) (Or.inl ⟨by rfl, ?_⟩) (by assumption) ?_; rotate_left 1; (· (intro w0 hSw; (try dsimp only at hSw); go_simp; (try with_reducible rfl)))) | (refine wpAnyH_take (i := 11) (oi := ⟨_, _, _, _, _, _⟩) (v := undef) rfl (by kernel_rfl) (by kernel_rfl) (by kernel_rfl) (fun _ _ _ h => h) (Or.inr ⟨by rfl, rfl⟩) (by assumption) ?_)); (try simp only [Act.put, List.setIfInBounds_toArray, List.set_cons_zero, List.set_cons_succ])
    (first | (refine wpAnyH_take (i := 12) (oi := ⟨_, _, _, _, _, _⟩) (v := ?_) rfl (by kernel_rfl) (by kernel_rfl) (by kernel_rfl) (fun _ _ _ h => h) (Or.inl ⟨by rfl, ?_⟩) (by assumption) ?_; rotate_left 1; (· (intro w0 hSw; (try dsimp only at hSw); go_simp; (try with_reducible rfl)))) | (refine wpAnyH_take (i := 12) (oi := ⟨_, _, _, _, _, _⟩) (v := undef) rfl (by kernel_rfl) (by kernel_rfl) (by kernel_rfl) (fun _ _ _ h => h) (Or.inr ⟨by rfl, rfl⟩) (by assumption) ?_)); (try simp only [Act.put, List.setIfInBounds_toArray, List.set_cons_zero, List.set_cons_succ])
    (first | (refine wpAnyH_take (i := 13) (oi := ⟨_, _, _, _, _, _⟩) (v := ?_) rfl (by kernel_rfl) (by kernel_rfl) (by kernel_rfl) (fun _ _ _ h => h) (Or.inl ⟨by rfl, ?_⟩) (by assumption) ?_; rotate_left 1; (· (intro w0 hSw; (try dsimp only at hSw); go_simp; (try with_reducible rfl)))) | (refine wpAnyH_take (i := 13) (oi := ⟨_, _, _, _, _, _⟩) (v := undef) rfl (by kernel_rfl) (by kernel_rfl) (by kernel_rfl) (fun _ _ _ h => h) (Or.inr ⟨by rfl, rfl⟩) (by assumption) ?_)); (try simp only [Act.put, List.setIfInBounds_toArray, List.set_cons_zero, List.set_cons_succ])
    (first | (refine wpAnyH_take (i := 14) (oi := ⟨_, _, _, _, _, _⟩) (v := ?_) rfl (by kernel_rfl) (by kernel_rfl) (by kernel_rfl) (fun _ _ _ h => h) (Or.inl ⟨by rfl, ?_⟩) (by assumption) ?_; rotate_left 1; (· (intro w0 hSw; (try dsimp only at hSw); go_simp; (try with_reducible rfl)))) | (refine wpAnyH_take (i := 14) (oi := ⟨_, _, _, _, _, _⟩) (v := undef) rfl (by kernel_rfl) (by kernel_rfl) (by kernel_rfl) (fun _ _ _ h => h) (Or.inr ⟨by rfl, rfl⟩) (by assumption) ?_)); (try simp only [Act.put, List.setIfInBounds_toArray, List.set_cons_zero, List.set_cons_succ])
    (first | (refine wpAnyH_take (i := 15) (oi := ⟨_, _, _, _, _, _⟩) (v := ?_) rfl (by kernel_rfl) (by kernel_rfl) (by kernel_rfl) (fun _ _ _ h => h) (Or.inl ⟨by rfl, ?_⟩) (by assumption) ?_; rotate_left 1; (· (intro w0 hSw; (try dsimp only at hSw); go_simp; (try with_reducible rfl)))) | (refine wpAnyH_take (i := 15) (oi := ⟨_, _, _, _, _, _⟩) (v := undef) rfl (by kernel_rfl) (by kernel_rfl) (by kernel_rfl) (fun _ _ _ h => h) (Or.inr ⟨by rfl, rfl⟩) (by assumption) ?_)); (try simp only [Act.put, List.setIfInBounds_toArray, List.set_cons_zero, List.set_cons_succ])
    (first | (refine wpAnyH_take (i := 16) (oi := ⟨_, _, _, _, _, _⟩) (v := ?_) rfl (by kernel_rfl) (by kernel_rfl) (by kernel_rfl) (fun _ _ _ h => h) (Or.inl ⟨by rfl, ?_⟩) (by assumption) ?_; rotate_left 1; (· (intro w0 hSw; (try dsimp only at hSw); go_simp; (try with_reducible rfl)))) | (refine wpAnyH_take (i := 16) (oi := ⟨_, _, _, _, _, _⟩) (v := undef) rfl (by kernel_rfl) (by kernel_rfl) (by kernel_rfl) (fun _ _ _ h => h) (Or.inr ⟨by rfl, rfl⟩) (by assumption) ?_)); (try simp only [Act.put, List.setIfInBounds_toArray, List.set_cons_zero, List.set_cons_succ])
    (first | (refine wpAnyH_take (i := 17) (oi := ⟨_, _, _, _, _, _⟩) (v := ?_) rfl (by kernel_rfl) (by kernel_rfl) (by kernel_rfl) (fun _ _ _ h => h) (Or.inl ⟨by rfl, ?_⟩) (by assumption) ?_; rotate_left 1; (· (intro w0 hSw; (try dsimp only at hSw); go_simp; (try with_reducible rfl)))) | (refine wpAnyH_take (i := 17) (oi := ⟨_, _, _, _, _, _⟩) (v := undef) rfl (by kernel_rfl) (by kernel_rfl) (by kernel_rfl) (fun _ _ _ h => h) (Or.inr ⟨by rfl, rfl⟩) (by assumption) ?_)); (try simp only [Act.put, List.setIfInBounds_toArray, List.set_cons_zero, List.set_cons_succ])
    (first | (refine wpAnyH_take (i := 18) (oi := ⟨_, _, _, _, _, _⟩) (v := ?_) rfl (by kernel_rfl) (by kernel_rfl) (by kernel_rfl) (fun _ _ _ h => h) (Or.inl ⟨by rfl, ?_⟩) (by assumption) ?_; rotate_left 1; (· (intro w0 hSw; (try dsimp only at hSw); go_simp; (try with_reducible rfl)))) | (refine wpAnyH_take (i := 18) (oi := ⟨_, _, _, _, _, _⟩) (v := undef) rfl (by kernel_rfl) (by kernel_rfl) (by kernel_rfl) (fun _ _ _ h => h) (Or.inr ⟨by rfl, rfl⟩) (by assumption) ?_)); (try simp only [Act.put, List.setIfInBounds_toArray, List.set_cons_zero, List.set_cons_succ])
    (first | (refine wpAnyH_take (i := 19) (oi := ⟨_, _, _, _, _, _⟩) (v := ?_) rfl (by kernel_rfl) (by kernel_rfl) (by kernel_rfl) (fun _ _ _ h => h) (Or.inl ⟨by rfl, ?_⟩) (by assumption) ?_; rotate_left 1; (· (intro w0 hSw; (try dsimp only at hSw); go_simp; (try with_reducible rfl)))) | (refine wpAnyH_take (i := 19) (oi := ⟨_, _, _, _, _, _⟩) (v := undef) rfl (by kernel_rfl) (by kernel_rfl) (by kernel_rfl) (fun _ _ _ h => h) (Or.inr ⟨by rfl, rfl⟩) (by assumption) ?_)); (try simp only [Act.put, List.setIfInBounds_toArray, List.set_cons_zero, List.set_cons_succ])
    (first | (refine wpAnyH_take (i := 20) (oi := ⟨_, _, _, _, _, _⟩) (v := ?_) rfl (by kernel_rfl) (by kernel_rfl) (by kernel_rfl) (fun _ _ _ h => h) (Or.inl ⟨by rfl, ?_⟩) (by assumption) ?_; rotate_left 1; (· (intro w0 hSw; (try dsimp only at hSw); go_simp; (try with_reducible rfl)))) | (refine wpAnyH_take (i := 20) (oi := ⟨_, _, _, _, _, _⟩) (v := undef) rfl (by kernel_rfl) (by kernel_rfl) (by kernel_rfl) (fun _ _ _ h => h) (Or.inr ⟨by rfl, rfl⟩) (by assumption) ?_)); (try simp only [Act.put, List.setIfInBounds_toArray, List.set_cons_zero, List.set_cons_succ])
    (first | (refine wpAnyH_take (i := 21) (oi := ⟨_, _, _, _, _, _⟩) (v := ?_) rfl (by kernel_rfl) (by kernel_rfl) (by kernel_rfl) (fun _ _ _ h => h) (Or.inl ⟨by rfl, ?_⟩) (by assumption) ?_; rotate_left 1; (· (intro w0 hSw; (try dsimp only at hSw); go_simp; (try with_reducible rfl)))) | (refine wpAnyH_take (i := 21) (oi := ⟨_, _, _, _, _, _⟩) (v := undef) rfl (by kernel_rfl) (by kernel_rfl) (by kernel_rfl) (fun _ _ _ h => h) (Or.inr ⟨by rfl, rfl⟩) (by assumption) ?_)); (try simp only [Act.put, List.setIfInBounds_toArray, List.set_cons_zero, List.set_cons_succ])
    (first | (refine wpAnyH_take (i := 22) (oi := ⟨_, _, _, _, _, _⟩) (v := ?_) rfl (by kernel_rfl) (by kernel_rfl) (by kernel_rfl) (fun _ _ _ h => h) (Or.inl ⟨by rfl, ?_⟩) (by assumption) ?_; rotate_left 1; (· (intro w0 hSw; (try dsimp only at hSw); go_simp; (try with_reducible rfl)))) | (refine wpAnyH_take (i := 22) (oi := ⟨_, _, _, _, _, _⟩) (v := undef) rfl (by kernel_rfl) (by kernel_rfl) (by kernel_rfl) (fun _ _ _ h => h) (Or.inr ⟨by rfl, rfl⟩) (by assumption) ?_)); (try simp only [Act.put, List.setIfInBounds_toArray, List.set_cons_zero, List.set_cons_succ])
    (first | (refine wpAnyH_take (i := 23) (oi := ⟨_, _, _, _, _, _⟩) (v := ?_) rfl (by kernel_rfl) (by kernel_rfl) (by kernel_rfl) (fun _ _ _ h => h) (Or.inl ⟨by rfl, ?_⟩) (by assumption) ?_; rotate_left 1; (· (intro w0 hSw; (try dsimp only at hSw); go_simp; (try with_reducible rfl)))) | (refine wpAnyH_take (i := 23) (oi := ⟨_, _, _, _, _, _⟩) (v := undef) rfl (by kernel_rfl) (by kernel_rfl) (by kernel_rfl) (fun _ _ _ h => h) (Or.inr ⟨by rfl, rfl⟩) (by assumption) ?_)); (try simp only [Act.put, List.setIfInBounds_toArray, List.set_cons_zero, List.set_cons_succ])
    (first | (refine wpAnyH_take (i := 24) (oi := ⟨_, _, _, _, _, _⟩) (v := ?_) rfl (by kernel_rfl) (by kernel_rfl) (by kernel_rfl) (fun _ _ _ h => h) (Or.inl ⟨by rfl, ?_⟩) (by assumption) ?_; rotate_left 1; (· (intro w0 hSw; (try dsimp only at hSw); go_simp; (try with_reducible rfl)))) | (refine wpAnyH_take (i := 24) (oi := ⟨_, _, _, _, _, _⟩) (v := undef) rfl (by kernel_rfl) (by kernel_rfl) (by kernel_rfl) (fun _ _ _ h => h) (Or.inr ⟨by rfl, rfl⟩) (by assumption) ?_)); (try simp only [Act.put, List.setIfInBounds_toArray, List.set_cons_zero, List.set_cons_succ])
    (first | (refine wpAnyH_take (i := 25) (oi := ⟨_, _, _, _, _, _⟩) (v := ?_) rfl (by kernel_rfl) (by kernel_rfl) (by kernel_rfl) (fun _ _ _ h => h) (Or.inl ⟨by rfl, ?_⟩) (by assumption) ?_; rotate_left 1; (· (intro w0 hSw; (try dsimp only at hSw); go_simp; (try with_reducible rfl)))) | (refine wpAnyH_take (i := 25) (oi := ⟨_, _, _, _, _, _⟩) (v := undef) rfl (by kernel_rfl) (by kernel_rfl) (by kernel_rfl) (fun _ _ _ h => h) (Or.inr ⟨by rfl, rfl⟩) (by assumption) ?_)); (try simp only [Act.put, List.setIfInBounds_toArray, List.set_cons_zero, List.set_cons_succ])
    (first | (refine wpAnyH_take (i := 26) (oi := ⟨_, _, _, _, _, _⟩) (v := ?_) rfl (by kernel_rfl) (by kernel_rfl) (by kernel_rfl) (fun _ _ _ h => h) (Or.inl ⟨by rfl, ?_⟩) (by assumption) ?_; rotate_left 1; (· (intro w0 hSw; (try dsimp only at hSw); go_simp; (try with_reducible rfl)))) | (refine wpAnyH_take (i := 26) (oi := ⟨_, _, _, _, _, _⟩) (v := undef) rfl (by kernel_rfl) (by kernel_rfl) (by kernel_rfl) (fun _ _ _ h => h) (Or.inr ⟨by rfl, rfl⟩) (by assumption) ?_)); (try simp only [Act.put, List.setIfInBounds_toArray, List.set_cons_zero, List.set_cons_succ])
    (first | (refine wpAnyH_take (i := 27) (oi := ⟨_, _, _, _, _, _⟩) (v := ?_) rfl (by kernel_rfl) (by kernel_rfl) (by kernel_rfl) (fun _ _ _ h => h) (Or.inl ⟨by rfl, ?_⟩) (by assumption) ?_; rotate_left 1; (· (intro w0 hSw; (try dsimp only at hSw); go_simp; (try with_reducible rfl)))) | (refine wpAnyH_take (i := 27) (oi := ⟨_, _, _, _, _, _⟩) (v := undef) rfl (by kernel_rfl) (by kernel_rfl) (by kernel_rfl) (fun _ _ _ h => h) (Or.inr ⟨by rfl, rfl⟩) (by assumption) ?_)); (try simp only [Act.put, List.setIfInBounds_toArray, List.set_cons_zero, List.set_cons_succ])
    (first | (refine wpAnyH_take (i := 28) (oi := ⟨_, _, _, _, _, _⟩) (v := ?_) rfl (by kernel_rfl) (by kernel_rfl) (by kernel_rfl) (fun _ _ _ h => h) (Or.inl ⟨by rfl, ?_⟩) (by assumption) ?_; rotate_left 1; (· (intro w0 hSw; (try dsimp only at hSw); go_simp; (try with_reducible rfl)))) | (refine wpAnyH_take (i := 28) (oi := ⟨_, _, _, _, _, _⟩) (v := undef) rfl (by kernel_rfl) (by kernel_rfl) (by kernel_rfl) (fun _ _ _ h => h) (Or.inr ⟨by rfl, rfl⟩) (by assumption) ?_)); (try simp only [Act.put, List.setIfInBounds_toArray, List.set_cons_zero, List.set_cons_succ])
    (first | (refine wpAnyH_take (i := 29) (oi := ⟨_, _, _, _, _, _⟩) (v := ?_) rfl (by kernel_rfl) (by kernel_rfl) (by kernel_rfl) (fun _ _ _ h => h) (Or.inl ⟨by rfl, ?_⟩) (by assumption) ?_; rotate_left 1; (· (intro w0 hSw; (try dsimp only at hSw); go_simp; (try with_reducible rfl)))) | (refine wpAnyH_take (i := 29) (oi := ⟨_, _, _, _, _, _⟩) (v := undef) rfl (by kernel_rfl) (by kernel_rfl) (by kernel_rfl) (fun _ _ _ h => h) (Or.inr ⟨by rfl, rfl⟩) (by assumption) ?_)); (try simp only [Act.put, List.setIfInBounds_toArray, List.set_cons_zero, List.set_cons_succ])
    (first | (refine wpAnyH_take (i := 30) (oi := ⟨_, _, _, _, _, _⟩) (v := ?_) rfl (by kernel_rfl) (by kernel_rfl) (by kernel_rfl) (fun _ _ _ h => h) (Or.inl ⟨by rfl, ?_⟩) (by assumption) ?_; rotate_left 1; (· (intro w0 hSw; (try dsimp only at hSw); go_simp; (try with_reducible rfl)))) | (refine wpAnyH_take (i := 30) (oi := ⟨_, _, _, _, _, _⟩) (v := undef) rfl (by kernel_rfl) (by kernel_rfl) (by kernel_rfl) (fun _ _ _ h => h) (Or.inr ⟨by rfl, rfl⟩) (by assumption) ?_)); (try simp only [Act.put, List.setIfInBounds_toArray, List.set_cons_zero, List.set_cons_succ])
    (first | (refine wpAnyH_take (i := 31) (oi := ⟨_, _, _, _, _, _⟩) (v := ?_) rfl (by kernel_rfl) (by kernel_rfl) (by kernel_rfl) (fun _ _ _ h => h) (Or.inl ⟨by rfl, ?_⟩) (by assumption) ?_; rotate_left 1; (· (intro w0 hSw; (try dsimp only at hSw); go_simp; (try with_reducible rfl)))) | (refine wpAnyH_take (i := 31) (oi := ⟨_, _, _, _, _, _⟩) (v := undef) rfl (by kernel_rfl) (by kernel_rfl) (by kernel_rfl) (fun _ _ _ h => h) (Or.inr ⟨by rfl, rfl⟩) (by assumption) ?_)); (try simp only [Act.put, List.setIfInBounds_toArray, List.set_cons_zero, List.set_cons_succ])
    (first | (refine wpAnyH_take (i := 32) (oi := ⟨_, _, _, _, _, _⟩) (v := ?_) rfl (by kernel_rfl) (by kernel_rfl) (by kernel_rfl) (fun _ _ _ h => h) (Or.inl ⟨by rfl, ?_⟩) (by assumption) ?_; rotate_left 1; (· (intro w0 hSw; (try dsimp only at hSw); go_simp; (try with_reducible rfl)))) | (refine wpAnyH_take (i := 32) (oi := ⟨_, _, _, _, _, _⟩) (v := undef) rfl (by kernel_rfl) (by kernel_rfl) (by kernel_rfl) (fun _ _ _ h => h) (Or.inr ⟨by rfl, rfl⟩) (by assumption) ?_)); (try simp only [Act.put, List.setIfInBounds_toArray, List.set_cons_zero, List.set_cons_succ])
    (first | (refine wpAnyH_take (i := 33) (oi := ⟨_, _, _, _, _, _⟩) (v := ?_) rfl (by kernel_rfl) (by kernel_rfl) (by kernel_rfl) (fun _ _ _ h => h) (Or.inl ⟨by rfl, ?_⟩) (by assumption) ?_; rotate_left 1; (· (intro w0 hSw; (try dsimp only at hSw); go_simp; (try with_reducible rfl)))) | (refine wpAnyH_take (i := 33) (oi := ⟨_, _, _, _, _, _⟩) (v := undef) rfl (by kernel_rfl) (by kernel_rfl) (by kernel_rfl) (fun _ _ _ h => h) (Or.inr ⟨by rfl, rfl⟩) (by assumption) ?_)); (try simp only [Act.put, List.setIfInBounds_toArray, List.set_cons_zero, List.set_cons_succ])
    (first | (refine wpAnyH_take (i := 34) (oi := ⟨_, _, _, _, _, _⟩) (v := ?_) rfl (by kernel_rfl) (by kernel_rfl) (by kernel_rfl) (fun _ _ _ h => h) (Or.inl ⟨by rfl, ?_⟩) (by assumption) ?_; rotate_left 1; (· (intro w0 hSw; (try dsimp only at hSw); go_simp; (try with_reducible rfl)))) | (refine wpAnyH_take (i := 34) (oi := ⟨_, _, _, _, _, _⟩) (v := undef) rfl (by kernel_rfl) (by kernel_rfl) (by kernel_rfl) (fun _ _ _ h => h) (Or.inr ⟨by rfl, rfl⟩) (by assumption) ?_)); (try simp only [Act.put, List.setIfInBounds_toArray, List.set_cons_zero, List.set_cons_succ])
    (first | (refine wpAnyH_take (i := 35) (oi := ⟨_, _, _, _, _, _⟩) (v := ?_) rfl (by kernel_rfl) (by kernel_rfl) (by kernel_rfl) (fun _ _ _ h => h) (Or.inl ⟨by rfl, ?_⟩) (by assumption) ?_; rotate_left 1; (· (intro w0 hSw; (try dsimp only at hSw); go_simp; (try with_reducible rfl)))) | (refine wpAnyH_take (i := 35) (oi := ⟨_, _, _, _, _, _⟩) (v := undef) rfl (by kernel_rfl) (by kernel_rfl) (by kernel_rfl) (fun _ _ _ h => h) (Or.inr ⟨by rfl, rfl⟩) (by assumption) ?_)); (try simp only [Act.put, List.setIfInBounds_toArray, List.set_cons_zero, List.set_cons_succ])
    refine wpAnyH_done (by kernel_rfl) ?_ _
    clear s1 s2
    cases p2
    all_goals
      go_wp2_with fail
      refine (HW.out _ ((fun (h : _ ∧ _ ∧ _ ∧ _ ∧ _ ∧ Below w.heap.size w _) => h.2.2.2.2.2) (by assumption))).mono ?_
      rintro e w4 ⟨rfl, hb4⟩
      have hB := Below.step ((fun (h : _ ∧ _ ∧ _ ∧ _ ∧ _ ∧ Below w.heap.size w _) => h.2.2.2.2.2) (by assumption)) hb4
      go_wp2
      go_ret2
      exact ⟨rfl, hB⟩
end Go.Proofs.YtimbdnngeoccdaaGreatDoor
