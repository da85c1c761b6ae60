/-
  Clouds, and what follows a chance, of both. No conditions.
-/
import Derived.Test.YtimbdnngeoccdaaGreatDoorNt7
namespace Go.Proofs.YtimbdnngeoccdaaGreatDoor
open Go.RowKit Go.Deep
set_option linter.unusedVariables false
set_option linter.unusedSimpArgs false
structure Cl where
  lo : Int
  hi : Int
def clE (x : Cl) : List Value := [.int .i64 x.lo, .int .i64 x.hi]
def idxOf {α : Type} (p : α → Bool) : List α → Nat → Int
  | [], _ => -1
  | x :: l, k => if p x then (k : Int) else idxOf p l (k + 1)
theorem idxOf_false {α : Type} (p : α → Bool) (x : α) (l : List α) (k : Nat) (h : p x = false) : idxOf p (x :: l) k = idxOf p l (k + 1) := by simp [idxOf, h]
theorem idxOf_true {α : Type} (p : α → Bool) (x : α) (l : List α) (k : Nat) (h : p x = true) : idxOf p (x :: l) k = k := by simp [idxOf, h]
theorem idxOf_any {α : Type} (p : α → Bool) (l : List α) : ∀ k, decide (0 ≤ idxOf p l k) = l.any p := by
  induction l with
  | nil => intro k; rfl
  | cons x l ih =>
    intro k
    unfold idxOf
    cases h : p x
    · simp [h, ih]
    · simp [h]

set_option maxHeartbeats 1000000 in
theorem IndexFuncCl (l : List Cl) (A : Option Addr) (cap : Nat) (hl : l.length ≤ 9223372036854775807) (fv : Nat) (caps : Array Value) (p : Cl → Bool) (w : World) (hr : RdL w w.heap.size clE 2 A l)
    (hcall : ∀ (args : Array Value) (W : World), (callFunc fv args).run Tryz.prog W = .ok (.enter fv args) W)
    (hf : ∀ x ∈ l, ∀ W, Below w.heap.size w W → Calls Tryz.prog fv (#[.agg #[.int .i64 x.lo, .int .i64 x.hi]] ++ caps) W fun e W' => e = .returned (.bool (p x)) ∧ Below W.heap.size W W') :
    Calls Tryz.prog 134 #[.slice A l.length cap, .func (.func fv) #[] caps] w fun e w' => e = .returned (.int .i64 (idxOf p l 0)) ∧ Below w.heap.size w w' := by
  have HF := Lib.hid hf
  have HR := Lib.hid hr
  clear hf hr
  go_enter Tryz.func134, Tryz.ntmps134
  go_wp2
  go_loopw [5, 8] (fun u i wr => ∃ k : Nat, k ≤ l.length ∧ i = .int .i64 k ∧ Below w.heap.size w wr ∧ idxOf p l 0 = idxOf p (l.drop k) k) (fun u i _ => l.length - (intOf i).toNat)
  case atStart => exact ⟨0, Nat.zero_le _, rfl, Below.refl _ _, rfl⟩
  case round =>
    obtain ⟨k, hk, rfl, hbw, hx⟩ := hrel
    have HX := Lib.hid hx
    clear hx
    by_cases hlt : k < l.length
    · obtain ⟨b, off, rfl, hb0, hc⟩ := HR.out (by omega)
      have c0 := hc k hlt 0 _ rfl
      have c1 := hc k hlt 1 _ rfl
      clear hc
      rw [← hbw.cell (p := ⟨b, _, none⟩) hb0] at c0 c1
      simp at c0
      have hmem : l[k] ∈ l := List.getElem_mem hlt
      have hcc := Lib.hid (HF.out l[k] hmem wr hbw)
      have hd : l.drop k = l[k] :: l.drop (k + 1) := List.drop_eq_getElem_cons hlt
      have HD := Lib.hid hd
      clear hd
      cases hp : p l[k]
      · go_wp2_with fail
        refine hcc.out.mono ?_
        rintro e w1 ⟨rfl, hb⟩
        rw [hp]
        go_wp2
        go_roundw
        case rel => exact ⟨k + 1, by omega, by go_num, Below.step hbw hb, by rw [HX.out, HD.out, idxOf_false _ _ _ _ hp]⟩
        case measure => simp [intOf]; omega
      · go_wp2_with fail
        refine hcc.out.mono ?_
        rintro e w1 ⟨rfl, hb⟩
        rw [hp]
        go_wp2
        go_ret
        exact ⟨by rw [HX.out, HD.out, idxOf_true _ _ _ _ hp]; rfl, Below.step hbw hb⟩
    · obtain rfl : k = l.length := by omega
      go_wp2
      go_ret
      exact ⟨by rw [HX.out]; simp [idxOf], hbw⟩
theorem ContainsFuncCl (l : List Cl) (A : Option Addr) (cap : Nat) (hl : l.length ≤ 9223372036854775807) (fv : Nat) (caps : Array Value) (p : Cl → Bool) (w : World) (hr : RdL w w.heap.size clE 2 A l)
    (hcall : ∀ (args : Array Value) (W : World), (callFunc fv args).run Tryz.prog W = .ok (.enter fv args) W)
    (hf : ∀ x ∈ l, ∀ W, Below w.heap.size w W → Calls Tryz.prog fv (#[.agg #[.int .i64 x.lo, .int .i64 x.hi]] ++ caps) W fun e W' => e = .returned (.bool (p x)) ∧ Below W.heap.size W W') :
    Calls Tryz.prog 117 #[.slice A l.length cap, .func (.func fv) #[] caps] w fun e w' => e = .returned (.bool (l.any p)) ∧ Below w.heap.size w w' := by
  have HI := Lib.hid (IndexFuncCl l A cap hl fv caps p w hr hcall hf)
  have HE := Lib.hid (idxOf_any p l 0)
  clear hf hr hcall
  go_enter Tryz.func117, Tryz.ntmps117
  go_wp2_with (go_at_call 134; refine HI.out.mono ?_; rintro e w1 ⟨rfl, hb⟩)
  go_ret
  exact ⟨by rw [← HE.out]; rfl, hb⟩



def badCl (s : Cl) : Bool := decide (s.lo < 0) || (decide (s.hi < s.lo) || decide (86400000 < s.hi))
def okCl (L : List Cl) : Bool := decide (L.length ≤ 50) && !L.any badCl
theorem call_wrong (args : Array Value) (W : World) : (callFunc 116 args).run Tryz.prog W = .ok (.enter 116 args) W := by kernel_rfl
theorem wrong_c (s : Cl) (w : World) : Calls Tryz.prog 116 #[.agg #[.int .i64 s.lo, .int .i64 s.hi]] w fun e w' => e = .returned (.bool (badCl s)) ∧ Below w.heap.size w w' := by
  have H1 := Lib.hid (fun W => within_c s.lo 0 s.hi W)
  cases hin : within s.lo 0 s.hi
  · have HB := Lib.hid (show badCl s = true by
      unfold badCl
      rcases within_false hin with h | h
      · rw [decide_eq_true h]; rfl
      · rw [decide_eq_true h]; simp)
    rw [hin] at H1
    clear hin
    go_enter Tryz.func116, Tryz.ntmps116
    go_wp2_with fail
    refine (H1.out _).mono ?_
    rintro e w' ⟨rfl, hw'⟩; replace hw' := hw'.symm; subst hw'
    go_wp2
    go_ret
    exact ⟨by rw [HB.out]; rfl, by (repeat (first | exact Below.refl _ _ | refine Below.drew ?_ | refine Below.allocS ?_ _ | refine Below.step ?_ (by assumption) | refine Below.setCell ?_ (by simp <;> omega) _ | refine Below.drewN' ?_ _))⟩
  · have h := within_true hin
    have HB := Lib.hid (show badCl s = decide (86400000 < s.hi) by
      unfold badCl
      rw [decide_eq_false (by omega), decide_eq_false (by omega)]; rfl)
    rw [hin] at H1
    clear hin h
    go_enter Tryz.func116, Tryz.ntmps116
    go_wp2_with fail
    refine (H1.out _).mono ?_
    rintro e w' ⟨rfl, hw'⟩; replace hw' := hw'.symm; subst hw'
    go_wp2
    go_ret
    exact ⟨by rw [HB.out]; first | rfl | (simp; done), by (repeat (first | exact Below.refl _ _ | refine Below.drew ?_ | refine Below.allocS ?_ _ | refine Below.step ?_ (by assumption) | refine Below.setCell ?_ (by simp <;> omega) _ | refine Below.drewN' ?_ _))⟩
set_option maxHeartbeats 1000000 in
theorem validClouds_c (L : List Cl) (A : Option Addr) (cap : Nat) (hl : L.length ≤ 9223372036854775807) (w : World) (hr : RdL w w.heap.size clE 2 A L) :
    Calls Tryz.prog 91 #[.slice A L.length cap] w fun e w' => e = .returned (.bool (okCl L)) ∧ Below w.heap.size w w' := by
  have H1 := Lib.hid (fun W hb => ContainsFuncCl L A cap hl 116 #[] badCl W (hr.step hb) call_wrong (fun x _ V _ => wrong_c x V))
  clear hr
  by_cases h50 : L.length ≤ 50
  · have d1 : decide ((L.length : Int) ≤ 50) = true := decide_eq_true (by omega)
    have HB := Lib.hid (show okCl L = !L.any badCl by unfold okCl; rw [decide_eq_true h50]; rfl)
    generalize L.any badCl = B at *
    clear h50
    go_enter Tryz.func91, Tryz.ntmps91
    go_wp2_with (go_at_call 117; refine (H1.out _ (Below.refl _ _)).mono ?_; rintro e w1 ⟨rfl, hb⟩)
    go_ret
    exact ⟨by rw [HB.out]; rfl, hb⟩
  · have d1 : decide ((L.length : Int) ≤ 50) = false := decide_eq_false (by omega)
    have HB := Lib.hid (show okCl L = false by unfold okCl; rw [decide_eq_false h50]; rfl)
    clear h50
    go_enter Tryz.func91, Tryz.ntmps91
    go_wp2
    go_ret
    exact ⟨by rw [HB.out]; rfl, Below.refl _ _⟩
def covC (c : Ch) (s : Cl) : Bool := decide (s.lo < c.b) && decide (c.a ≤ s.hi)
def covB (c : Ch) (L : List Cl) : Bool := L.any (covC c)
theorem call_cov (args : Array Value) (W : World) : (callFunc 135 args).run Tryz.prog W = .ok (.enter 135 args) W := by kernel_rfl
theorem cov1_c (c : Ch) (s : Cl) (P : Nat) (w : World) (c1 : w.cell? ⟨P, 1, none⟩ = some (.int .i64 c.a)) (c2 : w.cell? ⟨P, 2, none⟩ = some (.int .i64 c.b)) : Calls Tryz.prog 135 #[.agg #[.int .i64 s.lo, .int .i64 s.hi], .pointer (some ⟨P, 0, none⟩)] w fun e w' => e = .returned (.bool (covC c s)) ∧ Below w.heap.size w w' := by
  have y1 : P < w.heap.size := cell?_lt c1
  by_cases h : s.lo < c.b
  · have d1 : decide (s.lo < c.b) = true := decide_eq_true h
    have HB := Lib.hid (show covC c s = decide (c.a ≤ s.hi) by unfold covC; rw [d1]; rfl)
    clear h
    go_enter Tryz.func135, Tryz.ntmps135
    go_wp2
    go_ret
    exact ⟨by rw [HB.out]; first | rfl | (simp; done), by (repeat (first | (with_reducible exact Below.refl _ _) | (with_reducible assumption) | (with_reducible refine Below.drew ?_) | (with_reducible refine Below.allocS ?_ _) | (with_reducible refine Below.setCell ?_ ?_ _) | (with_reducible refine Below.step ?_ (by assumption)) | (with_reducible refine Below.drewN' ?_ _))); (try any_goals (first | (with_reducible assumption) | (simp; done) | (simp; omega) | omega))⟩
  · have d1 : decide (s.lo < c.b) = false := decide_eq_false h
    have HB := Lib.hid (show covC c s = false by unfold covC; rw [d1]; rfl)
    clear h
    go_enter Tryz.func135, Tryz.ntmps135
    go_wp2
    go_ret
    exact ⟨by rw [HB.out]; rfl, by (repeat (first | (with_reducible exact Below.refl _ _) | (with_reducible assumption) | (with_reducible refine Below.drew ?_) | (with_reducible refine Below.allocS ?_ _) | (with_reducible refine Below.setCell ?_ ?_ _) | (with_reducible refine Below.step ?_ (by assumption)) | (with_reducible refine Below.drewN' ?_ _))); (try any_goals (first | (with_reducible assumption) | (simp; done) | (simp; omega) | omega))⟩
set_option maxHeartbeats 1000000 in
theorem covered_c (c : Ch) (L : List Cl) (A : Option Addr) (cap : Nat) (hl : L.length ≤ 9223372036854775807) (w : World) (hr : RdL w w.heap.size clE 2 A L) :
    Calls Tryz.prog 118 #[.agg #[.string c.nm, .int .i64 c.a, .int .i64 c.b, .int .i64 c.t, .int .i64 c.v], .slice A L.length cap] w fun e w' => e = .returned (.bool (covB c L)) ∧ Below w.heap.size w w' := by
  have H1 : Hid (∀ W, Below w.heap.size w W → W.cell? ⟨w.heap.size, 1, none⟩ = some (.int .i64 c.a) → W.cell? ⟨w.heap.size, 2, none⟩ = some (.int .i64 c.b) → Calls Tryz.prog 117 #[.slice A L.length cap, .func (.func 135) #[] #[.pointer (some ⟨w.heap.size, 0, none⟩)]] W fun e w' => e = .returned (.bool (covB c L)) ∧ Below W.heap.size W w') :=
    Lib.hid (fun W hb h1 h2 => ContainsFuncCl L A cap hl 135 _ (covC c) W (hr.step hb) call_cov (fun x _ V hv => cov1_c c x w.heap.size V (keep_cell hv h1) (keep_cell hv h2)))
  clear hr
  generalize covB c L = B at *
  go_enter Tryz.func118, Tryz.ntmps118
  go_wp2_with (go_at_call 117; refine (H1.out _ (by (repeat (first | (with_reducible exact Below.refl _ _) | (with_reducible assumption) | (with_reducible refine Below.drew ?_) | (with_reducible refine Below.allocS ?_ _) | (with_reducible refine Below.setCell ?_ ?_ _) | (with_reducible refine Below.step ?_ (by assumption)) | (with_reducible refine Below.drewN' ?_ _))); (try any_goals (first | (with_reducible assumption) | (simp; done) | (simp; omega) | omega))) (by simp [go_sem]) (by simp [go_sem])).mono ?_; rintro e w1 ⟨rfl, hb⟩)
  go_ret
  exact ⟨rfl, Below.low (by (repeat (first | (with_reducible exact Below.refl _ _) | (with_reducible assumption) | (with_reducible refine Below.drew ?_) | (with_reducible refine Below.allocS ?_ _) | (with_reducible refine Below.setCell ?_ ?_ _) | (with_reducible refine Below.step ?_ (by assumption)) | (with_reducible refine Below.drewN' ?_ _))); (try any_goals (first | (with_reducible assumption) | (simp; done) | (simp; omega) | omega))) hb (by simp)⟩
end Go.Proofs.YtimbdnngeoccdaaGreatDoor
