/-
  The times of a transit: timed of transit; Fits of both.
-/
import Derived.Test.YtimbdnngeoccdaaDoorA7
namespace Go.Proofs.YtimbdnngeoccdaaDoor
open Go.RowKit
set_option linter.unusedVariables false
set_option linter.unusedSimpArgs false
def idxOf {α : Type} (p : α → Bool) : List α → Nat → Int
  | [], _ => -1
  | x :: l, k => if p x then (k : Int) else idxOf p l (k + 1)
theorem idxOf_false {α : Type} (p : α → Bool) (x : α) (l : List α) (k : Nat) (h : p x = false) : idxOf p (x :: l) k = idxOf p l (k + 1) := by simp [idxOf, h]
theorem idxOf_true {α : Type} (p : α → Bool) (x : α) (l : List α) (k : Nat) (h : p x = true) : idxOf p (x :: l) k = k := by simp [idxOf, h]
theorem idxOf_any {α : Type} (p : α → Bool) (l : List α) : ∀ k, decide (0 ≤ idxOf p l k) = l.any p := by
  induction l with
  | nil => intro k; rfl
  | cons x l ih =>
    intro k
    unfold idxOf
    cases h : p x
    · simp [h, ih]
    · simp [h]

set_option maxHeartbeats 1000000 in
theorem IndexFuncIn (l : List Int) (A : Option Addr) (cap : Nat) (hl : l.length ≤ 9223372036854775807) (fv : Nat) (caps : Array Value) (p : Int → Bool) (w : World) (hr : RdL w w.heap.size inE 1 A l)
    (hcall : ∀ (args : Array Value) (W : World), (callFunc fv args).run Tryd.prog W = .ok (.enter fv args) W)
    (hf : ∀ x ∈ l, ∀ W, Below w.heap.size w W → Calls Tryd.prog fv (#[.int .i64 x] ++ caps) W fun e W' => e = .returned (.bool (p x)) ∧ Below W.heap.size W W') :
    Calls Tryd.prog 108 #[.slice A l.length cap, .func (.func fv) #[] caps] w fun e w' => e = .returned (.int .i64 (idxOf p l 0)) ∧ Below w.heap.size w w' := by
  have HF := Lib.hid hf
  have HR := Lib.hid hr
  clear hf hr
  go_enter Tryd.func108, Tryd.ntmps108
  go_wp2
  go_loopw [5, 8] (fun u i wr => ∃ k : Nat, k ≤ l.length ∧ i = .int .i64 k ∧ Below w.heap.size w wr ∧ idxOf p l 0 = idxOf p (l.drop k) k) (fun u i _ => l.length - (intOf i).toNat)
  case atStart => exact ⟨0, Nat.zero_le _, rfl, Below.refl _ _, rfl⟩
  case round =>
    obtain ⟨k, hk, rfl, hbw, hx⟩ := hrel
    have HX := Lib.hid hx
    clear hx
    by_cases hlt : k < l.length
    · obtain ⟨b, off, rfl, hb0, hc⟩ := HR.out (by omega)
      have c0 := hc k hlt 0 _ rfl
      clear hc
      rw [← hbw.cell (p := ⟨b, _, none⟩) hb0] at c0
      simp at c0
      have hmem : l[k] ∈ l := List.getElem_mem hlt
      have hcc := Lib.hid (HF.out l[k] hmem wr hbw)
      have hd : l.drop k = l[k] :: l.drop (k + 1) := List.drop_eq_getElem_cons hlt
      have HD := Lib.hid hd
      clear hd
      cases hp : p l[k]
      · go_wp2_with fail
        refine hcc.out.mono ?_
        rintro e w1 ⟨rfl, hb⟩
        rw [hp]
        go_wp2
        go_roundw
        case rel => exact ⟨k + 1, by omega, by go_num, Below.step hbw hb, by rw [HX.out, HD.out, idxOf_false _ _ _ _ hp]⟩
        case measure => simp [intOf]; omega
      · go_wp2_with fail
        refine hcc.out.mono ?_
        rintro e w1 ⟨rfl, hb⟩
        rw [hp]
        go_wp2
        go_ret
        exact ⟨by rw [HX.out, HD.out, idxOf_true _ _ _ _ hp]; rfl, Below.step hbw hb⟩
    · obtain rfl : k = l.length := by omega
      go_wp2
      go_ret
      exact ⟨by rw [HX.out]; simp [idxOf], hbw⟩

theorem ContainsFuncIn (l : List Int) (A : Option Addr) (cap : Nat) (hl : l.length ≤ 9223372036854775807) (fv : Nat) (caps : Array Value) (p : Int → Bool) (w : World) (hr : RdL w w.heap.size inE 1 A l)
    (hcall : ∀ (args : Array Value) (W : World), (callFunc fv args).run Tryd.prog W = .ok (.enter fv args) W)
    (hf : ∀ x ∈ l, ∀ W, Below w.heap.size w W → Calls Tryd.prog fv (#[.int .i64 x] ++ caps) W fun e W' => e = .returned (.bool (p x)) ∧ Below W.heap.size W W') :
    Calls Tryd.prog 94 #[.slice A l.length cap, .func (.func fv) #[] caps] w fun e w' => e = .returned (.bool (l.any p)) ∧ Below w.heap.size w w' := by
  have HI := Lib.hid (IndexFuncIn l A cap hl fv caps p w hr hcall hf)
  have HE := Lib.hid (idxOf_any p l 0)
  clear hf hr hcall
  go_enter Tryd.func94, Tryd.ntmps94
  go_wp2_with (go_at_call 108; refine HI.out.mono ?_; rintro e w1 ⟨rfl, hb⟩)
  go_ret
  exact ⟨by rw [← HE.out]; rfl, hb⟩

def okTime (t : Int) : Bool := within t (-1) 86399999
theorem timed1_c (t : Int) (w : World) : Calls Tryd.prog 95 #[.int .i64 t] w fun e w' => e = .returned (.bool (!okTime t)) ∧ Below w.heap.size w w' := by
  have H := Lib.hid (fun W => within_c t (-1) 86399999 W)
  unfold okTime
  generalize within t (-1) 86399999 = B at *
  go_enter Tryd.func95, Tryd.ntmps95
  go_wp2_with (go_at_call 45; (with_reducible refine (H.out _).mono ?_); rintro e w' ⟨rfl, rfl⟩)
  go_ret
  exact ⟨rfl, Below.refl _ _⟩
theorem call_timed1 (args : Array Value) (W : World) : (callFunc 95 args).run Tryd.prog W = .ok (.enter 95 args) W := by kernel_rfl
theorem any_not {α : Type} (p : α → Bool) (l : List α) : (!l.any fun x => !p x) = l.all p := by
  induction l with
  | nil => rfl
  | cons x l ih => simp only [List.any_cons, List.all_cons, Bool.not_or, Bool.not_not, ih]
theorem timed_c (ts : List Int) (A : Option Addr) (cap : Nat) (hl : ts.length ≤ 9223372036854775807) (w : World) (hr : RdL w w.heap.size inE 1 A ts) :
    Calls Tryd.prog 71 #[.slice A ts.length cap] w fun e w' => e = .returned (.bool (ts.all okTime)) ∧ Below w.heap.size w w' := by
  have HC := Lib.hid (ContainsFuncIn ts A cap hl _ #[] (fun t => !okTime t) w hr call_timed1 (fun t _ W _ => by simpa using timed1_c t W))
  clear hr
  rw [← any_not]
  generalize ts.any (fun t => !okTime t) = X at *
  go_enter Tryd.func71, Tryd.ntmps71
  go_wp2_with fail
  refine HC.out.mono ?_
  rintro e w1 ⟨rfl, hb⟩
  go_wp2
  go_ret
  exact ⟨rfl, hb⟩
end Go.Proofs.YtimbdnngeoccdaaDoor
