/-
  Contracts of SpeedAt, of asked (over a slice of places), of Lag and of Distance, of gun and of its reference.
-/
import Derived.Test.YtimbdnngeoccdaaDoorG3
import Derived.Test.YtimbdnngeoccdaaDoorTypes
import Derived.Outline
namespace Go.Proofs.YtimbdnngeoccdaaDoor
open Go.RowKit

theorem down_c (n : Int) (h0 : -1000000000 ≤ n) (h1 : n ≤ 1000000000) (w : World) :
    Calls Tryd.prog 62 #[.int .i64 n, .int .i64 1000] w fun e w' => e = .returned (.int .i64 (n / 1000)) ∧ w = w' := by
  by_cases hn : 0 ≤ n
  · have hc : ¬ n < n / 1000 * 1000 := by omega
    go_enter Tryd.func62, Tryd.ntmps62
    go_wp2
    go_ret
    exact ⟨rfl, rfl⟩
  · have ht : n.tdiv 1000 = -((-n) / 1000) := by
      rw [← Int.tdiv_eq_ediv_of_nonneg (by omega), Int.neg_tdiv, Int.neg_neg]
    by_cases hm : n % 1000 = 0
    · have hc : ¬ n < -((-n) / 1000) * 1000 := by omega
      have H := Lib.hid (show -((-n) / 1000) = n / 1000 by omega)
      clear hm
      go_enter Tryd.func62, Tryd.ntmps62
      go_wp2
      go_ret
      exact ⟨by rw [← H.out]; rfl, rfl⟩
    · have hc : n < -((-n) / 1000) * 1000 := by omega
      have H := Lib.hid (show -((-n) / 1000) - 1 = n / 1000 by omega)
      clear hm
      go_enter Tryd.func62, Tryd.ntmps62
      go_wp2
      go_ret
      exact ⟨by rw [← H.out]; rfl, rfl⟩

def speedAt (t : Int) : Int := if within t (-50000) 50000 then 331300 + 606 * t / 1000 else 0
def speedE (t : Int) : Int := if within t (-50000) 50000 then 0 else 7
theorem SpeedAt_c (t : Int) (w : World) :
    Calls Tryd.prog 35 #[.int .i64 t] w fun e w' => e = .returned (.tuple #[.int .i64 (speedAt t), .int .i64 (speedE t)]) ∧ w = w' := by
  unfold speedAt speedE
  cases h : within t (-50000) 50000
  · go_enter Tryd.func35, Tryd.ntmps35
    go_wp2_with (go_at_call 61; (with_reducible refine (within_c _ _ _ _).mono ?_); rintro e w' ⟨rfl, rfl⟩)
    go_ret2
    exact ⟨rfl, rfl⟩
  · obtain ⟨h0, h1⟩ := within_true h
    go_enter Tryd.func35, Tryd.ntmps35
    go_wp2_with (first | (go_at_call 61; (with_reducible refine (within_c _ _ _ _).mono ?_); rintro e w' ⟨rfl, rfl⟩) | (go_at_call 62; (with_reducible refine (down_c _ (by omega) (by omega) _).mono ?_); rintro e w' ⟨rfl, rfl⟩))
    go_ret2
    exact ⟨rfl, rfl⟩
/-- A place's two cells. -/
def ptE (x : Int × Int) : List Value := [.int .i64 (x.1), .int .i64 (x.2)]

theorem asked1_c (x y : Int) (w : World) :
    Calls Tryd.prog 87 #[.agg #[.int .i64 x, .int .i64 y]] w fun e w' => e = .returned (.bool (!place x y)) ∧ Below w.heap.size w w' := by
  go_enter Tryd.func87, Tryd.ntmps87
  go_wp2_with (go_at_call 64; (with_reducible refine (place_c x y _).mono ?_); rintro e w1 ⟨rfl, hb⟩; obtain ⟨hc, hf⟩ := bcell hb; have hz := hb.size; (try simp at hz); (try have hz0 : w.heap.size < w1.heap.size := by omega); (try have hz1 : w.heap.size + 1 < w1.heap.size := by omega); (try have hz2 : w.heap.size + 1 + 1 < w1.heap.size := by omega); (try have hz3 : w.heap.size + 1 + 1 + 1 < w1.heap.size := by omega); (try have hz4 : w.heap.size + 1 + 1 + 1 + 1 < w1.heap.size := by omega); (try have hz5 : w.heap.size + 1 + 1 + 1 + 1 + 1 < w1.heap.size := by omega))
  go_ret
  exact ⟨rfl, by (repeat (first | exact Below.refl _ _ | refine Below.drew ?_ | refine Below.allocS ?_ _ | refine Below.step ?_ (by assumption) | refine Below.setCell ?_ (by simp <;> omega) _ | refine Below.drewN' ?_ _))⟩

/-- The first index at which p holds, or -1. -/
def idxOf {α : Type} (p : α → Bool) : List α → Nat → Int
  | [], _ => -1
  | x :: l, k => if p x then (k : Int) else idxOf p l (k + 1)
theorem idxOf_false {α : Type} (p : α → Bool) (x : α) (l : List α) (k : Nat) (h : p x = false) : idxOf p (x :: l) k = idxOf p l (k + 1) := by simp [idxOf, h]
theorem idxOf_true {α : Type} (p : α → Bool) (x : α) (l : List α) (k : Nat) (h : p x = true) : idxOf p (x :: l) k = k := by simp [idxOf, h]
theorem idxOf_any {α : Type} (p : α → Bool) (l : List α) : ∀ k, decide (0 ≤ idxOf p l k) = l.any p := by
  induction l with
  | nil => intro k; rfl
  | cons x l ih =>
    intro k
    unfold idxOf
    cases h : p x
    · simp [h, ih]
    · simp [h]

set_option maxHeartbeats 1000000 in
theorem IndexFuncPt (l : List (Int × Int)) (A : Option Addr) (cap : Nat) (hl : l.length ≤ 9223372036854775807) (fv : Nat) (caps : Array Value) (p : Int × Int → Bool) (w : World) (hr : RdL w w.heap.size ptE 2 A l)
    (hcall : ∀ (args : Array Value) (W : World), (callFunc fv args).run Tryd.prog W = .ok (.enter fv args) W)
    (hf : ∀ x ∈ l, ∀ W, Below w.heap.size w W → Calls Tryd.prog fv (#[.agg #[.int .i64 x.1, .int .i64 x.2]] ++ caps) W fun e W' => e = .returned (.bool (p x)) ∧ Below W.heap.size W W') :
    Calls Tryd.prog 103 #[.slice A l.length cap, .func (.func fv) #[] caps] w fun e w' => e = .returned (.int .i64 (idxOf p l 0)) ∧ Below w.heap.size w w' := by
  have HF := Lib.hid hf
  have HR := Lib.hid hr
  clear hf hr
  go_enter Tryd.func103, Tryd.ntmps103
  go_wp2
  go_loopw [5, 8] (fun u i wr => ∃ k : Nat, k ≤ l.length ∧ i = .int .i64 k ∧ Below w.heap.size w wr ∧ idxOf p l 0 = idxOf p (l.drop k) k) (fun u i _ => l.length - (intOf i).toNat)
  case atStart => exact ⟨0, Nat.zero_le _, rfl, Below.refl _ _, rfl⟩
  case round =>
    obtain ⟨k, hk, rfl, hbw, hx⟩ := hrel
    have HX := Lib.hid hx
    clear hx
    by_cases hlt : k < l.length
    · obtain ⟨b, off, rfl, hb0, hc⟩ := HR.out (by omega)
      have c0 := hc k hlt 0 _ rfl
      have c1 := hc k hlt 1 _ rfl
      clear hc
      rw [← hbw.cell (p := ⟨b, _, none⟩) hb0] at c0 c1
      simp at c0
      have hmem : l[k] ∈ l := List.getElem_mem hlt
      have hcc := Lib.hid (HF.out l[k] hmem wr hbw)
      have hd : l.drop k = l[k] :: l.drop (k + 1) := List.drop_eq_getElem_cons hlt
      have HD := Lib.hid hd
      clear hd
      cases hp : p l[k]
      · go_wp2_with fail
        refine hcc.out.mono ?_
        rintro e w1 ⟨rfl, hb⟩
        rw [hp]
        go_wp2
        go_roundw
        case rel => exact ⟨k + 1, by omega, by go_num, Below.step hbw hb, by rw [HX.out, HD.out, idxOf_false _ _ _ _ hp]⟩
        case measure => simp [intOf]; omega
      · go_wp2_with fail
        refine hcc.out.mono ?_
        rintro e w1 ⟨rfl, hb⟩
        rw [hp]
        go_wp2
        go_ret
        exact ⟨by rw [HX.out, HD.out, idxOf_true _ _ _ _ hp]; rfl, Below.step hbw hb⟩
    · obtain rfl : k = l.length := by omega
      go_wp2
      go_ret
      exact ⟨by rw [HX.out]; simp [idxOf], hbw⟩

theorem call_asked1 (args : Array Value) (W : World) : (callFunc 87 args).run Tryd.prog W = .ok (.enter 87 args) W := by kernel_rfl

theorem ContainsFuncPt (l : List (Int × Int)) (A : Option Addr) (cap : Nat) (hl : l.length ≤ 9223372036854775807) (fv : Nat) (caps : Array Value) (p : Int × Int → Bool) (w : World) (hr : RdL w w.heap.size ptE 2 A l)
    (hcall : ∀ (args : Array Value) (W : World), (callFunc fv args).run Tryd.prog W = .ok (.enter fv args) W)
    (hf : ∀ x ∈ l, ∀ W, Below w.heap.size w W → Calls Tryd.prog fv (#[.agg #[.int .i64 x.1, .int .i64 x.2]] ++ caps) W fun e W' => e = .returned (.bool (p x)) ∧ Below W.heap.size W W') :
    Calls Tryd.prog 86 #[.slice A l.length cap, .func (.func fv) #[] caps] w fun e w' => e = .returned (.bool (l.any p)) ∧ Below w.heap.size w w' := by
  have HI := Lib.hid (IndexFuncPt l A cap hl fv caps p w hr hcall hf)
  have HE := Lib.hid (idxOf_any p l 0)
  clear hf hr hcall
  go_enter Tryd.func86, Tryd.ntmps86
  go_wp2_with (go_at_call 103; refine HI.out.mono ?_; rintro e w1 ⟨rfl, hb⟩)
  go_ret
  exact ⟨by rw [← HE.out]; rfl, hb⟩

/-- What asked answers. -/
def askedE (s v : Int) (l : List (Int × Int)) : Int := if validAir s v then (if l.any (fun x => !place x.1 x.2) then 7 else 0) else 1
theorem asked_c (s v : Int) (l : List (Int × Int)) (A : Option Addr) (cap : Nat) (hl : l.length ≤ 9223372036854775807) (w : World) (hr : RdL w w.heap.size ptE 2 A l) :
    Calls Tryd.prog 59 #[.agg #[.int .i64 s, .int .i64 v], .slice A l.length cap] w fun e w' => e = .returned (.int .i64 (askedE s v l)) ∧ Below w.heap.size w w' := by
  have HR := Lib.hid hr
  clear hr
  unfold askedE
  cases ha : validAir s v
  · go_enter Tryd.func59, Tryd.ntmps59
    go_wp2_with (go_at_call 85; (with_reducible refine (validAir_c s v _).mono ?_); rintro e w1 ⟨rfl, hb⟩; obtain ⟨hc, hf⟩ := bcell hb; have hz := hb.size; (try simp at hz); (try have hz0 : w.heap.size < w1.heap.size := by omega); (try have hz1 : w.heap.size + 1 < w1.heap.size := by omega); (try have hz2 : w.heap.size + 1 + 1 < w1.heap.size := by omega); (try have hz3 : w.heap.size + 1 + 1 + 1 < w1.heap.size := by omega); (try have hz4 : w.heap.size + 1 + 1 + 1 + 1 < w1.heap.size := by omega); (try have hz5 : w.heap.size + 1 + 1 + 1 + 1 + 1 < w1.heap.size := by omega))
    go_ret
    exact ⟨rfl, by (repeat (first | exact Below.refl _ _ | refine Below.drew ?_ | refine Below.allocS ?_ _ | refine Below.step ?_ (by assumption) | refine Below.setCell ?_ (by simp <;> omega) _ | refine Below.drewN' ?_ _))⟩
  · cases hx : l.any (fun x => !place x.1 x.2)
    all_goals
      have HX := Lib.hid hx
      clear hx
      go_enter Tryd.func59, Tryd.ntmps59
      go_wp2_with (go_at_call 85; (with_reducible refine (validAir_c s v _).mono ?_); rintro e w1 ⟨rfl, hb⟩; obtain ⟨hc, hf⟩ := bcell hb; have hz := hb.size; (try simp at hz); (try have hz0 : w.heap.size < w1.heap.size := by omega); (try have hz1 : w.heap.size + 1 < w1.heap.size := by omega); (try have hz2 : w.heap.size + 1 + 1 < w1.heap.size := by omega); (try have hz3 : w.heap.size + 1 + 1 + 1 < w1.heap.size := by omega); (try have hz4 : w.heap.size + 1 + 1 + 1 + 1 < w1.heap.size := by omega); (try have hz5 : w.heap.size + 1 + 1 + 1 + 1 + 1 < w1.heap.size := by omega))
      refine (ContainsFuncPt l A cap hl _ #[] (fun x => !place x.1 x.2) _ (HR.out.step (by (repeat (first | exact Below.refl _ _ | refine Below.drew ?_ | refine Below.allocS ?_ _ | refine Below.step ?_ (by assumption) | refine Below.setCell ?_ (by simp <;> omega) _ | refine Below.drewN' ?_ _)))) call_asked1 (fun x _ W _ => by simpa using asked1_c x.1 x.2 W)).mono ?_
      rintro e w1 ⟨rfl, hb⟩
      rw [HX.out]
      go_wp2
      go_ret
      exact ⟨rfl, by (repeat (first | exact Below.refl _ _ | refine Below.drew ?_ | refine Below.allocS ?_ _ | refine Below.step ?_ (by assumption) | refine Below.setCell ?_ (by simp <;> omega) _ | refine Below.drewN' ?_ _))⟩

def lagE (s v a b c d : Int) : Int := if validAir s v then (if place a b && place c d then 0 else 7) else 1
theorem askedE_two (s v a b c d : Int) : askedE s v [(a, b), (c, d)] = lagE s v a b c d := by
  unfold askedE lagE
  cases validAir s v <;> cases h' : place a b <;> cases h : place c d <;> simp [h, h']
theorem asked_two (s v a b c d : Int) (g : Nat) (w : World) (hg : g < w.heap.size) (h0 : w.cell? ⟨g, 0, none⟩ = some (.int .i64 a)) (h1 : w.cell? ⟨g, 1, none⟩ = some (.int .i64 b)) (h2 : w.cell? ⟨g, 2, none⟩ = some (.int .i64 c)) (h3 : w.cell? ⟨g, 3, none⟩ = some (.int .i64 d)) :
    Calls Tryd.prog 59 #[.agg #[.int .i64 s, .int .i64 v], .slice (some ⟨g, 0, none⟩) 2 2] w fun e w' => e = .returned (.int .i64 (lagE s v a b c d)) ∧ Below w.heap.size w w' := by
  rw [← askedE_two]
  refine asked_c s v [(a, b), (c, d)] (some ⟨g, 0, none⟩) 2 (by simp) w ?_
  intro _
  refine ⟨g, 0, rfl, hg, fun i hi j v hv => ?_⟩
  have hi' : i = 0 ∨ i = 1 := by simp at hi; omega
  have hj' : j = 0 ∨ j = 1 := by have := (List.getElem?_eq_some_iff.1 hv).1; simp [ptE] at this; omega
  rcases hi' with rfl | rfl <;> rcases hj' with rfl | rfl <;> (simp [ptE] at hv; subst hv; assumption)
theorem asked_one (s v a b : Int) (g : Nat) (w : World) (hg : g < w.heap.size) (h0 : w.cell? ⟨g, 0, none⟩ = some (.int .i64 a)) (h1 : w.cell? ⟨g, 1, none⟩ = some (.int .i64 b)) :
    Calls Tryd.prog 59 #[.agg #[.int .i64 s, .int .i64 v], .slice (some ⟨g, 0, none⟩) 1 1] w fun e w' => e = .returned (.int .i64 (lagE s v a b a b)) ∧ Below w.heap.size w w' := by
  have : lagE s v a b a b = askedE s v [(a, b)] := by
    unfold askedE lagE
    cases validAir s v <;> cases h' : place a b <;> simp [h']
  rw [this]
  refine asked_c s v [(a, b)] (some ⟨g, 0, none⟩) 1 (by simp) w ?_
  intro _
  refine ⟨g, 0, rfl, hg, fun i hi j v hv => ?_⟩
  have hi' : i = 0 := by simp at hi; omega
  have hj' : j = 0 ∨ j = 1 := by have := (List.getElem?_eq_some_iff.1 hv).1; simp [ptE] at this; omega
  subst hi'
  rcases hj' with rfl | rfl <;> (simp [ptE] at hv; subst hv; assumption)
end Go.Proofs.YtimbdnngeoccdaaDoor
