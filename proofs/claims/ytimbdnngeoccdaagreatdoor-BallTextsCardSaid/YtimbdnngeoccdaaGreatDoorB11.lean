/-
  Wires: ValidWire, lag, Lag, Send, Falls of ball, and of its reference.
-/
import Derived.Test.YtimbdnngeoccdaaGreatDoorB1
import Derived.Test.YtimbdnngeoccdaaGreatDoorIdx
import Derived.IntWalk
import Derived.Deep.DeepCutAuto
import Derived.Outline
namespace Go.Proofs.YtimbdnngeoccdaaGreatDoor
open Go.RowKit
set_option linter.unusedVariables false

structure Rl where
  lag : Int
  spread : Int
def rlE (r : Rl) : List Value := [.int .i64 r.lag, .int .i64 r.spread]
def okRl (r : Rl) : Bool := within r.lag 0 10000 && within r.spread 0 r.lag
def okWire (l : List Rl) : Bool := within l.length 1 20 && l.all okRl
def lagW (l : List Rl) : Int := l.foldl (fun a r => IntKind.i64.wrap (a + r.lag)) 0
def sprW (l : List Rl) : Int := l.foldl (fun a r => IntKind.i64.wrap (a + r.spread)) 0
theorem okWire_len {l : List Rl} (h : okWire l = true) : 1 ≤ l.length ∧ l.length ≤ 20 := by
  simp only [okWire, Bool.and_eq_true] at h
  have := within_true h.1
  omega
theorem okWire_bd {l : List Rl} (h : okWire l = true) : (0 ≤ sprW l ∧ sprW l ≤ lagW l) ∧ lagW l ≤ 200000 := by
  obtain ⟨_, h2⟩ := okWire_len h
  simp only [okWire, Bool.and_eq_true, List.all_eq_true] at h
  obtain ⟨-, h⟩ := h
  have key : ∀ (m : List Rl) (a b : Int) (k : Nat), (∀ x ∈ m, okRl x = true) → 0 ≤ b → b ≤ a → a ≤ 10000 * k → m.length + k ≤ 20 → (0 ≤ m.foldl (fun a r => IntKind.i64.wrap (a + r.spread)) b ∧ m.foldl (fun a r => IntKind.i64.wrap (a + r.spread)) b ≤ m.foldl (fun a r => IntKind.i64.wrap (a + r.lag)) a) ∧ m.foldl (fun a r => IntKind.i64.wrap (a + r.lag)) a ≤ 200000 := by
    intro m
    induction m with
    | nil => intro a b k _ h1 h2 h3 h4; simp at h4 ⊢; omega
    | cons x m ih =>
      intro a b k hx h1 h2 h3 h4
      simp only [List.length_cons] at h4
      have := hx x (by simp)
      simp only [okRl, Bool.and_eq_true] at this
      have q1 := within_true this.1
      have q2 := within_true this.2
      rw [List.foldl_cons, List.foldl_cons, IntWalk.i64_in (a + x.lag) (by omega), IntWalk.i64_in (b + x.spread) (by omega)]
      exact ih _ _ (k + 1) (fun y hy => hx y (by simp [hy])) (by omega) (by omega) (by omega) (by omega)
  exact key l 0 0 0 h (by omega) (by omega) (by omega) (by omega)
theorem lagW_snoc (l : List Rl) (k : Nat) (h : k < l.length) : lagW (l.take (k + 1)) = IntKind.i64.wrap (lagW (l.take k) + l[k].lag) := by
  unfold lagW; rw [List.take_succ_eq_append_getElem h, List.foldl_append]; rfl
theorem sprW_snoc (l : List Rl) (k : Nat) (h : k < l.length) : sprW (l.take (k + 1)) = IntKind.i64.wrap (sprW (l.take k) + l[k].spread) := by
  unfold sprW; rw [List.take_succ_eq_append_getElem h, List.foldl_append]; rfl

set_option maxHeartbeats 1000000 in
theorem IndexFuncRl (l : List Rl) (A : Option Addr) (cap : Nat) (hl : l.length ≤ 9223372036854775807) (fv : Nat) (caps : Array Value) (p : Rl → Bool) (w : World) (hr : RdL w w.heap.size rlE 2 A l)
    (hcall : ∀ (args : Array Value) (W : World), (callFunc fv args).run Tryz.prog W = .ok (.enter fv args) W)
    (hf : ∀ x ∈ l, ∀ W, Below w.heap.size w W → Calls Tryz.prog fv (#[.agg #[.int .i64 x.lag, .int .i64 x.spread]] ++ caps) W fun e W' => e = .returned (.bool (p x)) ∧ Below W.heap.size W W') :
    Calls Tryz.prog 102 #[.slice A l.length cap, .func (.func fv) #[] caps] w fun e w' => e = .returned (.int .i64 (idxOf p l 0)) ∧ Below w.heap.size w w' := by
  have HF := Lib.hid hf
  have HR := Lib.hid hr
  clear hf hr
  go_enter Tryz.func102, Tryz.ntmps102
  go_wp2
  go_loopw [5, 8] (fun u i wr => ∃ k : Nat, k ≤ l.length ∧ i = .int .i64 k ∧ Below w.heap.size w wr ∧ idxOf p l 0 = idxOf p (l.drop k) k) (fun u i _ => l.length - (intOf i).toNat)
  case atStart => exact ⟨0, Nat.zero_le _, rfl, Below.refl _ _, rfl⟩
  case round =>
    obtain ⟨k, hk, rfl, hbw, hx⟩ := hrel
    have HX := Lib.hid hx
    clear hx
    by_cases hlt : k < l.length
    · obtain ⟨b, off, rfl, hb0, hc⟩ := HR.out (by omega)
      have c0 := hc k hlt 0 _ rfl
      have c1 := hc k hlt 1 _ rfl
      clear hc
      rw [← hbw.cell (p := ⟨b, _, none⟩) hb0] at c0 c1
      simp at c0
      have hmem : l[k] ∈ l := List.getElem_mem hlt
      have hcc := Lib.hid (HF.out l[k] hmem wr hbw)
      have hd : l.drop k = l[k] :: l.drop (k + 1) := List.drop_eq_getElem_cons hlt
      have HD := Lib.hid hd
      clear hd
      cases hp : p l[k]
      · go_wp2_with fail
        refine hcc.out.mono ?_
        rintro e w1 ⟨rfl, hb⟩
        rw [hp]
        go_wp2
        go_roundw
        case rel => exact ⟨k + 1, by omega, by go_num, Below.step hbw hb, by rw [HX.out, HD.out, idxOf_false _ _ _ _ hp]⟩
        case measure => simp [intOf]; omega
      · go_wp2_with fail
        refine hcc.out.mono ?_
        rintro e w1 ⟨rfl, hb⟩
        rw [hp]
        go_wp2
        go_ret
        exact ⟨by rw [HX.out, HD.out, idxOf_true _ _ _ _ hp]; rfl, Below.step hbw hb⟩
    · obtain rfl : k = l.length := by omega
      go_wp2
      go_ret
      exact ⟨by rw [HX.out]; simp [idxOf], hbw⟩
theorem ContainsFuncRl (l : List Rl) (A : Option Addr) (cap : Nat) (hl : l.length ≤ 9223372036854775807) (fv : Nat) (caps : Array Value) (p : Rl → Bool) (w : World) (hr : RdL w w.heap.size rlE 2 A l)
    (hcall : ∀ (args : Array Value) (W : World), (callFunc fv args).run Tryz.prog W = .ok (.enter fv args) W)
    (hf : ∀ x ∈ l, ∀ W, Below w.heap.size w W → Calls Tryz.prog fv (#[.agg #[.int .i64 x.lag, .int .i64 x.spread]] ++ caps) W fun e W' => e = .returned (.bool (p x)) ∧ Below W.heap.size W W') :
    Calls Tryz.prog 76 #[.slice A l.length cap, .func (.func fv) #[] caps] w fun e w' => e = .returned (.bool (l.any p)) ∧ Below w.heap.size w w' := by
  have HI := Lib.hid (IndexFuncRl l A cap hl fv caps p w hr hcall hf)
  have HE := Lib.hid (idxOf_any p l 0)
  clear hf hr hcall
  go_enter Tryz.func76, Tryz.ntmps76
  go_wp2_with (go_at_call 102; refine HI.out.mono ?_; rintro e w1 ⟨rfl, hb⟩)
  go_ret
  exact ⟨by rw [← HE.out]; rfl, hb⟩


theorem badRl_c (r : Rl) (w : World) : Calls Tryz.prog 77 #[.agg #[.int .i64 r.lag, .int .i64 r.spread]] w fun e w' => e = .returned (.bool (!okRl r)) ∧ Below w.heap.size w w' := by
  unfold okRl
  cases h : within r.lag 0 10000
  all_goals
    go_enter Tryz.func77, Tryz.ntmps77
    go_wp2_with (go_at_call 55; (with_reducible refine (within_c _ _ _ _).mono ?_); rintro e w' ⟨rfl, rfl⟩)
    go_ret
    exact ⟨by simp, by (repeat (first | exact Below.refl _ _ | refine Below.drew ?_ | refine Below.allocS ?_ _ | refine Below.step ?_ (by assumption) | refine Below.setCell ?_ (by simp <;> omega) _ | refine Below.drewN' ?_ _))⟩
theorem call_badRl (args : Array Value) (W : World) : (callFunc 77 args).run Tryz.prog W = .ok (.enter 77 args) W := by kernel_rfl
theorem any_not {α : Type} (p : α → Bool) (l : List α) : (!l.any fun x => !p x) = l.all p := by
  induction l with
  | nil => rfl
  | cons x l ih => rw [List.any_cons, List.all_cons, ← ih]; cases p x <;> simp
theorem ValidWire_c (l : List Rl) (A : Option Addr) (cap : Nat) (hl : l.length ≤ 9223372036854775807) (w : World) (hr : RdL w w.heap.size rlE 2 A l) :
    Calls Tryz.prog 46 #[.slice A l.length cap] w fun e w' => e = .returned (.bool (okWire l)) ∧ Below w.heap.size w w' := by
  have HC := Lib.hid (ContainsFuncRl l A cap hl _ #[] (fun x => !okRl x) w hr call_badRl (fun x _ W _ => by simpa using badRl_c x W))
  unfold okWire
  rw [← any_not]
  clear hr
  cases h : within l.length 1 20
  · go_enter Tryz.func46, Tryz.ntmps46
    go_wp2_with (go_at_call 55; (with_reducible refine (within_c _ _ _ _).mono ?_); rintro e w' ⟨rfl, rfl⟩)
    go_ret
    exact ⟨rfl, by (repeat (first | exact Below.refl _ _ | refine Below.drew ?_ | refine Below.allocS ?_ _ | refine Below.step ?_ (by assumption) | refine Below.setCell ?_ (by simp <;> omega) _ | refine Below.drewN' ?_ _))⟩
  · generalize hx : l.any (fun x => !okRl x) = X at *
    clear hx
    go_enter Tryz.func46, Tryz.ntmps46
    go_wp2_with (first | (go_at_call 55; (with_reducible refine (within_c _ _ _ _).mono ?_); rintro e w' ⟨rfl, rfl⟩) | (go_at_call 76; refine HC.out.mono ?_; rintro e w1 ⟨rfl, hb⟩))
    go_ret
    exact ⟨rfl, by (repeat (first | exact Below.refl _ _ | refine Below.drew ?_ | refine Below.allocS ?_ _ | refine Below.step ?_ (by assumption) | refine Below.setCell ?_ (by simp <;> omega) _ | refine Below.drewN' ?_ _))⟩

set_option maxHeartbeats 1000000 in
theorem lag_c (l : List Rl) (A : Option Addr) (cap : Nat) (hl : l.length ≤ 9223372036854775807) (w : World) (hr : RdL w w.heap.size rlE 2 A l) :
    Calls Tryz.prog 47 #[.slice A l.length cap] w fun e w' => e = .returned (.tuple #[.int .i64 (lagW l), .int .i64 (sprW l)]) ∧ Below w.heap.size w w' := by
  have HR := Lib.hid hr
  clear hr
  go_enter Tryz.func47, Tryz.ntmps47
  go_wp2
  go_loopw [2, 3, 8] (fun u v i wr => ∃ k : Nat, k ≤ l.length ∧ i = .int .i64 k ∧ u = .int .i64 (lagW (l.take k)) ∧ v = .int .i64 (sprW (l.take k)) ∧ Below w.heap.size w wr) (fun u v i _ => l.length - (intOf i).toNat)
  case atStart => exact ⟨0, Nat.zero_le _, rfl, rfl, rfl, Below.refl _ _⟩
  case round =>
    obtain ⟨k, hk, rfl, rfl, rfl, hbw⟩ := hrel
    by_cases hlt : k < l.length
    · obtain ⟨b, off, rfl, hb0, hc⟩ := HR.out (by omega)
      have c0 := (hbw.cell (p := ⟨b, _, none⟩) hb0).trans (hc k hlt 0 _ rfl)
      have c1 := (hbw.cell (p := ⟨b, _, none⟩) hb0).trans (hc k hlt 1 _ rfl)
      clear hc
      simp at c0
      have H1 := Lib.hid (lagW_snoc l k hlt)
      have H2 := Lib.hid (sprW_snoc l k hlt)
      generalize lagW (l.take k) = a at *
      generalize sprW (l.take k) = b' at *
      go_wp2
      go_roundw
      case rel => exact ⟨k + 1, by omega, by go_num, by rw [H1.out, IntWalk.i64_left], by rw [H2.out, IntWalk.i64_left], by (repeat (first | exact Below.refl _ _ | refine Below.drew ?_ | refine Below.allocS ?_ _ | refine Below.step ?_ (by assumption) | refine Below.setCell ?_ (by simp <;> omega) _ | refine Below.drewN' ?_ _))⟩
      case measure => simp [intOf]; omega
    · obtain rfl : k = l.length := by omega
      rw [List.take_length]
      go_wp2
      go_ret2
      exact ⟨rfl, hbw⟩
/-- What Lag, Falls and Send answer. -/
def lagE (l : List Rl) : Int := if okWire l then 0 else 1
def lagLo (l : List Rl) : Int := if okWire l then lagW l - sprW l else 0
def lagHi (l : List Rl) : Int := if okWire l then lagW l + sprW l else 0
def fallE (l : List Rl) (t : Int) : Int := if okWire l then (if within t 0 86399999 then 0 else 7) else 1
def fallLo (l : List Rl) (t : Int) : Int := if fallE l t = 0 then t + lagW l - sprW l else 0
def fallHi (l : List Rl) (t : Int) : Int := if fallE l t = 0 then t + lagW l + sprW l else 0
def sendE (l : List Rl) (t : Int) : Int := if okWire l then (if within t 0 86399999 then (if t < lagW l then 8 else 0) else 7) else 1
def sendV (l : List Rl) (t : Int) : Int := if sendE l t = 0 then t - lagW l else 0

theorem Lag_c (l : List Rl) (A : Option Addr) (cap : Nat) (hl : l.length ≤ 9223372036854775807) (w : World) (hr : RdL w w.heap.size rlE 2 A l) :
    Calls Tryz.prog 23 #[.slice A l.length cap] w fun e w' => e = .returned (.tuple #[.agg #[.int .i64 (lagLo l), .int .i64 (lagHi l)], .int .i64 (lagE l)]) ∧ Below w.heap.size w w' := by
  have HV := Lib.hid (fun W (hb : Below w.heap.size w W) => ValidWire_c l A cap hl W (hr.step hb))
  have HS := Lib.hid (fun W (hb : Below w.heap.size w W) => lag_c l A cap hl W (hr.step hb))
  clear hr
  cases hw : okWire l
  · have e1 : lagE l = 1 := by unfold lagE; rw [hw]; rfl
    have e2 : lagLo l = 0 := by unfold lagLo; rw [hw]; rfl
    have e3 : lagHi l = 0 := by unfold lagHi; rw [hw]; rfl
    rw [e1, e2, e3]
    rw [hw] at HV
    clear e1 e2 e3 hw
    go_enter Tryz.func23, Tryz.ntmps23
    go_wp2_with fail
    refine (HV.out _ (by (repeat (first | exact Below.refl _ _ | refine Below.drew ?_ | refine Below.allocS ?_ _ | refine Below.step ?_ (by assumption) | refine Below.setCell ?_ (by simp <;> omega) _ | refine Below.drewN' ?_ _)))).mono ?_
    rintro e w1 ⟨rfl, hb1⟩
    have x1_0_0 : w1.cell? ⟨w.heap.size, 0, none⟩ = some (.int .i64 0) := keep_cell hb1 (by simp [go_sem, *])
    have f1_0_0 : w1.frozen? ⟨w.heap.size, 0, none⟩ = false := keep_frozen hb1 (by first | omega | (simp <;> omega)) (by simp [go_sem, *])
    have x1_0_1 : w1.cell? ⟨w.heap.size, 1, none⟩ = some (.int .i64 0) := keep_cell hb1 (by simp [go_sem, *])
    have f1_0_1 : w1.frozen? ⟨w.heap.size, 1, none⟩ = false := keep_frozen hb1 (by first | omega | (simp <;> omega)) (by simp [go_sem, *])
    have y1_0 : w.heap.size < w1.heap.size := cell?_lt x1_0_0
    have g1 : Below w.heap.size w w1 := by (repeat (first | exact Below.refl _ _ | refine Below.drew ?_ | refine Below.allocS ?_ _ | refine Below.step ?_ (by assumption) | refine Below.setCell ?_ (by simp <;> omega) _ | refine Below.drewN' ?_ _))
    clear hb1
    go_wp2
    refine bodyPost_ret (v := .tuple #[.agg #[.int .i64 0, .int .i64 0], .int .i64 1]) (by simp [results, Tryz.results23, go_sem, *] <;> (repeat' apply And.intro) <;> rfl) rfl ⟨rfl, ?_⟩
    (repeat (first | exact Below.refl _ _ | refine Below.drew ?_ | refine Below.allocS ?_ _ | refine Below.step ?_ (by assumption) | refine Below.setCell ?_ (by simp <;> omega) _ | refine Below.drewN' ?_ _))
  · have e1 : lagE l = 0 := by unfold lagE; rw [hw]; rfl
    have e2 : lagLo l = lagW l - sprW l := by unfold lagLo; rw [hw]; rfl
    have e3 : lagHi l = lagW l + sprW l := by unfold lagHi; rw [hw]; rfl
    obtain ⟨⟨b1, b2⟩, b3⟩ := okWire_bd hw
    rw [e1, e2, e3]
    rw [hw] at HV
    clear e1 e2 e3 hw
    generalize lagW l = a at *
    generalize sprW l = b at *
    go_enter Tryz.func23, Tryz.ntmps23
    go_wp2_with fail
    refine (HV.out _ (by (repeat (first | exact Below.refl _ _ | refine Below.drew ?_ | refine Below.allocS ?_ _ | refine Below.step ?_ (by assumption) | refine Below.setCell ?_ (by simp <;> omega) _ | refine Below.drewN' ?_ _)))).mono ?_
    rintro e w1 ⟨rfl, hb1⟩
    have x1_0_0 : w1.cell? ⟨w.heap.size, 0, none⟩ = some (.int .i64 0) := keep_cell hb1 (by simp [go_sem, *])
    have f1_0_0 : w1.frozen? ⟨w.heap.size, 0, none⟩ = false := keep_frozen hb1 (by first | omega | (simp <;> omega)) (by simp [go_sem, *])
    have x1_0_1 : w1.cell? ⟨w.heap.size, 1, none⟩ = some (.int .i64 0) := keep_cell hb1 (by simp [go_sem, *])
    have f1_0_1 : w1.frozen? ⟨w.heap.size, 1, none⟩ = false := keep_frozen hb1 (by first | omega | (simp <;> omega)) (by simp [go_sem, *])
    have y1_0 : w.heap.size < w1.heap.size := cell?_lt x1_0_0
    have g1 : Below w.heap.size w w1 := by (repeat (first | exact Below.refl _ _ | refine Below.drew ?_ | refine Below.allocS ?_ _ | refine Below.step ?_ (by assumption) | refine Below.setCell ?_ (by simp <;> omega) _ | refine Below.drewN' ?_ _))
    clear hb1
    go_wp2_with fail
    refine (HS.out _ (by (repeat (first | exact Below.refl _ _ | refine Below.drew ?_ | refine Below.allocS ?_ _ | refine Below.step ?_ (by assumption) | refine Below.setCell ?_ (by simp <;> omega) _ | refine Below.drewN' ?_ _)))).mono ?_
    rintro e w2 ⟨rfl, hb2⟩
    have x2_0_0 : w2.cell? ⟨w.heap.size, 0, none⟩ = some (.int .i64 0) := keep_cell hb2 (by simp [go_sem, *])
    have f2_0_0 : w2.frozen? ⟨w.heap.size, 0, none⟩ = false := keep_frozen hb2 (by first | omega | (simp <;> omega)) (by simp [go_sem, *])
    have x2_0_1 : w2.cell? ⟨w.heap.size, 1, none⟩ = some (.int .i64 0) := keep_cell hb2 (by simp [go_sem, *])
    have f2_0_1 : w2.frozen? ⟨w.heap.size, 1, none⟩ = false := keep_frozen hb2 (by first | omega | (simp <;> omega)) (by simp [go_sem, *])
    have y2_0 : w.heap.size < w2.heap.size := cell?_lt x2_0_0
    have g2 : Below w.heap.size w w2 := by (repeat (first | exact Below.refl _ _ | refine Below.drew ?_ | refine Below.allocS ?_ _ | refine Below.step ?_ (by assumption) | refine Below.setCell ?_ (by simp <;> omega) _ | refine Below.drewN' ?_ _))
    clear hb2 g1 x1_0_0 f1_0_0 x1_0_1 f1_0_1 y1_0
    go_wp2
    refine bodyPost_ret (v := .tuple #[.agg #[.int .i64 (a - b), .int .i64 (a + b)], .int .i64 0]) (by simp [results, Tryz.results23, go_sem, *] <;> (repeat' apply And.intro) <;> rfl) rfl ⟨rfl, ?_⟩
    (repeat (first | exact Below.refl _ _ | refine Below.drew ?_ | refine Below.allocS ?_ _ | refine Below.step ?_ (by assumption) | refine Below.setCell ?_ (by simp <;> omega) _ | refine Below.drewN' ?_ _))

theorem send_cases (l : List Rl) (t : Int) : (okWire l = false ∧ sendE l t = 1 ∧ sendV l t = 0) ∨ (okWire l = true ∧ within t 0 86399999 = false ∧ sendE l t = 7 ∧ sendV l t = 0) ∨ (okWire l = true ∧ within t 0 86399999 = true ∧ t < lagW l ∧ sendE l t = 8 ∧ sendV l t = 0) ∨ (okWire l = true ∧ within t 0 86399999 = true ∧ (lagW l ≤ t ∧ 0 ≤ lagW l ∧ t ≤ 86399999) ∧ sendE l t = 0 ∧ sendV l t = t - lagW l) := by
  have hb := fun h => okWire_bd (l := l) h
  have hw := fun h => within_true (n := t) (lo := 0) (hi := 86399999) h
  revert hb hw
  unfold sendV sendE
  cases okWire l
  · simp
  · cases within t 0 86399999
    · simp
    · intro hb hw
      have h1 := hb rfl
      have h2 := hw rfl
      by_cases h : t < lagW l
      · simp [h]
      · simp [h]; omega
end Go.Proofs.YtimbdnngeoccdaaGreatDoor
