/-
  The kinds' rules, and next, of ball.
-/
import Derived.Test.YtimbdnngeoccdaaGreatDoorB1
import Derived.Test.YtimbdnngeoccdaaGreatDoorRange
import Derived.Laws.EntriesVeiled
namespace Go.Proofs.YtimbdnngeoccdaaGreatDoor
open Go.RowKit
set_option linter.unusedVariables false

def hoist (x : Ms) (t : Int) : Bool := within t (x.noon - x.half) (x.noon - x.full - 1) || within t (x.noon + x.again - x.half) (x.noon + x.again - x.full - 1)
def allowB (x : Ms) (s : Bl) (t kind : Int) : Bool :=
  if kind = 1 then true
  else if kind = 2 then decide (s.place = 0) && (decide (s.wind ≤ x.wind) && hoist x t)
  else if kind = 3 then decide (s.place = 1) && within t (x.noon - x.full) (x.noon + x.again)
  else if kind = 4 then decide (s.place = 2)
  else if kind = 5 then decide (s.place = 2)
  else !s.flag
def doB (s : Bl) (kind n t : Int) : Bl :=
  if kind = 1 then ⟨s.place, max s.wind n, s.flag, t⟩
  else if kind = 2 then ⟨1, s.wind, s.flag, t⟩
  else if kind = 3 then ⟨2, s.wind, s.flag, t⟩
  else if kind = 4 then ⟨0, s.wind, s.flag, t⟩
  else if kind = 5 then ⟨3, s.wind, s.flag, t⟩
  else ⟨0, s.wind, true, t⟩
def nextE (x : Ms) (s : Bl) (e : Ev) : Int := if fineB e = true ∧ s.at' ≤ e.at' then (if allowB x s e.at' e.kind = true then 0 else 9) else 7
def nextS (x : Ms) (s : Bl) (e : Ev) : Bl := if nextE x s e = 0 then doB s e.kind e.n e.at' else bl0

theorem early_c (x : Ms) (hx : OkMast x) (n t : Int) (hn : 0 ≤ n) (hn1 : n < 86400000) (bt bx : Nat) (w : World) (c0 : w.cell? ⟨bt, 0, none⟩ = some (.int .i64 t)) (d1 : w.cell? ⟨bx, 1, none⟩ = some (.int .i64 x.half)) (d2 : w.cell? ⟨bx, 2, none⟩ = some (.int .i64 x.full)) :
    Calls Tryz.prog 153 #[.int .i64 n, .pointer (some ⟨bt, 0, none⟩), .pointer (some ⟨bx, 0, none⟩)] w fun e w' => e = .returned (.bool (within t (n - x.half) (n - x.full - 1))) ∧ Below w.heap.size w w' := by
  obtain ⟨n0, n1, f0, fh, h1, hn', l0, l1, a0, a1, na, w0, w1⟩ := hx
  have y0 := cell?_lt c0
  have y1 := cell?_lt d1
  go_enter Tryz.func153, Tryz.ntmps153
  go_wp2_with (go_at_call 55; (with_reducible refine (within_c _ _ _ _).mono ?_); rintro e w' ⟨rfl, rfl⟩)
  go_ret
  exact ⟨rfl, by (repeat (first | exact Below.refl _ _ | refine Below.drew ?_ | refine Below.allocS ?_ _ | refine Below.step ?_ (by assumption) | refine Below.setCell ?_ (by simp <;> omega) _ | refine Below.drewN' ?_ _))⟩

theorem hoisting_c (x : Ms) (hx : OkMast x) (t : Int) (w : World) :
    Calls Tryz.prog 141 #[msV x, .int .i64 t] w fun e w' => e = .returned (.bool (hoist x t)) ∧ Below w.heap.size w w' := by
  have HX := Lib.hid hx
  obtain ⟨n0, n1, f0, fh, h1, hn', l0, l1, a0, a1, na, w0, w1⟩ := hx
  unfold msV hoist
  cases h : within t (x.noon - x.half) (x.noon - x.full - 1)
  · have h0 := Lib.hid h
    go_enter Tryz.func141, Tryz.ntmps141
    go_wp2_with fail
    refine (early_c x HX.out x.noon t (by omega) (by omega) _ _ _ (by simp [go_sem]) (by simp [go_sem]) (by simp [go_sem])).mono ?_
    rintro e w1 ⟨rfl, hb1⟩
    have x1_0_0 : w1.cell? ⟨w.heap.size, 0, none⟩ = some (.int .i64 x.noon) := keep_cell hb1 (by simp [go_sem, *])
    have x1_0_1 : w1.cell? ⟨w.heap.size, 1, none⟩ = some (.int .i64 x.half) := keep_cell hb1 (by simp [go_sem, *])
    have x1_0_2 : w1.cell? ⟨w.heap.size, 2, none⟩ = some (.int .i64 x.full) := keep_cell hb1 (by simp [go_sem, *])
    have x1_0_3 : w1.cell? ⟨w.heap.size, 3, none⟩ = some (.int .i64 x.late) := keep_cell hb1 (by simp [go_sem, *])
    have x1_0_4 : w1.cell? ⟨w.heap.size, 4, none⟩ = some (.int .i64 x.again) := keep_cell hb1 (by simp [go_sem, *])
    have x1_0_5 : w1.cell? ⟨w.heap.size, 5, none⟩ = some (.int .i64 x.wind) := keep_cell hb1 (by simp [go_sem, *])
    have y1_0 : w.heap.size < w1.heap.size := cell?_lt x1_0_0
    have x1_1_0 : w1.cell? ⟨w.heap.size + 1, 0, none⟩ = some (.int .i64 t) := keep_cell hb1 (by simp [go_sem, *])
    have y1_1 : w.heap.size + 1 < w1.heap.size := cell?_lt x1_1_0
    have g1 : Below w.heap.size w w1 := by (repeat (first | exact Below.refl _ _ | refine Below.drew ?_ | refine Below.allocS ?_ _ | refine Below.step ?_ (by assumption) | refine Below.setCell ?_ (by simp <;> omega) _ | refine Below.drewN' ?_ _))
    clear hb1
    rw [h0.out]
    go_wp2_with fail
    refine (early_c x HX.out (x.noon + x.again) t (by omega) (by omega) _ _ _ (by simp [go_sem, *]) (by simp [go_sem, *]) (by simp [go_sem, *])).mono ?_
    rintro e w2 ⟨rfl, hb2⟩
    have x2_0_0 : w2.cell? ⟨w.heap.size, 0, none⟩ = some (.int .i64 x.noon) := keep_cell hb2 (by simp [go_sem, *])
    have x2_0_1 : w2.cell? ⟨w.heap.size, 1, none⟩ = some (.int .i64 x.half) := keep_cell hb2 (by simp [go_sem, *])
    have x2_0_2 : w2.cell? ⟨w.heap.size, 2, none⟩ = some (.int .i64 x.full) := keep_cell hb2 (by simp [go_sem, *])
    have x2_0_3 : w2.cell? ⟨w.heap.size, 3, none⟩ = some (.int .i64 x.late) := keep_cell hb2 (by simp [go_sem, *])
    have x2_0_4 : w2.cell? ⟨w.heap.size, 4, none⟩ = some (.int .i64 x.again) := keep_cell hb2 (by simp [go_sem, *])
    have x2_0_5 : w2.cell? ⟨w.heap.size, 5, none⟩ = some (.int .i64 x.wind) := keep_cell hb2 (by simp [go_sem, *])
    have y2_0 : w.heap.size < w2.heap.size := cell?_lt x2_0_0
    have x2_1_0 : w2.cell? ⟨w.heap.size + 1, 0, none⟩ = some (.int .i64 t) := keep_cell hb2 (by simp [go_sem, *])
    have y2_1 : w.heap.size + 1 < w2.heap.size := cell?_lt x2_1_0
    have g2 : Below w.heap.size w w2 := by (repeat (first | exact Below.refl _ _ | refine Below.drew ?_ | refine Below.allocS ?_ _ | refine Below.step ?_ (by assumption) | refine Below.setCell ?_ (by simp <;> omega) _ | refine Below.drewN' ?_ _))
    clear hb2 g1 x1_0_0 x1_0_1 x1_0_2 x1_0_3 x1_0_4 x1_0_5 x1_1_0 y1_0 y1_1
    go_wp2
    go_ret
    exact ⟨by simp, by (repeat (first | exact Below.refl _ _ | refine Below.drew ?_ | refine Below.allocS ?_ _ | refine Below.step ?_ (by assumption) | refine Below.setCell ?_ (by simp <;> omega) _ | refine Below.drewN' ?_ _))⟩
  · have h0 := Lib.hid h
    go_enter Tryz.func141, Tryz.ntmps141
    go_wp2_with fail
    refine (early_c x HX.out x.noon t (by omega) (by omega) _ _ _ (by simp [go_sem]) (by simp [go_sem]) (by simp [go_sem])).mono ?_
    rintro e w1 ⟨rfl, hb1⟩
    have x1_0_0 : w1.cell? ⟨w.heap.size, 0, none⟩ = some (.int .i64 x.noon) := keep_cell hb1 (by simp [go_sem, *])
    have x1_0_1 : w1.cell? ⟨w.heap.size, 1, none⟩ = some (.int .i64 x.half) := keep_cell hb1 (by simp [go_sem, *])
    have x1_0_2 : w1.cell? ⟨w.heap.size, 2, none⟩ = some (.int .i64 x.full) := keep_cell hb1 (by simp [go_sem, *])
    have x1_0_3 : w1.cell? ⟨w.heap.size, 3, none⟩ = some (.int .i64 x.late) := keep_cell hb1 (by simp [go_sem, *])
    have x1_0_4 : w1.cell? ⟨w.heap.size, 4, none⟩ = some (.int .i64 x.again) := keep_cell hb1 (by simp [go_sem, *])
    have x1_0_5 : w1.cell? ⟨w.heap.size, 5, none⟩ = some (.int .i64 x.wind) := keep_cell hb1 (by simp [go_sem, *])
    have y1_0 : w.heap.size < w1.heap.size := cell?_lt x1_0_0
    have x1_1_0 : w1.cell? ⟨w.heap.size + 1, 0, none⟩ = some (.int .i64 t) := keep_cell hb1 (by simp [go_sem, *])
    have y1_1 : w.heap.size + 1 < w1.heap.size := cell?_lt x1_1_0
    have g1 : Below w.heap.size w w1 := by (repeat (first | exact Below.refl _ _ | refine Below.drew ?_ | refine Below.allocS ?_ _ | refine Below.step ?_ (by assumption) | refine Below.setCell ?_ (by simp <;> omega) _ | refine Below.drewN' ?_ _))
    clear hb1
    rw [h0.out]
    go_wp2
    go_ret
    exact ⟨by simp, by (repeat (first | exact Below.refl _ _ | refine Below.drew ?_ | refine Below.allocS ?_ _ | refine Below.step ?_ (by assumption) | refine Below.setCell ?_ (by simp <;> omega) _ | refine Below.drewN' ?_ _))⟩

theorem allow1_c (x : Ms) (s : Bl) (t : Int) (w : World) :
    Calls Tryz.prog 138 #[msV x, blV s, .int .i64 t] w fun e w' => e = .returned (.bool (allowB x s t 1)) ∧ Below w.heap.size w w' := by
  unfold msV blV
  go_enter Tryz.func138, Tryz.ntmps138
  go_wp2
  go_ret
  exact ⟨rfl, by (repeat (first | exact Below.refl _ _ | refine Below.drew ?_ | refine Below.allocS ?_ _ | refine Below.step ?_ (by assumption) | refine Below.setCell ?_ (by simp <;> omega) _ | refine Below.drewN' ?_ _))⟩
theorem allow2_c (x : Ms) (hx : OkMast x) (s : Bl) (t : Int) (w : World) :
    Calls Tryz.prog 140 #[msV x, blV s, .int .i64 t] w fun e w' => e = .returned (.bool (allowB x s t 2)) ∧ Below w.heap.size w w' := by
  have HX := Lib.hid hx
  have HA := Lib.hid (show allowB x s t 2 = (decide (s.place = 0) && (decide (s.wind ≤ x.wind) && hoist x t)) from rfl)
  clear hx
  rw [HA.out]
  have HH := Lib.hid (fun W => hoisting_c x HX.out t W)
  unfold msV at *
  unfold blV
  generalize hoist x t = H at HH ⊢
  by_cases h1 : s.place = 0 <;> by_cases h2 : s.wind ≤ x.wind
  all_goals
    go_enter Tryz.func140, Tryz.ntmps140
    go_wp2_with (go_at_call 141; (with_reducible refine (HH.out _).mono ?_); rintro e w1 ⟨rfl, hb⟩)
    go_ret
    exact ⟨by simp [h1, h2] <;> (intro; omega), by (repeat (first | exact Below.refl _ _ | refine Below.drew ?_ | refine Below.allocS ?_ _ | refine Below.step ?_ (by assumption) | refine Below.setCell ?_ (by simp <;> omega) _ | refine Below.drewN' ?_ _))⟩
theorem allow3_c (x : Ms) (hx : OkMast x) (s : Bl) (t : Int) (w : World) :
    Calls Tryz.prog 143 #[msV x, blV s, .int .i64 t] w fun e w' => e = .returned (.bool (allowB x s t 3)) ∧ Below w.heap.size w w' := by
  have HA := Lib.hid (show allowB x s t 3 = (decide (s.place = 1) && within t (x.noon - x.full) (x.noon + x.again)) from rfl)
  obtain ⟨n0, n1, f0, fh, h1, hn', l0, l1, a0, a1, na, w0, w1⟩ := hx
  rw [HA.out]
  unfold msV blV
  by_cases h1 : s.place = 1
  all_goals
    go_enter Tryz.func143, Tryz.ntmps143
    go_wp2_with (go_at_call 55; (with_reducible refine (within_c _ _ _ _).mono ?_); rintro e w' ⟨rfl, rfl⟩)
    go_ret
    exact ⟨by simp [h1], by (repeat (first | exact Below.refl _ _ | refine Below.drew ?_ | refine Below.allocS ?_ _ | refine Below.step ?_ (by assumption) | refine Below.setCell ?_ (by simp <;> omega) _ | refine Below.drewN' ?_ _))⟩
theorem allow4_c (x : Ms) (s : Bl) (t : Int) (w : World) :
    Calls Tryz.prog 145 #[msV x, blV s, .int .i64 t] w fun e w' => e = .returned (.bool (allowB x s t 4)) ∧ Below w.heap.size w w' := by
  have HA := Lib.hid (show allowB x s t 4 = decide (s.place = 2) from rfl)
  rw [HA.out]
  unfold msV blV
  go_enter Tryz.func145, Tryz.ntmps145
  go_wp2
  go_ret
  exact ⟨rfl, by (repeat (first | exact Below.refl _ _ | refine Below.drew ?_ | refine Below.allocS ?_ _ | refine Below.step ?_ (by assumption) | refine Below.setCell ?_ (by simp <;> omega) _ | refine Below.drewN' ?_ _))⟩
theorem allow5_c (x : Ms) (s : Bl) (t : Int) (w : World) :
    Calls Tryz.prog 147 #[msV x, blV s, .int .i64 t] w fun e w' => e = .returned (.bool (allowB x s t 5)) ∧ Below w.heap.size w w' := by
  have HA := Lib.hid (show allowB x s t 5 = decide (s.place = 2) from rfl)
  rw [HA.out]
  unfold msV blV
  go_enter Tryz.func147, Tryz.ntmps147
  go_wp2
  go_ret
  exact ⟨rfl, by (repeat (first | exact Below.refl _ _ | refine Below.drew ?_ | refine Below.allocS ?_ _ | refine Below.step ?_ (by assumption) | refine Below.setCell ?_ (by simp <;> omega) _ | refine Below.drewN' ?_ _))⟩
theorem allow6_c (x : Ms) (s : Bl) (t : Int) (w : World) :
    Calls Tryz.prog 149 #[msV x, blV s, .int .i64 t] w fun e w' => e = .returned (.bool (allowB x s t 6)) ∧ Below w.heap.size w w' := by
  have HA := Lib.hid (show allowB x s t 6 = !s.flag from rfl)
  rw [HA.out]
  unfold msV blV
  go_enter Tryz.func149, Tryz.ntmps149
  go_wp2
  go_ret
  exact ⟨rfl, by (repeat (first | exact Below.refl _ _ | refine Below.drew ?_ | refine Below.allocS ?_ _ | refine Below.step ?_ (by assumption) | refine Below.setCell ?_ (by simp <;> omega) _ | refine Below.drewN' ?_ _))⟩

theorem do1_c (b : Nat) (v n : Int) (w : World) (c1 : w.cell? ⟨b, 1, none⟩ = some (.int .i64 v)) (f1 : w.frozen? ⟨b, 1, none⟩ = false) :
    Calls Tryz.prog 139 #[.pointer (some ⟨b, 0, none⟩), .int .i64 n] w fun e w' => (∃ u, e = .returned u) ∧ w' = w.setCell ⟨b, 1, none⟩ (.int .i64 (max v n)) := by
  have y0 := cell?_lt c1
  go_enter Tryz.func139, Tryz.ntmps139
  go_wp2
  all_goals
    go_end0
    exact ⟨⟨_, rfl⟩, by first | rw [show max v n = v by omega] | rw [show max v n = n by omega]⟩
theorem do2_c (b : Nat) (v n : Int) (w : World) (c1 : w.cell? ⟨b, 0, none⟩ = some (.int .i64 v)) (f1 : w.frozen? ⟨b, 0, none⟩ = false) :
    Calls Tryz.prog 142 #[.pointer (some ⟨b, 0, none⟩), .int .i64 n] w fun e w' => (∃ u, e = .returned u) ∧ w' = w.setCell ⟨b, 0, none⟩ (.int .i64 1) := by
  have y0 := cell?_lt c1
  go_enter Tryz.func142, Tryz.ntmps142
  go_wp2
  go_end0
  exact ⟨⟨_, rfl⟩, rfl⟩
theorem do3_c (b : Nat) (v n : Int) (w : World) (c1 : w.cell? ⟨b, 0, none⟩ = some (.int .i64 v)) (f1 : w.frozen? ⟨b, 0, none⟩ = false) :
    Calls Tryz.prog 144 #[.pointer (some ⟨b, 0, none⟩), .int .i64 n] w fun e w' => (∃ u, e = .returned u) ∧ w' = w.setCell ⟨b, 0, none⟩ (.int .i64 2) := by
  have y0 := cell?_lt c1
  go_enter Tryz.func144, Tryz.ntmps144
  go_wp2
  go_end0
  exact ⟨⟨_, rfl⟩, rfl⟩
theorem do4_c (b : Nat) (v n : Int) (w : World) (c1 : w.cell? ⟨b, 0, none⟩ = some (.int .i64 v)) (f1 : w.frozen? ⟨b, 0, none⟩ = false) :
    Calls Tryz.prog 146 #[.pointer (some ⟨b, 0, none⟩), .int .i64 n] w fun e w' => (∃ u, e = .returned u) ∧ w' = w.setCell ⟨b, 0, none⟩ (.int .i64 0) := by
  have y0 := cell?_lt c1
  go_enter Tryz.func146, Tryz.ntmps146
  go_wp2
  go_end0
  exact ⟨⟨_, rfl⟩, rfl⟩
theorem do5_c (b : Nat) (v n : Int) (w : World) (c1 : w.cell? ⟨b, 0, none⟩ = some (.int .i64 v)) (f1 : w.frozen? ⟨b, 0, none⟩ = false) :
    Calls Tryz.prog 148 #[.pointer (some ⟨b, 0, none⟩), .int .i64 n] w fun e w' => (∃ u, e = .returned u) ∧ w' = w.setCell ⟨b, 0, none⟩ (.int .i64 3) := by
  have y0 := cell?_lt c1
  go_enter Tryz.func148, Tryz.ntmps148
  go_wp2
  go_end0
  exact ⟨⟨_, rfl⟩, rfl⟩
theorem do6_c (b : Nat) (v n : Int) (fl : Bool) (w : World) (c1 : w.cell? ⟨b, 0, none⟩ = some (.int .i64 v)) (f1 : w.frozen? ⟨b, 0, none⟩ = false) (c2 : w.cell? ⟨b, 2, none⟩ = some (.bool fl)) (f2 : w.frozen? ⟨b, 2, none⟩ = false) :
    Calls Tryz.prog 150 #[.pointer (some ⟨b, 0, none⟩), .int .i64 n] w fun e w' => (∃ u, e = .returned u) ∧ w' = (w.setCell ⟨b, 2, none⟩ (.bool true)).setCell ⟨b, 0, none⟩ (.int .i64 0) := by
  have y0 := cell?_lt c1
  go_enter Tryz.func150, Tryz.ntmps150
  go_wp2
  go_end0
  exact ⟨⟨_, rfl⟩, rfl⟩
set_option maxRecDepth 100000 in
theorem rules_c (w : World) :
    Calls Tryz.prog 124 #[] w fun e w' => e = .returned (.agg #[.nilFunc, .nilFunc, .func (.func 138) #[] #[], .func (.func 139) #[] #[], .func (.func 140) #[] #[], .func (.func 142) #[] #[], .func (.func 143) #[] #[], .func (.func 144) #[] #[], .func (.func 145) #[] #[], .func (.func 146) #[] #[], .func (.func 147) #[] #[], .func (.func 148) #[] #[], .func (.func 149) #[] #[], .func (.func 150) #[] #[]]) ∧ Below w.heap.size w w' := by
  go_enter Tryz.func124, Tryz.ntmps124
  go_wp2
  refine bodyPost_ret (v := .agg #[.nilFunc, .nilFunc, .func (.func 138) #[] #[], .func (.func 139) #[] #[], .func (.func 140) #[] #[], .func (.func 142) #[] #[], .func (.func 143) #[] #[], .func (.func 144) #[] #[], .func (.func 145) #[] #[], .func (.func 146) #[] #[], .func (.func 147) #[] #[], .func (.func 148) #[] #[], .func (.func 149) #[] #[], .func (.func 150) #[] #[]]) (by simp [results, Tryz.results124, go_sem, *] <;> (repeat' apply And.intro) <;> rfl) rfl ⟨rfl, ?_⟩
  (repeat (first | exact Below.refl _ _ | refine Below.drew ?_ | refine Below.allocS ?_ _ | refine Below.step ?_ (by assumption) | refine Below.setCell ?_ (by simp <;> omega) _ | refine Below.drewN' ?_ _))

/-- Cells of a block of the call's own that may be written. -/
def Own4 (W : World) (b : Nat) (s : Bl) : Prop :=
  (W.cell? ⟨b, 0, none⟩ = some (.int .i64 s.place) ∧ W.cell? ⟨b, 1, none⟩ = some (.int .i64 s.wind) ∧ W.cell? ⟨b, 2, none⟩ = some (.bool s.flag) ∧ W.cell? ⟨b, 3, none⟩ = some (.int .i64 s.at')) ∧
  W.frozen? ⟨b, 0, none⟩ = false ∧ W.frozen? ⟨b, 1, none⟩ = false ∧ W.frozen? ⟨b, 2, none⟩ = false ∧ W.frozen? ⟨b, 3, none⟩ = false
theorem Own4.of_block {W W' : World} {b : Nat} {s : Bl} (h : Own4 W b s) (hb : W'.heap[b]? = W.heap[b]?) : Own4 W' b s := by
  obtain ⟨⟨c0, c1, c2, c3⟩, f0, f1, f2, f3⟩ := h
  refine ⟨⟨?_, ?_, ?_, ?_⟩, ?_, ?_, ?_, ?_⟩
  · exact (World.cell?_of_block (a := ⟨b, 0, none⟩) hb).trans c0
  · exact (World.cell?_of_block (a := ⟨b, 1, none⟩) hb).trans c1
  · exact (World.cell?_of_block (a := ⟨b, 2, none⟩) hb).trans c2
  · exact (World.cell?_of_block (a := ⟨b, 3, none⟩) hb).trans c3
  · exact (World.frozen?_of_block (a := ⟨b, 0, none⟩) hb).trans f0
  · exact (World.frozen?_of_block (a := ⟨b, 1, none⟩) hb).trans f1
  · exact (World.frozen?_of_block (a := ⟨b, 2, none⟩) hb).trans f2
  · exact (World.frozen?_of_block (a := ⟨b, 3, none⟩) hb).trans f3

theorem Own4.set0 {W : World} {b : Nat} {s : Bl} (h : Own4 W b s) (x : Int) : Own4 (W.setCell ⟨b, 0, none⟩ (.int .i64 x)) b ⟨x, s.wind, s.flag, s.at'⟩ := by
  obtain ⟨⟨c0, c1, c2, c3⟩, f0, f1, f2, f3⟩ := h
  exact ⟨⟨by simp [go_sem, *], by simp [go_sem, *], by simp [go_sem, *], by simp [go_sem, *]⟩, by simp [go_sem, *], by simp [go_sem, *], by simp [go_sem, *], by simp [go_sem, *]⟩
theorem Own4.set1 {W : World} {b : Nat} {s : Bl} (h : Own4 W b s) (x : Int) : Own4 (W.setCell ⟨b, 1, none⟩ (.int .i64 x)) b ⟨s.place, x, s.flag, s.at'⟩ := by
  obtain ⟨⟨c0, c1, c2, c3⟩, f0, f1, f2, f3⟩ := h
  exact ⟨⟨by simp [go_sem, *], by simp [go_sem, *], by simp [go_sem, *], by simp [go_sem, *]⟩, by simp [go_sem, *], by simp [go_sem, *], by simp [go_sem, *], by simp [go_sem, *]⟩
theorem Own4.set2 {W : World} {b : Nat} {s : Bl} (h : Own4 W b s) (x : Bool) : Own4 (W.setCell ⟨b, 2, none⟩ (.bool x)) b ⟨s.place, s.wind, x, s.at'⟩ := by
  obtain ⟨⟨c0, c1, c2, c3⟩, f0, f1, f2, f3⟩ := h
  exact ⟨⟨by simp [go_sem, *], by simp [go_sem, *], by simp [go_sem, *], by simp [go_sem, *]⟩, by simp [go_sem, *], by simp [go_sem, *], by simp [go_sem, *], by simp [go_sem, *]⟩
theorem KB.one {b o : Nat} (W : World) (v : Value) : KB b (b + 1) W (W.setCell ⟨b, o, none⟩ v) := (KB.refl _ _ W).setCell (p := ⟨b, o, none⟩) (Nat.le_refl _) (Nat.lt_succ_self _) v
/-- What a kind's rule does to a state in memory. -/
def Does (s : Bl) (kind n : Int) (fd : Nat) : Prop := ∀ (b : Nat) (W : World), Own4 W b s → Calls Tryz.prog fd #[.pointer (some ⟨b, 0, none⟩), .int .i64 n] W fun e w' => (∃ u, e = .returned u) ∧ Own4 w' b ⟨(doB s kind n 0).place, (doB s kind n 0).wind, (doB s kind n 0).flag, s.at'⟩ ∧ KB b (b + 1) W w' ∧ Below b W w'
theorem Below.one {b o : Nat} (W : World) (v : Value) : Below b W (W.setCell ⟨b, o, none⟩ v) := (Below.refl _ W).setCell (p := ⟨b, o, none⟩) (Nat.le_refl _) v
theorem does1 (s : Bl) (n : Int) : Does s 1 n 139 := fun b W h => (do1_c b s.wind n W h.1.2.1 h.2.2.1).mono (fun e w' ⟨h1, h2⟩ => by subst h2; exact ⟨h1, h.set1 _, KB.one _ _, Below.one _ _⟩)
theorem does2 (s : Bl) (n : Int) : Does s 2 n 142 := fun b W h => (do2_c b s.place n W h.1.1 h.2.1).mono (fun e w' ⟨h1, h2⟩ => by subst h2; exact ⟨h1, h.set0 _, KB.one _ _, Below.one _ _⟩)
theorem does3 (s : Bl) (n : Int) : Does s 3 n 144 := fun b W h => (do3_c b s.place n W h.1.1 h.2.1).mono (fun e w' ⟨h1, h2⟩ => by subst h2; exact ⟨h1, h.set0 _, KB.one _ _, Below.one _ _⟩)
theorem does4 (s : Bl) (n : Int) : Does s 4 n 146 := fun b W h => (do4_c b s.place n W h.1.1 h.2.1).mono (fun e w' ⟨h1, h2⟩ => by subst h2; exact ⟨h1, h.set0 _, KB.one _ _, Below.one _ _⟩)
theorem does5 (s : Bl) (n : Int) : Does s 5 n 148 := fun b W h => (do5_c b s.place n W h.1.1 h.2.1).mono (fun e w' ⟨h1, h2⟩ => by subst h2; exact ⟨h1, h.set0 _, KB.one _ _, Below.one _ _⟩)
theorem does6 (s : Bl) (n : Int) : Does s 6 n 150 := fun b W h => (do6_c b s.place n s.flag W h.1.1 h.2.1 h.1.2.2.1 h.2.2.2.1).mono (fun e w' ⟨h1, h2⟩ => by subst h2; exact ⟨h1, (h.set2 _).set0 _, (KB.one _ _).trans (KB.one _ _), (Below.one _ _).trans (Below.one _ _)⟩)
theorem doB_at (s : Bl) (kind n t : Int) : doB s kind n t = ⟨(doB s kind n 0).place, (doB s kind n 0).wind, (doB s kind n 0).flag, t⟩ := by
  unfold doB; (repeat' split) <;> rfl

theorem nextE_not {x : Ms} {s : Bl} {e : Ev} (h : fineB e = false ∨ e.at' < s.at') : nextE x s e = 7 ∧ nextS x s e = bl0 := by
  have : nextE x s e = 7 := by unfold nextE; rw [if_neg]; rintro ⟨h1, h2⟩; rcases h with h | h; (rw [h1] at h; cases h); omega
  exact ⟨this, by unfold nextS; rw [this]; rfl⟩
theorem nextE_no {x : Ms} {s : Bl} {e : Ev} (h1 : fineB e = true) (h2 : s.at' ≤ e.at') (h : allowB x s e.at' e.kind = false) : nextE x s e = 9 ∧ nextS x s e = bl0 := by
  have : nextE x s e = 9 := by unfold nextE; rw [if_pos ⟨h1, h2⟩, h]; rfl
  exact ⟨this, by unfold nextS; rw [this]; rfl⟩
theorem nextE_ok {x : Ms} {s : Bl} {e : Ev} (h1 : fineB e = true) (h2 : s.at' ≤ e.at') (h : allowB x s e.at' e.kind = true) : nextE x s e = 0 ∧ nextS x s e = doB s e.kind e.n e.at' := by
  have : nextE x s e = 0 := by unfold nextE; rw [if_pos ⟨h1, h2⟩, h]; rfl
  exact ⟨this, by unfold nextS; rw [this]; rfl⟩
end Go.Proofs.YtimbdnngeoccdaaGreatDoor
