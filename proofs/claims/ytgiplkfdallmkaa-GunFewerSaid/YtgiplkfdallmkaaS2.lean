/-
  Meeting spans, and the places that suit shots, of gun and of its reference.
-/
import Derived.Test.YtgiplkfdallmkaaS1
namespace Go.Proofs.Ytgiplkfdallmkaa
open Go.RowKit
set_option linter.unusedVariables false

/-- Spans from a to b and from c to d have a number in common. -/
def meetB (a b c d : Int) : Bool := decide (a ≤ d) && decide (c ≤ b)
theorem meet_c (a b c d : Int) (h1 : a ≤ b) (h2 : c ≤ d) (w : World) :
    Calls Try.prog 83 #[.agg #[.int .i64 a, .int .i64 b], .agg #[.int .i64 c, .int .i64 d]] w fun e w' => e = .returned (.bool (meetB a b c d)) ∧ Below w.heap.size w w' := by
  go_enter Try.func83, Try.ntmps83
  go_wp2
  all_goals
    go_ret
    exact ⟨by unfold meetB; simp <;> omega, by (repeat (first | exact Below.refl _ _ | refine Below.drew ?_ | refine Below.allocS ?_ _ | refine Below.step ?_ (by assumption) | refine Below.setCell ?_ (by simp <;> omega) _ | refine Below.drewN' ?_ _))⟩
theorem rmeet_c (a b c d : Int) (w : World) :
    Calls Try.prog 85 #[.agg #[.int .i64 a, .int .i64 b], .agg #[.int .i64 c, .int .i64 d]] w fun e w' => e = .returned (.bool (meetB a b c d)) ∧ Below w.heap.size w w' := by
  unfold meetB
  by_cases h : a ≤ d
  all_goals
    go_enter Try.func85, Try.ntmps85
    go_wp2
    go_ret
    exact ⟨(by first | rfl | (simp; done) | (simp; omega) | (simp [*]; done)), by (repeat (first | exact Below.refl _ _ | refine Below.drew ?_ | refine Below.allocS ?_ _ | refine Below.step ?_ (by assumption) | refine Below.setCell ?_ (by simp <;> omega) _ | refine Below.drewN' ?_ _))⟩

theorem lag_le {s v a b c d : Int} (ha : validAir s v = true) (hp : place a b = true) (hq : place c d = true) : lagLo s v (dd a b c d) ≤ lagHi s v (dd a b c d) := by
  obtain ⟨⟨p1, p2⟩, p3, p4⟩ := validAir_true ha
  obtain ⟨q0, q1⟩ := dd_bd hp hq
  have h1 : dLo (dd a b c d) ≤ dHi (dd a b c d) := by unfold dLo dHi; split <;> omega
  have h2 := dLo_bd q0 q1
  unfold lagLo lagHi ovLo ovHi
  refine Int.le_trans (ediv_anti (a := dLo (dd a b c d) * 1000) (c := s - v) (by omega) (by omega) (by omega)) (Int.ediv_le_ediv (by omega) (by omega))
/-- Whether a place suits a shot. -/
def suit1 (s v x y : Int) (t : Shot) : Bool := meetB (lagLo s v (dd t.gx t.gy x y)) (lagHi s v (dd t.gx t.gy x y)) t.lo t.hi

set_option maxHeartbeats 1000000 in
theorem suits1_c (s v x y : Int) (t : Shot) (ha : validAir s v = true) (hp : place x y = true) (ht : okShot t.gx t.gy t.lo t.hi = true) (ba bp : Nat) (w : World)
    (c0 : w.cell? ⟨ba, 0, none⟩ = some (.int .i64 s)) (c1 : w.cell? ⟨ba, 1, none⟩ = some (.int .i64 v)) (c2 : w.cell? ⟨bp, 0, none⟩ = some (.int .i64 x)) (c3 : w.cell? ⟨bp, 1, none⟩ = some (.int .i64 y)) :
    Calls Try.prog 89 #[.agg #[.int .i64 t.gx, .int .i64 t.gy, .int .i64 t.lo, .int .i64 t.hi], .pointer (some ⟨ba, 0, none⟩), .pointer (some ⟨bp, 0, none⟩)] w fun e w' => e = .returned (.bool (!suit1 s v x y t)) ∧ Below w.heap.size w w' := by
  obtain ⟨t1, t2, t3, t4⟩ := okShot_true ht
  have hle := lag_le ha t1 hp
  have l0 := cell?_lt c0
  have l2 := cell?_lt c2
  go_enter Try.func89, Try.ntmps89
  go_wp2
  go_region_held3 (fun W => W.cell? ⟨ba, 0, none⟩ = some (.int .i64 s) ∧ W.cell? ⟨ba, 1, none⟩ = some (.int .i64 v) ∧ W.cell? ⟨bp, 0, none⟩ = some (.int .i64 x) ∧ W.cell? ⟨bp, 1, none⟩ = some (.int .i64 y) ∧ W.cell? ⟨w.heap.size, 0, none⟩ = some (.int .i64 t.gx) ∧ W.cell? ⟨w.heap.size, 1, none⟩ = some (.int .i64 t.gy) ∧ W.cell? ⟨w.heap.size, 2, none⟩ = some (.int .i64 t.lo) ∧ W.cell? ⟨w.heap.size, 3, none⟩ = some (.int .i64 t.hi) ∧ Below w.heap.size w W) (first | (exact And.imp (keep_cell (by assumption)) (And.imp (keep_cell (by assumption)) (And.imp (keep_cell (by assumption)) (And.imp (keep_cell (by assumption)) (And.imp (keep_cell (by assumption)) (And.imp (keep_cell (by assumption)) (And.imp (keep_cell (by assumption)) (And.imp (keep_cell (by assumption)) (fun h => Below.step h (by assumption))))))))) (by assumption)) | exact ⟨by simp [go_sem, *], by simp [go_sem, *], by simp [go_sem, *], by simp [go_sem, *], by simp [go_sem], by simp [go_sem], by simp [go_sem], by simp [go_sem], by (repeat (first | exact Below.refl _ _ | refine Below.drew ?_ | refine Below.allocS ?_ _ | refine Below.step ?_ (by assumption) | refine Below.setCell ?_ (by simp <;> omega) _ | refine Below.drewN' ?_ _))⟩)
    (first
      | (go_at_call 52; refine (lag_c s v _ _ _ _ ha t1 hp _).mono ?_; rintro e w1 ⟨rfl, hb⟩)
      | (go_at_call 83; refine (meet_c _ _ _ _ hle t3 _).mono ?_; rintro e w1 ⟨rfl, hb⟩))
  go_wp2
  go_ret
  exact ⟨rfl, (fun (h : _ ∧ _ ∧ _ ∧ _ ∧ _ ∧ _ ∧ _ ∧ _ ∧ Below w.heap.size w _) => h.2.2.2.2.2.2.2.2) (by assumption)⟩
theorem call_suits1 (args : Array Value) (W : World) : (callFunc 89 args).run Try.prog W = .ok (.enter 89 args) W := by kernel_rfl

/-- Whether a place suits shots. -/
def suitAll (s v x y : Int) (l : List Shot) : Bool := l.all (suit1 s v x y)
theorem suits_c (s v x y : Int) (l : List Shot) (A : Option Addr) (cap : Nat) (ha : validAir s v = true) (hp : place x y = true) (hl : okShots l = true) (w : World) (hr : RdL w w.heap.size shE 4 A l) :
    Calls Try.prog 64 #[.agg #[.int .i64 s, .int .i64 v], .slice A l.length cap, .agg #[.int .i64 x, .int .i64 y]] w fun e w' => e = .returned (.bool (suitAll s v x y l)) ∧ Below w.heap.size w w' := by
  obtain ⟨l1, l2, l3⟩ := okShots_true hl
  unfold suitAll
  rw [← any_not]
  generalize hX : l.any (fun t => !suit1 s v x y t) = X
  have HX := Lib.hid hX
  clear hX
  have HR := Lib.hid hr
  have HL := Lib.hid l3
  clear hr l3 hl
  go_enter Try.func64, Try.ntmps64
  go_wp2_with fail
  refine (ContainsFuncSh l A cap (by omega) _ _ (fun t => !suit1 s v x y t) _ (HR.out.step (by (repeat (first | exact Below.refl _ _ | refine Below.drew ?_ | refine Below.allocS ?_ _ | refine Below.step ?_ (by assumption) | refine Below.setCell ?_ (by simp <;> omega) _ | refine Below.drewN' ?_ _)))) call_suits1 (fun t ht W hW => ?z)).mono ?_
  case z =>
    have c0 : W.cell? ⟨w.heap.size, 0, none⟩ = some (.int .i64 s) := keep_cell hW (by simp [go_sem])
    have c1 : W.cell? ⟨w.heap.size, 1, none⟩ = some (.int .i64 v) := keep_cell hW (by simp [go_sem])
    have c2 : W.cell? ⟨w.heap.size + 1, 0, none⟩ = some (.int .i64 x) := keep_cell hW (by simp [go_sem])
    have c3 : W.cell? ⟨w.heap.size + 1, 1, none⟩ = some (.int .i64 y) := keep_cell hW (by simp [go_sem])
    have := suits1_c s v x y t ha hp (HL.out t ht) _ _ W c0 c1 c2 c3
    simpa using this
  rintro e w1 ⟨rfl, hb⟩
  rw [HX.out]
  go_wp2
  go_ret
  exact ⟨rfl, by (repeat (first | exact Below.refl _ _ | refine Below.drew ?_ | refine Below.allocS ?_ _ | refine Below.step ?_ (by assumption) | refine Below.setCell ?_ (by simp <;> omega) _ | refine Below.drewN' ?_ _))⟩

set_option maxHeartbeats 1000000 in
set_option maxRecDepth 100000 in
theorem rsuits_c (s v x y : Int) (l : List Shot) (A : Option Addr) (cap : Nat) (ha : validAir s v = true) (hp : place x y = true) (hl : okShots l = true) (w : World) (hr : RdL w w.heap.size shE 4 A l) :
    Calls Try.prog 66 #[.agg #[.int .i64 s, .int .i64 v], .slice A l.length cap, .agg #[.int .i64 x, .int .i64 y]] w fun e w' => e = .returned (.bool (suitAll s v x y l)) ∧ Below w.heap.size w w' := by
  obtain ⟨l1, l2, l3⟩ := okShots_true hl
  have HR := Lib.hid hr
  have HL := Lib.hid l3
  clear hr l3 hl
  go_enter Try.func66, Try.ntmps66
  go_wp2
  obtain ⟨W0, hW0⟩ : ∃ W, W = (w.alloc (.cells #[.int .i64 s, .int .i64 v] 23)).alloc (.cells #[.int .i64 x, .int .i64 y] 25) := ⟨_, rfl⟩
  have z0 : W0.cell? ⟨w.heap.size, 0, none⟩ = some (.int .i64 s) := by rw [hW0]; simp [go_sem]
  have z1 : W0.cell? ⟨w.heap.size, 1, none⟩ = some (.int .i64 v) := by rw [hW0]; simp [go_sem]
  have z2 : W0.cell? ⟨w.heap.size + 1, 0, none⟩ = some (.int .i64 x) := by rw [hW0]; simp [go_sem]
  have z3 : W0.cell? ⟨w.heap.size + 1, 1, none⟩ = some (.int .i64 y) := by rw [hW0]; simp [go_sem]
  have g0 : Below w.heap.size w W0 := by rw [hW0]; (repeat (first | exact Below.refl _ _ | refine Below.drew ?_ | refine Below.allocS ?_ _ | refine Below.step ?_ (by assumption) | refine Below.setCell ?_ (by simp <;> omega) _ | refine Below.drewN' ?_ _))
  rw [← hW0]
  clear hW0
  go_loopw [11] (fun i wr => ∃ k : Nat, k ≤ l.length ∧ i = .int .i64 k ∧ Below W0.heap.size W0 wr ∧ suitAll s v x y l = suitAll s v x y (l.drop k)) (fun i _ => l.length - (intOf i).toNat)
  case atStart => exact ⟨0, Nat.zero_le _, rfl, Below.refl _ _, rfl⟩
  case round =>
    obtain ⟨k, hk, rfl, hbw, hx⟩ := hrel
    have HX := Lib.hid hx
    clear hx
    by_cases hlt : k < l.length
    · obtain ⟨b, off, rfl, hb0, hc⟩ := HR.out (by omega)
      have gw := Below.step g0 hbw
      have c0 := (gw.cell (p := ⟨b, _, none⟩) hb0).trans (hc k hlt 0 _ rfl)
      have c1 := (gw.cell (p := ⟨b, _, none⟩) hb0).trans (hc k hlt 1 _ rfl)
      have c2 := (gw.cell (p := ⟨b, _, none⟩) hb0).trans (hc k hlt 2 _ rfl)
      have c3 := (gw.cell (p := ⟨b, _, none⟩) hb0).trans (hc k hlt 3 _ rfl)
      clear hc
      simp at c0
      have hmem : l[k] ∈ l := List.getElem_mem hlt
      obtain ⟨t1, t2, t3, t4⟩ := okShot_true (HL.out _ hmem)
      have hd : l.drop k = l[k] :: l.drop (k + 1) := List.drop_eq_getElem_cons hlt
      have HD := Lib.hid hd
      clear hd hmem
      have d0 := keep_cell hbw z0
      have d1 := keep_cell hbw z1
      have d2 := keep_cell hbw z2
      have d3 := keep_cell hbw z3
      have y0 := cell?_lt d0
      have y1 := cell?_lt d2
      have hs : suit1 s v x y l[k] = meetB (lagLo s v (dd l[k].gx l[k].gy x y)) (lagHi s v (dd l[k].gx l[k].gy x y)) l[k].lo l[k].hi := rfl
      cases hp1 : suit1 s v x y l[k]
      all_goals
        rw [hp1] at hs
        have HS := Lib.hid hs.symm
        clear hs
        have hP := Lib.hid hp1
        clear hp1
        go_wp2_with fail
        go_region_held3 (fun W => W.cell? ⟨w.heap.size, 0, none⟩ = some (.int .i64 s) ∧ W.cell? ⟨w.heap.size, 1, none⟩ = some (.int .i64 v) ∧ W.cell? ⟨w.heap.size + 1, 0, none⟩ = some (.int .i64 x) ∧ W.cell? ⟨w.heap.size + 1, 1, none⟩ = some (.int .i64 y) ∧ W.cell? ⟨wr.heap.size, 0, none⟩ = some (.int .i64 l[k].gx) ∧ W.cell? ⟨wr.heap.size, 1, none⟩ = some (.int .i64 l[k].gy) ∧ W.cell? ⟨wr.heap.size, 2, none⟩ = some (.int .i64 l[k].lo) ∧ W.cell? ⟨wr.heap.size, 3, none⟩ = some (.int .i64 l[k].hi) ∧ Below wr.heap.size wr W) (first | (exact And.imp (keep_cell (by assumption)) (And.imp (keep_cell (by assumption)) (And.imp (keep_cell (by assumption)) (And.imp (keep_cell (by assumption)) (And.imp (keep_cell (by assumption)) (And.imp (keep_cell (by assumption)) (And.imp (keep_cell (by assumption)) (And.imp (keep_cell (by assumption)) (fun h => Below.step h (by assumption))))))))) (by assumption)) | exact ⟨by simp [go_sem, *], by simp [go_sem, *], by simp [go_sem, *], by simp [go_sem, *], by simp [go_sem], by simp [go_sem], by simp [go_sem], by simp [go_sem], by (repeat (first | exact Below.refl _ _ | refine Below.drew ?_ | refine Below.allocS ?_ _ | refine Below.step ?_ (by assumption) | refine Below.setCell ?_ (by simp <;> omega) _ | refine Below.drewN' ?_ _))⟩)
          (first
            | (go_at_call 62; refine (rlag_c s v _ _ _ _ ha t1 hp _).mono ?_; rintro e w1 ⟨rfl, hb⟩)
            | (go_at_call 85; refine (rmeet_c _ _ _ _ _).mono ?_; rintro e w1 ⟨rfl, hb⟩; rw [HS.out]))
        have hS := (fun (h : _ ∧ _ ∧ _ ∧ _ ∧ _ ∧ _ ∧ _ ∧ _ ∧ Below wr.heap.size wr _) => h.2.2.2.2.2.2.2.2) (by assumption)
      · go_wp2
        go_ret
        exact ⟨by rw [HX.out, HD.out, suitAll, List.all_cons, hP.out]; rfl, Below.step gw hS⟩
      · go_wp2
        go_roundw
        case rel => exact ⟨k + 1, by omega, by go_num, Below.step hbw hS, by rw [HX.out, HD.out, suitAll, List.all_cons, hP.out]; rfl⟩
        case measure => simp [intOf]; omega
    · obtain rfl : k = l.length := by omega
      go_wp2
      go_ret
      exact ⟨by rw [HX.out]; simp [suitAll], Below.step g0 hbw⟩
end Go.Proofs.Ytgiplkfdallmkaa
