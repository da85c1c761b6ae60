/-
  Heavy grids; SamePoints of the reference.
-/
import Derived.Test.YtgiplkfdallmkaaV9
import Derived.Laws.StructEq
namespace Go.Proofs.Ytgiplkfdallmkaa
open Go.RowKit
set_option linter.unusedVariables false
set_option linter.unusedSimpArgs false
set_option maxHeartbeats 1000000 in
theorem SamePoints_eq (l : List (Int × Int)) (A A' : Option Addr) (cap cap' : Nat) (hl : l.length ≤ 1000) (w : World) (hr : RdL w w.heap.size ptE 2 A l) (hr' : RdL w w.heap.size ptE 2 A' l) :
    Calls Try.prog 50 #[.slice A l.length cap, .slice A' l.length cap'] w fun e w' => e = .returned (.bool true) ∧ Below w.heap.size w w' := by
  have HR := Lib.hid hr
  have HR' := Lib.hid hr'
  clear hr hr'
  go_enter Try.func50, Try.ntmps50
  go_wp2
  go_loopw [13] (fun i wr => ∃ k : Nat, k ≤ l.length ∧ i = .int .i64 k ∧ Below w.heap.size w wr) (fun i _ => l.length - (intOf i).toNat)
  case atStart => exact ⟨0, Nat.zero_le _, rfl, Below.refl _ _⟩
  case round =>
    obtain ⟨k, hk, rfl, hbw⟩ := hrel
    by_cases hlt : k < l.length
    · obtain ⟨b, off, rfl, hb0, hc⟩ := HR.out (by omega)
      obtain ⟨b', off', rfl, hb0', hc'⟩ := HR'.out (by omega)
      have c0 := (hbw.cell (p := ⟨b, _, none⟩) hb0).trans (hc k hlt 0 _ rfl)
      have c1 := (hbw.cell (p := ⟨b, _, none⟩) hb0).trans (hc k hlt 1 _ rfl)
      have d0 := (hbw.cell (p := ⟨b', _, none⟩) hb0').trans (hc' k hlt 0 _ rfl)
      have d1 := (hbw.cell (p := ⟨b', _, none⟩) hb0').trans (hc' k hlt 1 _ rfl)
      clear hc hc'
      simp at c0 d0
      generalize l[k].1 = e1 at c0 d0
      generalize l[k].2 = e2 at c1 d1
      go_wp2
      go_region
      go_wp2
      go_roundw
      case rel => exact ⟨k + 1, by omega, by go_num, by (repeat (first | exact Below.refl _ _ | refine Below.drew ?_ | refine Below.allocS ?_ _ | refine Below.step ?_ (by assumption) | refine Below.setCell ?_ (by simp <;> omega) _ | refine Below.drewN' ?_ _))⟩
      case measure => simp [intOf]; omega
    · obtain rfl : k = l.length := by omega
      go_wp2
      go_ret
      exact ⟨rfl, hbw⟩
theorem SamePoints_sl (l : List (Int × Int)) (u u' : Value) (hl : l.length ≤ 1000) (w : World) (hr : IsSl w ptE 2 u l) (hr' : IsSl w ptE 2 u' l) :
    Calls Try.prog 50 #[u, u'] w fun e w' => e = .returned (.bool true) ∧ Below w.heap.size w w' := by
  obtain ⟨A, c, rfl, h⟩ := hr
  obtain ⟨A', c', rfl, h'⟩ := hr'
  exact SamePoints_eq l A A' c c' hl w h h'
/-- Whether a grid has too many places for a statement, but not too many for Where. -/
def heavyB (a b c d st : Int) : Bool := decide (1 ≤ st ∧ st ≤ 10000 ∧ -50000 ≤ a ∧ -50000 ≤ b ∧ c ≤ 50000 ∧ d ≤ 50000 ∧ a ≤ c ∧ b ≤ d) && (decide (400 < ((nX a c st * nX b d st : Nat) : Int)) && decide (((nX a c st * nX b d st : Nat) : Int) ≤ 10000))
theorem heavy_no {a b c d st : Int} (h : ¬ (1 ≤ st ∧ st ≤ 10000 ∧ -50000 ≤ a ∧ -50000 ≤ b ∧ c ≤ 50000 ∧ d ≤ 50000 ∧ a ≤ c ∧ b ≤ d)) : heavyB a b c d st = false := by unfold heavyB; rw [decide_eq_false h]; rfl
set_option maxHeartbeats 2000000 in
theorem heavy_c (a b c d st : Int) (w : World) : Calls Try.prog 45 #[.agg #[.int .i64 a, .int .i64 b, .int .i64 c, .int .i64 d, .int .i64 st]] w fun e w' => e = .returned (.bool (heavyB a b c d st)) ∧ Below w.heap.size w w' := by
  by_cases k0 : 1 ≤ st
  case neg =>
    rw [heavy_no (fun h => k0 (by omega))]
    go_enter Try.func45, Try.ntmps45
    go_wp2
    go_ret
    exact ⟨(by first | rfl | (simp; done) | (simp; omega) | (simp [*]; done)), by (repeat (first | exact Below.refl _ _ | refine Below.drew ?_ | refine Below.allocS ?_ _ | refine Below.step ?_ (by assumption) | refine Below.setCell ?_ (by simp <;> omega) _ | refine Below.drewN' ?_ _))⟩
  by_cases k1 : st ≤ 10000
  case neg =>
    rw [heavy_no (fun h => k1 (by omega))]
    go_enter Try.func45, Try.ntmps45
    go_wp2
    go_ret
    exact ⟨(by first | rfl | (simp; done) | (simp; omega) | (simp [*]; done)), by (repeat (first | exact Below.refl _ _ | refine Below.drew ?_ | refine Below.allocS ?_ _ | refine Below.step ?_ (by assumption) | refine Below.setCell ?_ (by simp <;> omega) _ | refine Below.drewN' ?_ _))⟩
  by_cases k2 : -50000 ≤ a
  case neg =>
    rw [heavy_no (fun h => k2 (by omega))]
    go_enter Try.func45, Try.ntmps45
    go_wp2
    go_ret
    exact ⟨(by first | rfl | (simp; done) | (simp; omega) | (simp [*]; done)), by (repeat (first | exact Below.refl _ _ | refine Below.drew ?_ | refine Below.allocS ?_ _ | refine Below.step ?_ (by assumption) | refine Below.setCell ?_ (by simp <;> omega) _ | refine Below.drewN' ?_ _))⟩
  by_cases k3 : -50000 ≤ b
  case neg =>
    rw [heavy_no (fun h => k3 (by omega))]
    go_enter Try.func45, Try.ntmps45
    go_wp2
    go_ret
    exact ⟨(by first | rfl | (simp; done) | (simp; omega) | (simp [*]; done)), by (repeat (first | exact Below.refl _ _ | refine Below.drew ?_ | refine Below.allocS ?_ _ | refine Below.step ?_ (by assumption) | refine Below.setCell ?_ (by simp <;> omega) _ | refine Below.drewN' ?_ _))⟩
  by_cases k4 : c ≤ 50000
  case neg =>
    rw [heavy_no (fun h => k4 (by omega))]
    go_enter Try.func45, Try.ntmps45
    go_wp2
    go_ret
    exact ⟨(by first | rfl | (simp; done) | (simp; omega) | (simp [*]; done)), by (repeat (first | exact Below.refl _ _ | refine Below.drew ?_ | refine Below.allocS ?_ _ | refine Below.step ?_ (by assumption) | refine Below.setCell ?_ (by simp <;> omega) _ | refine Below.drewN' ?_ _))⟩
  by_cases k5 : d ≤ 50000
  case neg =>
    rw [heavy_no (fun h => k5 (by omega))]
    go_enter Try.func45, Try.ntmps45
    go_wp2
    go_ret
    exact ⟨(by first | rfl | (simp; done) | (simp; omega) | (simp [*]; done)), by (repeat (first | exact Below.refl _ _ | refine Below.drew ?_ | refine Below.allocS ?_ _ | refine Below.step ?_ (by assumption) | refine Below.setCell ?_ (by simp <;> omega) _ | refine Below.drewN' ?_ _))⟩
  by_cases k6 : a ≤ c
  case neg =>
    rw [heavy_no (fun h => k6 (by omega))]
    go_enter Try.func45, Try.ntmps45
    go_wp2
    go_ret
    exact ⟨(by first | rfl | (simp; done) | (simp; omega) | (simp [*]; done)), by (repeat (first | exact Below.refl _ _ | refine Below.drew ?_ | refine Below.allocS ?_ _ | refine Below.step ?_ (by assumption) | refine Below.setCell ?_ (by simp <;> omega) _ | refine Below.drewN' ?_ _))⟩
  by_cases k7 : b ≤ d
  case neg =>
    rw [heavy_no (fun h => k7 (by omega))]
    go_enter Try.func45, Try.ntmps45
    go_wp2
    go_ret
    exact ⟨(by first | rfl | (simp; done) | (simp; omega) | (simp [*]; done)), by (repeat (first | exact Below.refl _ _ | refine Below.drew ?_ | refine Below.allocS ?_ _ | refine Below.step ?_ (by assumption) | refine Below.setCell ?_ (by simp <;> omega) _ | refine Below.drewN' ?_ _))⟩
  obtain ⟨p, hp⟩ := Steps.mk' (a := a) (c := c) k0 k2 k4 k6
  obtain ⟨q, hq⟩ := Steps.mk' (a := b) (c := d) k0 k3 k5 k7
  obtain ⟨m1, m2⟩ := hp.prod hq
  obtain ⟨y1, y2, y3, y4, -, -, -⟩ := hp
  obtain ⟨z1, z2, z3, z4, -, -, -⟩ := hq
  have hst : st ≠ 0 := by omega
  have e : heavyB a b c d st = (decide (400 < (p + 1) * (q + 1)) && decide ((p + 1) * (q + 1) ≤ 10000)) := by
    unfold heavyB
    rw [m2, decide_eq_true ⟨k0, k1, k2, k3, k4, k5, k6, k7⟩]
    rfl
  rw [e]
  clear e m2
  by_cases g1 : 400 < (p + 1) * (q + 1)
  · by_cases g2 : (p + 1) * (q + 1) ≤ 10000
    · rw [decide_eq_true g1, decide_eq_true g2]
      go_enter Try.func45, Try.ntmps45
      go_wp2_with fail
      refine region_below (by kernel_rfl) (by kernel_rfl) ?_
      (first | go_big_quiet_skip | (go_big_quiet_want; refine quiet_val (v := ?_) ?_ ?_; rotate_left 1; (· (intro Wq hWq; obtain ⟨hWc, hWf⟩ := bcell hWq; go_simp; (try with_reducible rfl))); go_big_quiet_on; (try simp only [Act.put, List.setIfInBounds_toArray, List.set_cons_zero, List.set_cons_succ])))
      (first | go_big_quiet_skip | (go_big_quiet_want; refine quiet_val (v := ?_) ?_ ?_; rotate_left 1; (· (intro Wq hWq; obtain ⟨hWc, hWf⟩ := bcell hWq; go_simp; (try with_reducible rfl))); go_big_quiet_on; (try simp only [Act.put, List.setIfInBounds_toArray, List.set_cons_zero, List.set_cons_succ])))
      (first | go_big_quiet_skip | (go_big_quiet_want; refine quiet_val (v := ?_) ?_ ?_; rotate_left 1; (· (intro Wq hWq; obtain ⟨hWc, hWf⟩ := bcell hWq; go_simp; (try with_reducible rfl))); go_big_quiet_on; (try simp only [Act.put, List.setIfInBounds_toArray, List.set_cons_zero, List.set_cons_succ])))
      (first | go_big_quiet_skip | (go_big_quiet_want; refine quiet_val (v := ?_) ?_ ?_; rotate_left 1; (· (intro Wq hWq; obtain ⟨hWc, hWf⟩ := bcell hWq; go_simp; (try with_reducible rfl))); go_big_quiet_on; (try simp only [Act.put, List.setIfInBounds_toArray, List.set_cons_zero, List.set_cons_succ])))
      (first | go_big_quiet_skip | (go_big_quiet_want; refine quiet_val (v := ?_) ?_ ?_; rotate_left 1; (· (intro Wq hWq; obtain ⟨hWc, hWf⟩ := bcell hWq; go_simp; (try with_reducible rfl))); go_big_quiet_on; (try simp only [Act.put, List.setIfInBounds_toArray, List.set_cons_zero, List.set_cons_succ])))
      (first | go_big_quiet_skip | (go_big_quiet_want; refine quiet_val (v := ?_) ?_ ?_; rotate_left 1; (· (intro Wq hWq; obtain ⟨hWc, hWf⟩ := bcell hWq; go_simp; (try with_reducible rfl))); go_big_quiet_on; (try simp only [Act.put, List.setIfInBounds_toArray, List.set_cons_zero, List.set_cons_succ])))
      (first | go_big_quiet_skip | (go_big_quiet_want; refine quiet_val (v := ?_) ?_ ?_; rotate_left 1; (· (intro Wq hWq; obtain ⟨hWc, hWf⟩ := bcell hWq; go_simp; (try with_reducible rfl))); go_big_quiet_on; (try simp only [Act.put, List.setIfInBounds_toArray, List.set_cons_zero, List.set_cons_succ])))
      (first | go_big_quiet_skip | (go_big_quiet_want; refine quiet_val (v := ?_) ?_ ?_; rotate_left 1; (· (intro Wq hWq; obtain ⟨hWc, hWf⟩ := bcell hWq; go_simp; (try with_reducible rfl))); go_big_quiet_on; (try simp only [Act.put, List.setIfInBounds_toArray, List.set_cons_zero, List.set_cons_succ])))
      (first | go_big_quiet_skip | (go_big_quiet_want; refine quiet_val (v := ?_) ?_ ?_; rotate_left 1; (· (intro Wq hWq; obtain ⟨hWc, hWf⟩ := bcell hWq; go_simp; (try with_reducible rfl))); go_big_quiet_on; (try simp only [Act.put, List.setIfInBounds_toArray, List.set_cons_zero, List.set_cons_succ])))
      (first | go_big_quiet_skip | (go_big_quiet_want; refine quiet_val (v := ?_) ?_ ?_; rotate_left 1; (· (intro Wq hWq; obtain ⟨hWc, hWf⟩ := bcell hWq; go_simp; (try with_reducible rfl))); go_big_quiet_on; (try simp only [Act.put, List.setIfInBounds_toArray, List.set_cons_zero, List.set_cons_succ])))
      (first | go_big_quiet_skip | (go_big_quiet_want; refine quiet_val (v := ?_) ?_ ?_; rotate_left 1; (· (intro Wq hWq; obtain ⟨hWc, hWf⟩ := bcell hWq; go_simp; (try with_reducible rfl))); go_big_quiet_on; (try simp only [Act.put, List.setIfInBounds_toArray, List.set_cons_zero, List.set_cons_succ])))
      (first | go_big_quiet_skip | (go_big_quiet_want; refine quiet_val (v := ?_) ?_ ?_; rotate_left 1; (· (intro Wq hWq; obtain ⟨hWc, hWf⟩ := bcell hWq; go_simp; (try with_reducible rfl))); go_big_quiet_on; (try simp only [Act.put, List.setIfInBounds_toArray, List.set_cons_zero, List.set_cons_succ])))
      (first | go_big_quiet_skip | (go_big_quiet_want; refine quiet_val (v := ?_) ?_ ?_; rotate_left 1; (· (intro Wq hWq; obtain ⟨hWc, hWf⟩ := bcell hWq; go_simp; (try with_reducible rfl))); go_big_quiet_on; (try simp only [Act.put, List.setIfInBounds_toArray, List.set_cons_zero, List.set_cons_succ])))
      (first | go_big_quiet_skip | (go_big_quiet_want; refine quiet_val (v := ?_) ?_ ?_; rotate_left 1; (· (intro Wq hWq; obtain ⟨hWc, hWf⟩ := bcell hWq; go_simp; (try with_reducible rfl))); go_big_quiet_on; (try simp only [Act.put, List.setIfInBounds_toArray, List.set_cons_zero, List.set_cons_succ])))
      (first | go_big_quiet_skip | (go_big_quiet_want; refine quiet_val (v := ?_) ?_ ?_; rotate_left 1; (· (intro Wq hWq; obtain ⟨hWc, hWf⟩ := bcell hWq; go_simp; (try with_reducible rfl))); go_big_quiet_on; (try simp only [Act.put, List.setIfInBounds_toArray, List.set_cons_zero, List.set_cons_succ])))
      (first | go_big_quiet_skip | (go_big_quiet_want; refine quiet_val (v := ?_) ?_ ?_; rotate_left 1; (· (intro Wq hWq; obtain ⟨hWc, hWf⟩ := bcell hWq; go_simp; (try with_reducible rfl))); go_big_quiet_on; (try simp only [Act.put, List.setIfInBounds_toArray, List.set_cons_zero, List.set_cons_succ])))
      (first | go_big_quiet_skip | (go_big_quiet_want; refine quiet_val (v := ?_) ?_ ?_; rotate_left 1; (· (intro Wq hWq; obtain ⟨hWc, hWf⟩ := bcell hWq; go_simp; (try with_reducible rfl))); go_big_quiet_on; (try simp only [Act.put, List.setIfInBounds_toArray, List.set_cons_zero, List.set_cons_succ])))
      (first | go_big_quiet_skip | (go_big_quiet_want; refine quiet_val (v := ?_) ?_ ?_; rotate_left 1; (· (intro Wq hWq; obtain ⟨hWc, hWf⟩ := bcell hWq; go_simp; (try with_reducible rfl))); go_big_quiet_on; (try simp only [Act.put, List.setIfInBounds_toArray, List.set_cons_zero, List.set_cons_succ])))
      (first | go_big_quiet_skip | (go_big_quiet_want; refine quiet_val (v := ?_) ?_ ?_; rotate_left 1; (· (intro Wq hWq; obtain ⟨hWc, hWf⟩ := bcell hWq; go_simp; (try with_reducible rfl))); go_big_quiet_on; (try simp only [Act.put, List.setIfInBounds_toArray, List.set_cons_zero, List.set_cons_succ])))
      (first | go_big_quiet_skip | (go_big_quiet_want; refine quiet_val (v := ?_) ?_ ?_; rotate_left 1; (· (intro Wq hWq; obtain ⟨hWc, hWf⟩ := bcell hWq; go_simp; (try with_reducible rfl))); go_big_quiet_on; (try simp only [Act.put, List.setIfInBounds_toArray, List.set_cons_zero, List.set_cons_succ])))
      (first | go_big_quiet_skip | (go_big_quiet_want; refine quiet_val (v := ?_) ?_ ?_; rotate_left 1; (· (intro Wq hWq; obtain ⟨hWc, hWf⟩ := bcell hWq; go_simp; (try with_reducible rfl))); go_big_quiet_on; (try simp only [Act.put, List.setIfInBounds_toArray, List.set_cons_zero, List.set_cons_succ])))
      (first | go_big_quiet_skip | (go_big_quiet_want; refine quiet_val (v := ?_) ?_ ?_; rotate_left 1; (· (intro Wq hWq; obtain ⟨hWc, hWf⟩ := bcell hWq; go_simp; (try with_reducible rfl))); go_big_quiet_on; (try simp only [Act.put, List.setIfInBounds_toArray, List.set_cons_zero, List.set_cons_succ])))
      (first | go_big_quiet_skip | (go_big_quiet_want; refine quiet_val (v := ?_) ?_ ?_; rotate_left 1; (· (intro Wq hWq; obtain ⟨hWc, hWf⟩ := bcell hWq; go_simp; (try with_reducible rfl))); go_big_quiet_on; (try simp only [Act.put, List.setIfInBounds_toArray, List.set_cons_zero, List.set_cons_succ])))
      (first | go_big_quiet_skip | (go_big_quiet_want; refine quiet_val (v := ?_) ?_ ?_; rotate_left 1; (· (intro Wq hWq; obtain ⟨hWc, hWf⟩ := bcell hWq; go_simp; (try with_reducible rfl))); go_big_quiet_on; (try simp only [Act.put, List.setIfInBounds_toArray, List.set_cons_zero, List.set_cons_succ])))
      refine wpQuiet_nil ?_; intro w4 hb4
      go_wp2
      go_ret
      exact ⟨(by first | rfl | (simp; done) | (simp; omega) | (simp [*]; done)), by (repeat (first | exact Below.refl _ _ | refine Below.drew ?_ | refine Below.allocS ?_ _ | refine Below.step ?_ (by assumption) | refine Below.setCell ?_ (by simp <;> omega) _ | refine Below.drewN' ?_ _))⟩
    · rw [decide_eq_true g1, decide_eq_false g2]
      go_enter Try.func45, Try.ntmps45
      go_wp2_with fail
      refine region_below (by kernel_rfl) (by kernel_rfl) ?_
      (first | go_big_quiet_skip | (go_big_quiet_want; refine quiet_val (v := ?_) ?_ ?_; rotate_left 1; (· (intro Wq hWq; obtain ⟨hWc, hWf⟩ := bcell hWq; go_simp; (try with_reducible rfl))); go_big_quiet_on; (try simp only [Act.put, List.setIfInBounds_toArray, List.set_cons_zero, List.set_cons_succ])))
      (first | go_big_quiet_skip | (go_big_quiet_want; refine quiet_val (v := ?_) ?_ ?_; rotate_left 1; (· (intro Wq hWq; obtain ⟨hWc, hWf⟩ := bcell hWq; go_simp; (try with_reducible rfl))); go_big_quiet_on; (try simp only [Act.put, List.setIfInBounds_toArray, List.set_cons_zero, List.set_cons_succ])))
      (first | go_big_quiet_skip | (go_big_quiet_want; refine quiet_val (v := ?_) ?_ ?_; rotate_left 1; (· (intro Wq hWq; obtain ⟨hWc, hWf⟩ := bcell hWq; go_simp; (try with_reducible rfl))); go_big_quiet_on; (try simp only [Act.put, List.setIfInBounds_toArray, List.set_cons_zero, List.set_cons_succ])))
      (first | go_big_quiet_skip | (go_big_quiet_want; refine quiet_val (v := ?_) ?_ ?_; rotate_left 1; (· (intro Wq hWq; obtain ⟨hWc, hWf⟩ := bcell hWq; go_simp; (try with_reducible rfl))); go_big_quiet_on; (try simp only [Act.put, List.setIfInBounds_toArray, List.set_cons_zero, List.set_cons_succ])))
      (first | go_big_quiet_skip | (go_big_quiet_want; refine quiet_val (v := ?_) ?_ ?_; rotate_left 1; (· (intro Wq hWq; obtain ⟨hWc, hWf⟩ := bcell hWq; go_simp; (try with_reducible rfl))); go_big_quiet_on; (try simp only [Act.put, List.setIfInBounds_toArray, List.set_cons_zero, List.set_cons_succ])))
      (first | go_big_quiet_skip | (go_big_quiet_want; refine quiet_val (v := ?_) ?_ ?_; rotate_left 1; (· (intro Wq hWq; obtain ⟨hWc, hWf⟩ := bcell hWq; go_simp; (try with_reducible rfl))); go_big_quiet_on; (try simp only [Act.put, List.setIfInBounds_toArray, List.set_cons_zero, List.set_cons_succ])))
      (first | go_big_quiet_skip | (go_big_quiet_want; refine quiet_val (v := ?_) ?_ ?_; rotate_left 1; (· (intro Wq hWq; obtain ⟨hWc, hWf⟩ := bcell hWq; go_simp; (try with_reducible rfl))); go_big_quiet_on; (try simp only [Act.put, List.setIfInBounds_toArray, List.set_cons_zero, List.set_cons_succ])))
      (first | go_big_quiet_skip | (go_big_quiet_want; refine quiet_val (v := ?_) ?_ ?_; rotate_left 1; (· (intro Wq hWq; obtain ⟨hWc, hWf⟩ := bcell hWq; go_simp; (try with_reducible rfl))); go_big_quiet_on; (try simp only [Act.put, List.setIfInBounds_toArray, List.set_cons_zero, List.set_cons_succ])))
      (first | go_big_quiet_skip | (go_big_quiet_want; refine quiet_val (v := ?_) ?_ ?_; rotate_left 1; (· (intro Wq hWq; obtain ⟨hWc, hWf⟩ := bcell hWq; go_simp; (try with_reducible rfl))); go_big_quiet_on; (try simp only [Act.put, List.setIfInBounds_toArray, List.set_cons_zero, List.set_cons_succ])))
      (first | go_big_quiet_skip | (go_big_quiet_want; refine quiet_val (v := ?_) ?_ ?_; rotate_left 1; (· (intro Wq hWq; obtain ⟨hWc, hWf⟩ := bcell hWq; go_simp; (try with_reducible rfl))); go_big_quiet_on; (try simp only [Act.put, List.setIfInBounds_toArray, List.set_cons_zero, List.set_cons_succ])))
      (first | go_big_quiet_skip | (go_big_quiet_want; refine quiet_val (v := ?_) ?_ ?_; rotate_left 1; (· (intro Wq hWq; obtain ⟨hWc, hWf⟩ := bcell hWq; go_simp; (try with_reducible rfl))); go_big_quiet_on; (try simp only [Act.put, List.setIfInBounds_toArray, List.set_cons_zero, List.set_cons_succ])))
      (first | go_big_quiet_skip | (go_big_quiet_want; refine quiet_val (v := ?_) ?_ ?_; rotate_left 1; (· (intro Wq hWq; obtain ⟨hWc, hWf⟩ := bcell hWq; go_simp; (try with_reducible rfl))); go_big_quiet_on; (try simp only [Act.put, List.setIfInBounds_toArray, List.set_cons_zero, List.set_cons_succ])))
      (first | go_big_quiet_skip | (go_big_quiet_want; refine quiet_val (v := ?_) ?_ ?_; rotate_left 1; (· (intro Wq hWq; obtain ⟨hWc, hWf⟩ := bcell hWq; go_simp; (try with_reducible rfl))); go_big_quiet_on; (try simp only [Act.put, List.setIfInBounds_toArray, List.set_cons_zero, List.set_cons_succ])))
      (first | go_big_quiet_skip | (go_big_quiet_want; refine quiet_val (v := ?_) ?_ ?_; rotate_left 1; (· (intro Wq hWq; obtain ⟨hWc, hWf⟩ := bcell hWq; go_simp; (try with_reducible rfl))); go_big_quiet_on; (try simp only [Act.put, List.setIfInBounds_toArray, List.set_cons_zero, List.set_cons_succ])))
      (first | go_big_quiet_skip | (go_big_quiet_want; refine quiet_val (v := ?_) ?_ ?_; rotate_left 1; (· (intro Wq hWq; obtain ⟨hWc, hWf⟩ := bcell hWq; go_simp; (try with_reducible rfl))); go_big_quiet_on; (try simp only [Act.put, List.setIfInBounds_toArray, List.set_cons_zero, List.set_cons_succ])))
      (first | go_big_quiet_skip | (go_big_quiet_want; refine quiet_val (v := ?_) ?_ ?_; rotate_left 1; (· (intro Wq hWq; obtain ⟨hWc, hWf⟩ := bcell hWq; go_simp; (try with_reducible rfl))); go_big_quiet_on; (try simp only [Act.put, List.setIfInBounds_toArray, List.set_cons_zero, List.set_cons_succ])))
      (first | go_big_quiet_skip | (go_big_quiet_want; refine quiet_val (v := ?_) ?_ ?_; rotate_left 1; (· (intro Wq hWq; obtain ⟨hWc, hWf⟩ := bcell hWq; go_simp; (try with_reducible rfl))); go_big_quiet_on; (try simp only [Act.put, List.setIfInBounds_toArray, List.set_cons_zero, List.set_cons_succ])))
      (first | go_big_quiet_skip | (go_big_quiet_want; refine quiet_val (v := ?_) ?_ ?_; rotate_left 1; (· (intro Wq hWq; obtain ⟨hWc, hWf⟩ := bcell hWq; go_simp; (try with_reducible rfl))); go_big_quiet_on; (try simp only [Act.put, List.setIfInBounds_toArray, List.set_cons_zero, List.set_cons_succ])))
      (first | go_big_quiet_skip | (go_big_quiet_want; refine quiet_val (v := ?_) ?_ ?_; rotate_left 1; (· (intro Wq hWq; obtain ⟨hWc, hWf⟩ := bcell hWq; go_simp; (try with_reducible rfl))); go_big_quiet_on; (try simp only [Act.put, List.setIfInBounds_toArray, List.set_cons_zero, List.set_cons_succ])))
      (first | go_big_quiet_skip | (go_big_quiet_want; refine quiet_val (v := ?_) ?_ ?_; rotate_left 1; (· (intro Wq hWq; obtain ⟨hWc, hWf⟩ := bcell hWq; go_simp; (try with_reducible rfl))); go_big_quiet_on; (try simp only [Act.put, List.setIfInBounds_toArray, List.set_cons_zero, List.set_cons_succ])))
      (first | go_big_quiet_skip | (go_big_quiet_want; refine quiet_val (v := ?_) ?_ ?_; rotate_left 1; (· (intro Wq hWq; obtain ⟨hWc, hWf⟩ := bcell hWq; go_simp; (try with_reducible rfl))); go_big_quiet_on; (try simp only [Act.put, List.setIfInBounds_toArray, List.set_cons_zero, List.set_cons_succ])))
      (first | go_big_quiet_skip | (go_big_quiet_want; refine quiet_val (v := ?_) ?_ ?_; rotate_left 1; (· (intro Wq hWq; obtain ⟨hWc, hWf⟩ := bcell hWq; go_simp; (try with_reducible rfl))); go_big_quiet_on; (try simp only [Act.put, List.setIfInBounds_toArray, List.set_cons_zero, List.set_cons_succ])))
      (first | go_big_quiet_skip | (go_big_quiet_want; refine quiet_val (v := ?_) ?_ ?_; rotate_left 1; (· (intro Wq hWq; obtain ⟨hWc, hWf⟩ := bcell hWq; go_simp; (try with_reducible rfl))); go_big_quiet_on; (try simp only [Act.put, List.setIfInBounds_toArray, List.set_cons_zero, List.set_cons_succ])))
      (first | go_big_quiet_skip | (go_big_quiet_want; refine quiet_val (v := ?_) ?_ ?_; rotate_left 1; (· (intro Wq hWq; obtain ⟨hWc, hWf⟩ := bcell hWq; go_simp; (try with_reducible rfl))); go_big_quiet_on; (try simp only [Act.put, List.setIfInBounds_toArray, List.set_cons_zero, List.set_cons_succ])))
      refine wpQuiet_nil ?_; intro w4 hb4
      go_wp2
      go_ret
      exact ⟨(by first | rfl | (simp; done) | (simp; omega) | (simp [*]; done)), by (repeat (first | exact Below.refl _ _ | refine Below.drew ?_ | refine Below.allocS ?_ _ | refine Below.step ?_ (by assumption) | refine Below.setCell ?_ (by simp <;> omega) _ | refine Below.drewN' ?_ _))⟩
  · rw [decide_eq_false g1]
    go_enter Try.func45, Try.ntmps45
    go_wp2_with fail
    refine region_below (by kernel_rfl) (by kernel_rfl) ?_
    (first | go_big_quiet_skip | (go_big_quiet_want; refine quiet_val (v := ?_) ?_ ?_; rotate_left 1; (· (intro Wq hWq; obtain ⟨hWc, hWf⟩ := bcell hWq; go_simp; (try with_reducible rfl))); go_big_quiet_on; (try simp only [Act.put, List.setIfInBounds_toArray, List.set_cons_zero, List.set_cons_succ])))
    (first | go_big_quiet_skip | (go_big_quiet_want; refine quiet_val (v := ?_) ?_ ?_; rotate_left 1; (· (intro Wq hWq; obtain ⟨hWc, hWf⟩ := bcell hWq; go_simp; (try with_reducible rfl))); go_big_quiet_on; (try simp only [Act.put, List.setIfInBounds_toArray, List.set_cons_zero, List.set_cons_succ])))
    (first | go_big_quiet_skip | (go_big_quiet_want; refine quiet_val (v := ?_) ?_ ?_; rotate_left 1; (· (intro Wq hWq; obtain ⟨hWc, hWf⟩ := bcell hWq; go_simp; (try with_reducible rfl))); go_big_quiet_on; (try simp only [Act.put, List.setIfInBounds_toArray, List.set_cons_zero, List.set_cons_succ])))
    (first | go_big_quiet_skip | (go_big_quiet_want; refine quiet_val (v := ?_) ?_ ?_; rotate_left 1; (· (intro Wq hWq; obtain ⟨hWc, hWf⟩ := bcell hWq; go_simp; (try with_reducible rfl))); go_big_quiet_on; (try simp only [Act.put, List.setIfInBounds_toArray, List.set_cons_zero, List.set_cons_succ])))
    (first | go_big_quiet_skip | (go_big_quiet_want; refine quiet_val (v := ?_) ?_ ?_; rotate_left 1; (· (intro Wq hWq; obtain ⟨hWc, hWf⟩ := bcell hWq; go_simp; (try with_reducible rfl))); go_big_quiet_on; (try simp only [Act.put, List.setIfInBounds_toArray, List.set_cons_zero, List.set_cons_succ])))
    (first | go_big_quiet_skip | (go_big_quiet_want; refine quiet_val (v := ?_) ?_ ?_; rotate_left 1; (· (intro Wq hWq; obtain ⟨hWc, hWf⟩ := bcell hWq; go_simp; (try with_reducible rfl))); go_big_quiet_on; (try simp only [Act.put, List.setIfInBounds_toArray, List.set_cons_zero, List.set_cons_succ])))
    (first | go_big_quiet_skip | (go_big_quiet_want; refine quiet_val (v := ?_) ?_ ?_; rotate_left 1; (· (intro Wq hWq; obtain ⟨hWc, hWf⟩ := bcell hWq; go_simp; (try with_reducible rfl))); go_big_quiet_on; (try simp only [Act.put, List.setIfInBounds_toArray, List.set_cons_zero, List.set_cons_succ])))
    (first | go_big_quiet_skip | (go_big_quiet_want; refine quiet_val (v := ?_) ?_ ?_; rotate_left 1; (· (intro Wq hWq; obtain ⟨hWc, hWf⟩ := bcell hWq; go_simp; (try with_reducible rfl))); go_big_quiet_on; (try simp only [Act.put, List.setIfInBounds_toArray, List.set_cons_zero, List.set_cons_succ])))
    (first | go_big_quiet_skip | (go_big_quiet_want; refine quiet_val (v := ?_) ?_ ?_; rotate_left 1; (· (intro Wq hWq; obtain ⟨hWc, hWf⟩ := bcell hWq; go_simp; (try with_reducible rfl))); go_big_quiet_on; (try simp only [Act.put, List.setIfInBounds_toArray, List.set_cons_zero, List.set_cons_succ])))
    (first | go_big_quiet_skip | (go_big_quiet_want; refine quiet_val (v := ?_) ?_ ?_; rotate_left 1; (· (intro Wq hWq; obtain ⟨hWc, hWf⟩ := bcell hWq; go_simp; (try with_reducible rfl))); go_big_quiet_on; (try simp only [Act.put, List.setIfInBounds_toArray, List.set_cons_zero, List.set_cons_succ])))
    (first | go_big_quiet_skip | (go_big_quiet_want; refine quiet_val (v := ?_) ?_ ?_; rotate_left 1; (· (intro Wq hWq; obtain ⟨hWc, hWf⟩ := bcell hWq; go_simp; (try with_reducible rfl))); go_big_quiet_on; (try simp only [Act.put, List.setIfInBounds_toArray, List.set_cons_zero, List.set_cons_succ])))
    (first | go_big_quiet_skip | (go_big_quiet_want; refine quiet_val (v := ?_) ?_ ?_; rotate_left 1; (· (intro Wq hWq; obtain ⟨hWc, hWf⟩ := bcell hWq; go_simp; (try with_reducible rfl))); go_big_quiet_on; (try simp only [Act.put, List.setIfInBounds_toArray, List.set_cons_zero, List.set_cons_succ])))
    (first | go_big_quiet_skip | (go_big_quiet_want; refine quiet_val (v := ?_) ?_ ?_; rotate_left 1; (· (intro Wq hWq; obtain ⟨hWc, hWf⟩ := bcell hWq; go_simp; (try with_reducible rfl))); go_big_quiet_on; (try simp only [Act.put, List.setIfInBounds_toArray, List.set_cons_zero, List.set_cons_succ])))
    (first | go_big_quiet_skip | (go_big_quiet_want; refine quiet_val (v := ?_) ?_ ?_; rotate_left 1; (· (intro Wq hWq; obtain ⟨hWc, hWf⟩ := bcell hWq; go_simp; (try with_reducible rfl))); go_big_quiet_on; (try simp only [Act.put, List.setIfInBounds_toArray, List.set_cons_zero, List.set_cons_succ])))
    (first | go_big_quiet_skip | (go_big_quiet_want; refine quiet_val (v := ?_) ?_ ?_; rotate_left 1; (· (intro Wq hWq; obtain ⟨hWc, hWf⟩ := bcell hWq; go_simp; (try with_reducible rfl))); go_big_quiet_on; (try simp only [Act.put, List.setIfInBounds_toArray, List.set_cons_zero, List.set_cons_succ])))
    (first | go_big_quiet_skip | (go_big_quiet_want; refine quiet_val (v := ?_) ?_ ?_; rotate_left 1; (· (intro Wq hWq; obtain ⟨hWc, hWf⟩ := bcell hWq; go_simp; (try with_reducible rfl))); go_big_quiet_on; (try simp only [Act.put, List.setIfInBounds_toArray, List.set_cons_zero, List.set_cons_succ])))
    (first | go_big_quiet_skip | (go_big_quiet_want; refine quiet_val (v := ?_) ?_ ?_; rotate_left 1; (· (intro Wq hWq; obtain ⟨hWc, hWf⟩ := bcell hWq; go_simp; (try with_reducible rfl))); go_big_quiet_on; (try simp only [Act.put, List.setIfInBounds_toArray, List.set_cons_zero, List.set_cons_succ])))
    (first | go_big_quiet_skip | (go_big_quiet_want; refine quiet_val (v := ?_) ?_ ?_; rotate_left 1; (· (intro Wq hWq; obtain ⟨hWc, hWf⟩ := bcell hWq; go_simp; (try with_reducible rfl))); go_big_quiet_on; (try simp only [Act.put, List.setIfInBounds_toArray, List.set_cons_zero, List.set_cons_succ])))
    (first | go_big_quiet_skip | (go_big_quiet_want; refine quiet_val (v := ?_) ?_ ?_; rotate_left 1; (· (intro Wq hWq; obtain ⟨hWc, hWf⟩ := bcell hWq; go_simp; (try with_reducible rfl))); go_big_quiet_on; (try simp only [Act.put, List.setIfInBounds_toArray, List.set_cons_zero, List.set_cons_succ])))
    (first | go_big_quiet_skip | (go_big_quiet_want; refine quiet_val (v := ?_) ?_ ?_; rotate_left 1; (· (intro Wq hWq; obtain ⟨hWc, hWf⟩ := bcell hWq; go_simp; (try with_reducible rfl))); go_big_quiet_on; (try simp only [Act.put, List.setIfInBounds_toArray, List.set_cons_zero, List.set_cons_succ])))
    (first | go_big_quiet_skip | (go_big_quiet_want; refine quiet_val (v := ?_) ?_ ?_; rotate_left 1; (· (intro Wq hWq; obtain ⟨hWc, hWf⟩ := bcell hWq; go_simp; (try with_reducible rfl))); go_big_quiet_on; (try simp only [Act.put, List.setIfInBounds_toArray, List.set_cons_zero, List.set_cons_succ])))
    (first | go_big_quiet_skip | (go_big_quiet_want; refine quiet_val (v := ?_) ?_ ?_; rotate_left 1; (· (intro Wq hWq; obtain ⟨hWc, hWf⟩ := bcell hWq; go_simp; (try with_reducible rfl))); go_big_quiet_on; (try simp only [Act.put, List.setIfInBounds_toArray, List.set_cons_zero, List.set_cons_succ])))
    (first | go_big_quiet_skip | (go_big_quiet_want; refine quiet_val (v := ?_) ?_ ?_; rotate_left 1; (· (intro Wq hWq; obtain ⟨hWc, hWf⟩ := bcell hWq; go_simp; (try with_reducible rfl))); go_big_quiet_on; (try simp only [Act.put, List.setIfInBounds_toArray, List.set_cons_zero, List.set_cons_succ])))
    (first | go_big_quiet_skip | (go_big_quiet_want; refine quiet_val (v := ?_) ?_ ?_; rotate_left 1; (· (intro Wq hWq; obtain ⟨hWc, hWf⟩ := bcell hWq; go_simp; (try with_reducible rfl))); go_big_quiet_on; (try simp only [Act.put, List.setIfInBounds_toArray, List.set_cons_zero, List.set_cons_succ])))
    refine wpQuiet_nil ?_; intro w4 hb4
    go_wp2
    go_ret
    exact ⟨(by first | rfl | (simp; done) | (simp; omega) | (simp [*]; done)), by (repeat (first | exact Below.refl _ _ | refine Below.drew ?_ | refine Below.allocS ?_ _ | refine Below.step ?_ (by assumption) | refine Below.setCell ?_ (by simp <;> omega) _ | refine Below.drewN' ?_ _))⟩
theorem not_heavy {s v a b c d st : Int} {l : List Shot} (h : heavyB a b c d st = false) : (whL s v l a b c d st).length ≤ 400 := by
  by_cases hw : whE s v l a b c d st = 0
  · rw [whL, if_pos hw]
    rw [whE_ref] at hw
    split at hw
    · split at hw
      · rename_i hb
        split at hw
        · rename_i hs
          split at hw
          · cases hw
          · rename_i hn
            have hbox := box_of_ref hb
            obtain ⟨s1, s2⟩ := within_true hs
            obtain ⟨⟨a1, a2⟩, b1, b2⟩ := place_true hbox.lo
            obtain ⟨⟨c1, c2⟩, d1, d2⟩ := place_true hbox.hi
            have h1 := fitL_le s v l (gridPts a b st (nX a c st) (nX b d st))
            rw [gridPts_len] at h1
            unfold heavyB at h
            rw [decide_eq_true ⟨s1, s2, a1, b1, c2, d2, hbox.x, hbox.y⟩, decide_eq_true (Int.not_lt.1 hn)] at h
            simp at h
            rw [Nat.mul_comm] at h1
            refine Nat.le_trans h1 ?_
            have h' : ((nX a c st * nX b d st : Nat) : Int) ≤ 400 := by rw [Int.natCast_mul]; exact h
            exact Int.ofNat_le.1 h'
        · cases hw
      · cases hw
    · cases hw
  · rw [whL_no hw]; exact Nat.zero_le _
end Go.Proofs.Ytgiplkfdallmkaa
