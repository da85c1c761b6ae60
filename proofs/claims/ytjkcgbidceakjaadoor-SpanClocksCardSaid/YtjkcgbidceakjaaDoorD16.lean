/-
  Contracts of valid, DayOf, DateOf of the reference.
-/
import Derived.Test.YtjkcgbidceakjaaDoorD11
import Derived.Test.YtjkcgbidceakjaaDoorQt
namespace Go.Proofs.YtjkcgbidceakjaaDoor
open Go.RowKit
set_option linter.unusedVariables false
set_option linter.unusedSimpArgs false
theorem okDate_parts (y m d : Int) : okDate y m d = ((decide (1700 ≤ y) && decide (y ≤ 2200)) && ((decide (1 ≤ m) && decide (m ≤ 12)) && (decide (1 ≤ d) && decide (d ≤ mlen y m)))) := by
  unfold okDate; simp only [Bool.and_assoc]
set_option maxHeartbeats 1000000 in
theorem rvalid_c (y m d : Int) (w : World) : Calls Tryd.prog 69 #[.agg #[.int .i64 y, .int .i64 m, .int .i64 d]] w fun e w' => e = .returned (.bool (okDate y m d)) ∧ Below w.heap.size w w' := by
  have H1 := Lib.hid (fun W => within_c y 1700 2200 W)
  have H2 := Lib.hid (fun W => within_c m 1 12 W)
  have H3 := Lib.hid (fun W => within_c d 1 (mlen y m) W)
  have H4 := Lib.hid (fun W => month_c y m W)
  obtain ⟨r, hr⟩ : ∃ r, mlen y m = r := ⟨_, rfl⟩
  rw [okDate_parts]
  rw [hr] at H3 H4 ⊢
  clear hr
  generalize (decide (1700 ≤ y) && decide (y ≤ 2200)) = p at *
  generalize (decide (1 ≤ m) && decide (m ≤ 12)) = q at *
  generalize (decide (1 ≤ d) && decide (d ≤ r)) = s at *
  cases p
  · rw [Bool.false_and]
    go_enter Tryd.func69, Tryd.ntmps69
    go_wp2_with fail
    refine region_below (by kernel_rfl) (by kernel_rfl) ?_
    (first | go_big_quiet_skip | (go_big_quiet_want; refine quiet_val (v := ?_) ?_ ?_; rotate_left 1; (· (intro Wq hWq; obtain ⟨hWc, hWf⟩ := bcell hWq; go_simp; (try with_reducible rfl))); go_big_quiet_on; (try simp only [Act.put, List.setIfInBounds_toArray, List.set_cons_zero, List.set_cons_succ])))
    (first | go_big_quiet_skip | (go_big_quiet_want; refine quiet_val (v := ?_) ?_ ?_; rotate_left 1; (· (intro Wq hWq; obtain ⟨hWc, hWf⟩ := bcell hWq; go_simp; (try with_reducible rfl))); go_big_quiet_on; (try simp only [Act.put, List.setIfInBounds_toArray, List.set_cons_zero, List.set_cons_succ])))
    go_big_quiet_want; refine quiet_callS (f := 66) (args := ?_) (v := ?_) ?_ ?_ ?_; rotate_left 2
    · (intro Wq hWq; obtain ⟨hWc, hWf⟩ := bcell hWq; go_simp; (first | with_reducible rfl | exact ⟨rfl, rfl⟩))
    · (intro Wq hWq; exact H1.out _)
    go_big_quiet_on; (try simp only [Act.put, List.setIfInBounds_toArray, List.set_cons_zero, List.set_cons_succ])
    (first | go_big_quiet_skip | (go_big_quiet_want; refine quiet_val (v := ?_) ?_ ?_; rotate_left 1; (· (intro Wq hWq; obtain ⟨hWc, hWf⟩ := bcell hWq; go_simp; (try with_reducible rfl))); go_big_quiet_on; (try simp only [Act.put, List.setIfInBounds_toArray, List.set_cons_zero, List.set_cons_succ])))
    (first | go_big_quiet_skip | (go_big_quiet_want; refine quiet_val (v := ?_) ?_ ?_; rotate_left 1; (· (intro Wq hWq; obtain ⟨hWc, hWf⟩ := bcell hWq; go_simp; (try with_reducible rfl))); go_big_quiet_on; (try simp only [Act.put, List.setIfInBounds_toArray, List.set_cons_zero, List.set_cons_succ])))
    (first | go_big_quiet_skip | (go_big_quiet_want; refine quiet_val (v := ?_) ?_ ?_; rotate_left 1; (· (intro Wq hWq; obtain ⟨hWc, hWf⟩ := bcell hWq; go_simp; (try with_reducible rfl))); go_big_quiet_on; (try simp only [Act.put, List.setIfInBounds_toArray, List.set_cons_zero, List.set_cons_succ])))
    (first | go_big_quiet_skip | (go_big_quiet_want; refine quiet_val (v := ?_) ?_ ?_; rotate_left 1; (· (intro Wq hWq; obtain ⟨hWc, hWf⟩ := bcell hWq; go_simp; (try with_reducible rfl))); go_big_quiet_on; (try simp only [Act.put, List.setIfInBounds_toArray, List.set_cons_zero, List.set_cons_succ])))
    (first | go_big_quiet_skip | (go_big_quiet_want; refine quiet_val (v := ?_) ?_ ?_; rotate_left 1; (· (intro Wq hWq; obtain ⟨hWc, hWf⟩ := bcell hWq; go_simp; (try with_reducible rfl))); go_big_quiet_on; (try simp only [Act.put, List.setIfInBounds_toArray, List.set_cons_zero, List.set_cons_succ])))
    (first | go_big_quiet_skip | (go_big_quiet_want; refine quiet_val (v := ?_) ?_ ?_; rotate_left 1; (· (intro Wq hWq; obtain ⟨hWc, hWf⟩ := bcell hWq; go_simp; (try with_reducible rfl))); go_big_quiet_on; (try simp only [Act.put, List.setIfInBounds_toArray, List.set_cons_zero, List.set_cons_succ])))
    (first | go_big_quiet_skip | (go_big_quiet_want; refine quiet_val (v := ?_) ?_ ?_; rotate_left 1; (· (intro Wq hWq; obtain ⟨hWc, hWf⟩ := bcell hWq; go_simp; (try with_reducible rfl))); go_big_quiet_on; (try simp only [Act.put, List.setIfInBounds_toArray, List.set_cons_zero, List.set_cons_succ])))
    (first | go_big_quiet_skip | (go_big_quiet_want; refine quiet_val (v := ?_) ?_ ?_; rotate_left 1; (· (intro Wq hWq; obtain ⟨hWc, hWf⟩ := bcell hWq; go_simp; (try with_reducible rfl))); go_big_quiet_on; (try simp only [Act.put, List.setIfInBounds_toArray, List.set_cons_zero, List.set_cons_succ])))
    (first | go_big_quiet_skip | (go_big_quiet_want; refine quiet_val (v := ?_) ?_ ?_; rotate_left 1; (· (intro Wq hWq; obtain ⟨hWc, hWf⟩ := bcell hWq; go_simp; (try with_reducible rfl))); go_big_quiet_on; (try simp only [Act.put, List.setIfInBounds_toArray, List.set_cons_zero, List.set_cons_succ])))
    (first | go_big_quiet_skip | (go_big_quiet_want; refine quiet_val (v := ?_) ?_ ?_; rotate_left 1; (· (intro Wq hWq; obtain ⟨hWc, hWf⟩ := bcell hWq; go_simp; (try with_reducible rfl))); go_big_quiet_on; (try simp only [Act.put, List.setIfInBounds_toArray, List.set_cons_zero, List.set_cons_succ])))
    (first | go_big_quiet_skip | (go_big_quiet_want; refine quiet_val (v := ?_) ?_ ?_; rotate_left 1; (· (intro Wq hWq; obtain ⟨hWc, hWf⟩ := bcell hWq; go_simp; (try with_reducible rfl))); go_big_quiet_on; (try simp only [Act.put, List.setIfInBounds_toArray, List.set_cons_zero, List.set_cons_succ])))
    (first | go_big_quiet_skip | (go_big_quiet_want; refine quiet_val (v := ?_) ?_ ?_; rotate_left 1; (· (intro Wq hWq; obtain ⟨hWc, hWf⟩ := bcell hWq; go_simp; (try with_reducible rfl))); go_big_quiet_on; (try simp only [Act.put, List.setIfInBounds_toArray, List.set_cons_zero, List.set_cons_succ])))
    (first | go_big_quiet_skip | (go_big_quiet_want; refine quiet_val (v := ?_) ?_ ?_; rotate_left 1; (· (intro Wq hWq; obtain ⟨hWc, hWf⟩ := bcell hWq; go_simp; (try with_reducible rfl))); go_big_quiet_on; (try simp only [Act.put, List.setIfInBounds_toArray, List.set_cons_zero, List.set_cons_succ])))
    (first | go_big_quiet_skip | (go_big_quiet_want; refine quiet_val (v := ?_) ?_ ?_; rotate_left 1; (· (intro Wq hWq; obtain ⟨hWc, hWf⟩ := bcell hWq; go_simp; (try with_reducible rfl))); go_big_quiet_on; (try simp only [Act.put, List.setIfInBounds_toArray, List.set_cons_zero, List.set_cons_succ])))
    (first | go_big_quiet_skip | (go_big_quiet_want; refine quiet_val (v := ?_) ?_ ?_; rotate_left 1; (· (intro Wq hWq; obtain ⟨hWc, hWf⟩ := bcell hWq; go_simp; (try with_reducible rfl))); go_big_quiet_on; (try simp only [Act.put, List.setIfInBounds_toArray, List.set_cons_zero, List.set_cons_succ])))
    (first | go_big_quiet_skip | (go_big_quiet_want; refine quiet_val (v := ?_) ?_ ?_; rotate_left 1; (· (intro Wq hWq; obtain ⟨hWc, hWf⟩ := bcell hWq; go_simp; (try with_reducible rfl))); go_big_quiet_on; (try simp only [Act.put, List.setIfInBounds_toArray, List.set_cons_zero, List.set_cons_succ])))
    refine wpQuiet_nil ?_; intro w1 hb1
    have g1 : Below w.heap.size w w1 := by (repeat (first | (with_reducible exact Below.refl _ _) | (with_reducible assumption) | (with_reducible refine Below.drew ?_) | (with_reducible refine Below.allocS ?_ _) | (with_reducible refine Below.setCell ?_ ?_ _) | (with_reducible refine Below.step ?_ (by assumption)) | (with_reducible refine Below.drewN' ?_ _))); (try any_goals (first | (with_reducible assumption) | (simp; done) | (simp; omega) | omega))
    go_wp2
    go_ret
    exact ⟨(by first | rfl | (simp; done) | (simp; omega) | (simp [*]; done)), by (repeat (first | (with_reducible exact Below.refl _ _) | (with_reducible assumption) | (with_reducible refine Below.drew ?_) | (with_reducible refine Below.allocS ?_ _) | (with_reducible refine Below.setCell ?_ ?_ _) | (with_reducible refine Below.step ?_ (by assumption)) | (with_reducible refine Below.drewN' ?_ _))); (try any_goals (first | (with_reducible assumption) | (simp; done) | (simp; omega) | omega))⟩
  · cases q
    · rw [Bool.false_and, Bool.and_false]
      go_enter Tryd.func69, Tryd.ntmps69
      go_wp2_with fail
      refine region_below (by kernel_rfl) (by kernel_rfl) ?_
      (first | go_big_quiet_skip | (go_big_quiet_want; refine quiet_val (v := ?_) ?_ ?_; rotate_left 1; (· (intro Wq hWq; obtain ⟨hWc, hWf⟩ := bcell hWq; go_simp; (try with_reducible rfl))); go_big_quiet_on; (try simp only [Act.put, List.setIfInBounds_toArray, List.set_cons_zero, List.set_cons_succ])))
      (first | go_big_quiet_skip | (go_big_quiet_want; refine quiet_val (v := ?_) ?_ ?_; rotate_left 1; (· (intro Wq hWq; obtain ⟨hWc, hWf⟩ := bcell hWq; go_simp; (try with_reducible rfl))); go_big_quiet_on; (try simp only [Act.put, List.setIfInBounds_toArray, List.set_cons_zero, List.set_cons_succ])))
      go_big_quiet_want; refine quiet_callS (f := 66) (args := ?_) (v := ?_) ?_ ?_ ?_; rotate_left 2
      · (intro Wq hWq; obtain ⟨hWc, hWf⟩ := bcell hWq; go_simp; (first | with_reducible rfl | exact ⟨rfl, rfl⟩))
      · (intro Wq hWq; exact H1.out _)
      go_big_quiet_on; (try simp only [Act.put, List.setIfInBounds_toArray, List.set_cons_zero, List.set_cons_succ])
      (first | go_big_quiet_skip | (go_big_quiet_want; refine quiet_val (v := ?_) ?_ ?_; rotate_left 1; (· (intro Wq hWq; obtain ⟨hWc, hWf⟩ := bcell hWq; go_simp; (try with_reducible rfl))); go_big_quiet_on; (try simp only [Act.put, List.setIfInBounds_toArray, List.set_cons_zero, List.set_cons_succ])))
      (first | go_big_quiet_skip | (go_big_quiet_want; refine quiet_val (v := ?_) ?_ ?_; rotate_left 1; (· (intro Wq hWq; obtain ⟨hWc, hWf⟩ := bcell hWq; go_simp; (try with_reducible rfl))); go_big_quiet_on; (try simp only [Act.put, List.setIfInBounds_toArray, List.set_cons_zero, List.set_cons_succ])))
      (first | go_big_quiet_skip | (go_big_quiet_want; refine quiet_val (v := ?_) ?_ ?_; rotate_left 1; (· (intro Wq hWq; obtain ⟨hWc, hWf⟩ := bcell hWq; go_simp; (try with_reducible rfl))); go_big_quiet_on; (try simp only [Act.put, List.setIfInBounds_toArray, List.set_cons_zero, List.set_cons_succ])))
      go_big_quiet_want; refine quiet_callS (f := 66) (args := ?_) (v := ?_) ?_ ?_ ?_; rotate_left 2
      · (intro Wq hWq; obtain ⟨hWc, hWf⟩ := bcell hWq; go_simp; (first | with_reducible rfl | exact ⟨rfl, rfl⟩))
      · (intro Wq hWq; exact H2.out _)
      go_big_quiet_on; (try simp only [Act.put, List.setIfInBounds_toArray, List.set_cons_zero, List.set_cons_succ])
      (first | go_big_quiet_skip | (go_big_quiet_want; refine quiet_val (v := ?_) ?_ ?_; rotate_left 1; (· (intro Wq hWq; obtain ⟨hWc, hWf⟩ := bcell hWq; go_simp; (try with_reducible rfl))); go_big_quiet_on; (try simp only [Act.put, List.setIfInBounds_toArray, List.set_cons_zero, List.set_cons_succ])))
      (first | go_big_quiet_skip | (go_big_quiet_want; refine quiet_val (v := ?_) ?_ ?_; rotate_left 1; (· (intro Wq hWq; obtain ⟨hWc, hWf⟩ := bcell hWq; go_simp; (try with_reducible rfl))); go_big_quiet_on; (try simp only [Act.put, List.setIfInBounds_toArray, List.set_cons_zero, List.set_cons_succ])))
      (first | go_big_quiet_skip | (go_big_quiet_want; refine quiet_val (v := ?_) ?_ ?_; rotate_left 1; (· (intro Wq hWq; obtain ⟨hWc, hWf⟩ := bcell hWq; go_simp; (try with_reducible rfl))); go_big_quiet_on; (try simp only [Act.put, List.setIfInBounds_toArray, List.set_cons_zero, List.set_cons_succ])))
      (first | go_big_quiet_skip | (go_big_quiet_want; refine quiet_val (v := ?_) ?_ ?_; rotate_left 1; (· (intro Wq hWq; obtain ⟨hWc, hWf⟩ := bcell hWq; go_simp; (try with_reducible rfl))); go_big_quiet_on; (try simp only [Act.put, List.setIfInBounds_toArray, List.set_cons_zero, List.set_cons_succ])))
      (first | go_big_quiet_skip | (go_big_quiet_want; refine quiet_val (v := ?_) ?_ ?_; rotate_left 1; (· (intro Wq hWq; obtain ⟨hWc, hWf⟩ := bcell hWq; go_simp; (try with_reducible rfl))); go_big_quiet_on; (try simp only [Act.put, List.setIfInBounds_toArray, List.set_cons_zero, List.set_cons_succ])))
      (first | go_big_quiet_skip | (go_big_quiet_want; refine quiet_val (v := ?_) ?_ ?_; rotate_left 1; (· (intro Wq hWq; obtain ⟨hWc, hWf⟩ := bcell hWq; go_simp; (try with_reducible rfl))); go_big_quiet_on; (try simp only [Act.put, List.setIfInBounds_toArray, List.set_cons_zero, List.set_cons_succ])))
      (first | go_big_quiet_skip | (go_big_quiet_want; refine quiet_val (v := ?_) ?_ ?_; rotate_left 1; (· (intro Wq hWq; obtain ⟨hWc, hWf⟩ := bcell hWq; go_simp; (try with_reducible rfl))); go_big_quiet_on; (try simp only [Act.put, List.setIfInBounds_toArray, List.set_cons_zero, List.set_cons_succ])))
      (first | go_big_quiet_skip | (go_big_quiet_want; refine quiet_val (v := ?_) ?_ ?_; rotate_left 1; (· (intro Wq hWq; obtain ⟨hWc, hWf⟩ := bcell hWq; go_simp; (try with_reducible rfl))); go_big_quiet_on; (try simp only [Act.put, List.setIfInBounds_toArray, List.set_cons_zero, List.set_cons_succ])))
      (first | go_big_quiet_skip | (go_big_quiet_want; refine quiet_val (v := ?_) ?_ ?_; rotate_left 1; (· (intro Wq hWq; obtain ⟨hWc, hWf⟩ := bcell hWq; go_simp; (try with_reducible rfl))); go_big_quiet_on; (try simp only [Act.put, List.setIfInBounds_toArray, List.set_cons_zero, List.set_cons_succ])))
      (first | go_big_quiet_skip | (go_big_quiet_want; refine quiet_val (v := ?_) ?_ ?_; rotate_left 1; (· (intro Wq hWq; obtain ⟨hWc, hWf⟩ := bcell hWq; go_simp; (try with_reducible rfl))); go_big_quiet_on; (try simp only [Act.put, List.setIfInBounds_toArray, List.set_cons_zero, List.set_cons_succ])))
      (first | go_big_quiet_skip | (go_big_quiet_want; refine quiet_val (v := ?_) ?_ ?_; rotate_left 1; (· (intro Wq hWq; obtain ⟨hWc, hWf⟩ := bcell hWq; go_simp; (try with_reducible rfl))); go_big_quiet_on; (try simp only [Act.put, List.setIfInBounds_toArray, List.set_cons_zero, List.set_cons_succ])))
      (first | go_big_quiet_skip | (go_big_quiet_want; refine quiet_val (v := ?_) ?_ ?_; rotate_left 1; (· (intro Wq hWq; obtain ⟨hWc, hWf⟩ := bcell hWq; go_simp; (try with_reducible rfl))); go_big_quiet_on; (try simp only [Act.put, List.setIfInBounds_toArray, List.set_cons_zero, List.set_cons_succ])))
      refine wpQuiet_nil ?_; intro w1 hb1
      have g1 : Below w.heap.size w w1 := by (repeat (first | (with_reducible exact Below.refl _ _) | (with_reducible assumption) | (with_reducible refine Below.drew ?_) | (with_reducible refine Below.allocS ?_ _) | (with_reducible refine Below.setCell ?_ ?_ _) | (with_reducible refine Below.step ?_ (by assumption)) | (with_reducible refine Below.drewN' ?_ _))); (try any_goals (first | (with_reducible assumption) | (simp; done) | (simp; omega) | omega))
      go_wp2
      go_ret
      exact ⟨(by first | rfl | (simp; done) | (simp; omega) | (simp [*]; done)), by (repeat (first | (with_reducible exact Below.refl _ _) | (with_reducible assumption) | (with_reducible refine Below.drew ?_) | (with_reducible refine Below.allocS ?_ _) | (with_reducible refine Below.setCell ?_ ?_ _) | (with_reducible refine Below.step ?_ (by assumption)) | (with_reducible refine Below.drewN' ?_ _))); (try any_goals (first | (with_reducible assumption) | (simp; done) | (simp; omega) | omega))⟩
    · rw [Bool.true_and, Bool.true_and]
      go_enter Tryd.func69, Tryd.ntmps69
      go_wp2_with fail
      refine region_below (by kernel_rfl) (by kernel_rfl) ?_
      (first | go_big_quiet_skip | (go_big_quiet_want; refine quiet_val (v := ?_) ?_ ?_; rotate_left 1; (· (intro Wq hWq; obtain ⟨hWc, hWf⟩ := bcell hWq; go_simp; (try with_reducible rfl))); go_big_quiet_on; (try simp only [Act.put, List.setIfInBounds_toArray, List.set_cons_zero, List.set_cons_succ])))
      (first | go_big_quiet_skip | (go_big_quiet_want; refine quiet_val (v := ?_) ?_ ?_; rotate_left 1; (· (intro Wq hWq; obtain ⟨hWc, hWf⟩ := bcell hWq; go_simp; (try with_reducible rfl))); go_big_quiet_on; (try simp only [Act.put, List.setIfInBounds_toArray, List.set_cons_zero, List.set_cons_succ])))
      go_big_quiet_want; refine quiet_callS (f := 66) (args := ?_) (v := ?_) ?_ ?_ ?_; rotate_left 2
      · (intro Wq hWq; obtain ⟨hWc, hWf⟩ := bcell hWq; go_simp; (first | with_reducible rfl | exact ⟨rfl, rfl⟩))
      · (intro Wq hWq; exact H1.out _)
      go_big_quiet_on; (try simp only [Act.put, List.setIfInBounds_toArray, List.set_cons_zero, List.set_cons_succ])
      (first | go_big_quiet_skip | (go_big_quiet_want; refine quiet_val (v := ?_) ?_ ?_; rotate_left 1; (· (intro Wq hWq; obtain ⟨hWc, hWf⟩ := bcell hWq; go_simp; (try with_reducible rfl))); go_big_quiet_on; (try simp only [Act.put, List.setIfInBounds_toArray, List.set_cons_zero, List.set_cons_succ])))
      (first | go_big_quiet_skip | (go_big_quiet_want; refine quiet_val (v := ?_) ?_ ?_; rotate_left 1; (· (intro Wq hWq; obtain ⟨hWc, hWf⟩ := bcell hWq; go_simp; (try with_reducible rfl))); go_big_quiet_on; (try simp only [Act.put, List.setIfInBounds_toArray, List.set_cons_zero, List.set_cons_succ])))
      (first | go_big_quiet_skip | (go_big_quiet_want; refine quiet_val (v := ?_) ?_ ?_; rotate_left 1; (· (intro Wq hWq; obtain ⟨hWc, hWf⟩ := bcell hWq; go_simp; (try with_reducible rfl))); go_big_quiet_on; (try simp only [Act.put, List.setIfInBounds_toArray, List.set_cons_zero, List.set_cons_succ])))
      go_big_quiet_want; refine quiet_callS (f := 66) (args := ?_) (v := ?_) ?_ ?_ ?_; rotate_left 2
      · (intro Wq hWq; obtain ⟨hWc, hWf⟩ := bcell hWq; go_simp; (first | with_reducible rfl | exact ⟨rfl, rfl⟩))
      · (intro Wq hWq; exact H2.out _)
      go_big_quiet_on; (try simp only [Act.put, List.setIfInBounds_toArray, List.set_cons_zero, List.set_cons_succ])
      (first | go_big_quiet_skip | (go_big_quiet_want; refine quiet_val (v := ?_) ?_ ?_; rotate_left 1; (· (intro Wq hWq; obtain ⟨hWc, hWf⟩ := bcell hWq; go_simp; (try with_reducible rfl))); go_big_quiet_on; (try simp only [Act.put, List.setIfInBounds_toArray, List.set_cons_zero, List.set_cons_succ])))
      (first | go_big_quiet_skip | (go_big_quiet_want; refine quiet_val (v := ?_) ?_ ?_; rotate_left 1; (· (intro Wq hWq; obtain ⟨hWc, hWf⟩ := bcell hWq; go_simp; (try with_reducible rfl))); go_big_quiet_on; (try simp only [Act.put, List.setIfInBounds_toArray, List.set_cons_zero, List.set_cons_succ])))
      (first | go_big_quiet_skip | (go_big_quiet_want; refine quiet_val (v := ?_) ?_ ?_; rotate_left 1; (· (intro Wq hWq; obtain ⟨hWc, hWf⟩ := bcell hWq; go_simp; (try with_reducible rfl))); go_big_quiet_on; (try simp only [Act.put, List.setIfInBounds_toArray, List.set_cons_zero, List.set_cons_succ])))
      (first | go_big_quiet_skip | (go_big_quiet_want; refine quiet_val (v := ?_) ?_ ?_; rotate_left 1; (· (intro Wq hWq; obtain ⟨hWc, hWf⟩ := bcell hWq; go_simp; (try with_reducible rfl))); go_big_quiet_on; (try simp only [Act.put, List.setIfInBounds_toArray, List.set_cons_zero, List.set_cons_succ])))
      (first | go_big_quiet_skip | (go_big_quiet_want; refine quiet_val (v := ?_) ?_ ?_; rotate_left 1; (· (intro Wq hWq; obtain ⟨hWc, hWf⟩ := bcell hWq; go_simp; (try with_reducible rfl))); go_big_quiet_on; (try simp only [Act.put, List.setIfInBounds_toArray, List.set_cons_zero, List.set_cons_succ])))
      (first | go_big_quiet_skip | (go_big_quiet_want; refine quiet_val (v := ?_) ?_ ?_; rotate_left 1; (· (intro Wq hWq; obtain ⟨hWc, hWf⟩ := bcell hWq; go_simp; (try with_reducible rfl))); go_big_quiet_on; (try simp only [Act.put, List.setIfInBounds_toArray, List.set_cons_zero, List.set_cons_succ])))
      (first | go_big_quiet_skip | (go_big_quiet_want; refine quiet_val (v := ?_) ?_ ?_; rotate_left 1; (· (intro Wq hWq; obtain ⟨hWc, hWf⟩ := bcell hWq; go_simp; (try with_reducible rfl))); go_big_quiet_on; (try simp only [Act.put, List.setIfInBounds_toArray, List.set_cons_zero, List.set_cons_succ])))
      (first | go_big_quiet_skip | (go_big_quiet_want; refine quiet_val (v := ?_) ?_ ?_; rotate_left 1; (· (intro Wq hWq; obtain ⟨hWc, hWf⟩ := bcell hWq; go_simp; (try with_reducible rfl))); go_big_quiet_on; (try simp only [Act.put, List.setIfInBounds_toArray, List.set_cons_zero, List.set_cons_succ])))
      go_big_quiet_want; refine quiet_callS (f := 71) (args := ?_) (v := ?_) ?_ ?_ ?_; rotate_left 2
      · (intro Wq hWq; obtain ⟨hWc, hWf⟩ := bcell hWq; go_simp; (first | with_reducible rfl | exact ⟨rfl, rfl⟩))
      · (intro Wq hWq; exact H4.out _)
      go_big_quiet_on; (try simp only [Act.put, List.setIfInBounds_toArray, List.set_cons_zero, List.set_cons_succ])
      go_big_quiet_want; refine quiet_callS (f := 66) (args := ?_) (v := ?_) ?_ ?_ ?_; rotate_left 2
      · (intro Wq hWq; obtain ⟨hWc, hWf⟩ := bcell hWq; go_simp; (first | with_reducible rfl | exact ⟨rfl, rfl⟩))
      · (intro Wq hWq; exact H3.out _)
      go_big_quiet_on; (try simp only [Act.put, List.setIfInBounds_toArray, List.set_cons_zero, List.set_cons_succ])
      (first | go_big_quiet_skip | (go_big_quiet_want; refine quiet_val (v := ?_) ?_ ?_; rotate_left 1; (· (intro Wq hWq; obtain ⟨hWc, hWf⟩ := bcell hWq; go_simp; (try with_reducible rfl))); go_big_quiet_on; (try simp only [Act.put, List.setIfInBounds_toArray, List.set_cons_zero, List.set_cons_succ])))
      (first | go_big_quiet_skip | (go_big_quiet_want; refine quiet_val (v := ?_) ?_ ?_; rotate_left 1; (· (intro Wq hWq; obtain ⟨hWc, hWf⟩ := bcell hWq; go_simp; (try with_reducible rfl))); go_big_quiet_on; (try simp only [Act.put, List.setIfInBounds_toArray, List.set_cons_zero, List.set_cons_succ])))
      refine wpQuiet_nil ?_; intro w1 hb1
      have g1 : Below w.heap.size w w1 := by (repeat (first | (with_reducible exact Below.refl _ _) | (with_reducible assumption) | (with_reducible refine Below.drew ?_) | (with_reducible refine Below.allocS ?_ _) | (with_reducible refine Below.setCell ?_ ?_ _) | (with_reducible refine Below.step ?_ (by assumption)) | (with_reducible refine Below.drewN' ?_ _))); (try any_goals (first | (with_reducible assumption) | (simp; done) | (simp; omega) | omega))
      go_wp2
      go_ret
      exact ⟨(by first | rfl | (simp; done) | (simp; omega) | (simp [*]; done)), by (repeat (first | (with_reducible exact Below.refl _ _) | (with_reducible assumption) | (with_reducible refine Below.drew ?_) | (with_reducible refine Below.allocS ?_ _) | (with_reducible refine Below.setCell ?_ ?_ _) | (with_reducible refine Below.step ?_ (by assumption)) | (with_reducible refine Below.drewN' ?_ _))); (try any_goals (first | (with_reducible assumption) | (simp; done) | (simp; omega) | omega))⟩
def dayR (y m d : Int) : Int × Int := if okDate y m d then (dayNo y m d, 0) else (0, 1)
set_option maxHeartbeats 1000000 in
theorem rDayOf_c (y m d : Int) (w : World) : Calls Tryd.prog 34 #[.agg #[.int .i64 y, .int .i64 m, .int .i64 d]] w fun e w' => e = .returned (.tuple #[.int .i64 (dayR y m d).1, .int .i64 (dayR y m d).2]) ∧ Below w.heap.size w w' := by
  have HV := Lib.hid (fun W => rvalid_c y m d W)
  unfold dayR
  cases h : okDate y m d
  · rw [h] at HV
    clear h
    go_enter Tryd.func34, Tryd.ntmps34
    go_wp2_with fail
    refine (HV.out _).mono ?_
    rintro e w1 ⟨rfl, hb1⟩
    have x1_0_0 : w1.cell? ⟨w.heap.size, 0, none⟩ = some (.int .i64 y) := keep_cell hb1 (by simp [go_sem, *])
    have x1_0_1 : w1.cell? ⟨w.heap.size, 1, none⟩ = some (.int .i64 m) := keep_cell hb1 (by simp [go_sem, *])
    have x1_0_2 : w1.cell? ⟨w.heap.size, 2, none⟩ = some (.int .i64 d) := keep_cell hb1 (by simp [go_sem, *])
    have y1_0 : w.heap.size < w1.heap.size := cell?_lt x1_0_0
    have g1 : Below w.heap.size w w1 := by (repeat (first | exact Below.refl _ _ | refine Below.drew ?_ | refine Below.allocS ?_ _ | refine Below.step ?_ (by assumption) | refine Below.setCell ?_ (by simp <;> omega) _ | refine Below.drewN' ?_ _))
    clear hb1
    go_wp2
    refine bodyPost_ret (v := .tuple #[.int .i64 0, .int .i64 1]) (by simp [results, Tryd.results34, go_sem, *] <;> (repeat' apply And.intro) <;> rfl) rfl ⟨rfl, ?_⟩
    (repeat (first | (with_reducible exact Below.refl _ _) | (with_reducible assumption) | (with_reducible refine Below.drew ?_) | (with_reducible refine Below.allocS ?_ _) | (with_reducible refine Below.setCell ?_ ?_ _) | (with_reducible refine Below.step ?_ (by assumption)) | (with_reducible refine Below.drewN' ?_ _))); (try any_goals (first | (with_reducible assumption) | (simp; done) | (simp; omega) | omega))
  · rw [h] at HV
    obtain ⟨h1, h2, h3, h4, h5, h6⟩ := okDate_true h
    have hbd := dayNo_bd h
    clear h
    obtain ⟨K, rfl⟩ : ∃ k : Nat, m = k + 1 := ⟨(m - 1).toNat, by omega⟩
    have hK : ((K : Int) + 1 - 1).toNat = K := by omega
    have hml := mlen_bd y ((K : Int) + 1)
    have HY := Lib.hid (fun z W => year_c z W)
    have HM := Lib.hid (fun z W => month_c y z W)
    have hb0 : before 1700 = 0 := by decide
    have HZ := Lib.hid (show dayNo y ((K : Int) + 1) d = d - 1 + before y + mbef y K by unfold dayNo; rw [hK]; omega)
    have HB0 := Lib.hid hb0
    have hyb := before_lin h1 (show y ≤ 2201 by omega)
    clear hb0 hK
    go_enter Tryd.func34, Tryd.ntmps34
    go_wp2_with fail
    refine (HV.out _).mono ?_
    rintro e w1 ⟨rfl, hb1⟩
    have x1_0_0 : w1.cell? ⟨w.heap.size, 0, none⟩ = some (.int .i64 y) := keep_cell hb1 (by simp [go_sem, *])
    have x1_0_1 : w1.cell? ⟨w.heap.size, 1, none⟩ = some (.int .i64 (HAdd.hAdd (K : Int) 1)) := keep_cell hb1 (by simp [go_sem, *])
    have x1_0_2 : w1.cell? ⟨w.heap.size, 2, none⟩ = some (.int .i64 d) := keep_cell hb1 (by simp [go_sem, *])
    have y1_0 : w.heap.size < w1.heap.size := cell?_lt x1_0_0
    have g1 : Below w.heap.size w w1 := by (repeat (first | exact Below.refl _ _ | refine Below.drew ?_ | refine Below.allocS ?_ _ | refine Below.step ?_ (by assumption) | refine Below.setCell ?_ (by simp <;> omega) _ | refine Below.drewN' ?_ _))
    clear hb1
    go_wp2
    go_loop [4, 5] (fun n z => ∃ k : Nat, 1700 + (k : Int) ≤ y ∧ z = .int .i64 (1700 + (k : Int)) ∧ n = .int .i64 (d - 1 + before (1700 + (k : Int)))) (fun _ z => (2300 - intOf z).toNat)
    case atStart => exact ⟨0, by omega, by go_num, by rw [show (1700 : Int) + ((0 : Nat) : Int) = 1700 from rfl, HB0.out]; go_num⟩
    case round =>
      obtain ⟨k, hk, rfl, rfl⟩ := hrel
      have hl := before_lin (y := 1700 + (k : Int)) (by omega) (by omega)
      have hyl := ylen_bd (1700 + (k : Int))
      by_cases hlt : 1700 + (k : Int) < y
      · have HS := Lib.hid (before_succ (y := 1700 + (k : Int)) (by omega) (by omega))
        go_wp2_with (go_at_call 70; refine (HY.out _ _).mono ?_; rintro e w' ⟨rfl, rfl⟩)
        go_round
        case rel => exact ⟨k + 1, by omega, by congr 1, by rw [show (1700 : Int) + ((k + 1 : Nat) : Int) = 1700 + k + 1 by omega, HS.out]; congr 1; omega⟩
        case measure => simp [intOf]; omega
      · have hky : y = 1700 + (k : Int) := by omega
        subst hky
        go_wp2_with fail
        go_loop [4, 6] (fun n z => ∃ j : Nat, j ≤ K ∧ z = .int .i64 (HAdd.hAdd (j : Int) 1) ∧ n = .int .i64 (d - 1 + before (1700 + (k : Int)) + mbef (1700 + (k : Int)) j)) (fun _ z => (2300 - intOf z).toNat)
        case atStart => exact ⟨0, by omega, by go_num, by simp [mbef]⟩
        case round =>
          obtain ⟨j, hj, rfl, rfl⟩ := hrel
          have hm0 := mbef_nonneg (1700 + (k : Int)) j
          have hm1 := mbef_mono (1700 + (k : Int)) (show j ≤ 12 by omega)
          rw [mbef_12] at hm1
          have hml2 := mlen_bd (1700 + (k : Int)) ((j : Int) + 1)
          by_cases hjl : (j : Int) + 1 < (K : Int) + 1
          · go_wp2_with (go_at_call 71; refine (HM.out _ _).mono ?_; rintro e w' ⟨rfl, rfl⟩)
            go_round
            case rel => exact ⟨j + 1, by omega, by congr 1, by rw [show mbef (1700 + (k : Int)) (j + 1) = mbef (1700 + (k : Int)) j + mlen (1700 + (k : Int)) ((j : Int) + 1) from rfl]; congr 1; omega⟩
            case measure => simp [intOf]; omega
          · obtain rfl : j = K := by omega
            go_wp2
            refine bodyPost_ret (v := .tuple #[.int .i64 (d - 1 + before (1700 + (k : Int)) + mbef (1700 + (k : Int)) j), .int .i64 0]) (by simp [results, Tryd.results34, go_sem, *]) rfl ⟨by rw [HZ.out], ?_⟩
            (repeat (first | (with_reducible exact Below.refl _ _) | (with_reducible assumption) | (with_reducible refine Below.drew ?_) | (with_reducible refine Below.allocS ?_ _) | (with_reducible refine Below.setCell ?_ ?_ _) | (with_reducible refine Below.step ?_ (by assumption)) | (with_reducible refine Below.drewN' ?_ _))); (try any_goals (first | (with_reducible assumption) | (simp; done) | (simp; omega) | omega))
noncomputable def dateR (day : Int) : (Int × Int × Int) × Int := if dayB day then (dateOf day, 0) else ((0, 0, 0), 7)
def dtV (p : (Int × Int × Int) × Int) : Value := .tuple #[.agg #[.int .i64 p.1.1, .int .i64 p.1.2.1, .int .i64 p.1.2.2], .int .i64 p.2]
theorem rDateOf_no (day : Int) (h : dayB day = false) (w : World) : Calls Tryd.prog 36 #[.int .i64 day] w fun e w' => e = .returned (dtV ((0, 0, 0), 7)) ∧ Below w.heap.size w w' := by
  have HW := Lib.hid (fun W => within_c day 0 182985 W)
  rw [show (decide (0 ≤ day) && decide (day ≤ 182985)) = false from h] at HW
  clear h
  go_enter Tryd.func36, Tryd.ntmps36
  go_wp2_with fail
  refine (HW.out _).mono ?_
  rintro e w' ⟨rfl, rfl⟩
  go_wp2
  refine bodyPost_ret (v := .tuple #[.agg #[.int .i64 0, .int .i64 0, .int .i64 0], .int .i64 7]) (by simp [results, Tryd.results36, go_sem, *] <;> (repeat' apply And.intro) <;> rfl) rfl ⟨rfl, ?_⟩
  (repeat (first | (with_reducible exact Below.refl _ _) | (with_reducible assumption) | (with_reducible refine Below.drew ?_) | (with_reducible refine Below.allocS ?_ _) | (with_reducible refine Below.setCell ?_ ?_ _) | (with_reducible refine Below.step ?_ (by assumption)) | (with_reducible refine Below.drewN' ?_ _))); (try any_goals (first | (with_reducible assumption) | (simp; done) | (simp; omega) | omega))
/-- The block of a date that is being made, and the result's own. -/
def TwoD (w W : World) (y m d : Int) : Prop :=
  (W.cell? ⟨w.heap.size + 1, 0, none⟩ = some (.int .i64 y) ∧ W.cell? ⟨w.heap.size + 1, 1, none⟩ = some (.int .i64 m) ∧ W.cell? ⟨w.heap.size + 1, 2, none⟩ = some (.int .i64 d)) ∧
  (W.frozen? ⟨w.heap.size + 1, 0, none⟩ = false ∧ W.frozen? ⟨w.heap.size + 1, 1, none⟩ = false ∧ W.frozen? ⟨w.heap.size + 1, 2, none⟩ = false) ∧
  (W.cell? ⟨w.heap.size, 0, none⟩ = some (.int .i64 0) ∧ W.cell? ⟨w.heap.size, 1, none⟩ = some (.int .i64 0) ∧ W.cell? ⟨w.heap.size, 2, none⟩ = some (.int .i64 0)) ∧
  (W.frozen? ⟨w.heap.size, 0, none⟩ = false ∧ W.frozen? ⟨w.heap.size, 1, none⟩ = false ∧ W.frozen? ⟨w.heap.size, 2, none⟩ = false)
theorem year_room {y day : Int} (h0 : 1700 ≤ y) (h1 : before y ≤ day) (h2 : day ≤ 182985) (h3 : y ≤ 2201) : y ≤ 2200 := by
  rcases Int.lt_or_le y 2201 with h | h
  · omega
  · obtain rfl : y = 2201 := by omega
    have e : before 2201 = 182986 := by decide
    omega
set_option maxHeartbeats 1000000 in
theorem rDateOf_yes (day : Int) (h0 : 0 ≤ day) (h1 : day ≤ 182985) (w : World) : Calls Tryd.prog 36 #[.int .i64 day] w fun e w' => e = .returned (dtV (dateOf day, 0)) ∧ Below w.heap.size w w' := by
  have HW := Lib.hid (fun W => within_c day 0 182985 W)
  rw [show (decide (0 ≤ day) && decide (day ≤ 182985)) = true from by simp; omega] at HW
  have HY := Lib.hid (fun z W => year_c z W)
  have HM := Lib.hid (fun y z W => month_c y z W)
  have HB0 := Lib.hid (show before 1700 = 0 by decide)
  have HDO := Lib.hid (fun y m d => @dateOf_eq y m d day)
  go_enter Tryd.func36, Tryd.ntmps36
  go_wp2_with fail
  refine (HW.out _).mono ?_
  rintro e w' ⟨rfl, rfl⟩
  go_wp2
  go_loopw [0] (fun n wr => ∃ k : Nat, (k : Int) ≤ 500 ∧ 0 ≤ day - before (1700 + (k : Int)) ∧ n = .int .i64 (day - before (1700 + (k : Int))) ∧ TwoD w wr (1700 + (k : Int)) 1 0 ∧ w.heap.size + 1 < wr.heap.size ∧ Below w.heap.size w wr) (fun n _ => (intOf n).toNat)
  case atStart => exact ⟨0, by omega, by rw [show (1700 : Int) + ((0 : Nat) : Int) = 1700 from rfl, HB0.out]; omega, by rw [show (1700 : Int) + ((0 : Nat) : Int) = 1700 from rfl, HB0.out]; go_num, ⟨⟨by simp [go_sem], by simp [go_sem], by simp [go_sem]⟩, ⟨by simp [go_sem], by simp [go_sem], by simp [go_sem]⟩, ⟨by simp [go_sem], by simp [go_sem], by simp [go_sem]⟩, by simp [go_sem], by simp [go_sem], by simp [go_sem]⟩, by simp, by (repeat (first | (with_reducible exact Below.refl _ _) | (with_reducible assumption) | (with_reducible refine Below.drew ?_) | (with_reducible refine Below.allocS ?_ _) | (with_reducible refine Below.setCell ?_ ?_ _) | (with_reducible refine Below.step ?_ (by assumption)) | (with_reducible refine Below.drewN' ?_ _))); (try any_goals (first | (with_reducible assumption) | (simp; done) | (simp; omega) | omega))⟩
  case round =>
    obtain ⟨k, hk, hn, rfl, hT, hsz, hbw⟩ := hrel
    have HT := Lib.hid hT
    obtain ⟨⟨c0, c1, c2⟩, ⟨f0, f1, f2⟩, ⟨e0, e1, e2⟩, ⟨z0, z1, z2⟩⟩ := hT
    have hyl := ylen_bd (1700 + (k : Int))
    have hS := before_succ (y := 1700 + (k : Int)) (by omega) (by omega)
    have hl := before_lin (y := 1700 + (k : Int)) (by omega) (by omega)
    have hr := fun h => year_room (y := 1700 + (k : Int) + 1) (day := day) (by omega) h h1 (by omega)
    rw [hS] at hr
    have HS := Lib.hid hS
    have HR := Lib.hid hr
    clear hS hr
    have hsz1 : w.heap.size < wr.heap.size := by omega
    by_cases hlt : ylen (1700 + (k : Int)) ≤ day - before (1700 + (k : Int))
    · have hr := HR.out (by omega)
      go_wp2_with (go_at_call 70; refine (HY.out _ _).mono ?_; rintro e w' ⟨rfl, rfl⟩)
      go_roundw
      case rel => exact ⟨k + 1, by omega, by rw [show (1700 : Int) + ((k + 1 : Nat) : Int) = 1700 + k + 1 by omega, HS.out]; omega, by rw [show (1700 : Int) + ((k + 1 : Nat) : Int) = 1700 + k + 1 by omega, HS.out]; congr 1; omega, ⟨⟨by rw [show (1700 : Int) + ((k + 1 : Nat) : Int) = 1700 + k + 1 by omega]; simp [go_sem, *], by simp [go_sem, *], by simp [go_sem, *]⟩, ⟨by simp [go_sem, *], by simp [go_sem, *], by simp [go_sem, *]⟩, ⟨by simp [go_sem, *], by simp [go_sem, *], by simp [go_sem, *]⟩, by simp [go_sem, *], by simp [go_sem, *], by simp [go_sem, *]⟩, by simpa using hsz, by (repeat (first | (with_reducible exact Below.refl _ _) | (with_reducible assumption) | (with_reducible refine Below.drew ?_) | (with_reducible refine Below.allocS ?_ _) | (with_reducible refine Below.setCell ?_ ?_ _) | (with_reducible refine Below.step ?_ (by assumption)) | (with_reducible refine Below.drewN' ?_ _))); (try any_goals (first | (with_reducible assumption) | (simp; done) | (simp; omega) | omega))⟩
      case measure => simp [intOf]; omega
    · go_wp2_with (go_at_call 70; refine (HY.out _ _).mono ?_; rintro e w' ⟨rfl, rfl⟩)
      have hlt' : day - before (1700 + (k : Int)) < ylen (1700 + (k : Int)) := by omega
      obtain ⟨y, hy⟩ : ∃ y : Int, y = 1700 + (k : Int) := ⟨_, rfl⟩
      obtain ⟨r, hr⟩ : ∃ r : Int, r = day - before y := ⟨_, rfl⟩
      have HV := Lib.hid (show day - before (1700 + (k : Int)) = r by rw [hr, hy])
      have HT1 := Lib.hid (show TwoD w w' y 1 0 by rw [hy]; exact HT.out)
      have hy1 : 1700 ≤ y := by omega
      have hy2 : y ≤ 2200 := by omega
      rw [← hy] at hlt' hn hyl
      rw [← hr] at hlt' hn
      have hr3 : r ≤ 182985 := by have := before_lin hy1 (by omega); omega
      have HRR := Lib.hid hr
      clear hy hr HS HR hl hlt hk c0 c1 c2 f0 f1 f2 e0 e1 e2 z0 z1 z2 HT
      obtain ⟨wo, rfl⟩ : ∃ wo : World, wo = w' := ⟨_, rfl⟩
      go_loopw [0] (fun n wr => ∃ j : Nat, (j : Int) ≤ 11 ∧ 0 ≤ r - mbef y j ∧ n = .int .i64 (r - mbef y j) ∧ TwoD w wr y ((j : Int) + 1) 0 ∧ w.heap.size + 1 < wr.heap.size ∧ Below w.heap.size w wr) (fun n _ => (intOf n).toNat)
      case atStart => exact ⟨0, by omega, by simp [mbef]; omega, by rw [HV.out]; simp [mbef], HT1.out, hsz, hbw⟩
      case round =>
        obtain ⟨j, hj, hn2, rfl, hT2, hsz2, hbw2⟩ := hrel
        have HT2 := Lib.hid hT2
        obtain ⟨⟨c0, c1, c2⟩, ⟨f0, f1, f2⟩, ⟨e0, e1, e2⟩, ⟨z0, z1, z2⟩⟩ := hT2
        have hml := mlen_bd y ((j : Int) + 1)
        have HS := Lib.hid (show mbef y (j + 1) = mbef y j + mlen y ((j : Int) + 1) from rfl)
        have hm0 := mbef_nonneg y j
        have hsz3 : w.heap.size < wr.heap.size := by omega
        by_cases hlt : mlen y ((j : Int) + 1) ≤ r - mbef y j
        · have hj11 : (j : Int) + 1 ≤ 11 := by
            rcases Nat.lt_or_ge j 11 with h | h
            · omega
            · obtain rfl : j = 11 := by omega
              have h12 := mbef_12 y
              have hs := HS.out
              simp only [Nat.reduceAdd] at hs
              omega
          go_wp2_with (go_at_call 71; refine (HM.out _ _ _).mono ?_; rintro e w' ⟨rfl, rfl⟩)
          go_roundw
          case rel => exact ⟨j + 1, by omega, by rw [HS.out]; omega, by rw [HS.out]; congr 1; omega, ⟨⟨by simp [go_sem, *], by simp [go_sem, *], by simp [go_sem, *]⟩, ⟨by simp [go_sem, *], by simp [go_sem, *], by simp [go_sem, *]⟩, ⟨by simp [go_sem, *], by simp [go_sem, *], by simp [go_sem, *]⟩, by simp [go_sem, *], by simp [go_sem, *], by simp [go_sem, *]⟩, by simpa using hsz2, by (repeat (first | (with_reducible exact Below.refl _ _) | (with_reducible assumption) | (with_reducible refine Below.drew ?_) | (with_reducible refine Below.allocS ?_ _) | (with_reducible refine Below.setCell ?_ ?_ _) | (with_reducible refine Below.step ?_ (by assumption)) | (with_reducible refine Below.drewN' ?_ _))); (try any_goals (first | (with_reducible assumption) | (simp; done) | (simp; omega) | omega))⟩
          case measure => simp [intOf]; omega
        · have hD := HDO.out y ((j : Int) + 1) (r - mbef y j + 1) (by simp [okDate]; omega) (by have := HRR.out; simp only [dayNo, show ((j : Int) + 1 - 1).toNat = j by omega]; omega)
          have HD := Lib.hid hD
          clear hD
          go_wp2_with (go_at_call 71; refine (HM.out _ _ _).mono ?_; rintro e w' ⟨rfl, rfl⟩)
          refine bodyPost_ret (v := .tuple #[.agg #[.int .i64 y, .int .i64 ((j : Int) + 1), .int .i64 (r - mbef y j + 1)], .int .i64 0]) (by simp [results, Tryd.results36, go_sem, *]) rfl ⟨by rw [HD.out]; rfl, ?_⟩
          (repeat (first | (with_reducible exact Below.refl _ _) | (with_reducible assumption) | (with_reducible refine Below.drew ?_) | (with_reducible refine Below.allocS ?_ _) | (with_reducible refine Below.setCell ?_ ?_ _) | (with_reducible refine Below.step ?_ (by assumption)) | (with_reducible refine Below.drewN' ?_ _))); (try any_goals (first | (with_reducible assumption) | (simp; done) | (simp; omega) | omega))
theorem rDateOf_c (day : Int) (w : World) : Calls Tryd.prog 36 #[.int .i64 day] w fun e w' => e = .returned (dtV (dateR day)) ∧ Below w.heap.size w w' := by
  unfold dateR
  cases h : dayB day
  · exact rDateOf_no day h w
  · obtain ⟨h0, h1⟩ : 0 ≤ day ∧ day ≤ 182985 := by simpa [dayB] using h
    exact rDateOf_yes day h0 h1 w
end Go.Proofs.YtjkcgbidceakjaaDoor
