/-
  Contracts of the small functions of gun and of its reference: within, place, ValidAir, down, SpeedAt, root, Root, square, distance, Distance, over, lag.
-/
import Derived.Test.YtimbdnngeoccdaaDoorPre
import Derived.BigQuiet
import Derived.Deep.QuietTactic
namespace Go.Proofs.YtimbdnngeoccdaaDoor
open Go.RowKit

def within (n lo hi : Int) : Bool := decide (lo ≤ n) && decide (n ≤ hi)
theorem within_true {n lo hi : Int} (h : within n lo hi = true) : lo ≤ n ∧ n ≤ hi := by simpa [within] using h
theorem within_false {n lo hi : Int} (h : within n lo hi = false) : n < lo ∨ hi < n := by
  simp only [within, Bool.and_eq_false_iff, decide_eq_false_iff_not] at h; omega

theorem within_c (n lo hi : Int) (w : World) :
    Calls Tryd.prog 61 #[.int .i64 n, .int .i64 lo, .int .i64 hi] w fun e w' => e = .returned (.bool (within n lo hi)) ∧ w = w' := by
  by_cases h : lo ≤ n
  all_goals
    go_enter Tryd.func61, Tryd.ntmps61
    go_wp2
    go_ret
    exact ⟨by simp [within] <;> omega, rfl⟩
theorem rwithin_c (n lo hi : Int) (w : World) :
    Calls Tryd.prog 42 #[.int .i64 n, .int .i64 lo, .int .i64 hi] w fun e w' => e = .returned (.bool (within n lo hi)) ∧ w = w' := by
  by_cases h : lo ≤ n
  all_goals
    go_enter Tryd.func42, Tryd.ntmps42
    go_wp2
    go_ret
    exact ⟨by simp [within] <;> omega, rfl⟩

def place (x y : Int) : Bool := within x (-50000) 50000 && within y (-50000) 50000
theorem place_true {x y : Int} (h : place x y = true) : (-50000 ≤ x ∧ x ≤ 50000) ∧ -50000 ≤ y ∧ y ≤ 50000 := by
  simpa [place, within] using h
def validAir (s v : Int) : Bool := within s 300000 400000 && within v 0 50000
theorem validAir_true {s v : Int} (h : validAir s v = true) : (300000 ≤ s ∧ s ≤ 400000) ∧ 0 ≤ v ∧ v ≤ 50000 := by
  simpa [validAir, within] using h

theorem place_c (x y : Int) (w : World) :
    Calls Tryd.prog 64 #[.agg #[.int .i64 x, .int .i64 y]] w fun e w' => e = .returned (.bool (place x y)) ∧ Below w.heap.size w w' := by
  cases h : within x (-50000) 50000
  all_goals
    go_enter Tryd.func64, Tryd.ntmps64
    go_wp2_with (go_at_call 61; refine (within_c _ _ _ _).mono ?_; rintro e w' ⟨rfl, rfl⟩)
    go_ret
    exact ⟨by simp [place, h], (Below.refl _ _).alloc (Nat.le_refl _) _⟩
theorem rplace_c (x y : Int) (w : World) :
    Calls Tryd.prog 69 #[.agg #[.int .i64 x, .int .i64 y]] w fun e w' => e = .returned (.bool (place x y)) ∧ Below w.heap.size w w' := by
  cases h : within x (-50000) 50000
  all_goals
    go_enter Tryd.func69, Tryd.ntmps69
    go_wp2_with (go_at_call 42; refine (rwithin_c _ _ _ _).mono ?_; rintro e w' ⟨rfl, rfl⟩)
    go_ret
    exact ⟨by simp [place, h], (Below.refl _ _).alloc (Nat.le_refl _) _⟩
theorem validAir_c (s v : Int) (w : World) :
    Calls Tryd.prog 85 #[.agg #[.int .i64 s, .int .i64 v]] w fun e w' => e = .returned (.bool (validAir s v)) ∧ Below w.heap.size w w' := by
  cases h : within s 300000 400000
  all_goals
    go_enter Tryd.func85, Tryd.ntmps85
    go_wp2_with (go_at_call 61; refine (within_c _ _ _ _).mono ?_; rintro e w' ⟨rfl, rfl⟩)
    go_ret
    exact ⟨by simp [validAir, h], (Below.refl _ _).alloc (Nat.le_refl _) _⟩
theorem square_c (a b c d : Int) (hp : place a b = true) (hq : place c d = true) (w : World) :
    Calls Tryd.prog 104 #[.agg #[.int .i64 a, .int .i64 b], .agg #[.int .i64 c, .int .i64 d]] w fun e w' => e = .returned (.int .i64 ((a - c) * (a - c) + (b - d) * (b - d))) ∧ Below w.heap.size w w' := by
  obtain ⟨⟨p1, p2⟩, p3, p4⟩ := place_true hp
  obtain ⟨⟨q1, q2⟩, q3, q4⟩ := place_true hq
  clear hp hq
  have a1 := sq_nonneg (a - c)
  have a2 := sq_nonneg (b - d)
  have a3 : (a - c) * (a - c) ≤ 10000000000 := sq_le_sq (b := 100000) (by omega) (by omega)
  have a4 : (b - d) * (b - d) ≤ 10000000000 := sq_le_sq (b := 100000) (by omega) (by omega)
  go_enter Tryd.func104, Tryd.ntmps104
  go_wp2
  go_ret
  exact ⟨rfl, ((Below.refl _ _).alloc (Nat.le_refl _) _).alloc (by simp) _⟩
end Go.Proofs.YtimbdnngeoccdaaDoor
