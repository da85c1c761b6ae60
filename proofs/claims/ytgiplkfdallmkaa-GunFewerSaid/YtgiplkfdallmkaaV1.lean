/-
  Box, nearest and Excluded of gun.
-/
import Derived.Test.YtgiplkfdallmkaaS3
import Derived.Test.YtgiplkfdallmkaaGM
import Derived.Test.YtgiplkfdallmkaaQt
namespace Go.Proofs.Ytgiplkfdallmkaa
open Go.RowKit
set_option linter.unusedVariables false
set_option linter.unusedSimpArgs false
def boxE (a b c d : Int) : Int := if a ≤ c ∧ b ≤ d then 0 else 7
theorem box_c (a b c d : Int) (w : World) : Calls Try.prog 78 #[.agg #[.int .i64 a, .int .i64 b], .agg #[.int .i64 c, .int .i64 d]] w fun e w' => e = .returned (.int .i64 (boxE a b c d)) ∧ Below w.heap.size w w' := by
  by_cases h1 : a ≤ c
  · by_cases h2 : b ≤ d
    · rw [show boxE a b c d = 0 from if_pos ⟨h1, h2⟩]
      have g1 : decide (a > c) = false := by simp; omega
      have g2 : decide (b > d) = false := by simp; omega
      go_enter Try.func78, Try.ntmps78
      go_wp2
      go_ret
      exact ⟨(by first | rfl | (simp; done) | (simp; omega) | (simp [*]; done)), by (repeat (first | exact Below.refl _ _ | refine Below.drew ?_ | refine Below.allocS ?_ _ | refine Below.step ?_ (by assumption) | refine Below.setCell ?_ (by simp <;> omega) _ | refine Below.drewN' ?_ _))⟩
    · rw [show boxE a b c d = 7 from if_neg (fun h => h2 h.2)]
      go_enter Try.func78, Try.ntmps78
      go_wp2
      go_ret
      exact ⟨(by first | rfl | (simp; done) | (simp; omega) | (simp [*]; done)), by (repeat (first | exact Below.refl _ _ | refine Below.drew ?_ | refine Below.allocS ?_ _ | refine Below.step ?_ (by assumption) | refine Below.setCell ?_ (by simp <;> omega) _ | refine Below.drewN' ?_ _))⟩
  · rw [show boxE a b c d = 7 from if_neg (fun h => h1 h.1)]
    go_enter Try.func78, Try.ntmps78
    go_wp2
    go_ret
    exact ⟨(by first | rfl | (simp; done) | (simp; omega) | (simp [*]; done)), by (repeat (first | exact Below.refl _ _ | refine Below.drew ?_ | refine Below.allocS ?_ _ | refine Below.step ?_ (by assumption) | refine Below.setCell ?_ (by simp <;> omega) _ | refine Below.drewN' ?_ _))⟩
/-- The number from lo to hi that is nearest to n, and the end that is farthest. -/
def nearN (n lo hi : Int) : Int := min (max n lo) hi
def farN (n lo hi : Int) : Int := if n - lo > hi - n then lo else hi
theorem near_in {n lo hi : Int} (h : lo ≤ hi) : lo ≤ nearN n lo hi ∧ nearN n lo hi ≤ hi := by unfold nearN; omega
theorem far_in {n lo hi : Int} (h : lo ≤ hi) : lo ≤ farN n lo hi ∧ farN n lo hi ≤ hi := by unfold farN; split <;> omega
theorem nearest_c (n lo hi : Int) (h1 : -50000 ≤ n) (h2 : n ≤ 50000) (h3 : -50000 ≤ lo) (h4 : lo ≤ hi) (h5 : hi ≤ 50000) (w : World) :
    Calls Try.prog 82 #[.int .i64 n, .int .i64 lo, .int .i64 hi] w fun e w' => e = .returned (.tuple #[.int .i64 (nearN n lo hi), .int .i64 (farN n lo hi)]) ∧ Below w.heap.size w w' := by
  unfold farN nearN
  have e1 : IntKind.i64.wrap (n - lo) = n - lo := IntWalk.i64_in _ (by omega)
  have e2 : IntKind.i64.wrap (hi - n) = hi - n := IntWalk.i64_in _ (by omega)
  by_cases h : n - lo > hi - n
  · rw [if_pos h]
    go_enter Try.func82, Try.ntmps82
    go_wp2
    all_goals
      go_ret2
      exact ⟨by (try simp only [Ending.returned.injEq, Value.tuple.injEq]); congr 1; simp <;> omega, by (repeat (first | exact Below.refl _ _ | refine Below.drew ?_ | refine Below.allocS ?_ _ | refine Below.step ?_ (by assumption) | refine Below.setCell ?_ (by simp <;> omega) _ | refine Below.drewN' ?_ _))⟩
  · rw [if_neg h]
    go_enter Try.func82, Try.ntmps82
    go_wp2
    all_goals
      go_ret2
      exact ⟨by simp <;> omega, by (repeat (first | exact Below.refl _ _ | refine Below.drew ?_ | refine Below.allocS ?_ _ | refine Below.step ?_ (by assumption) | refine Below.setCell ?_ (by simp <;> omega) _ | refine Below.drewN' ?_ _))⟩
end Go.Proofs.Ytgiplkfdallmkaa
