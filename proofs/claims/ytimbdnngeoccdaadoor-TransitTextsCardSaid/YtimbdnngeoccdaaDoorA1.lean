/-
  Contracts of the small functions of transit and of its reference: within, down, folded.
-/
import Derived.Test.YtimbdnngeoccdaaDoorPre
import Derived.BigQuiet
import Derived.Deep.QuietTactic
namespace Go.Proofs.YtimbdnngeoccdaaDoor
open Go.RowKit
set_option linter.unusedVariables false
set_option linter.unusedSimpArgs false
def within (n lo hi : Int) : Bool := decide (lo ≤ n) && decide (n ≤ hi)
theorem within_true {n lo hi : Int} (h : within n lo hi = true) : lo ≤ n ∧ n ≤ hi := by simpa [within] using h
theorem within_false {n lo hi : Int} (h : within n lo hi = false) : n < lo ∨ hi < n := by
  simp only [within, Bool.and_eq_false_iff, decide_eq_false_iff_not] at h; omega
theorem within_c (n lo hi : Int) (w : World) :
    Calls Tryd.prog 45 #[.int .i64 n, .int .i64 lo, .int .i64 hi] w fun e w' => e = .returned (.bool (within n lo hi)) ∧ w' = w := by
  by_cases h : lo ≤ n
  all_goals
    go_enter Tryd.func45, Tryd.ntmps45
    go_wp2
    go_ret
    exact ⟨by simp [within] <;> omega, rfl⟩
theorem rwithin_c (n lo hi : Int) (w : World) :
    Calls Tryd.prog 56 #[.int .i64 n, .int .i64 lo, .int .i64 hi] w fun e w' => e = .returned (.bool (within n lo hi)) ∧ w' = w := by
  by_cases h : lo ≤ n
  all_goals
    go_enter Tryd.func56, Tryd.ntmps56
    go_wp2
    go_ret
    exact ⟨by simp [within] <;> omega, rfl⟩
theorem tdiv_floor (n d : Int) (hd : 0 < d) : (0 ≤ n.tmod d → n / d = n.tdiv d) ∧ (n.tmod d < 0 → n / d = n.tdiv d - 1) := by
  have h1 := Int.mul_tdiv_add_tmod n d
  have h2 : n.tmod d < d := Int.tmod_lt_of_pos n hd
  have h3 : -d < n.tmod d := by
    have := Int.tmod_lt_of_pos (-n) hd
    rw [Int.neg_tmod] at this
    omega
  have e : d * (n.tdiv d - 1) = d * n.tdiv d - d := by rw [Int.mul_sub, Int.mul_one]
  exact ⟨fun h => ((Int.ediv_emod_unique (a := n) (r := n.tmod d) (q := n.tdiv d) hd).2 ⟨by omega, h, h2⟩).1,
    fun h => ((Int.ediv_emod_unique (a := n) (r := n.tmod d + d) (q := n.tdiv d - 1) hd).2 ⟨by omega, by omega, by omega⟩).1⟩
theorem tdiv_small (n d : Int) (hd : 0 < d) (h0 : -4000000000000000000 ≤ n) (h1 : n ≤ 4000000000000000000) : -4000000000000000000 ≤ n.tdiv d ∧ n.tdiv d ≤ 4000000000000000000 := by
  have := Int.natAbs_tdiv_le_natAbs n d
  omega
theorem down_c (n d : Int) (hd : 0 < d) (hd2 : d ≤ 1000000000) (h0 : -4000000000000000000 ≤ n) (h1 : n ≤ 4000000000000000000) (w : World) :
    Calls Tryd.prog 72 #[.int .i64 n, .int .i64 d] w fun e w' => e = .returned (.int .i64 (n / d)) ∧ w' = w := by
  obtain ⟨f1, f2⟩ := tdiv_floor n d hd
  obtain ⟨b1, b2⟩ := tdiv_small n d hd h0 h1
  have e1 := Int.mul_tdiv_add_tmod n d
  have r1 : n.tmod d < d := Int.tmod_lt_of_pos n hd
  have r2 : -d < n.tmod d := by
    have := Int.tmod_lt_of_pos (-n) hd
    rw [Int.neg_tmod] at this
    omega
  have ec : n.tdiv d * d = d * n.tdiv d := Int.mul_comm _ _
  have hdz : d ≠ 0 := by omega
  have w1 : IntKind.i64.wrap (n.tdiv d) = n.tdiv d := IntWalk.i64_in _ (by omega)
  have w2 : IntKind.i64.wrap (n.tdiv d * d) = n.tdiv d * d := IntWalk.i64_in _ (by omega)
  have w3 : IntKind.i64.wrap (n.tdiv d - 1) = n.tdiv d - 1 := IntWalk.i64_in _ (by omega)
  by_cases h : n < n.tdiv d * d
  · rw [f2 (by omega)]
    clear f1 f2 e1 ec r1 r2
    go_enter Tryd.func72, Tryd.ntmps72
    go_wp2
    go_ret
    exact ⟨rfl, rfl⟩
  · rw [f1 (by omega)]
    clear f1 f2 e1 ec r1 r2
    go_enter Tryd.func72, Tryd.ntmps72
    go_wp2
    go_ret
    exact ⟨rfl, rfl⟩
end Go.Proofs.YtimbdnngeoccdaaDoor
