/-
  Contracts of down of the reference, folded and Folded of both.
-/
import Derived.Test.YtbcabckokmjelaaA1
namespace Go.Proofs.Ytbcabckokmjelaa
open Go.RowKit
set_option linter.unusedVariables false
set_option linter.unusedSimpArgs false
theorem rdown_c (n d : Int) (hd : 0 < d) (hd2 : d ≤ 1000000000) (h0 : -4000000000000000000 ≤ n) (h1 : n ≤ 4000000000000000000) (w : World) :
    Calls Try.prog 51 #[.int .i64 n, .int .i64 d] w fun e w' => e = .returned (.int .i64 (n / d)) ∧ w' = w := by
  obtain ⟨f1, f2⟩ := tdiv_floor n d hd
  obtain ⟨b1, b2⟩ := tdiv_small n d hd h0 h1
  have r1 : n.tmod d < d := Int.tmod_lt_of_pos n hd
  have r2 : -d < n.tmod d := by
    have := Int.tmod_lt_of_pos (-n) hd
    rw [Int.neg_tmod] at this
    omega
  have hdz : d ≠ 0 := by omega
  have w1 : IntKind.i64.wrap (n.tdiv d) = n.tdiv d := IntWalk.i64_in _ (by omega)
  have w2 : IntKind.i64.wrap (n.tmod d) = n.tmod d := IntWalk.i64_in _ (by omega)
  have w3 : IntKind.i64.wrap (n.tdiv d - 1) = n.tdiv d - 1 := IntWalk.i64_in _ (by omega)
  by_cases h : n.tmod d < 0
  · rw [f2 h]
    clear f1 f2 r1 r2
    go_enter Try.func51, Try.ntmps51
    go_wp2
    go_ret
    exact ⟨rfl, rfl⟩
  · rw [f1 (by omega)]
    clear f1 f2 r1 r2
    go_enter Try.func51, Try.ntmps51
    go_wp2
    go_ret
    exact ⟨rfl, rfl⟩
/-- A number, folded. -/
def foldD (d : Int) : Int := d - (d + 43200000) / 86400000 * 86400000
theorem foldD_bd (d : Int) : -43200000 ≤ foldD d ∧ foldD d < 43200000 := by unfold foldD; omega
theorem folded_c (d : Int) (h0 : -4000000000000 ≤ d) (h1 : d ≤ 4000000000000) (w : World) : Calls Try.prog 52 #[.int .i64 d] w fun e w' => e = .returned (.int .i64 (foldD d)) ∧ w' = w := by
  have HD := Lib.hid (fun W => down_c (d + 43200000) 86400000 (by omega) (by omega) (by omega) (by omega) W)
  unfold foldD
  have w1 : IntKind.i64.wrap (d + 43200000) = d + 43200000 := IntWalk.i64_in _ (by omega)
  have w2 : IntKind.i64.wrap ((d + 43200000) / 86400000 * 86400000) = (d + 43200000) / 86400000 * 86400000 := IntWalk.i64_in _ (by omega)
  have w3 : IntKind.i64.wrap (d - (d + 43200000) / 86400000 * 86400000) = d - (d + 43200000) / 86400000 * 86400000 := IntWalk.i64_in _ (by omega)
  go_enter Try.func52, Try.ntmps52
  go_wp2_with fail
  refine (HD.out _).mono ?_
  rintro e w' ⟨rfl, rfl⟩
  go_wp2
  go_ret
  exact ⟨rfl, rfl⟩
theorem rfolded_c (d : Int) (h0 : -4000000000000 ≤ d) (h1 : d ≤ 4000000000000) (w : World) : Calls Try.prog 53 #[.int .i64 d] w fun e w' => e = .returned (.int .i64 (foldD d)) ∧ w' = w := by
  have e0 := Int.mul_tdiv_add_tmod d 86400000
  have r1 : d.tmod 86400000 < 86400000 := Int.tmod_lt_of_pos d (by omega)
  have r2 : -86400000 < d.tmod 86400000 := by
    have := Int.tmod_lt_of_pos (-d) (show (0 : Int) < 86400000 by omega)
    rw [Int.neg_tmod] at this
    omega
  have w1 : IntKind.i64.wrap (d.tmod 86400000) = d.tmod 86400000 := IntWalk.i64_in _ (by omega)
  have w2 : IntKind.i64.wrap (d.tmod 86400000 + 86400000) = d.tmod 86400000 + 86400000 := IntWalk.i64_in _ (by omega)
  have w3 : IntKind.i64.wrap (d.tmod 86400000 - 86400000) = d.tmod 86400000 - 86400000 := IntWalk.i64_in _ (by omega)
  by_cases g1 : d.tmod 86400000 < -43200000
  · have g2 : ¬ 43200000 ≤ d.tmod 86400000 + 86400000 := by omega
    rw [show foldD d = d.tmod 86400000 + 86400000 by unfold foldD; omega]
    clear e0 r1 r2
    go_enter Try.func53, Try.ntmps53
    go_wp2
    go_ret
    exact ⟨rfl, rfl⟩
  · by_cases g2 : 43200000 ≤ d.tmod 86400000
    · rw [show foldD d = d.tmod 86400000 - 86400000 by unfold foldD; omega]
      clear e0 r1 r2
      go_enter Try.func53, Try.ntmps53
      go_wp2
      go_ret
      exact ⟨rfl, rfl⟩
    · rw [show foldD d = d.tmod 86400000 by unfold foldD; omega]
      clear e0 r1 r2
      go_enter Try.func53, Try.ntmps53
      go_wp2
      go_ret
      exact ⟨rfl, rfl⟩
end Go.Proofs.Ytbcabckokmjelaa
