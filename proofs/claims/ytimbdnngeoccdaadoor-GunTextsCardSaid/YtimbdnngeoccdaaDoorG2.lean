/-
  Contracts of root and of all that rests on it: Root, distance, Distance, over, lag, of gun and of its reference.
-/
import Derived.Test.YtimbdnngeoccdaaDoorG1
import Derived.Outline
namespace Go.Proofs.YtimbdnngeoccdaaDoor
open Go.RowKit

/-- The round of root: the step is a power of two, or 0 at the end. -/
def RootInv (n r s : Int) : Prop := 0 ≤ r ∧ 0 ≤ s ∧ r + 2 * s ≤ 2147483648 ∧ r * r ≤ n ∧ ((s = 0 ∧ n < (r + 1) * (r + 1)) ∨ ∃ k : Nat, s = 2 ^ k ∧ n < (r + 2 * s) * (r + 2 * s))
theorem RootInv.next {n r s : Int} (h : RootInv n r s) (hs : s ≠ 0) : RootInv n (if (r + s) * (r + s) ≤ n then r + s else r) (s / 2) := by
  obtain ⟨h1, h2, h3, h4, h5⟩ := h
  rcases h5 with ⟨h5, _⟩ | ⟨k, rfl, h6⟩
  · exact absurd h5 hs
  have hk : (2 : Int) ^ k / 2 = 0 ∧ (2:Int) ^ k = 1 ∨ ∃ j : Nat, (2 : Int) ^ k / 2 = 2 ^ j ∧ (2 : Int) ^ k = 2 * 2 ^ j := by
    cases k with
    | zero => left; decide
    | succ j => right; exact ⟨j, by rw [Int.pow_succ]; omega, by rw [Int.pow_succ]; omega⟩
  refine ⟨by split <;> omega, by omega, by split <;> omega, by split <;> omega, ?_⟩
  rcases hk with ⟨e1, e2⟩ | ⟨j, e1, e2⟩
  · left
    refine ⟨e1, ?_⟩
    rw [e2] at h6 ⊢
    split
    · have : r + 1 + 1 = r + 2 * 1 := by omega
      rw [this]; exact h6
    · omega
  · right
    refine ⟨j, e1, ?_⟩
    rw [e1]
    rw [e2] at h6 ⊢
    split
    · have : r + 2 * 2 ^ j + 2 * 2 ^ j = r + 2 * (2 * 2 ^ j) := by omega
      rw [this]; exact h6
    · omega
theorem RootInv.start {n : Int} (h0 : 0 ≤ n) (h1 : n ≤ 1000000000000000000) : RootInv n 0 1073741824 :=
  ⟨by omega, by omega, by omega, by omega, Or.inr ⟨30, by decide, by omega⟩⟩
theorem RootInv.done {n r : Int} (h : RootInv n r 0) : isq n = r := by
  obtain ⟨h1, h2, h3, h4, h5⟩ := h
  rcases h5 with ⟨_, h5⟩ | ⟨k, h5, _⟩
  · exact isq_unique h1 h4 h5
  · have := Int.pow_pos (n := 2) (m := k) (by decide); omega

theorem root_c (n : Int) (h0 : 0 ≤ n) (h1 : n ≤ 1000000000000000000) (w : World) :
    Calls Tryd.prog 105 #[.int .i64 n] w fun e w' => e = .returned (.int .i64 (isq n)) ∧ w = w' := by
  have hst := RootInv.start h0 h1
  go_enter Tryd.func105, Tryd.ntmps105
  go_wp2
  go_step3
  go_wp2
  go_step3
  go_wp2
  go_loop [3, 4] (fun r s => ∃ a b, r = .int .i64 a ∧ s = .int .i64 b ∧ RootInv n a b) (fun _ s => (intOf s).toNat)
  case atStart => exact ⟨_, _, rfl, rfl, hst⟩
  case round =>
    obtain ⟨r, s, rfl, rfl, hr⟩ := hrel
    have hb := hr
    obtain ⟨b1, b2, b3, b4, _⟩ := hb
    have hq := sq_nonneg (r + s)
    have hq2 : (r + s) * (r + s) ≤ 4611686018427387904 := sq_le_sq (b := 2147483648) (by omega) (by omega)
    have HR := Lib.hid hr
    clear hr
    by_cases hs : s = 0
    · subst hs
      have HD := Lib.hid (RootInv.done HR.out)
      go_wp2
      go_ret
      exact ⟨by rw [HD.out]; rfl, rfl⟩
    · by_cases hc : (r + s) * (r + s) ≤ n
      · go_wp2
        go_round
        case rel => exact ⟨r + s, s / 2, rfl, rfl, by have := HR.out.next hs; rw [if_pos hc] at this; exact this⟩
        case measure => simp [intOf]; omega
      · go_wp2
        go_round
        case rel => exact ⟨r, s / 2, rfl, rfl, by have := HR.out.next hs; rw [if_neg hc] at this; exact this⟩
        case measure => simp [intOf]; omega

end Go.Proofs.YtimbdnngeoccdaaDoor
