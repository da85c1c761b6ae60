/-
  The iterator over a year's months, and DayOf, of span.
-/
import Derived.Test.YtjkcgbidceakjaaDoorD16
import Derived.Test.YtjkcgbidceakjaaDoorRange
namespace Go.Proofs.YtjkcgbidceakjaaDoor
open Go.RowKit Go.Shelf
attribute [local go_sem] Oper.semAt_some
set_option linter.unusedVariables false
set_option linter.unusedSimpArgs false
theorem firsts_c (y : Int) (w : World) : Calls Tryd.prog 68 #[.int .i64 y] w fun e w' => e = .returned (.func (.func 84) #[] #[.pointer (some ⟨w.heap.size, 0, none⟩)]) ∧ w' = w.alloc (.cells #[.int .i64 y] 3) := by
  go_enter Tryd.func68, Tryd.ntmps68
  go_wp2
  go_ret
  exact ⟨rfl, rfl⟩
def firstsF (y : Int) : Nat → Nat → List (Int × Int)
  | _, 0 => []
  | k, n + 1 => (before y + mbef y k, (k : Int) + 1) :: firstsF y (k + 1) n
theorem firstsF_mem (y : Int) : ∀ (n k : Nat) (p : Int × Int), p ∈ firstsF y k n ↔ ∃ j : Nat, k ≤ j ∧ j < k + n ∧ p = (before y + mbef y j, (j : Int) + 1) := by
  intro n
  induction n with
  | zero => intro k p; simp [firstsF]; intro j h1 h2; omega
  | succ n ih =>
    intro k p
    rw [firstsF, List.mem_cons, ih]
    constructor
    · rintro (rfl | ⟨j, h1, h2, rfl⟩)
      · exact ⟨k, Nat.le_refl _, by omega, rfl⟩
      · exact ⟨j, by omega, by omega, rfl⟩
    · rintro ⟨j, h1, h2, rfl⟩
      rcases Nat.lt_or_ge k j with h | h
      · exact Or.inr ⟨j, h, by omega, rfl⟩
      · obtain rfl : j = k := by omega
        exact Or.inl rfl
theorem idx_months (y : Int) (k : Nat) (hk : k < 12) (W : World) : (Instr.index 67 (monthsV y) (.int .i64 (k : Int))).run Tryd.prog W = .ok (.int .i64 (mlen y ((k : Int) + 1))) W := by
  have h : k = 0 ∨ k = 1 ∨ k = 2 ∨ k = 3 ∨ k = 4 ∨ k = 5 ∨ k = 6 ∨ k = 7 ∨ k = 8 ∨ k = 9 ∨ k = 10 ∨ k = 11 := by omega
  have e : ∀ f : Int, (Instr.index 67 (.agg #[.int .i64 31, .int .i64 f, .int .i64 31, .int .i64 30, .int .i64 31, .int .i64 30, .int .i64 31, .int .i64 31, .int .i64 30, .int .i64 31, .int .i64 30, .int .i64 31]) (.int .i64 (k : Int))).run Tryd.prog W = .ok (.int .i64 ([31, f, 31, 30, 31, 30, 31, 31, 30, 31, 30, 31].getD k 0)) W := by
    intro f
    rcases h with rfl | rfl | rfl | rfl | rfl | rfl | rfl | rfl | rfl | rfl | rfl | rfl <;> (refine Eq.trans ?_ rfl; kernel_rfl)
  unfold monthsV
  rw [e]
  rcases h with rfl | rfl | rfl | rfl | rfl | rfl | rfl | rfl | rfl | rfl | rfl | rfl <;> rfl
set_option maxHeartbeats 1000000 in
theorem firsts_stops (y : Int) (h0 : 1700 ≤ y) (h1 : y ≤ 2200) (lo hi bl : Nat) (w : World) (hbl' : bl < w.heap.size) (cl : w.cell? ⟨bl, 0, none⟩ = some (.int .i64 y)) :
    SeqB Tryd.prog 84 #[.pointer (some ⟨bl, 0, none⟩)] (fun p : Int × Int => #[.int .i64 p.1, .int .i64 p.2]) (fun xs => xs = firstsF y 0 12) (fun pre => pre <+: firstsF y 0 12) 12 lo hi w := by
  intro n l0 J Jx W hW hJ hJx hY hj0
  refine callsIn_of_wp Tryd.func84 rfl trivial ?_ rfl
  simp only [Tryd.ntmps84, List.size_toArray, List.length_cons, List.length_nil, Nat.reduceAdd, Nat.reduceSub, Array.replicate_succ, Array.replicate_zero, List.push_toArray, List.append_toArray, List.nil_append, List.cons_append]
  have k0 := (hW.cell (p := ⟨bl, 0, none⟩) hbl').trans cl
  have hbl := before_lin h0 (show y ≤ 2201 by omega)
  clear cl
  gi_wp2
  refine ⟨trivial, (callsIn_wide.2 (before_c y h0 (by omega) _)).mono ?_⟩
  rintro e w' ⟨rfl, rfl⟩
  gi_wp2
  refine ⟨trivial, (callsIn_wide.2 (months_c y _)).mono ?_⟩
  rintro e w1 ⟨rfl, hb⟩
  have j1 := hJ _ _ _ hj0 hb
  clear k0 hb
  gi_wp2
  gi_loopw [3, 10] (fun d i wr => ∃ (k : Nat) (pre : List (Int × Int)), k ≤ 12 ∧ i = .int .i64 k ∧ d = .int .i64 (before y + mbef y k) ∧ pre.length = k ∧ J pre wr ∧ firstsF y 0 12 = pre ++ firstsF y k (12 - k)) (fun d i _ => 12 - (intOf i).toNat)
  case atStart => exact ⟨0, [], by omega, rfl, by simp [mbef], rfl, j1, rfl⟩
  case round =>
    obtain ⟨k, pre, hk, rfl, rfl, hp, hj, hst⟩ := hrel
    have HS := Lib.hid hst
    clear hst
    by_cases hlt : k < 12
    · have hix : ∀ W, (Instr.index 67 (monthsV y) (.int .i64 (k : Int))).run Tryd.prog W = .ok (.int .i64 (mlen y ((k : Int) + 1))) W := fun W => idx_months y k hlt W
      have hm0 := mbef_nonneg y k
      have hm1 := mbef_mono y (show k ≤ 12 by omega)
      rw [mbef_12] at hm1
      have hyl := ylen_bd y
      have hml := mlen_bd y ((k : Int) + 1)
      obtain ⟨fn, tmps, assign, body, hy, hR⟩ := hY pre (before y + mbef y k, (k : Int) + 1) _ hj (by omega)
      dsimp only at hy
      gi_wp2
      refine hR.mono ?_
      have HZ := Lib.hid (show firstsF y k (12 - k) = (before y + mbef y k, (k : Int) + 1) :: firstsF y (k + 1) (12 - (k + 1)) by rw [show 12 - k = 12 - (k + 1) + 1 by omega, firstsF])
      rintro e W3 (⟨rfl, hJ3, hk3⟩ | ⟨rfl, hJx3⟩)
      · gi_wp2
        go_roundw
        case rel => exact ⟨k + 1, pre ++ [(before y + mbef y k, (k : Int) + 1)], by omega, by go_num, by rw [show mbef y (k + 1) = mbef y k + mlen y ((k : Int) + 1) from rfl]; congr 1; omega, by simp [hp], hJ3, by rw [HS.out, HZ.out]; simp⟩
        case measure => simp [intOf]; omega
      · gi_wp2
        refine bodyPost_ret (results_none rfl _ _ _) rfl ?_
        exact ⟨⟨_, rfl⟩, .inr ⟨_, ⟨firstsF y (k + 1) (12 - (k + 1)), by rw [HS.out, HZ.out]; simp⟩, hJx3⟩⟩
    · obtain rfl : k = 12 := by omega
      gi_wp2
      go_end0
      exact ⟨⟨_, rfl⟩, .inl ⟨pre, by rw [HS.out]; simp [firstsF], hj⟩⟩
end Go.Proofs.YtjkcgbidceakjaaDoor
