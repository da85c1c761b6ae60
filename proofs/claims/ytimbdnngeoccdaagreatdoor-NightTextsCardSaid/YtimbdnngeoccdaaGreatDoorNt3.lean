/-
  cmp.Compare, cmp.Or at ints and texts; order of night. No conditions.
-/
import Derived.Test.YtimbdnngeoccdaaGreatDoorNt2
import Derived.Test.YtimbdnngeoccdaaGreatDoorNt0
namespace Go.Proofs.YtimbdnngeoccdaaGreatDoor
open Go.RowKit
set_option linter.unusedVariables false
set_option linter.unusedSimpArgs false
def sgnI (a b : Int) : Int := if a < b then -1 else if b < a then 1 else 0
theorem nanI_c (a : Int) (w : World) : Calls Tryz.prog 98 #[.int .i64 a] w fun e w' => e = .returned (.bool false) ∧ w' = w := by
  go_enter Tryz.func98, Tryz.ntmps98
  go_wp2
  go_ret
  exact ⟨rfl, rfl⟩
theorem nanS_c (a : ByteArray) (w : World) : Calls Tryz.prog 99 #[.string a] w fun e w' => e = .returned (.bool false) ∧ w' = w := by
  go_enter Tryz.func99, Tryz.ntmps99
  go_wp2
  go_ret
  exact ⟨rfl, rfl⟩
theorem CompareI_c (a b : Int) (w : World) : Calls Tryz.prog 67 #[.int .i64 a, .int .i64 b] w fun e w' => e = .returned (.int .i64 (sgnI a b)) ∧ w' = w := by
  have H1 := Lib.hid (fun a W => nanI_c a W)
  rcases Int.lt_trichotomy a b with h | rfl | h
  · have d1 : decide (a < b) = true := decide_eq_true h
    have HE := Lib.hid (show sgnI a b = -1 by unfold sgnI; rw [if_pos h])
    clear h
    go_enter Tryz.func67, Tryz.ntmps67
    go_wp2_with fail
    refine (H1.out a _).mono ?_
    rintro e w' ⟨rfl, rfl⟩
    go_wp2_with fail
    refine (H1.out b _).mono ?_
    rintro e w' ⟨rfl, rfl⟩
    go_wp2
    go_ret
    exact ⟨by rw [HE.out]; rfl, rfl⟩
  · have d1 : decide (a < a) = false := decide_eq_false (by omega)
    have HE := Lib.hid (show sgnI a a = 0 by unfold sgnI; rw [if_neg (by omega), if_neg (by omega)])
    go_enter Tryz.func67, Tryz.ntmps67
    go_wp2_with fail
    refine (H1.out a _).mono ?_
    rintro e w' ⟨rfl, rfl⟩
    go_wp2_with fail
    refine (H1.out a _).mono ?_
    rintro e w' ⟨rfl, rfl⟩
    go_wp2
    go_ret
    exact ⟨by rw [HE.out]; rfl, rfl⟩
  · have d1 : decide (a < b) = false := decide_eq_false (by omega)
    have d2 : decide (a > b) = true := decide_eq_true h
    have d3 : decide (b < a) = true := decide_eq_true h
    have HE := Lib.hid (show sgnI a b = 1 by unfold sgnI; rw [if_neg (by omega), if_pos h])
    clear h
    go_enter Tryz.func67, Tryz.ntmps67
    go_wp2_with fail
    refine (H1.out a _).mono ?_
    rintro e w' ⟨rfl, rfl⟩
    go_wp2_with fail
    refine (H1.out b _).mono ?_
    rintro e w' ⟨rfl, rfl⟩
    go_wp2
    go_ret
    exact ⟨by rw [HE.out]; rfl, rfl⟩
def sgnS (a b : ByteArray) : Int := if Op.bytesLess a.toList b.toList = true then -1 else if (a.toList == b.toList) = true then 0 else 1
theorem CompareS_c (a b : ByteArray) (w : World) : Calls Tryz.prog 68 #[.string a, .string b] w fun e w' => e = .returned (.int .i64 (sgnS a b)) ∧ w' = w := by
  have H1 := Lib.hid (fun a W => nanS_c a W)
  cases hL : Op.bytesLess a.toList b.toList
  · cases hE : (a.toList == b.toList)
    · have HE := Lib.hid (show sgnS a b = 1 by unfold sgnS; rw [if_neg (by rw [hL]; simp), if_neg (by rw [hE]; simp)])
      go_enter Tryz.func68, Tryz.ntmps68
      go_wp2_with fail
      refine (H1.out a _).mono ?_
      rintro e w' ⟨rfl, rfl⟩
      go_wp2_with fail
      refine (H1.out b _).mono ?_
      rintro e w' ⟨rfl, rfl⟩
      go_wp2
      go_ret
      exact ⟨by rw [HE.out]; rfl, rfl⟩
    · have HE := Lib.hid (show sgnS a b = 0 by unfold sgnS; rw [if_neg (by rw [hL]; simp), if_pos hE])
      go_enter Tryz.func68, Tryz.ntmps68
      go_wp2_with fail
      refine (H1.out a _).mono ?_
      rintro e w' ⟨rfl, rfl⟩
      go_wp2_with fail
      refine (H1.out b _).mono ?_
      rintro e w' ⟨rfl, rfl⟩
      go_wp2
      go_ret
      exact ⟨by rw [HE.out]; rfl, rfl⟩
  · have HE := Lib.hid (show sgnS a b = -1 by unfold sgnS; rw [if_pos hL])
    go_enter Tryz.func68, Tryz.ntmps68
    go_wp2_with fail
    refine (H1.out a _).mono ?_
    rintro e w' ⟨rfl, rfl⟩
    go_wp2_with fail
    refine (H1.out b _).mono ?_
    rintro e w' ⟨rfl, rfl⟩
    go_wp2
    go_ret
    exact ⟨by rw [HE.out]; rfl, rfl⟩
/-- The first of numbers that is not 0. -/
def orI : List Int → Int
  | [] => 0
  | x :: l => if x = 0 then orI l else x
set_option maxHeartbeats 1000000 in
theorem OrI_c (l : List Int) (n : Nat) (hn : l.length = n) (hm : n ≤ 1000) (A : Option Addr) (cap : Nat) (w : World) (hr : RdL w w.heap.size inE 1 A l) :
    Calls Tryz.prog 66 #[.slice A n cap] w fun e w' => e = .returned (.int .i64 (orI l)) ∧ w' = w := by
  have HR := Lib.hid hr
  have HN := Lib.hid hn
  clear hr hn
  go_enter Tryz.func66, Tryz.ntmps66
  go_wp2
  go_loopw [8] (fun i wr => ∃ k : Nat, k ≤ n ∧ i = .int .i64 k ∧ orI l = orI (l.drop k) ∧ w = wr) (fun i _ => n - (intOf i).toNat)
  case atStart => exact ⟨0, Nat.zero_le _, rfl, rfl, rfl⟩
  case round =>
    obtain ⟨k, hk, rfl, he, rfl⟩ := hrel
    have HE := Lib.hid he
    clear he
    by_cases hlt : k < n
    · have hl1 : k < l.length := by rw [HN.out]; exact hlt
      obtain ⟨p, hp⟩ : ∃ p, p = l[k] := ⟨_, rfl⟩
      have HD := Lib.hid (show orI (l.drop k) = if p = 0 then orI (l.drop (k + 1)) else p by rw [List.drop_eq_getElem_cons hl1, ← hp]; rfl)
      obtain ⟨b, off, rfl, hb0, hc⟩ := HR.out (by omega)
      have c0 := hc k hl1 0 _ rfl
      clear hc
      have e0 : w.cell? ⟨b, off + k, none⟩ = some (.int .i64 p) := by rw [hp]; simpa using c0
      clear c0 hp hl1
      by_cases hz : p = 0
      · subst hz
        have HE2 := Lib.hid (show orI l = orI (l.drop (k + 1)) by rw [HE.out, HD.out, if_pos rfl])
        go_wp2
        go_roundw
        case rel => exact ⟨k + 1, by omega, by go_num, HE2.out, trivial⟩
        case measure => simp [intOf]; omega
      · have q1 : (p != 0) = true := by simp [hz]
        have q2 : (p == 0) = false := by simp [hz]
        have HE2 := Lib.hid (show orI l = p by rw [HE.out, HD.out, if_neg hz])
        clear hz
        go_wp2
        go_ret
        exact ⟨by rw [HE2.out]; rfl, rfl⟩
    · obtain rfl : k = n := by omega
      have HE2 := Lib.hid (show orI l = 0 by rw [HE.out, List.drop_of_length_le (by rw [HN.out]; exact Nat.le_refl _)]; rfl)
      go_wp2
      go_ret
      exact ⟨by rw [HE2.out]; rfl, rfl⟩
end Go.Proofs.YtimbdnngeoccdaaGreatDoor
