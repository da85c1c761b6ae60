/-
  Bundle K1: A1, A2, A3, A4, A5, A6, A7, A8, A9, A10. Printed by bundle.py.
-/
import Derived.Test.YtbcabckokmjelaaPre
import Derived.BigQuiet
import Derived.Deep.QuietTactic
import Derived.Lib.ConvBytes
import Derived.Test.YtbcabckokmjelaaTypes
namespace Go.Proofs.Ytbcabckokmjelaa
open Go.RowKit
set_option linter.unusedVariables false
set_option linter.unusedSimpArgs false
def within (n lo hi : Int) : Bool := decide (lo ≤ n) && decide (n ≤ hi)
theorem within_true {n lo hi : Int} (h : within n lo hi = true) : lo ≤ n ∧ n ≤ hi := by simpa [within] using h
theorem within_false {n lo hi : Int} (h : within n lo hi = false) : n < lo ∨ hi < n := by
  simp only [within, Bool.and_eq_false_iff, decide_eq_false_iff_not] at h; omega
theorem within_c (n lo hi : Int) (w : World) :
    Calls Try.prog 54 #[.int .i64 n, .int .i64 lo, .int .i64 hi] w fun e w' => e = .returned (.bool (within n lo hi)) ∧ w' = w := by
  by_cases h : lo ≤ n
  all_goals
    go_enter Try.func54, Try.ntmps54
    go_wp2
    go_ret
    exact ⟨by simp [within] <;> omega, rfl⟩
theorem rwithin_c (n lo hi : Int) (w : World) :
    Calls Try.prog 55 #[.int .i64 n, .int .i64 lo, .int .i64 hi] w fun e w' => e = .returned (.bool (within n lo hi)) ∧ w' = w := by
  by_cases h : lo ≤ n
  all_goals
    go_enter Try.func55, Try.ntmps55
    go_wp2
    go_ret
    exact ⟨by simp [within] <;> omega, rfl⟩
theorem tdiv_floor (n d : Int) (hd : 0 < d) : (0 ≤ n.tmod d → n / d = n.tdiv d) ∧ (n.tmod d < 0 → n / d = n.tdiv d - 1) := by
  have h1 := Int.mul_tdiv_add_tmod n d
  have h2 : n.tmod d < d := Int.tmod_lt_of_pos n hd
  have h3 : -d < n.tmod d := by
    have := Int.tmod_lt_of_pos (-n) hd
    rw [Int.neg_tmod] at this
    omega
  have e : d * (n.tdiv d - 1) = d * n.tdiv d - d := by rw [Int.mul_sub, Int.mul_one]
  exact ⟨fun h => ((Int.ediv_emod_unique (a := n) (r := n.tmod d) (q := n.tdiv d) hd).2 ⟨by omega, h, h2⟩).1,
    fun h => ((Int.ediv_emod_unique (a := n) (r := n.tmod d + d) (q := n.tdiv d - 1) hd).2 ⟨by omega, by omega, by omega⟩).1⟩
theorem tdiv_small (n d : Int) (hd : 0 < d) (h0 : -4000000000000000000 ≤ n) (h1 : n ≤ 4000000000000000000) : -4000000000000000000 ≤ n.tdiv d ∧ n.tdiv d ≤ 4000000000000000000 := by
  have := Int.natAbs_tdiv_le_natAbs n d
  omega
theorem down_c (n d : Int) (hd : 0 < d) (hd2 : d ≤ 1000000000) (h0 : -4000000000000000000 ≤ n) (h1 : n ≤ 4000000000000000000) (w : World) :
    Calls Try.prog 59 #[.int .i64 n, .int .i64 d] w fun e w' => e = .returned (.int .i64 (n / d)) ∧ w' = w := by
  obtain ⟨f1, f2⟩ := tdiv_floor n d hd
  obtain ⟨b1, b2⟩ := tdiv_small n d hd h0 h1
  have e1 := Int.mul_tdiv_add_tmod n d
  have r1 : n.tmod d < d := Int.tmod_lt_of_pos n hd
  have r2 : -d < n.tmod d := by
    have := Int.tmod_lt_of_pos (-n) hd
    rw [Int.neg_tmod] at this
    omega
  have ec : n.tdiv d * d = d * n.tdiv d := Int.mul_comm _ _
  have hdz : d ≠ 0 := by omega
  have w1 : IntKind.i64.wrap (n.tdiv d) = n.tdiv d := IntWalk.i64_in _ (by omega)
  have w2 : IntKind.i64.wrap (n.tdiv d * d) = n.tdiv d * d := IntWalk.i64_in _ (by omega)
  have w3 : IntKind.i64.wrap (n.tdiv d - 1) = n.tdiv d - 1 := IntWalk.i64_in _ (by omega)
  by_cases h : n < n.tdiv d * d
  · rw [f2 (by omega)]
    clear f1 f2 e1 ec r1 r2
    go_enter Try.func59, Try.ntmps59
    go_wp2
    go_ret
    exact ⟨rfl, rfl⟩
  · rw [f1 (by omega)]
    clear f1 f2 e1 ec r1 r2
    go_enter Try.func59, Try.ntmps59
    go_wp2
    go_ret
    exact ⟨rfl, rfl⟩
end Go.Proofs.Ytbcabckokmjelaa
namespace Go.Proofs.Ytbcabckokmjelaa
open Go.RowKit
set_option linter.unusedVariables false
set_option linter.unusedSimpArgs false
theorem rdown_c (n d : Int) (hd : 0 < d) (hd2 : d ≤ 1000000000) (h0 : -4000000000000000000 ≤ n) (h1 : n ≤ 4000000000000000000) (w : World) :
    Calls Try.prog 51 #[.int .i64 n, .int .i64 d] w fun e w' => e = .returned (.int .i64 (n / d)) ∧ w' = w := by
  obtain ⟨f1, f2⟩ := tdiv_floor n d hd
  obtain ⟨b1, b2⟩ := tdiv_small n d hd h0 h1
  have r1 : n.tmod d < d := Int.tmod_lt_of_pos n hd
  have r2 : -d < n.tmod d := by
    have := Int.tmod_lt_of_pos (-n) hd
    rw [Int.neg_tmod] at this
    omega
  have hdz : d ≠ 0 := by omega
  have w1 : IntKind.i64.wrap (n.tdiv d) = n.tdiv d := IntWalk.i64_in _ (by omega)
  have w2 : IntKind.i64.wrap (n.tmod d) = n.tmod d := IntWalk.i64_in _ (by omega)
  have w3 : IntKind.i64.wrap (n.tdiv d - 1) = n.tdiv d - 1 := IntWalk.i64_in _ (by omega)
  by_cases h : n.tmod d < 0
  · rw [f2 h]
    clear f1 f2 r1 r2
    go_enter Try.func51, Try.ntmps51
    go_wp2
    go_ret
    exact ⟨rfl, rfl⟩
  · rw [f1 (by omega)]
    clear f1 f2 r1 r2
    go_enter Try.func51, Try.ntmps51
    go_wp2
    go_ret
    exact ⟨rfl, rfl⟩
/-- A number, folded. -/
def foldD (d : Int) : Int := d - (d + 43200000) / 86400000 * 86400000
theorem foldD_bd (d : Int) : -43200000 ≤ foldD d ∧ foldD d < 43200000 := by unfold foldD; omega
theorem folded_c (d : Int) (h0 : -4000000000000 ≤ d) (h1 : d ≤ 4000000000000) (w : World) : Calls Try.prog 52 #[.int .i64 d] w fun e w' => e = .returned (.int .i64 (foldD d)) ∧ w' = w := by
  have HD := Lib.hid (fun W => down_c (d + 43200000) 86400000 (by omega) (by omega) (by omega) (by omega) W)
  unfold foldD
  have w1 : IntKind.i64.wrap (d + 43200000) = d + 43200000 := IntWalk.i64_in _ (by omega)
  have w2 : IntKind.i64.wrap ((d + 43200000) / 86400000 * 86400000) = (d + 43200000) / 86400000 * 86400000 := IntWalk.i64_in _ (by omega)
  have w3 : IntKind.i64.wrap (d - (d + 43200000) / 86400000 * 86400000) = d - (d + 43200000) / 86400000 * 86400000 := IntWalk.i64_in _ (by omega)
  go_enter Try.func52, Try.ntmps52
  go_wp2_with fail
  refine (HD.out _).mono ?_
  rintro e w' ⟨rfl, rfl⟩
  go_wp2
  go_ret
  exact ⟨rfl, rfl⟩
theorem rfolded_c (d : Int) (h0 : -4000000000000 ≤ d) (h1 : d ≤ 4000000000000) (w : World) : Calls Try.prog 53 #[.int .i64 d] w fun e w' => e = .returned (.int .i64 (foldD d)) ∧ w' = w := by
  have e0 := Int.mul_tdiv_add_tmod d 86400000
  have r1 : d.tmod 86400000 < 86400000 := Int.tmod_lt_of_pos d (by omega)
  have r2 : -86400000 < d.tmod 86400000 := by
    have := Int.tmod_lt_of_pos (-d) (show (0 : Int) < 86400000 by omega)
    rw [Int.neg_tmod] at this
    omega
  have w1 : IntKind.i64.wrap (d.tmod 86400000) = d.tmod 86400000 := IntWalk.i64_in _ (by omega)
  have w2 : IntKind.i64.wrap (d.tmod 86400000 + 86400000) = d.tmod 86400000 + 86400000 := IntWalk.i64_in _ (by omega)
  have w3 : IntKind.i64.wrap (d.tmod 86400000 - 86400000) = d.tmod 86400000 - 86400000 := IntWalk.i64_in _ (by omega)
  by_cases g1 : d.tmod 86400000 < -43200000
  · have g2 : ¬ 43200000 ≤ d.tmod 86400000 + 86400000 := by omega
    rw [show foldD d = d.tmod 86400000 + 86400000 by unfold foldD; omega]
    clear e0 r1 r2
    go_enter Try.func53, Try.ntmps53
    go_wp2
    go_ret
    exact ⟨rfl, rfl⟩
  · by_cases g2 : 43200000 ≤ d.tmod 86400000
    · rw [show foldD d = d.tmod 86400000 - 86400000 by unfold foldD; omega]
      clear e0 r1 r2
      go_enter Try.func53, Try.ntmps53
      go_wp2
      go_ret
      exact ⟨rfl, rfl⟩
    · rw [show foldD d = d.tmod 86400000 by unfold foldD; omega]
      clear e0 r1 r2
      go_enter Try.func53, Try.ntmps53
      go_wp2
      go_ret
      exact ⟨rfl, rfl⟩
end Go.Proofs.Ytbcabckokmjelaa
namespace Go.Proofs.Ytbcabckokmjelaa
open Go.RowKit
set_option linter.unusedVariables false
set_option linter.unusedSimpArgs false
def foV (d : Int) : Int := if within d (-1000000000000) 1000000000000 then foldD d else 0
def foE (d : Int) : Int := if within d (-1000000000000) 1000000000000 then 0 else 7
theorem Folded_c (d : Int) (w : World) : Calls Try.prog 18 #[.int .i64 d] w fun e w' => e = .returned (.tuple #[.int .i64 (foV d), .int .i64 (foE d)]) ∧ w' = w := by
  have HW := Lib.hid (fun W => within_c d (-1000000000000) 1000000000000 W)
  unfold foV foE
  cases h : within d (-1000000000000) 1000000000000
  · rw [h] at HW
    clear h
    go_enter Try.func18, Try.ntmps18
    go_wp2_with fail
    refine (HW.out _).mono ?_
    rintro e w' ⟨rfl, rfl⟩
    go_wp2
    go_ret2
    exact ⟨rfl, rfl⟩
  · rw [h] at HW
    obtain ⟨h1, h2⟩ := within_true h
    have HF := Lib.hid (fun W => folded_c d (by omega) (by omega) W)
    clear h h1 h2
    go_enter Try.func18, Try.ntmps18
    go_wp2_with fail
    refine (HW.out _).mono ?_
    rintro e w' ⟨rfl, rfl⟩
    go_wp2_with fail
    refine (HF.out _).mono ?_
    rintro e w' ⟨rfl, rfl⟩
    go_wp2
    go_ret2
    exact ⟨rfl, rfl⟩
theorem rFolded_c (d : Int) (w : World) : Calls Try.prog 19 #[.int .i64 d] w fun e w' => e = .returned (.tuple #[.int .i64 (foV d), .int .i64 (foE d)]) ∧ w' = w := by
  have HW := Lib.hid (fun W => rwithin_c d (-1000000000000) 1000000000000 W)
  unfold foV foE
  cases h : within d (-1000000000000) 1000000000000
  · rw [h] at HW
    clear h
    go_enter Try.func19, Try.ntmps19
    go_wp2_with fail
    refine (HW.out _).mono ?_
    rintro e w' ⟨rfl, rfl⟩
    go_wp2
    go_ret2
    exact ⟨rfl, rfl⟩
  · rw [h] at HW
    obtain ⟨h1, h2⟩ := within_true h
    have HF := Lib.hid (fun W => rfolded_c d (by omega) (by omega) W)
    clear h h1 h2
    go_enter Try.func19, Try.ntmps19
    go_wp2_with fail
    refine (HW.out _).mono ?_
    rintro e w' ⟨rfl, rfl⟩
    go_wp2_with fail
    refine (HF.out _).mono ?_
    rintro e w' ⟨rfl, rfl⟩
    go_wp2
    go_ret2
    exact ⟨rfl, rfl⟩
end Go.Proofs.Ytbcabckokmjelaa
namespace Go.Proofs.Ytbcabckokmjelaa
open Go.RowKit
set_option linter.unusedVariables false
set_option linter.unusedSimpArgs false
def byteAt (s : ByteArray) (k : Nat) : Nat := (s.data.toList.getD k 0).toNat
theorem byte_get (s : ByteArray) (k : Nat) (h : k < s.size) : s[k].toNat = byteAt s k := by
  unfold byteAt
  rw [List.getD_eq_getElem?_getD, List.getElem?_eq_getElem (by rw [Array.length_toList]; exact h)]
  rfl
/-- Whether a byte may stand at a place of a name. -/
def okI (k c : Nat) : Bool := (decide (97 ≤ c) && decide (c ≤ 122)) || (decide (k ≠ 0) && ((decide (48 ≤ c) && decide (c ≤ 57)) || decide (c = 95)))
def chk (s : ByteArray) : Nat → Nat → Bool
  | 0, _ => true
  | n + 1, k => okI k (byteAt s k) && chk s n (k + 1)
def nameB (s : ByteArray) : Bool := chk s s.size 0 && within s.size 1 16
theorem chk_step {s : ByteArray} {k : Nat} (h : k < s.size) : chk s (s.size - k) k = (okI k (byteAt s k) && chk s (s.size - (k + 1)) (k + 1)) := by
  rw [show s.size - k = s.size - (k + 1) + 1 by omega, chk]
theorem ok_cases (k c : Nat) : (okI k c = true ∧ (97 ≤ c ∧ c ≤ 122 ∨ k ≠ 0 ∧ (48 ≤ c ∧ c ≤ 57 ∨ c = 95))) ∨
    (okI k c = false ∧ ((k = 0 ∧ (c < 97 ∨ 122 < c)) ∨ k ≠ 0 ∧ (c < 48 ∨ 57 < c ∧ c < 97 ∧ c ≠ 95 ∨ 122 < c))) := by
  cases h : okI k c <;> simp only [okI, Bool.or_eq_true, Bool.and_eq_true, decide_eq_true_eq, Bool.or_eq_false_iff, Bool.and_eq_false_iff, decide_eq_false_iff_not] at h
  · exact Or.inr ⟨rfl, by omega⟩
  · exact Or.inl ⟨rfl, by omega⟩
set_option maxHeartbeats 2000000 in
theorem rname_c (s : ByteArray) (hs : s.size ≤ 9223372036854775807) (w : World) : Calls Try.prog 57 #[.string s] w fun e w' => e = .returned (.bool (nameB s)) ∧ Below w.heap.size w w' := by
  have HW := Lib.hid (fun W => rwithin_c s.size 1 16 W)
  go_enter Try.func57, Try.ntmps57
  go_wp2
  go_loopw [3] (fun i wr => ∃ k : Nat, k ≤ s.size ∧ i = .int .i64 k ∧ Below w.heap.size w wr ∧ chk s s.size 0 = chk s (s.size - k) k) (fun i _ => s.size - (intOf i).toNat)
  case atStart => exact ⟨0, Nat.zero_le _, rfl, Below.refl _ _, rfl⟩
  case round =>
    obtain ⟨k, hk, rfl, hbw, hx⟩ := hrel
    have HX := Lib.hid hx
    clear hx
    by_cases hlt : k < s.size
    · have HST := Lib.hid (chk_step hlt)
      have hbg := byte_get s k hlt
      generalize byteAt s k = c at *
      rcases ok_cases k c with ⟨ho, h1 | ⟨h0, h2 | h3⟩⟩ | ⟨ho, ⟨h0, h1 | h1⟩ | ⟨h0, h1 | h1 | h1⟩⟩
      · obtain ⟨g1, g2⟩ := h1
        have HO := Lib.hid ho
        clear ho
        go_wp2
        go_roundw
        case rel => exact ⟨k + 1, by omega, by go_num, hbw, by rw [HX.out, HST.out, HO.out]; rfl⟩
        case measure => simp [intOf]; omega
      · obtain ⟨g1, g2⟩ := h2
        have g3 : c < 97 := by omega
        have g4 : ¬ c = 95 := by omega
        have HO := Lib.hid ho
        clear ho
        go_wp2
        go_roundw
        case rel => exact ⟨k + 1, by omega, by go_num, hbw, by rw [HX.out, HST.out, HO.out]; rfl⟩
        case measure => simp [intOf]; omega
      · have g1 : c < 97 := by omega
        have g2 : 57 < c := by omega
        have HO := Lib.hid ho
        clear ho
        go_wp2
        go_roundw
        case rel => exact ⟨k + 1, by omega, by go_num, hbw, by rw [HX.out, HST.out, HO.out]; rfl⟩
        case measure => simp [intOf]; omega
      · subst h0
        have HO := Lib.hid (show nameB s = false by unfold nameB; rw [HX.out, HST.out, ho]; rfl)
        clear ho
        go_wp2
        go_ret
        exact ⟨by rw [HO.out]; rfl, hbw⟩
      · subst h0
        have g3 : 97 ≤ c := by omega
        have q3 : decide ((c : Int) ≤ 122) = false := decide_eq_false (by omega)
        have HO := Lib.hid (show nameB s = false by unfold nameB; rw [HX.out, HST.out, ho]; rfl)
        clear ho
        go_wp2
        go_ret
        exact ⟨by rw [HO.out]; rfl, hbw⟩
      · have g1 : c < 97 := by omega
        have q1 : ((c : Int) != 95) = true := by simp; omega
        have q2 : ((k : Int) == 0) = false := by simp; omega
        have HO := Lib.hid (show nameB s = false by unfold nameB; rw [HX.out, HST.out, ho]; rfl)
        clear ho
        go_wp2
        go_ret
        exact ⟨by rw [HO.out]; rfl, hbw⟩
      · obtain ⟨g1, g2, g3⟩ := h1
        have g4 : 48 ≤ c := by omega
        have q1 : ((c : Int) != 95) = true := by simp; omega
        have q2 : ((k : Int) == 0) = false := by simp; omega
        have q4 : decide ((c : Int) ≤ 57) = false := decide_eq_false (by omega)
        have HO := Lib.hid (show nameB s = false by unfold nameB; rw [HX.out, HST.out, ho]; rfl)
        clear ho
        go_wp2
        go_ret
        exact ⟨by rw [HO.out]; rfl, hbw⟩
      · have g3 : 97 ≤ c := by omega
        have g4 : 48 ≤ c := by omega
        have g5 : 57 < c := by omega
        have g6 : c ≠ 95 := by omega
        have q1 : ((c : Int) != 95) = true := by simp; omega
        have q2 : ((k : Int) == 0) = false := by simp; omega
        have q3 : decide ((c : Int) ≤ 122) = false := decide_eq_false (by omega)
        have q4 : decide ((c : Int) ≤ 57) = false := decide_eq_false (by omega)
        have HO := Lib.hid (show nameB s = false by unfold nameB; rw [HX.out, HST.out, ho]; rfl)
        clear ho
        go_wp2
        go_ret
        exact ⟨by rw [HO.out]; rfl, hbw⟩
    · obtain rfl : k = s.size := by omega
      have HN := Lib.hid (show nameB s = within s.size 1 16 by unfold nameB; rw [HX.out, Nat.sub_self]; rfl)
      go_wp2_with fail
      refine (HW.out _).mono ?_
      rintro e w' ⟨rfl, rfl⟩
      go_wp2
      go_ret
      exact ⟨by rw [HN.out]; rfl, hbw⟩
end Go.Proofs.Ytbcabckokmjelaa
namespace Go.Proofs.Ytbcabckokmjelaa
open Go.RowKit
set_option linter.unusedVariables false
set_option linter.unusedSimpArgs false
set_option maxHeartbeats 4000000 in
theorem name_c (s : ByteArray) (hs : s.size ≤ 9223372036854775807) (w : World) : Calls Try.prog 56 #[.string s] w fun e w' => e = .returned (.bool (nameB s)) ∧ Below w.heap.size w w' := by
  have HW := Lib.hid (fun W => within_c s.size 1 16 W)
  have hcv := Lib.run_convert_string_bytes (P := Try.prog) w 9 109 5 s (u := .string) Try.underlying9 Try.underlying109 Try.underlying5
  have HC := Lib.hid (fun j hj => Lib.bytesWorld_cell w 5 s j hj)
  have hsz := Lib.bytesWorld_size w 5 s
  have b0 : Below w.heap.size w (Lib.bytesWorld w 5 s) := ⟨rfl, rfl, rfl, by omega, fun k hk => Lib.bytesWorld_at_old w 5 s k hk⟩
  generalize Lib.bytesWorld w 5 s = W0 at *
  go_enter Try.func56, Try.ntmps56
  go_wp2
  clear hcv
  go_loopw [9] (fun i wr => ∃ k : Nat, k ≤ s.size ∧ i = .int .i64 k ∧ Below W0.heap.size W0 wr ∧ chk s s.size 0 = chk s (s.size - k) k) (fun i _ => s.size - (intOf i).toNat)
  case atStart => exact ⟨0, Nat.zero_le _, rfl, Below.refl _ _, rfl⟩
  case round =>
    obtain ⟨k, hk, rfl, hbw, hx⟩ := hrel
    have HX := Lib.hid hx
    clear hx
    by_cases hlt : k < s.size
    · have HST := Lib.hid (chk_step hlt)
      have hcl : wr.cell? ⟨w.heap.size, k, none⟩ = some (.int .u8 (byteAt s k : Nat)) := (hbw.cell (p := ⟨w.heap.size, k, none⟩) (by show w.heap.size < W0.heap.size; omega)).trans (HC.out k hlt)
      have hbl : w.heap.size < wr.heap.size := cell?_lt hcl
      have HIn := Lib.hid (fun W => within_c (byteAt s k : Nat) 48 57 W)
      have hc256 : byteAt s k < 256 := UInt8.toNat_lt _
      generalize byteAt s k = c at *
      rcases ok_cases k c with ⟨ho, h1 | ⟨h0, h2 | h3⟩⟩ | ⟨ho, ⟨h0, h1 | h1⟩ | ⟨h0, h1 | h1 | h1⟩⟩
      · obtain ⟨g1, g2⟩ := h1
        have HO := Lib.hid ho
        clear ho
        go_wp2_with (go_at_call 54; (with_reducible refine (HIn.out _).mono ?_); rintro e w' ⟨rfl, rfl⟩)
        go_roundw
        case rel => exact ⟨k + 1, by omega, by go_num, hbw, by rw [HX.out, HST.out, HO.out]; rfl⟩
        case measure => simp [intOf]; omega
      · obtain ⟨g1, g2⟩ := h2
        have g3 : c < 97 := by omega
        have q1 : ((c : Int) != 95) = true := by simp; omega
        have q2 : ((k : Int) == 0) = false := by simp; omega
        have hin : within (c : Int) 48 57 = true := by unfold within; simp; omega
        rw [hin] at HIn
        clear hin
        have HO := Lib.hid ho
        clear ho
        go_wp2_with (go_at_call 54; (with_reducible refine (HIn.out _).mono ?_); rintro e w' ⟨rfl, rfl⟩)
        go_roundw
        case rel => exact ⟨k + 1, by omega, by go_num, hbw, by rw [HX.out, HST.out, HO.out]; rfl⟩
        case measure => simp [intOf]; omega
      · have g1 : c < 97 := by omega
        have q2 : ((k : Int) == 0) = false := by simp; omega
        have HO := Lib.hid ho
        clear ho
        go_wp2_with (go_at_call 54; (with_reducible refine (HIn.out _).mono ?_); rintro e w' ⟨rfl, rfl⟩)
        go_roundw
        case rel => exact ⟨k + 1, by omega, by go_num, hbw, by rw [HX.out, HST.out, HO.out]; rfl⟩
        case measure => simp [intOf]; omega
      · subst h0
        have g1 : c < 97 := h1
        have HO := Lib.hid (show nameB s = false by unfold nameB; rw [HX.out, HST.out, ho]; rfl)
        clear ho
        go_wp2_with (go_at_call 54; (with_reducible refine (HIn.out _).mono ?_); rintro e w' ⟨rfl, rfl⟩)
        go_ret
        exact ⟨by rw [HO.out]; rfl, Below.step b0 hbw⟩
      · subst h0
        have g3 : 97 ≤ c := by omega
        have q3 : decide ((c : Int) ≤ 122) = false := decide_eq_false (by omega)
        have HO := Lib.hid (show nameB s = false by unfold nameB; rw [HX.out, HST.out, ho]; rfl)
        clear ho
        go_wp2_with (go_at_call 54; (with_reducible refine (HIn.out _).mono ?_); rintro e w' ⟨rfl, rfl⟩)
        go_ret
        exact ⟨by rw [HO.out]; rfl, Below.step b0 hbw⟩
      · have g1 : c < 97 := by omega
        have q1 : ((c : Int) != 95) = true := by simp; omega
        have q2 : ((k : Int) == 0) = false := by simp; omega
        have hin : within (c : Int) 48 57 = false := by unfold within; simp; omega
        rw [hin] at HIn
        clear hin
        have HO := Lib.hid (show nameB s = false by unfold nameB; rw [HX.out, HST.out, ho]; rfl)
        clear ho
        go_wp2_with (go_at_call 54; (with_reducible refine (HIn.out _).mono ?_); rintro e w' ⟨rfl, rfl⟩)
        go_ret
        exact ⟨by rw [HO.out]; rfl, Below.step b0 hbw⟩
      · obtain ⟨g1, g2, g3⟩ := h1
        have q1 : ((c : Int) != 95) = true := by simp; omega
        have q2 : ((k : Int) == 0) = false := by simp; omega
        have hin : within (c : Int) 48 57 = false := by unfold within; simp; omega
        rw [hin] at HIn
        clear hin
        have HO := Lib.hid (show nameB s = false by unfold nameB; rw [HX.out, HST.out, ho]; rfl)
        clear ho
        go_wp2_with (go_at_call 54; (with_reducible refine (HIn.out _).mono ?_); rintro e w' ⟨rfl, rfl⟩)
        go_ret
        exact ⟨by rw [HO.out]; rfl, Below.step b0 hbw⟩
      · have g3 : 97 ≤ c := by omega
        have hwr : IntKind.i64.wrap (c : Int) = c := IntWalk.i64_in _ (by omega)
        have q1 : ((c : Int) != 95) = true := by simp; omega
        have q2 : ((k : Int) == 0) = false := by simp; omega
        have q3 : decide ((c : Int) ≤ 122) = false := decide_eq_false (by omega)
        have hin : within (c : Int) 48 57 = false := by unfold within; simp; omega
        rw [hin] at HIn
        clear hin
        have HO := Lib.hid (show nameB s = false by unfold nameB; rw [HX.out, HST.out, ho]; rfl)
        clear ho
        go_wp2_with (go_at_call 54; (with_reducible refine (HIn.out _).mono ?_); rintro e w' ⟨rfl, rfl⟩)
        go_ret
        exact ⟨by rw [HO.out]; rfl, Below.step b0 hbw⟩
    · obtain rfl : k = s.size := by omega
      have HN := Lib.hid (show nameB s = within s.size 1 16 by unfold nameB; rw [HX.out, Nat.sub_self]; rfl)
      go_wp2_with fail
      refine (HW.out _).mono ?_
      rintro e w' ⟨rfl, rfl⟩
      go_wp2
      go_ret
      exact ⟨by rw [HN.out]; rfl, Below.step b0 hbw⟩
end Go.Proofs.Ytbcabckokmjelaa
namespace Go.Proofs.Ytbcabckokmjelaa
open Go.RowKit
set_option linter.unusedVariables false
set_option linter.unusedSimpArgs false
/-- Valid stars. -/
def okStar (n : ByteArray) (a b c : Int) : Bool := nameB n && (within a 0 86399999 && (within b (-10000) 10000 && within c 1000 10000))
theorem ValidStar_c (n : ByteArray) (a b c : Int) (hn : n.size ≤ 9223372036854775807) (w : World) : Calls Try.prog 20 #[.agg #[.string n, .int .i64 a, .int .i64 b, .int .i64 c]] w fun e w' => e = .returned (.bool (okStar n a b c)) ∧ Below w.heap.size w w' := by
  have H0 := Lib.hid (fun W => name_c n hn W)
  have H1 := Lib.hid (fun W => within_c a 0 86399999 W)
  have H2 := Lib.hid (fun W => within_c b (-10000) 10000 W)
  have H3 := Lib.hid (fun W => within_c c 1000 10000 W)
  unfold okStar
  cases h0 : nameB n
  · have tk : True := trivial
    rw [h0] at H0
    clear h0
    go_enter Try.func20, Try.ntmps20
    go_wp2_with fail
    refine (H0.out _).mono ?_
    rintro e w1 ⟨rfl, hb1⟩
    have x1_0_0 : w1.cell? ⟨w.heap.size, 0, none⟩ = some (.string n) := keep_cell hb1 (by simp [go_sem, *])
    have x1_0_1 : w1.cell? ⟨w.heap.size, 1, none⟩ = some (.int .i64 a) := keep_cell hb1 (by simp [go_sem, *])
    have x1_0_2 : w1.cell? ⟨w.heap.size, 2, none⟩ = some (.int .i64 b) := keep_cell hb1 (by simp [go_sem, *])
    have x1_0_3 : w1.cell? ⟨w.heap.size, 3, none⟩ = some (.int .i64 c) := keep_cell hb1 (by simp [go_sem, *])
    have y1_0 : w.heap.size < w1.heap.size := cell?_lt x1_0_0
    have g1 : Below w.heap.size w w1 := by (repeat (first | exact Below.refl _ _ | refine Below.drew ?_ | refine Below.allocS ?_ _ | refine Below.step ?_ (by assumption) | refine Below.setCell ?_ (by simp <;> omega) _ | refine Below.drewN' ?_ _))
    clear hb1
    go_wp2
    go_ret
    exact ⟨rfl, by (repeat (first | exact Below.refl _ _ | refine Below.drew ?_ | refine Below.allocS ?_ _ | refine Below.step ?_ (by assumption) | refine Below.setCell ?_ (by simp <;> omega) _ | refine Below.drewN' ?_ _))⟩
  cases h1 : within a 0 86399999
  · have tk : True := trivial
    rw [h0] at H0
    rw [h1] at H1
    clear h0 h1
    go_enter Try.func20, Try.ntmps20
    go_wp2_with fail
    refine (H0.out _).mono ?_
    rintro e w1 ⟨rfl, hb1⟩
    have x1_0_0 : w1.cell? ⟨w.heap.size, 0, none⟩ = some (.string n) := keep_cell hb1 (by simp [go_sem, *])
    have x1_0_1 : w1.cell? ⟨w.heap.size, 1, none⟩ = some (.int .i64 a) := keep_cell hb1 (by simp [go_sem, *])
    have x1_0_2 : w1.cell? ⟨w.heap.size, 2, none⟩ = some (.int .i64 b) := keep_cell hb1 (by simp [go_sem, *])
    have x1_0_3 : w1.cell? ⟨w.heap.size, 3, none⟩ = some (.int .i64 c) := keep_cell hb1 (by simp [go_sem, *])
    have y1_0 : w.heap.size < w1.heap.size := cell?_lt x1_0_0
    have g1 : Below w.heap.size w w1 := by (repeat (first | exact Below.refl _ _ | refine Below.drew ?_ | refine Below.allocS ?_ _ | refine Below.step ?_ (by assumption) | refine Below.setCell ?_ (by simp <;> omega) _ | refine Below.drewN' ?_ _))
    clear hb1
    go_wp2_with fail
    refine (H1.out _).mono ?_
    rintro e w' ⟨rfl, hw'⟩; replace hw' := hw'.symm; subst hw'
    go_wp2
    go_ret
    exact ⟨rfl, by (repeat (first | exact Below.refl _ _ | refine Below.drew ?_ | refine Below.allocS ?_ _ | refine Below.step ?_ (by assumption) | refine Below.setCell ?_ (by simp <;> omega) _ | refine Below.drewN' ?_ _))⟩
  cases h2 : within b (-10000) 10000
  · have tk : True := trivial
    rw [h0] at H0
    rw [h1] at H1
    rw [h2] at H2
    clear h0 h1 h2
    go_enter Try.func20, Try.ntmps20
    go_wp2_with fail
    refine (H0.out _).mono ?_
    rintro e w1 ⟨rfl, hb1⟩
    have x1_0_0 : w1.cell? ⟨w.heap.size, 0, none⟩ = some (.string n) := keep_cell hb1 (by simp [go_sem, *])
    have x1_0_1 : w1.cell? ⟨w.heap.size, 1, none⟩ = some (.int .i64 a) := keep_cell hb1 (by simp [go_sem, *])
    have x1_0_2 : w1.cell? ⟨w.heap.size, 2, none⟩ = some (.int .i64 b) := keep_cell hb1 (by simp [go_sem, *])
    have x1_0_3 : w1.cell? ⟨w.heap.size, 3, none⟩ = some (.int .i64 c) := keep_cell hb1 (by simp [go_sem, *])
    have y1_0 : w.heap.size < w1.heap.size := cell?_lt x1_0_0
    have g1 : Below w.heap.size w w1 := by (repeat (first | exact Below.refl _ _ | refine Below.drew ?_ | refine Below.allocS ?_ _ | refine Below.step ?_ (by assumption) | refine Below.setCell ?_ (by simp <;> omega) _ | refine Below.drewN' ?_ _))
    clear hb1
    go_wp2_with fail
    refine (H1.out _).mono ?_
    rintro e w' ⟨rfl, hw'⟩; replace hw' := hw'.symm; subst hw'
    go_wp2_with fail
    refine (H2.out _).mono ?_
    rintro e w' ⟨rfl, hw'⟩; replace hw' := hw'.symm; subst hw'
    go_wp2
    go_ret
    exact ⟨rfl, by (repeat (first | exact Below.refl _ _ | refine Below.drew ?_ | refine Below.allocS ?_ _ | refine Below.step ?_ (by assumption) | refine Below.setCell ?_ (by simp <;> omega) _ | refine Below.drewN' ?_ _))⟩
  cases h3 : within c 1000 10000
  · have tk : True := trivial
    rw [h0] at H0
    rw [h1] at H1
    rw [h2] at H2
    rw [h3] at H3
    clear h0 h1 h2 h3
    go_enter Try.func20, Try.ntmps20
    go_wp2_with fail
    refine (H0.out _).mono ?_
    rintro e w1 ⟨rfl, hb1⟩
    have x1_0_0 : w1.cell? ⟨w.heap.size, 0, none⟩ = some (.string n) := keep_cell hb1 (by simp [go_sem, *])
    have x1_0_1 : w1.cell? ⟨w.heap.size, 1, none⟩ = some (.int .i64 a) := keep_cell hb1 (by simp [go_sem, *])
    have x1_0_2 : w1.cell? ⟨w.heap.size, 2, none⟩ = some (.int .i64 b) := keep_cell hb1 (by simp [go_sem, *])
    have x1_0_3 : w1.cell? ⟨w.heap.size, 3, none⟩ = some (.int .i64 c) := keep_cell hb1 (by simp [go_sem, *])
    have y1_0 : w.heap.size < w1.heap.size := cell?_lt x1_0_0
    have g1 : Below w.heap.size w w1 := by (repeat (first | exact Below.refl _ _ | refine Below.drew ?_ | refine Below.allocS ?_ _ | refine Below.step ?_ (by assumption) | refine Below.setCell ?_ (by simp <;> omega) _ | refine Below.drewN' ?_ _))
    clear hb1
    go_wp2_with fail
    refine (H1.out _).mono ?_
    rintro e w' ⟨rfl, hw'⟩; replace hw' := hw'.symm; subst hw'
    go_wp2_with fail
    refine (H2.out _).mono ?_
    rintro e w' ⟨rfl, hw'⟩; replace hw' := hw'.symm; subst hw'
    go_wp2_with fail
    refine (H3.out _).mono ?_
    rintro e w' ⟨rfl, hw'⟩; replace hw' := hw'.symm; subst hw'
    go_wp2
    go_ret
    exact ⟨rfl, by (repeat (first | exact Below.refl _ _ | refine Below.drew ?_ | refine Below.allocS ?_ _ | refine Below.step ?_ (by assumption) | refine Below.setCell ?_ (by simp <;> omega) _ | refine Below.drewN' ?_ _))⟩
  rw [h0] at H0
  rw [h1] at H1
  rw [h2] at H2
  rw [h3] at H3
  clear h0 h1 h2 h3
  go_enter Try.func20, Try.ntmps20
  go_wp2_with fail
  refine (H0.out _).mono ?_
  rintro e w1 ⟨rfl, hb1⟩
  have x1_0_0 : w1.cell? ⟨w.heap.size, 0, none⟩ = some (.string n) := keep_cell hb1 (by simp [go_sem, *])
  have x1_0_1 : w1.cell? ⟨w.heap.size, 1, none⟩ = some (.int .i64 a) := keep_cell hb1 (by simp [go_sem, *])
  have x1_0_2 : w1.cell? ⟨w.heap.size, 2, none⟩ = some (.int .i64 b) := keep_cell hb1 (by simp [go_sem, *])
  have x1_0_3 : w1.cell? ⟨w.heap.size, 3, none⟩ = some (.int .i64 c) := keep_cell hb1 (by simp [go_sem, *])
  have y1_0 : w.heap.size < w1.heap.size := cell?_lt x1_0_0
  have g1 : Below w.heap.size w w1 := by (repeat (first | exact Below.refl _ _ | refine Below.drew ?_ | refine Below.allocS ?_ _ | refine Below.step ?_ (by assumption) | refine Below.setCell ?_ (by simp <;> omega) _ | refine Below.drewN' ?_ _))
  clear hb1
  go_wp2_with fail
  refine (H1.out _).mono ?_
  rintro e w' ⟨rfl, hw'⟩; replace hw' := hw'.symm; subst hw'
  go_wp2_with fail
  refine (H2.out _).mono ?_
  rintro e w' ⟨rfl, hw'⟩; replace hw' := hw'.symm; subst hw'
  go_wp2_with fail
  refine (H3.out _).mono ?_
  rintro e w' ⟨rfl, hw'⟩; replace hw' := hw'.symm; subst hw'
  go_wp2
  go_ret
  exact ⟨rfl, by (repeat (first | exact Below.refl _ _ | refine Below.drew ?_ | refine Below.allocS ?_ _ | refine Below.step ?_ (by assumption) | refine Below.setCell ?_ (by simp <;> omega) _ | refine Below.drewN' ?_ _))⟩
theorem rValidStar_c (n : ByteArray) (a b c : Int) (hn : n.size ≤ 9223372036854775807) (w : World) : Calls Try.prog 21 #[.agg #[.string n, .int .i64 a, .int .i64 b, .int .i64 c]] w fun e w' => e = .returned (.bool (okStar n a b c)) ∧ Below w.heap.size w w' := by
  have H0 := Lib.hid (fun W => rname_c n hn W)
  have H1 := Lib.hid (fun W => rwithin_c a 0 86399999 W)
  have H2 := Lib.hid (fun W => rwithin_c b (-10000) 10000 W)
  have H3 := Lib.hid (fun W => rwithin_c c 1000 10000 W)
  unfold okStar
  cases h0 : nameB n
  · have tk : True := trivial
    rw [h0] at H0
    clear h0
    go_enter Try.func21, Try.ntmps21
    go_wp2_with fail
    refine (H0.out _).mono ?_
    rintro e w1 ⟨rfl, hb1⟩
    have x1_0_0 : w1.cell? ⟨w.heap.size, 0, none⟩ = some (.string n) := keep_cell hb1 (by simp [go_sem, *])
    have x1_0_1 : w1.cell? ⟨w.heap.size, 1, none⟩ = some (.int .i64 a) := keep_cell hb1 (by simp [go_sem, *])
    have x1_0_2 : w1.cell? ⟨w.heap.size, 2, none⟩ = some (.int .i64 b) := keep_cell hb1 (by simp [go_sem, *])
    have x1_0_3 : w1.cell? ⟨w.heap.size, 3, none⟩ = some (.int .i64 c) := keep_cell hb1 (by simp [go_sem, *])
    have y1_0 : w.heap.size < w1.heap.size := cell?_lt x1_0_0
    have g1 : Below w.heap.size w w1 := by (repeat (first | exact Below.refl _ _ | refine Below.drew ?_ | refine Below.allocS ?_ _ | refine Below.step ?_ (by assumption) | refine Below.setCell ?_ (by simp <;> omega) _ | refine Below.drewN' ?_ _))
    clear hb1
    go_wp2
    go_ret
    exact ⟨rfl, by (repeat (first | exact Below.refl _ _ | refine Below.drew ?_ | refine Below.allocS ?_ _ | refine Below.step ?_ (by assumption) | refine Below.setCell ?_ (by simp <;> omega) _ | refine Below.drewN' ?_ _))⟩
  cases h1 : within a 0 86399999
  · have tk : True := trivial
    rw [h0] at H0
    rw [h1] at H1
    clear h0 h1
    go_enter Try.func21, Try.ntmps21
    go_wp2_with fail
    refine (H0.out _).mono ?_
    rintro e w1 ⟨rfl, hb1⟩
    have x1_0_0 : w1.cell? ⟨w.heap.size, 0, none⟩ = some (.string n) := keep_cell hb1 (by simp [go_sem, *])
    have x1_0_1 : w1.cell? ⟨w.heap.size, 1, none⟩ = some (.int .i64 a) := keep_cell hb1 (by simp [go_sem, *])
    have x1_0_2 : w1.cell? ⟨w.heap.size, 2, none⟩ = some (.int .i64 b) := keep_cell hb1 (by simp [go_sem, *])
    have x1_0_3 : w1.cell? ⟨w.heap.size, 3, none⟩ = some (.int .i64 c) := keep_cell hb1 (by simp [go_sem, *])
    have y1_0 : w.heap.size < w1.heap.size := cell?_lt x1_0_0
    have g1 : Below w.heap.size w w1 := by (repeat (first | exact Below.refl _ _ | refine Below.drew ?_ | refine Below.allocS ?_ _ | refine Below.step ?_ (by assumption) | refine Below.setCell ?_ (by simp <;> omega) _ | refine Below.drewN' ?_ _))
    clear hb1
    go_wp2_with fail
    refine (H1.out _).mono ?_
    rintro e w' ⟨rfl, hw'⟩; replace hw' := hw'.symm; subst hw'
    go_wp2
    go_ret
    exact ⟨rfl, by (repeat (first | exact Below.refl _ _ | refine Below.drew ?_ | refine Below.allocS ?_ _ | refine Below.step ?_ (by assumption) | refine Below.setCell ?_ (by simp <;> omega) _ | refine Below.drewN' ?_ _))⟩
  cases h2 : within b (-10000) 10000
  · have tk : True := trivial
    rw [h0] at H0
    rw [h1] at H1
    rw [h2] at H2
    clear h0 h1 h2
    go_enter Try.func21, Try.ntmps21
    go_wp2_with fail
    refine (H0.out _).mono ?_
    rintro e w1 ⟨rfl, hb1⟩
    have x1_0_0 : w1.cell? ⟨w.heap.size, 0, none⟩ = some (.string n) := keep_cell hb1 (by simp [go_sem, *])
    have x1_0_1 : w1.cell? ⟨w.heap.size, 1, none⟩ = some (.int .i64 a) := keep_cell hb1 (by simp [go_sem, *])
    have x1_0_2 : w1.cell? ⟨w.heap.size, 2, none⟩ = some (.int .i64 b) := keep_cell hb1 (by simp [go_sem, *])
    have x1_0_3 : w1.cell? ⟨w.heap.size, 3, none⟩ = some (.int .i64 c) := keep_cell hb1 (by simp [go_sem, *])
    have y1_0 : w.heap.size < w1.heap.size := cell?_lt x1_0_0
    have g1 : Below w.heap.size w w1 := by (repeat (first | exact Below.refl _ _ | refine Below.drew ?_ | refine Below.allocS ?_ _ | refine Below.step ?_ (by assumption) | refine Below.setCell ?_ (by simp <;> omega) _ | refine Below.drewN' ?_ _))
    clear hb1
    go_wp2_with fail
    refine (H1.out _).mono ?_
    rintro e w' ⟨rfl, hw'⟩; replace hw' := hw'.symm; subst hw'
    go_wp2_with fail
    refine (H2.out _).mono ?_
    rintro e w' ⟨rfl, hw'⟩; replace hw' := hw'.symm; subst hw'
    go_wp2
    go_ret
    exact ⟨rfl, by (repeat (first | exact Below.refl _ _ | refine Below.drew ?_ | refine Below.allocS ?_ _ | refine Below.step ?_ (by assumption) | refine Below.setCell ?_ (by simp <;> omega) _ | refine Below.drewN' ?_ _))⟩
  cases h3 : within c 1000 10000
  · have tk : True := trivial
    rw [h0] at H0
    rw [h1] at H1
    rw [h2] at H2
    rw [h3] at H3
    clear h0 h1 h2 h3
    go_enter Try.func21, Try.ntmps21
    go_wp2_with fail
    refine (H0.out _).mono ?_
    rintro e w1 ⟨rfl, hb1⟩
    have x1_0_0 : w1.cell? ⟨w.heap.size, 0, none⟩ = some (.string n) := keep_cell hb1 (by simp [go_sem, *])
    have x1_0_1 : w1.cell? ⟨w.heap.size, 1, none⟩ = some (.int .i64 a) := keep_cell hb1 (by simp [go_sem, *])
    have x1_0_2 : w1.cell? ⟨w.heap.size, 2, none⟩ = some (.int .i64 b) := keep_cell hb1 (by simp [go_sem, *])
    have x1_0_3 : w1.cell? ⟨w.heap.size, 3, none⟩ = some (.int .i64 c) := keep_cell hb1 (by simp [go_sem, *])
    have y1_0 : w.heap.size < w1.heap.size := cell?_lt x1_0_0
    have g1 : Below w.heap.size w w1 := by (repeat (first | exact Below.refl _ _ | refine Below.drew ?_ | refine Below.allocS ?_ _ | refine Below.step ?_ (by assumption) | refine Below.setCell ?_ (by simp <;> omega) _ | refine Below.drewN' ?_ _))
    clear hb1
    go_wp2_with fail
    refine (H1.out _).mono ?_
    rintro e w' ⟨rfl, hw'⟩; replace hw' := hw'.symm; subst hw'
    go_wp2_with fail
    refine (H2.out _).mono ?_
    rintro e w' ⟨rfl, hw'⟩; replace hw' := hw'.symm; subst hw'
    go_wp2_with fail
    refine (H3.out _).mono ?_
    rintro e w' ⟨rfl, hw'⟩; replace hw' := hw'.symm; subst hw'
    go_wp2
    go_ret
    exact ⟨rfl, by (repeat (first | exact Below.refl _ _ | refine Below.drew ?_ | refine Below.allocS ?_ _ | refine Below.step ?_ (by assumption) | refine Below.setCell ?_ (by simp <;> omega) _ | refine Below.drewN' ?_ _))⟩
  rw [h0] at H0
  rw [h1] at H1
  rw [h2] at H2
  rw [h3] at H3
  clear h0 h1 h2 h3
  go_enter Try.func21, Try.ntmps21
  go_wp2_with fail
  refine (H0.out _).mono ?_
  rintro e w1 ⟨rfl, hb1⟩
  have x1_0_0 : w1.cell? ⟨w.heap.size, 0, none⟩ = some (.string n) := keep_cell hb1 (by simp [go_sem, *])
  have x1_0_1 : w1.cell? ⟨w.heap.size, 1, none⟩ = some (.int .i64 a) := keep_cell hb1 (by simp [go_sem, *])
  have x1_0_2 : w1.cell? ⟨w.heap.size, 2, none⟩ = some (.int .i64 b) := keep_cell hb1 (by simp [go_sem, *])
  have x1_0_3 : w1.cell? ⟨w.heap.size, 3, none⟩ = some (.int .i64 c) := keep_cell hb1 (by simp [go_sem, *])
  have y1_0 : w.heap.size < w1.heap.size := cell?_lt x1_0_0
  have g1 : Below w.heap.size w w1 := by (repeat (first | exact Below.refl _ _ | refine Below.drew ?_ | refine Below.allocS ?_ _ | refine Below.step ?_ (by assumption) | refine Below.setCell ?_ (by simp <;> omega) _ | refine Below.drewN' ?_ _))
  clear hb1
  go_wp2_with fail
  refine (H1.out _).mono ?_
  rintro e w' ⟨rfl, hw'⟩; replace hw' := hw'.symm; subst hw'
  go_wp2_with fail
  refine (H2.out _).mono ?_
  rintro e w' ⟨rfl, hw'⟩; replace hw' := hw'.symm; subst hw'
  go_wp2_with fail
  refine (H3.out _).mono ?_
  rintro e w' ⟨rfl, hw'⟩; replace hw' := hw'.symm; subst hw'
  go_wp2
  go_ret
  exact ⟨rfl, by (repeat (first | exact Below.refl _ _ | refine Below.drew ?_ | refine Below.allocS ?_ _ | refine Below.step ?_ (by assumption) | refine Below.setCell ?_ (by simp <;> omega) _ | refine Below.drewN' ?_ _))⟩
end Go.Proofs.Ytbcabckokmjelaa
namespace Go.Proofs.Ytbcabckokmjelaa
open Go.RowKit
set_option linter.unusedVariables false
set_option linter.unusedSimpArgs false
def inE (x : Int) : List Value := [.int .i64 x]
/-- Whether a wire stands right, behind the one ahead of it. -/
def okW (k : Nat) (n m : Int) : Bool := within n (-100000) 100000 && (decide (k = 0) || decide (m < n))
def chkW (xs : List Int) : Nat → Nat → Bool
  | 0, _ => true
  | n + 1, k => okW k (xs.getD k 0) (xs.getD (k - 1) 0) && chkW xs n (k + 1)
theorem chkW_step {xs : List Int} {k : Nat} (h : k < xs.length) : chkW xs (xs.length - k) k = (okW k (xs.getD k 0) (xs.getD (k - 1) 0) && chkW xs (xs.length - (k + 1)) (k + 1)) := by
  rw [show xs.length - k = xs.length - (k + 1) + 1 by omega, chkW]
def okTube (xs : List Int) (e : Int) : Bool := chkW xs xs.length 0 && (within xs.length 1 7 && within e 0 10000)
set_option maxHeartbeats 2000000 in
theorem ValidTube_c (xs : List Int) (A : Option Addr) (cap : Nat) (e : Int) (hl : xs.length ≤ 9223372036854775807) (w : World) (hr : RdL w w.heap.size inE 1 A xs) : Calls Try.prog 22 #[.agg #[.slice A xs.length cap, .int .i64 e]] w fun r w' => r = .returned (.bool (okTube xs e)) ∧ Below w.heap.size w w' := by
  have H1 := Lib.hid (fun W => within_c xs.length 1 7 W)
  have H2 := Lib.hid (fun W => within_c e 0 10000 W)
  have HR := Lib.hid hr
  clear hr
  go_enter Try.func22, Try.ntmps22
  go_wp2
  obtain ⟨W0, hW0⟩ : ∃ W, W = w.alloc (.cells #[.slice A xs.length cap, .int .i64 e] 24) := ⟨_, rfl⟩
  have z0 : W0.cell? ⟨w.heap.size, 0, none⟩ = some (.slice A xs.length cap) := by rw [hW0]; simp [go_sem]
  have z1 : W0.cell? ⟨w.heap.size, 1, none⟩ = some (.int .i64 e) := by rw [hW0]; simp [go_sem]
  have g0 : Below w.heap.size w W0 := by rw [hW0]; (repeat (first | exact Below.refl _ _ | refine Below.drew ?_ | refine Below.allocS ?_ _ | refine Below.step ?_ (by assumption) | refine Below.setCell ?_ (by simp <;> omega) _ | refine Below.drewN' ?_ _))
  rw [← hW0]
  clear hW0
  go_loopw [8] (fun i wr => ∃ k : Nat, k ≤ xs.length ∧ i = .int .i64 k ∧ Below W0.heap.size W0 wr ∧ chkW xs xs.length 0 = chkW xs (xs.length - k) k) (fun i _ => xs.length - (intOf i).toNat)
  case atStart => exact ⟨0, Nat.zero_le _, rfl, Below.refl _ _, rfl⟩
  case round =>
    obtain ⟨k, hk, rfl, hbw, hx⟩ := hrel
    have HX := Lib.hid hx
    clear hx
    have d0 := keep_cell hbw z0
    have d1 := keep_cell hbw z1
    have gw := Below.step g0 hbw
    by_cases hlt : k < xs.length
    · have HST := Lib.hid (chkW_step hlt)
      have HP := Lib.hid HR.out
      obtain ⟨b, off, rfl, hb0, hc⟩ := HR.out (by omega)
      have c0 := (gw.cell (p := ⟨b, _, none⟩) hb0).trans (hc k hlt 0 _ rfl)
      simp at c0
      have cp : 0 < k → wr.cell? ⟨b, off + (k - 1), none⟩ = some (.int .i64 (xs.getD (k - 1) 0)) := fun h0 => by
        have h := (gw.cell (p := ⟨b, _, none⟩) hb0).trans (hc (k - 1) (by omega) 0 _ rfl)
        simp at h
        rw [h, List.getD_eq_getElem?_getD, List.getElem?_eq_getElem (by omega)]
        rfl
      clear hc
      have hg : xs[k] = xs.getD k 0 := by rw [List.getD_eq_getElem?_getD, List.getElem?_eq_getElem hlt]; rfl
      rw [hg] at c0
      generalize xs.getD k 0 = n at *
      generalize xs.getD (k - 1) 0 = m at *
      have hb1 : b < wr.heap.size := cell?_lt c0
      have hw1 : w.heap.size < wr.heap.size := cell?_lt d0
      have HI := Lib.hid (fun W => within_c n (-100000) 100000 W)
      cases hin : within n (-100000) 100000
      · rw [hin] at HI
        have HO := Lib.hid (show okTube xs e = false by unfold okTube; rw [HX.out, HST.out, okW, hin]; rfl)
        clear cp hin
        go_wp2_with (go_at_call 54; (with_reducible refine (HI.out _).mono ?_); rintro e w' ⟨rfl, rfl⟩)
        go_ret
        exact ⟨by rw [HO.out]; rfl, gw⟩
      · rw [hin] at HI
        by_cases h0 : k = 0
        · have HO := Lib.hid (show okW k n m = true by unfold okW; rw [hin, h0]; rfl)
          have hpos : ¬ 0 < k := by omega
          clear cp hin h0
          go_wp2_with (go_at_call 54; (with_reducible refine (HI.out _).mono ?_); rintro e w' ⟨rfl, rfl⟩)
          go_roundw
          case rel => exact ⟨k + 1, by omega, by go_num, hbw, by rw [HX.out, HST.out, HO.out]; rfl⟩
          case measure => simp [intOf]; omega
        · obtain ⟨k', rfl⟩ : ∃ k', k = k' + 1 := ⟨k - 1, by omega⟩
          have c1 := cp (by omega)
          simp only [Nat.add_sub_cancel] at c1
          have hwr : IntKind.i64.wrap (((k' + 1 : Nat) : Int) - 1) = (k' : Int) := by rw [show ((k' + 1 : Nat) : Int) - 1 = (k' : Int) by omega]; exact IntWalk.i64_in _ (by omega)
          have hpos : decide (((k' + 1 : Nat) : Int) > 0) = true := decide_eq_true (by omega)
          clear cp
          by_cases hmn : m < n
          · have HO := Lib.hid (show okW (k' + 1) n m = true by unfold okW; rw [hin, decide_eq_true hmn]; simp)
            have hd : decide (n ≤ m) = false := decide_eq_false (by omega)
            clear hin
            go_wp2_with (go_at_call 54; (with_reducible refine (HI.out _).mono ?_); rintro e w' ⟨rfl, rfl⟩)
            go_roundw
            case rel => exact ⟨k' + 1 + 1, by omega, by go_num, hbw, by rw [HX.out, HST.out, HO.out]; rfl⟩
            case measure => simp [intOf]; omega
          · have HO := Lib.hid (show okTube xs e = false by unfold okTube; rw [HX.out, HST.out, okW, hin, decide_eq_false hmn]; simp)
            have hd : decide (n ≤ m) = true := decide_eq_true (by omega)
            clear hin
            go_wp2_with (go_at_call 54; (with_reducible refine (HI.out _).mono ?_); rintro e w' ⟨rfl, rfl⟩)
            go_ret
            exact ⟨by rw [HO.out]; rfl, gw⟩
    · obtain rfl : k = xs.length := by omega
      have HN := Lib.hid (show okTube xs e = (within xs.length 1 7 && within e 0 10000) by unfold okTube; rw [HX.out, Nat.sub_self]; rfl)
      cases h1 : within xs.length 1 7
      · rw [h1] at H1 HN
        clear h1
        go_wp2_with (go_at_call 54; (with_reducible refine (H1.out _).mono ?_); rintro e w' ⟨rfl, rfl⟩)
        go_ret
        exact ⟨by rw [HN.out]; rfl, gw⟩
      · rw [h1] at H1 HN
        clear h1
        go_wp2_with (first | (go_at_call 54; (with_reducible refine (H1.out _).mono ?_); rintro e w' ⟨rfl, rfl⟩) | (go_at_call 54; (with_reducible refine (H2.out _).mono ?_); rintro e w' ⟨rfl, rfl⟩))
        go_ret
        exact ⟨by rw [HN.out]; rfl, gw⟩
set_option maxHeartbeats 2000000 in
theorem rValidTube_c (xs : List Int) (A : Option Addr) (cap : Nat) (e : Int) (hl : xs.length ≤ 9223372036854775807) (w : World) (hr : RdL w w.heap.size inE 1 A xs) : Calls Try.prog 23 #[.agg #[.slice A xs.length cap, .int .i64 e]] w fun r w' => r = .returned (.bool (okTube xs e)) ∧ Below w.heap.size w w' := by
  have H1 := Lib.hid (fun W => rwithin_c xs.length 1 7 W)
  have H2 := Lib.hid (fun W => rwithin_c e 0 10000 W)
  have HR := Lib.hid hr
  clear hr
  go_enter Try.func23, Try.ntmps23
  go_wp2
  obtain ⟨W0, hW0⟩ : ∃ W, W = w.alloc (.cells #[.slice A xs.length cap, .int .i64 e] 24) := ⟨_, rfl⟩
  have z0 : W0.cell? ⟨w.heap.size, 0, none⟩ = some (.slice A xs.length cap) := by rw [hW0]; simp [go_sem]
  have z1 : W0.cell? ⟨w.heap.size, 1, none⟩ = some (.int .i64 e) := by rw [hW0]; simp [go_sem]
  have g0 : Below w.heap.size w W0 := by rw [hW0]; (repeat (first | exact Below.refl _ _ | refine Below.drew ?_ | refine Below.allocS ?_ _ | refine Below.step ?_ (by assumption) | refine Below.setCell ?_ (by simp <;> omega) _ | refine Below.drewN' ?_ _))
  rw [← hW0]
  clear hW0
  go_loopw [8] (fun i wr => ∃ k : Nat, k ≤ xs.length ∧ i = .int .i64 k ∧ Below W0.heap.size W0 wr ∧ chkW xs xs.length 0 = chkW xs (xs.length - k) k) (fun i _ => xs.length - (intOf i).toNat)
  case atStart => exact ⟨0, Nat.zero_le _, rfl, Below.refl _ _, rfl⟩
  case round =>
    obtain ⟨k, hk, rfl, hbw, hx⟩ := hrel
    have HX := Lib.hid hx
    clear hx
    have d0 := keep_cell hbw z0
    have d1 := keep_cell hbw z1
    have gw := Below.step g0 hbw
    by_cases hlt : k < xs.length
    · have HST := Lib.hid (chkW_step hlt)
      have HP := Lib.hid HR.out
      obtain ⟨b, off, rfl, hb0, hc⟩ := HR.out (by omega)
      have c0 := (gw.cell (p := ⟨b, _, none⟩) hb0).trans (hc k hlt 0 _ rfl)
      simp at c0
      have cp : 0 < k → wr.cell? ⟨b, off + (k - 1), none⟩ = some (.int .i64 (xs.getD (k - 1) 0)) := fun h0 => by
        have h := (gw.cell (p := ⟨b, _, none⟩) hb0).trans (hc (k - 1) (by omega) 0 _ rfl)
        simp at h
        rw [h, List.getD_eq_getElem?_getD, List.getElem?_eq_getElem (by omega)]
        rfl
      clear hc
      have hg : xs[k] = xs.getD k 0 := by rw [List.getD_eq_getElem?_getD, List.getElem?_eq_getElem hlt]; rfl
      rw [hg] at c0
      generalize xs.getD k 0 = n at *
      generalize xs.getD (k - 1) 0 = m at *
      have hb1 : b < wr.heap.size := cell?_lt c0
      have hw1 : w.heap.size < wr.heap.size := cell?_lt d0
      have HI := Lib.hid (fun W => rwithin_c n (-100000) 100000 W)
      cases hin : within n (-100000) 100000
      · rw [hin] at HI
        have HO := Lib.hid (show okTube xs e = false by unfold okTube; rw [HX.out, HST.out, okW, hin]; rfl)
        clear cp hin
        go_wp2_with (go_at_call 55; (with_reducible refine (HI.out _).mono ?_); rintro e w' ⟨rfl, rfl⟩)
        go_ret
        exact ⟨by rw [HO.out]; rfl, gw⟩
      · rw [hin] at HI
        by_cases h0 : k = 0
        · have HO := Lib.hid (show okW k n m = true by unfold okW; rw [hin, h0]; rfl)
          have hpos : ¬ 0 < k := by omega
          clear cp hin h0
          go_wp2_with (go_at_call 55; (with_reducible refine (HI.out _).mono ?_); rintro e w' ⟨rfl, rfl⟩)
          go_roundw
          case rel => exact ⟨k + 1, by omega, by go_num, hbw, by rw [HX.out, HST.out, HO.out]; rfl⟩
          case measure => simp [intOf]; omega
        · obtain ⟨k', rfl⟩ : ∃ k', k = k' + 1 := ⟨k - 1, by omega⟩
          have c1 := cp (by omega)
          simp only [Nat.add_sub_cancel] at c1
          have hwr : IntKind.i64.wrap (((k' + 1 : Nat) : Int) - 1) = (k' : Int) := by rw [show ((k' + 1 : Nat) : Int) - 1 = (k' : Int) by omega]; exact IntWalk.i64_in _ (by omega)
          have hpos : decide (((k' + 1 : Nat) : Int) > 0) = true := decide_eq_true (by omega)
          clear cp
          by_cases hmn : m < n
          · have HO := Lib.hid (show okW (k' + 1) n m = true by unfold okW; rw [hin, decide_eq_true hmn]; simp)
            have hd : decide (n ≤ m) = false := decide_eq_false (by omega)
            clear hin
            go_wp2_with (go_at_call 55; (with_reducible refine (HI.out _).mono ?_); rintro e w' ⟨rfl, rfl⟩)
            go_roundw
            case rel => exact ⟨k' + 1 + 1, by omega, by go_num, hbw, by rw [HX.out, HST.out, HO.out]; rfl⟩
            case measure => simp [intOf]; omega
          · have HO := Lib.hid (show okTube xs e = false by unfold okTube; rw [HX.out, HST.out, okW, hin, decide_eq_false hmn]; simp)
            have hd : decide (n ≤ m) = true := decide_eq_true (by omega)
            clear hin
            go_wp2_with (go_at_call 55; (with_reducible refine (HI.out _).mono ?_); rintro e w' ⟨rfl, rfl⟩)
            go_ret
            exact ⟨by rw [HO.out]; rfl, gw⟩
    · obtain rfl : k = xs.length := by omega
      have HN := Lib.hid (show okTube xs e = (within xs.length 1 7 && within e 0 10000) by unfold okTube; rw [HX.out, Nat.sub_self]; rfl)
      cases h1 : within xs.length 1 7
      · rw [h1] at H1 HN
        clear h1
        go_wp2_with (go_at_call 55; (with_reducible refine (H1.out _).mono ?_); rintro e w' ⟨rfl, rfl⟩)
        go_ret
        exact ⟨by rw [HN.out]; rfl, gw⟩
      · rw [h1] at H1 HN
        clear h1
        go_wp2_with (first | (go_at_call 55; (with_reducible refine (H1.out _).mono ?_); rintro e w' ⟨rfl, rfl⟩) | (go_at_call 55; (with_reducible refine (H2.out _).mono ?_); rintro e w' ⟨rfl, rfl⟩))
        go_ret
        exact ⟨by rw [HN.out]; rfl, gw⟩
end Go.Proofs.Ytbcabckokmjelaa
namespace Go.Proofs.Ytbcabckokmjelaa
open Go.RowKit
set_option linter.unusedVariables false
set_option linter.unusedSimpArgs false
def idxOf {α : Type} (p : α → Bool) : List α → Nat → Int
  | [], _ => -1
  | x :: l, k => if p x then (k : Int) else idxOf p l (k + 1)
theorem idxOf_false {α : Type} (p : α → Bool) (x : α) (l : List α) (k : Nat) (h : p x = false) : idxOf p (x :: l) k = idxOf p l (k + 1) := by simp [idxOf, h]
theorem idxOf_true {α : Type} (p : α → Bool) (x : α) (l : List α) (k : Nat) (h : p x = true) : idxOf p (x :: l) k = k := by simp [idxOf, h]
theorem idxOf_any {α : Type} (p : α → Bool) (l : List α) : ∀ k, decide (0 ≤ idxOf p l k) = l.any p := by
  induction l with
  | nil => intro k; rfl
  | cons x l ih =>
    intro k
    unfold idxOf
    cases h : p x
    · simp [h, ih]
    · simp [h]

set_option maxHeartbeats 1000000 in
theorem IndexFuncIn (l : List Int) (A : Option Addr) (cap : Nat) (hl : l.length ≤ 9223372036854775807) (fv : Nat) (caps : Array Value) (p : Int → Bool) (w : World) (hr : RdL w w.heap.size inE 1 A l)
    (hcall : ∀ (args : Array Value) (W : World), (callFunc fv args).run Try.prog W = .ok (.enter fv args) W)
    (hf : ∀ x ∈ l, ∀ W, Below w.heap.size w W → Calls Try.prog fv (#[.int .i64 x] ++ caps) W fun e W' => e = .returned (.bool (p x)) ∧ Below W.heap.size W W') :
    Calls Try.prog 111 #[.slice A l.length cap, .func (.func fv) #[] caps] w fun e w' => e = .returned (.int .i64 (idxOf p l 0)) ∧ Below w.heap.size w w' := by
  have HF := Lib.hid hf
  have HR := Lib.hid hr
  clear hf hr
  go_enter Try.func111, Try.ntmps111
  go_wp2
  go_loopw [5, 8] (fun u i wr => ∃ k : Nat, k ≤ l.length ∧ i = .int .i64 k ∧ Below w.heap.size w wr ∧ idxOf p l 0 = idxOf p (l.drop k) k) (fun u i _ => l.length - (intOf i).toNat)
  case atStart => exact ⟨0, Nat.zero_le _, rfl, Below.refl _ _, rfl⟩
  case round =>
    obtain ⟨k, hk, rfl, hbw, hx⟩ := hrel
    have HX := Lib.hid hx
    clear hx
    by_cases hlt : k < l.length
    · obtain ⟨b, off, rfl, hb0, hc⟩ := HR.out (by omega)
      have c0 := hc k hlt 0 _ rfl
      clear hc
      rw [← hbw.cell (p := ⟨b, _, none⟩) hb0] at c0
      simp at c0
      have hmem : l[k] ∈ l := List.getElem_mem hlt
      have hcc := Lib.hid (HF.out l[k] hmem wr hbw)
      have hd : l.drop k = l[k] :: l.drop (k + 1) := List.drop_eq_getElem_cons hlt
      have HD := Lib.hid hd
      clear hd
      cases hp : p l[k]
      · go_wp2_with fail
        refine hcc.out.mono ?_
        rintro e w1 ⟨rfl, hb⟩
        rw [hp]
        go_wp2
        go_roundw
        case rel => exact ⟨k + 1, by omega, by go_num, Below.step hbw hb, by rw [HX.out, HD.out, idxOf_false _ _ _ _ hp]⟩
        case measure => simp [intOf]; omega
      · go_wp2_with fail
        refine hcc.out.mono ?_
        rintro e w1 ⟨rfl, hb⟩
        rw [hp]
        go_wp2
        go_ret
        exact ⟨by rw [HX.out, HD.out, idxOf_true _ _ _ _ hp]; rfl, Below.step hbw hb⟩
    · obtain rfl : k = l.length := by omega
      go_wp2
      go_ret
      exact ⟨by rw [HX.out]; simp [idxOf], hbw⟩

theorem ContainsFuncIn (l : List Int) (A : Option Addr) (cap : Nat) (hl : l.length ≤ 9223372036854775807) (fv : Nat) (caps : Array Value) (p : Int → Bool) (w : World) (hr : RdL w w.heap.size inE 1 A l)
    (hcall : ∀ (args : Array Value) (W : World), (callFunc fv args).run Try.prog W = .ok (.enter fv args) W)
    (hf : ∀ x ∈ l, ∀ W, Below w.heap.size w W → Calls Try.prog fv (#[.int .i64 x] ++ caps) W fun e W' => e = .returned (.bool (p x)) ∧ Below W.heap.size W W') :
    Calls Try.prog 87 #[.slice A l.length cap, .func (.func fv) #[] caps] w fun e w' => e = .returned (.bool (l.any p)) ∧ Below w.heap.size w w' := by
  have HI := Lib.hid (IndexFuncIn l A cap hl fv caps p w hr hcall hf)
  have HE := Lib.hid (idxOf_any p l 0)
  clear hf hr hcall
  go_enter Try.func87, Try.ntmps87
  go_wp2_with (go_at_call 111; refine HI.out.mono ?_; rintro e w1 ⟨rfl, hb⟩)
  go_ret
  exact ⟨by rw [← HE.out]; rfl, hb⟩

def okTime (t : Int) : Bool := within t (-1) 86399999
theorem timed1_c (t : Int) (w : World) : Calls Try.prog 88 #[.int .i64 t] w fun e w' => e = .returned (.bool (!okTime t)) ∧ Below w.heap.size w w' := by
  have H := Lib.hid (fun W => within_c t (-1) 86399999 W)
  unfold okTime
  generalize within t (-1) 86399999 = B at *
  go_enter Try.func88, Try.ntmps88
  go_wp2_with (go_at_call 54; (with_reducible refine (H.out _).mono ?_); rintro e w' ⟨rfl, rfl⟩)
  go_ret
  exact ⟨rfl, Below.refl _ _⟩
theorem call_timed1 (args : Array Value) (W : World) : (callFunc 88 args).run Try.prog W = .ok (.enter 88 args) W := by kernel_rfl
theorem any_not {α : Type} (p : α → Bool) (l : List α) : (!l.any fun x => !p x) = l.all p := by
  induction l with
  | nil => rfl
  | cons x l ih => simp only [List.any_cons, List.all_cons, Bool.not_or, Bool.not_not, ih]
theorem timed_c (ts : List Int) (A : Option Addr) (cap : Nat) (hl : ts.length ≤ 9223372036854775807) (w : World) (hr : RdL w w.heap.size inE 1 A ts) :
    Calls Try.prog 58 #[.slice A ts.length cap] w fun e w' => e = .returned (.bool (ts.all okTime)) ∧ Below w.heap.size w w' := by
  have HC := Lib.hid (ContainsFuncIn ts A cap hl _ #[] (fun t => !okTime t) w hr call_timed1 (fun t _ W _ => by simpa using timed1_c t W))
  clear hr
  rw [← any_not]
  generalize ts.any (fun t => !okTime t) = X at *
  go_enter Try.func58, Try.ntmps58
  go_wp2_with fail
  refine HC.out.mono ?_
  rintro e w1 ⟨rfl, hb⟩
  go_wp2
  go_ret
  exact ⟨rfl, hb⟩
end Go.Proofs.Ytbcabckokmjelaa
namespace Go.Proofs.Ytbcabckokmjelaa
open Go.RowKit
set_option linter.unusedVariables false
set_option linter.unusedSimpArgs false
/-- A tube and a transit, as numbers. -/
structure Obs where
  xs : List Int
  e : Int
  nm : ByteArray
  a : Int
  b : Int
  c : Int
  ts : List Int
def fitsB (o : Obs) : Bool := okTube o.xs o.e && (okStar o.nm o.a o.b o.c && (decide (o.ts.length = o.xs.length) && o.ts.all okTime))
/-- What the contracts ask of the two slices and the name. -/
structure ObsAt (o : Obs) (A : Option Addr) (T : Option Addr) (w : World) : Prop where
  hn : o.nm.size ≤ 9223372036854775807
  hx : o.xs.length ≤ 9223372036854775807
  ht : o.ts.length ≤ 9223372036854775807
  rx : RdL w w.heap.size inE 1 A o.xs
  rt : RdL w w.heap.size inE 1 T o.ts
theorem ObsAt.step {o : Obs} {A T : Option Addr} {w W : World} (h : ObsAt o A T w) (hb : Below w.heap.size w W) : ObsAt o A T W := ⟨h.hn, h.hx, h.ht, h.rx.step hb, h.rt.step hb⟩
theorem Fits_c (o : Obs) (A T : Option Addr) (ca ct : Nat) (w : World) (h : ObsAt o A T w) :
    Calls Try.prog 24 #[.agg #[.slice A o.xs.length ca, .int .i64 o.e], .agg #[.string o.nm, .int .i64 o.a, .int .i64 o.b, .int .i64 o.c, .slice T o.ts.length ct]] w fun r w' => r = .returned (.bool (fitsB o)) ∧ Below w.heap.size w w' := by
  obtain ⟨hn, hx, ht, rx, rt⟩ := h
  have HX := Lib.hid rx
  have HT := Lib.hid rt
  have H1 := Lib.hid (fun W hb => ValidTube_c o.xs A ca o.e hx W (HX.out.step hb))
  have H2 := Lib.hid (fun W => ValidStar_c o.nm o.a o.b o.c hn W)
  have H3 := Lib.hid (fun W hb => timed_c o.ts T ct ht W (HT.out.step hb))
  clear rx rt
  unfold fitsB
  cases h1 : okTube o.xs o.e
  · rw [h1] at H1
    clear h1
    go_enter Try.func24, Try.ntmps24
    go_wp2_with fail
    refine (H1.out _ (by (repeat (first | exact Below.refl _ _ | refine Below.drew ?_ | refine Below.allocS ?_ _ | refine Below.step ?_ (by assumption) | refine Below.setCell ?_ (by simp <;> omega) _ | refine Below.drewN' ?_ _)))).mono ?_
    rintro e w1 ⟨rfl, hb1⟩
    have x1_0_0 : w1.cell? ⟨w.heap.size, 0, none⟩ = some (.slice A o.xs.length ca) := keep_cell hb1 (by simp [go_sem, *])
    have x1_0_1 : w1.cell? ⟨w.heap.size, 1, none⟩ = some (.int .i64 o.e) := keep_cell hb1 (by simp [go_sem, *])
    have y1_0 : w.heap.size < w1.heap.size := cell?_lt x1_0_0
    have x1_1_0 : w1.cell? ⟨w.heap.size + 1, 0, none⟩ = some (.string o.nm) := keep_cell hb1 (by simp [go_sem, *])
    have x1_1_1 : w1.cell? ⟨w.heap.size + 1, 1, none⟩ = some (.int .i64 o.a) := keep_cell hb1 (by simp [go_sem, *])
    have x1_1_2 : w1.cell? ⟨w.heap.size + 1, 2, none⟩ = some (.int .i64 o.b) := keep_cell hb1 (by simp [go_sem, *])
    have x1_1_3 : w1.cell? ⟨w.heap.size + 1, 3, none⟩ = some (.int .i64 o.c) := keep_cell hb1 (by simp [go_sem, *])
    have x1_1_4 : w1.cell? ⟨w.heap.size + 1, 4, none⟩ = some (.slice T o.ts.length ct) := keep_cell hb1 (by simp [go_sem, *])
    have y1_1 : w.heap.size + 1 < w1.heap.size := cell?_lt x1_1_0
    have g1 : Below w.heap.size w w1 := by (repeat (first | exact Below.refl _ _ | refine Below.drew ?_ | refine Below.allocS ?_ _ | refine Below.step ?_ (by assumption) | refine Below.setCell ?_ (by simp <;> omega) _ | refine Below.drewN' ?_ _))
    clear hb1
    go_wp2
    go_ret
    exact ⟨rfl, by (repeat (first | exact Below.refl _ _ | refine Below.drew ?_ | refine Below.allocS ?_ _ | refine Below.step ?_ (by assumption) | refine Below.setCell ?_ (by simp <;> omega) _ | refine Below.drewN' ?_ _))⟩
  cases h2 : okStar o.nm o.a o.b o.c
  · rw [h1] at H1
    rw [h2] at H2
    clear h1 h2
    go_enter Try.func24, Try.ntmps24
    go_wp2_with fail
    refine (H1.out _ (by (repeat (first | exact Below.refl _ _ | refine Below.drew ?_ | refine Below.allocS ?_ _ | refine Below.step ?_ (by assumption) | refine Below.setCell ?_ (by simp <;> omega) _ | refine Below.drewN' ?_ _)))).mono ?_
    rintro e w1 ⟨rfl, hb1⟩
    have x1_0_0 : w1.cell? ⟨w.heap.size, 0, none⟩ = some (.slice A o.xs.length ca) := keep_cell hb1 (by simp [go_sem, *])
    have x1_0_1 : w1.cell? ⟨w.heap.size, 1, none⟩ = some (.int .i64 o.e) := keep_cell hb1 (by simp [go_sem, *])
    have y1_0 : w.heap.size < w1.heap.size := cell?_lt x1_0_0
    have x1_1_0 : w1.cell? ⟨w.heap.size + 1, 0, none⟩ = some (.string o.nm) := keep_cell hb1 (by simp [go_sem, *])
    have x1_1_1 : w1.cell? ⟨w.heap.size + 1, 1, none⟩ = some (.int .i64 o.a) := keep_cell hb1 (by simp [go_sem, *])
    have x1_1_2 : w1.cell? ⟨w.heap.size + 1, 2, none⟩ = some (.int .i64 o.b) := keep_cell hb1 (by simp [go_sem, *])
    have x1_1_3 : w1.cell? ⟨w.heap.size + 1, 3, none⟩ = some (.int .i64 o.c) := keep_cell hb1 (by simp [go_sem, *])
    have x1_1_4 : w1.cell? ⟨w.heap.size + 1, 4, none⟩ = some (.slice T o.ts.length ct) := keep_cell hb1 (by simp [go_sem, *])
    have y1_1 : w.heap.size + 1 < w1.heap.size := cell?_lt x1_1_0
    have g1 : Below w.heap.size w w1 := by (repeat (first | exact Below.refl _ _ | refine Below.drew ?_ | refine Below.allocS ?_ _ | refine Below.step ?_ (by assumption) | refine Below.setCell ?_ (by simp <;> omega) _ | refine Below.drewN' ?_ _))
    clear hb1
    go_wp2_with fail
    refine (H2.out _).mono ?_
    rintro e w2 ⟨rfl, hb2⟩
    have x2_0_0 : w2.cell? ⟨w.heap.size, 0, none⟩ = some (.slice A o.xs.length ca) := keep_cell hb2 (by simp [go_sem, *])
    have x2_0_1 : w2.cell? ⟨w.heap.size, 1, none⟩ = some (.int .i64 o.e) := keep_cell hb2 (by simp [go_sem, *])
    have y2_0 : w.heap.size < w2.heap.size := cell?_lt x2_0_0
    have x2_1_0 : w2.cell? ⟨w.heap.size + 1, 0, none⟩ = some (.string o.nm) := keep_cell hb2 (by simp [go_sem, *])
    have x2_1_1 : w2.cell? ⟨w.heap.size + 1, 1, none⟩ = some (.int .i64 o.a) := keep_cell hb2 (by simp [go_sem, *])
    have x2_1_2 : w2.cell? ⟨w.heap.size + 1, 2, none⟩ = some (.int .i64 o.b) := keep_cell hb2 (by simp [go_sem, *])
    have x2_1_3 : w2.cell? ⟨w.heap.size + 1, 3, none⟩ = some (.int .i64 o.c) := keep_cell hb2 (by simp [go_sem, *])
    have x2_1_4 : w2.cell? ⟨w.heap.size + 1, 4, none⟩ = some (.slice T o.ts.length ct) := keep_cell hb2 (by simp [go_sem, *])
    have y2_1 : w.heap.size + 1 < w2.heap.size := cell?_lt x2_1_0
    have g2 : Below w.heap.size w w2 := by (repeat (first | exact Below.refl _ _ | refine Below.drew ?_ | refine Below.allocS ?_ _ | refine Below.step ?_ (by assumption) | refine Below.setCell ?_ (by simp <;> omega) _ | refine Below.drewN' ?_ _))
    clear hb2 g1 x1_0_0 x1_0_1 x1_1_0 x1_1_1 x1_1_2 x1_1_3 x1_1_4 y1_0 y1_1
    go_wp2
    go_ret
    exact ⟨rfl, by (repeat (first | exact Below.refl _ _ | refine Below.drew ?_ | refine Below.allocS ?_ _ | refine Below.step ?_ (by assumption) | refine Below.setCell ?_ (by simp <;> omega) _ | refine Below.drewN' ?_ _))⟩
  rw [h1] at H1
  rw [h2] at H2
  clear h1 h2
  by_cases h3 : o.ts.length = o.xs.length
  · rw [decide_eq_true h3]
    have g3 : ((o.ts.length : Int) == (o.xs.length : Int)) = true := by simp; omega
    generalize o.ts.all okTime = X at *
    clear h3
    go_enter Try.func24, Try.ntmps24
    go_wp2_with fail
    refine (H1.out _ (by (repeat (first | exact Below.refl _ _ | refine Below.drew ?_ | refine Below.allocS ?_ _ | refine Below.step ?_ (by assumption) | refine Below.setCell ?_ (by simp <;> omega) _ | refine Below.drewN' ?_ _)))).mono ?_
    rintro e w1 ⟨rfl, hb1⟩
    have x1_0_0 : w1.cell? ⟨w.heap.size, 0, none⟩ = some (.slice A o.xs.length ca) := keep_cell hb1 (by simp [go_sem, *])
    have x1_0_1 : w1.cell? ⟨w.heap.size, 1, none⟩ = some (.int .i64 o.e) := keep_cell hb1 (by simp [go_sem, *])
    have y1_0 : w.heap.size < w1.heap.size := cell?_lt x1_0_0
    have x1_1_0 : w1.cell? ⟨w.heap.size + 1, 0, none⟩ = some (.string o.nm) := keep_cell hb1 (by simp [go_sem, *])
    have x1_1_1 : w1.cell? ⟨w.heap.size + 1, 1, none⟩ = some (.int .i64 o.a) := keep_cell hb1 (by simp [go_sem, *])
    have x1_1_2 : w1.cell? ⟨w.heap.size + 1, 2, none⟩ = some (.int .i64 o.b) := keep_cell hb1 (by simp [go_sem, *])
    have x1_1_3 : w1.cell? ⟨w.heap.size + 1, 3, none⟩ = some (.int .i64 o.c) := keep_cell hb1 (by simp [go_sem, *])
    have x1_1_4 : w1.cell? ⟨w.heap.size + 1, 4, none⟩ = some (.slice T o.ts.length ct) := keep_cell hb1 (by simp [go_sem, *])
    have y1_1 : w.heap.size + 1 < w1.heap.size := cell?_lt x1_1_0
    have g1 : Below w.heap.size w w1 := by (repeat (first | exact Below.refl _ _ | refine Below.drew ?_ | refine Below.allocS ?_ _ | refine Below.step ?_ (by assumption) | refine Below.setCell ?_ (by simp <;> omega) _ | refine Below.drewN' ?_ _))
    clear hb1
    go_wp2_with fail
    refine (H2.out _).mono ?_
    rintro e w2 ⟨rfl, hb2⟩
    have x2_0_0 : w2.cell? ⟨w.heap.size, 0, none⟩ = some (.slice A o.xs.length ca) := keep_cell hb2 (by simp [go_sem, *])
    have x2_0_1 : w2.cell? ⟨w.heap.size, 1, none⟩ = some (.int .i64 o.e) := keep_cell hb2 (by simp [go_sem, *])
    have y2_0 : w.heap.size < w2.heap.size := cell?_lt x2_0_0
    have x2_1_0 : w2.cell? ⟨w.heap.size + 1, 0, none⟩ = some (.string o.nm) := keep_cell hb2 (by simp [go_sem, *])
    have x2_1_1 : w2.cell? ⟨w.heap.size + 1, 1, none⟩ = some (.int .i64 o.a) := keep_cell hb2 (by simp [go_sem, *])
    have x2_1_2 : w2.cell? ⟨w.heap.size + 1, 2, none⟩ = some (.int .i64 o.b) := keep_cell hb2 (by simp [go_sem, *])
    have x2_1_3 : w2.cell? ⟨w.heap.size + 1, 3, none⟩ = some (.int .i64 o.c) := keep_cell hb2 (by simp [go_sem, *])
    have x2_1_4 : w2.cell? ⟨w.heap.size + 1, 4, none⟩ = some (.slice T o.ts.length ct) := keep_cell hb2 (by simp [go_sem, *])
    have y2_1 : w.heap.size + 1 < w2.heap.size := cell?_lt x2_1_0
    have g2 : Below w.heap.size w w2 := by (repeat (first | exact Below.refl _ _ | refine Below.drew ?_ | refine Below.allocS ?_ _ | refine Below.step ?_ (by assumption) | refine Below.setCell ?_ (by simp <;> omega) _ | refine Below.drewN' ?_ _))
    clear hb2 g1 x1_0_0 x1_0_1 x1_1_0 x1_1_1 x1_1_2 x1_1_3 x1_1_4 y1_0 y1_1
    go_wp2_with fail
    refine (H3.out _ (by (repeat (first | exact Below.refl _ _ | refine Below.drew ?_ | refine Below.allocS ?_ _ | refine Below.step ?_ (by assumption) | refine Below.setCell ?_ (by simp <;> omega) _ | refine Below.drewN' ?_ _)))).mono ?_
    rintro e w3 ⟨rfl, hb3⟩
    have x3_0_0 : w3.cell? ⟨w.heap.size, 0, none⟩ = some (.slice A o.xs.length ca) := keep_cell hb3 (by simp [go_sem, *])
    have x3_0_1 : w3.cell? ⟨w.heap.size, 1, none⟩ = some (.int .i64 o.e) := keep_cell hb3 (by simp [go_sem, *])
    have y3_0 : w.heap.size < w3.heap.size := cell?_lt x3_0_0
    have x3_1_0 : w3.cell? ⟨w.heap.size + 1, 0, none⟩ = some (.string o.nm) := keep_cell hb3 (by simp [go_sem, *])
    have x3_1_1 : w3.cell? ⟨w.heap.size + 1, 1, none⟩ = some (.int .i64 o.a) := keep_cell hb3 (by simp [go_sem, *])
    have x3_1_2 : w3.cell? ⟨w.heap.size + 1, 2, none⟩ = some (.int .i64 o.b) := keep_cell hb3 (by simp [go_sem, *])
    have x3_1_3 : w3.cell? ⟨w.heap.size + 1, 3, none⟩ = some (.int .i64 o.c) := keep_cell hb3 (by simp [go_sem, *])
    have x3_1_4 : w3.cell? ⟨w.heap.size + 1, 4, none⟩ = some (.slice T o.ts.length ct) := keep_cell hb3 (by simp [go_sem, *])
    have y3_1 : w.heap.size + 1 < w3.heap.size := cell?_lt x3_1_0
    have g3 : Below w.heap.size w w3 := by (repeat (first | exact Below.refl _ _ | refine Below.drew ?_ | refine Below.allocS ?_ _ | refine Below.step ?_ (by assumption) | refine Below.setCell ?_ (by simp <;> omega) _ | refine Below.drewN' ?_ _))
    clear hb3 g2 x2_0_0 x2_0_1 x2_1_0 x2_1_1 x2_1_2 x2_1_3 x2_1_4 y2_0 y2_1
    go_wp2
    go_ret
    exact ⟨rfl, by (repeat (first | exact Below.refl _ _ | refine Below.drew ?_ | refine Below.allocS ?_ _ | refine Below.step ?_ (by assumption) | refine Below.setCell ?_ (by simp <;> omega) _ | refine Below.drewN' ?_ _))⟩
  · rw [decide_eq_false h3]
    have g3' : ((o.ts.length : Int) == (o.xs.length : Int)) = false := by simp; omega
    clear h3
    go_enter Try.func24, Try.ntmps24
    go_wp2_with fail
    refine (H1.out _ (by (repeat (first | exact Below.refl _ _ | refine Below.drew ?_ | refine Below.allocS ?_ _ | refine Below.step ?_ (by assumption) | refine Below.setCell ?_ (by simp <;> omega) _ | refine Below.drewN' ?_ _)))).mono ?_
    rintro e w1 ⟨rfl, hb1⟩
    have x1_0_0 : w1.cell? ⟨w.heap.size, 0, none⟩ = some (.slice A o.xs.length ca) := keep_cell hb1 (by simp [go_sem, *])
    have x1_0_1 : w1.cell? ⟨w.heap.size, 1, none⟩ = some (.int .i64 o.e) := keep_cell hb1 (by simp [go_sem, *])
    have y1_0 : w.heap.size < w1.heap.size := cell?_lt x1_0_0
    have x1_1_0 : w1.cell? ⟨w.heap.size + 1, 0, none⟩ = some (.string o.nm) := keep_cell hb1 (by simp [go_sem, *])
    have x1_1_1 : w1.cell? ⟨w.heap.size + 1, 1, none⟩ = some (.int .i64 o.a) := keep_cell hb1 (by simp [go_sem, *])
    have x1_1_2 : w1.cell? ⟨w.heap.size + 1, 2, none⟩ = some (.int .i64 o.b) := keep_cell hb1 (by simp [go_sem, *])
    have x1_1_3 : w1.cell? ⟨w.heap.size + 1, 3, none⟩ = some (.int .i64 o.c) := keep_cell hb1 (by simp [go_sem, *])
    have x1_1_4 : w1.cell? ⟨w.heap.size + 1, 4, none⟩ = some (.slice T o.ts.length ct) := keep_cell hb1 (by simp [go_sem, *])
    have y1_1 : w.heap.size + 1 < w1.heap.size := cell?_lt x1_1_0
    have g1 : Below w.heap.size w w1 := by (repeat (first | exact Below.refl _ _ | refine Below.drew ?_ | refine Below.allocS ?_ _ | refine Below.step ?_ (by assumption) | refine Below.setCell ?_ (by simp <;> omega) _ | refine Below.drewN' ?_ _))
    clear hb1
    go_wp2_with fail
    refine (H2.out _).mono ?_
    rintro e w2 ⟨rfl, hb2⟩
    have x2_0_0 : w2.cell? ⟨w.heap.size, 0, none⟩ = some (.slice A o.xs.length ca) := keep_cell hb2 (by simp [go_sem, *])
    have x2_0_1 : w2.cell? ⟨w.heap.size, 1, none⟩ = some (.int .i64 o.e) := keep_cell hb2 (by simp [go_sem, *])
    have y2_0 : w.heap.size < w2.heap.size := cell?_lt x2_0_0
    have x2_1_0 : w2.cell? ⟨w.heap.size + 1, 0, none⟩ = some (.string o.nm) := keep_cell hb2 (by simp [go_sem, *])
    have x2_1_1 : w2.cell? ⟨w.heap.size + 1, 1, none⟩ = some (.int .i64 o.a) := keep_cell hb2 (by simp [go_sem, *])
    have x2_1_2 : w2.cell? ⟨w.heap.size + 1, 2, none⟩ = some (.int .i64 o.b) := keep_cell hb2 (by simp [go_sem, *])
    have x2_1_3 : w2.cell? ⟨w.heap.size + 1, 3, none⟩ = some (.int .i64 o.c) := keep_cell hb2 (by simp [go_sem, *])
    have x2_1_4 : w2.cell? ⟨w.heap.size + 1, 4, none⟩ = some (.slice T o.ts.length ct) := keep_cell hb2 (by simp [go_sem, *])
    have y2_1 : w.heap.size + 1 < w2.heap.size := cell?_lt x2_1_0
    have g2 : Below w.heap.size w w2 := by (repeat (first | exact Below.refl _ _ | refine Below.drew ?_ | refine Below.allocS ?_ _ | refine Below.step ?_ (by assumption) | refine Below.setCell ?_ (by simp <;> omega) _ | refine Below.drewN' ?_ _))
    clear hb2 g1 x1_0_0 x1_0_1 x1_1_0 x1_1_1 x1_1_2 x1_1_3 x1_1_4 y1_0 y1_1
    go_wp2
    go_ret
    exact ⟨rfl, by (repeat (first | exact Below.refl _ _ | refine Below.drew ?_ | refine Below.allocS ?_ _ | refine Below.step ?_ (by assumption) | refine Below.setCell ?_ (by simp <;> omega) _ | refine Below.drewN' ?_ _))⟩
end Go.Proofs.Ytbcabckokmjelaa
namespace Go.Proofs.Ytbcabckokmjelaa
open Go.RowKit
set_option linter.unusedVariables false
set_option linter.unusedSimpArgs false
set_option maxHeartbeats 1000000 in
theorem rFits_c (o : Obs) (A T : Option Addr) (ca ct : Nat) (w : World) (h : ObsAt o A T w) :
    Calls Try.prog 25 #[.agg #[.slice A o.xs.length ca, .int .i64 o.e], .agg #[.string o.nm, .int .i64 o.a, .int .i64 o.b, .int .i64 o.c, .slice T o.ts.length ct]] w fun r w' => r = .returned (.bool (fitsB o)) ∧ Below w.heap.size w w' := by
  obtain ⟨hn, hx, ht, rx, rt⟩ := h
  have HX := Lib.hid rx
  have HT := Lib.hid rt
  have H1 := Lib.hid (fun W hb => rValidTube_c o.xs A ca o.e hx W (HX.out.step hb))
  have H2 := Lib.hid (fun W => rValidStar_c o.nm o.a o.b o.c hn W)
  clear rx rt
  unfold fitsB
  cases h1 : okTube o.xs o.e
  · rw [h1] at H1
    clear h1
    go_enter Try.func25, Try.ntmps25
    go_wp2_with fail
    refine (H1.out _ (by (repeat (first | exact Below.refl _ _ | refine Below.drew ?_ | refine Below.allocS ?_ _ | refine Below.step ?_ (by assumption) | refine Below.setCell ?_ (by simp <;> omega) _ | refine Below.drewN' ?_ _)))).mono ?_
    rintro e w1 ⟨rfl, hb1⟩
    have x1_0_0 : w1.cell? ⟨w.heap.size, 0, none⟩ = some (.slice A o.xs.length ca) := keep_cell hb1 (by simp [go_sem, *])
    have x1_0_1 : w1.cell? ⟨w.heap.size, 1, none⟩ = some (.int .i64 o.e) := keep_cell hb1 (by simp [go_sem, *])
    have y1_0 : w.heap.size < w1.heap.size := cell?_lt x1_0_0
    have x1_1_0 : w1.cell? ⟨w.heap.size + 1, 0, none⟩ = some (.string o.nm) := keep_cell hb1 (by simp [go_sem, *])
    have x1_1_1 : w1.cell? ⟨w.heap.size + 1, 1, none⟩ = some (.int .i64 o.a) := keep_cell hb1 (by simp [go_sem, *])
    have x1_1_2 : w1.cell? ⟨w.heap.size + 1, 2, none⟩ = some (.int .i64 o.b) := keep_cell hb1 (by simp [go_sem, *])
    have x1_1_3 : w1.cell? ⟨w.heap.size + 1, 3, none⟩ = some (.int .i64 o.c) := keep_cell hb1 (by simp [go_sem, *])
    have x1_1_4 : w1.cell? ⟨w.heap.size + 1, 4, none⟩ = some (.slice T o.ts.length ct) := keep_cell hb1 (by simp [go_sem, *])
    have y1_1 : w.heap.size + 1 < w1.heap.size := cell?_lt x1_1_0
    have g1 : Below w.heap.size w w1 := by (repeat (first | exact Below.refl _ _ | refine Below.drew ?_ | refine Below.allocS ?_ _ | refine Below.step ?_ (by assumption) | refine Below.setCell ?_ (by simp <;> omega) _ | refine Below.drewN' ?_ _))
    clear hb1
    go_wp2
    go_ret
    exact ⟨rfl, by (repeat (first | exact Below.refl _ _ | refine Below.drew ?_ | refine Below.allocS ?_ _ | refine Below.step ?_ (by assumption) | refine Below.setCell ?_ (by simp <;> omega) _ | refine Below.drewN' ?_ _))⟩
  cases h2 : okStar o.nm o.a o.b o.c
  · rw [h1] at H1
    rw [h2] at H2
    clear h1 h2
    go_enter Try.func25, Try.ntmps25
    go_wp2_with fail
    refine (H1.out _ (by (repeat (first | exact Below.refl _ _ | refine Below.drew ?_ | refine Below.allocS ?_ _ | refine Below.step ?_ (by assumption) | refine Below.setCell ?_ (by simp <;> omega) _ | refine Below.drewN' ?_ _)))).mono ?_
    rintro e w1 ⟨rfl, hb1⟩
    have x1_0_0 : w1.cell? ⟨w.heap.size, 0, none⟩ = some (.slice A o.xs.length ca) := keep_cell hb1 (by simp [go_sem, *])
    have x1_0_1 : w1.cell? ⟨w.heap.size, 1, none⟩ = some (.int .i64 o.e) := keep_cell hb1 (by simp [go_sem, *])
    have y1_0 : w.heap.size < w1.heap.size := cell?_lt x1_0_0
    have x1_1_0 : w1.cell? ⟨w.heap.size + 1, 0, none⟩ = some (.string o.nm) := keep_cell hb1 (by simp [go_sem, *])
    have x1_1_1 : w1.cell? ⟨w.heap.size + 1, 1, none⟩ = some (.int .i64 o.a) := keep_cell hb1 (by simp [go_sem, *])
    have x1_1_2 : w1.cell? ⟨w.heap.size + 1, 2, none⟩ = some (.int .i64 o.b) := keep_cell hb1 (by simp [go_sem, *])
    have x1_1_3 : w1.cell? ⟨w.heap.size + 1, 3, none⟩ = some (.int .i64 o.c) := keep_cell hb1 (by simp [go_sem, *])
    have x1_1_4 : w1.cell? ⟨w.heap.size + 1, 4, none⟩ = some (.slice T o.ts.length ct) := keep_cell hb1 (by simp [go_sem, *])
    have y1_1 : w.heap.size + 1 < w1.heap.size := cell?_lt x1_1_0
    have g1 : Below w.heap.size w w1 := by (repeat (first | exact Below.refl _ _ | refine Below.drew ?_ | refine Below.allocS ?_ _ | refine Below.step ?_ (by assumption) | refine Below.setCell ?_ (by simp <;> omega) _ | refine Below.drewN' ?_ _))
    clear hb1
    go_wp2_with fail
    refine (H2.out _).mono ?_
    rintro e w2 ⟨rfl, hb2⟩
    have x2_0_0 : w2.cell? ⟨w.heap.size, 0, none⟩ = some (.slice A o.xs.length ca) := keep_cell hb2 (by simp [go_sem, *])
    have x2_0_1 : w2.cell? ⟨w.heap.size, 1, none⟩ = some (.int .i64 o.e) := keep_cell hb2 (by simp [go_sem, *])
    have y2_0 : w.heap.size < w2.heap.size := cell?_lt x2_0_0
    have x2_1_0 : w2.cell? ⟨w.heap.size + 1, 0, none⟩ = some (.string o.nm) := keep_cell hb2 (by simp [go_sem, *])
    have x2_1_1 : w2.cell? ⟨w.heap.size + 1, 1, none⟩ = some (.int .i64 o.a) := keep_cell hb2 (by simp [go_sem, *])
    have x2_1_2 : w2.cell? ⟨w.heap.size + 1, 2, none⟩ = some (.int .i64 o.b) := keep_cell hb2 (by simp [go_sem, *])
    have x2_1_3 : w2.cell? ⟨w.heap.size + 1, 3, none⟩ = some (.int .i64 o.c) := keep_cell hb2 (by simp [go_sem, *])
    have x2_1_4 : w2.cell? ⟨w.heap.size + 1, 4, none⟩ = some (.slice T o.ts.length ct) := keep_cell hb2 (by simp [go_sem, *])
    have y2_1 : w.heap.size + 1 < w2.heap.size := cell?_lt x2_1_0
    have g2 : Below w.heap.size w w2 := by (repeat (first | exact Below.refl _ _ | refine Below.drew ?_ | refine Below.allocS ?_ _ | refine Below.step ?_ (by assumption) | refine Below.setCell ?_ (by simp <;> omega) _ | refine Below.drewN' ?_ _))
    clear hb2 g1 x1_0_0 x1_0_1 x1_1_0 x1_1_1 x1_1_2 x1_1_3 x1_1_4 y1_0 y1_1
    go_wp2
    go_ret
    exact ⟨rfl, by (repeat (first | exact Below.refl _ _ | refine Below.drew ?_ | refine Below.allocS ?_ _ | refine Below.step ?_ (by assumption) | refine Below.setCell ?_ (by simp <;> omega) _ | refine Below.drewN' ?_ _))⟩
  rw [h1] at H1
  rw [h2] at H2
  clear h1 h2
  by_cases h3 : o.ts.length = o.xs.length
  case neg =>
    rw [decide_eq_false h3]
    have g3' : ((o.ts.length : Int) != (o.xs.length : Int)) = true := by simp; omega
    clear h3
    go_enter Try.func25, Try.ntmps25
    go_wp2_with fail
    refine (H1.out _ (by (repeat (first | exact Below.refl _ _ | refine Below.drew ?_ | refine Below.allocS ?_ _ | refine Below.step ?_ (by assumption) | refine Below.setCell ?_ (by simp <;> omega) _ | refine Below.drewN' ?_ _)))).mono ?_
    rintro e w1 ⟨rfl, hb1⟩
    have x1_0_0 : w1.cell? ⟨w.heap.size, 0, none⟩ = some (.slice A o.xs.length ca) := keep_cell hb1 (by simp [go_sem, *])
    have x1_0_1 : w1.cell? ⟨w.heap.size, 1, none⟩ = some (.int .i64 o.e) := keep_cell hb1 (by simp [go_sem, *])
    have y1_0 : w.heap.size < w1.heap.size := cell?_lt x1_0_0
    have x1_1_0 : w1.cell? ⟨w.heap.size + 1, 0, none⟩ = some (.string o.nm) := keep_cell hb1 (by simp [go_sem, *])
    have x1_1_1 : w1.cell? ⟨w.heap.size + 1, 1, none⟩ = some (.int .i64 o.a) := keep_cell hb1 (by simp [go_sem, *])
    have x1_1_2 : w1.cell? ⟨w.heap.size + 1, 2, none⟩ = some (.int .i64 o.b) := keep_cell hb1 (by simp [go_sem, *])
    have x1_1_3 : w1.cell? ⟨w.heap.size + 1, 3, none⟩ = some (.int .i64 o.c) := keep_cell hb1 (by simp [go_sem, *])
    have x1_1_4 : w1.cell? ⟨w.heap.size + 1, 4, none⟩ = some (.slice T o.ts.length ct) := keep_cell hb1 (by simp [go_sem, *])
    have y1_1 : w.heap.size + 1 < w1.heap.size := cell?_lt x1_1_0
    have g1 : Below w.heap.size w w1 := by (repeat (first | exact Below.refl _ _ | refine Below.drew ?_ | refine Below.allocS ?_ _ | refine Below.step ?_ (by assumption) | refine Below.setCell ?_ (by simp <;> omega) _ | refine Below.drewN' ?_ _))
    clear hb1
    go_wp2_with fail
    refine (H2.out _).mono ?_
    rintro e w2 ⟨rfl, hb2⟩
    have x2_0_0 : w2.cell? ⟨w.heap.size, 0, none⟩ = some (.slice A o.xs.length ca) := keep_cell hb2 (by simp [go_sem, *])
    have x2_0_1 : w2.cell? ⟨w.heap.size, 1, none⟩ = some (.int .i64 o.e) := keep_cell hb2 (by simp [go_sem, *])
    have y2_0 : w.heap.size < w2.heap.size := cell?_lt x2_0_0
    have x2_1_0 : w2.cell? ⟨w.heap.size + 1, 0, none⟩ = some (.string o.nm) := keep_cell hb2 (by simp [go_sem, *])
    have x2_1_1 : w2.cell? ⟨w.heap.size + 1, 1, none⟩ = some (.int .i64 o.a) := keep_cell hb2 (by simp [go_sem, *])
    have x2_1_2 : w2.cell? ⟨w.heap.size + 1, 2, none⟩ = some (.int .i64 o.b) := keep_cell hb2 (by simp [go_sem, *])
    have x2_1_3 : w2.cell? ⟨w.heap.size + 1, 3, none⟩ = some (.int .i64 o.c) := keep_cell hb2 (by simp [go_sem, *])
    have x2_1_4 : w2.cell? ⟨w.heap.size + 1, 4, none⟩ = some (.slice T o.ts.length ct) := keep_cell hb2 (by simp [go_sem, *])
    have y2_1 : w.heap.size + 1 < w2.heap.size := cell?_lt x2_1_0
    have g2 : Below w.heap.size w w2 := by (repeat (first | exact Below.refl _ _ | refine Below.drew ?_ | refine Below.allocS ?_ _ | refine Below.step ?_ (by assumption) | refine Below.setCell ?_ (by simp <;> omega) _ | refine Below.drewN' ?_ _))
    clear hb2 g1 x1_0_0 x1_0_1 x1_1_0 x1_1_1 x1_1_2 x1_1_3 x1_1_4 y1_0 y1_1
    go_wp2
    go_ret
    exact ⟨rfl, by (repeat (first | exact Below.refl _ _ | refine Below.drew ?_ | refine Below.allocS ?_ _ | refine Below.step ?_ (by assumption) | refine Below.setCell ?_ (by simp <;> omega) _ | refine Below.drewN' ?_ _))⟩
  rw [decide_eq_true h3]
  have g3' : ((o.ts.length : Int) != (o.xs.length : Int)) = false := by simp; omega
  clear h3
  go_enter Try.func25, Try.ntmps25
  go_wp2_with fail
  refine (H1.out _ (by (repeat (first | exact Below.refl _ _ | refine Below.drew ?_ | refine Below.allocS ?_ _ | refine Below.step ?_ (by assumption) | refine Below.setCell ?_ (by simp <;> omega) _ | refine Below.drewN' ?_ _)))).mono ?_
  rintro e w1 ⟨rfl, hb1⟩
  have x1_0_0 : w1.cell? ⟨w.heap.size, 0, none⟩ = some (.slice A o.xs.length ca) := keep_cell hb1 (by simp [go_sem, *])
  have x1_0_1 : w1.cell? ⟨w.heap.size, 1, none⟩ = some (.int .i64 o.e) := keep_cell hb1 (by simp [go_sem, *])
  have y1_0 : w.heap.size < w1.heap.size := cell?_lt x1_0_0
  have x1_1_0 : w1.cell? ⟨w.heap.size + 1, 0, none⟩ = some (.string o.nm) := keep_cell hb1 (by simp [go_sem, *])
  have x1_1_1 : w1.cell? ⟨w.heap.size + 1, 1, none⟩ = some (.int .i64 o.a) := keep_cell hb1 (by simp [go_sem, *])
  have x1_1_2 : w1.cell? ⟨w.heap.size + 1, 2, none⟩ = some (.int .i64 o.b) := keep_cell hb1 (by simp [go_sem, *])
  have x1_1_3 : w1.cell? ⟨w.heap.size + 1, 3, none⟩ = some (.int .i64 o.c) := keep_cell hb1 (by simp [go_sem, *])
  have x1_1_4 : w1.cell? ⟨w.heap.size + 1, 4, none⟩ = some (.slice T o.ts.length ct) := keep_cell hb1 (by simp [go_sem, *])
  have y1_1 : w.heap.size + 1 < w1.heap.size := cell?_lt x1_1_0
  have g1 : Below w.heap.size w w1 := by (repeat (first | exact Below.refl _ _ | refine Below.drew ?_ | refine Below.allocS ?_ _ | refine Below.step ?_ (by assumption) | refine Below.setCell ?_ (by simp <;> omega) _ | refine Below.drewN' ?_ _))
  clear hb1
  go_wp2_with fail
  refine (H2.out _).mono ?_
  rintro e w2 ⟨rfl, hb2⟩
  have x2_0_0 : w2.cell? ⟨w.heap.size, 0, none⟩ = some (.slice A o.xs.length ca) := keep_cell hb2 (by simp [go_sem, *])
  have x2_0_1 : w2.cell? ⟨w.heap.size, 1, none⟩ = some (.int .i64 o.e) := keep_cell hb2 (by simp [go_sem, *])
  have y2_0 : w.heap.size < w2.heap.size := cell?_lt x2_0_0
  have x2_1_0 : w2.cell? ⟨w.heap.size + 1, 0, none⟩ = some (.string o.nm) := keep_cell hb2 (by simp [go_sem, *])
  have x2_1_1 : w2.cell? ⟨w.heap.size + 1, 1, none⟩ = some (.int .i64 o.a) := keep_cell hb2 (by simp [go_sem, *])
  have x2_1_2 : w2.cell? ⟨w.heap.size + 1, 2, none⟩ = some (.int .i64 o.b) := keep_cell hb2 (by simp [go_sem, *])
  have x2_1_3 : w2.cell? ⟨w.heap.size + 1, 3, none⟩ = some (.int .i64 o.c) := keep_cell hb2 (by simp [go_sem, *])
  have x2_1_4 : w2.cell? ⟨w.heap.size + 1, 4, none⟩ = some (.slice T o.ts.length ct) := keep_cell hb2 (by simp [go_sem, *])
  have y2_1 : w.heap.size + 1 < w2.heap.size := cell?_lt x2_1_0
  have g2 : Below w.heap.size w w2 := by (repeat (first | exact Below.refl _ _ | refine Below.drew ?_ | refine Below.allocS ?_ _ | refine Below.step ?_ (by assumption) | refine Below.setCell ?_ (by simp <;> omega) _ | refine Below.drewN' ?_ _))
  clear hb2 g1 x1_0_0 x1_0_1 x1_1_0 x1_1_1 x1_1_2 x1_1_3 x1_1_4 y1_0 y1_1
  go_wp2_with fail
  go_loopw [28] (fun i wr => ∃ k : Nat, k ≤ o.ts.length ∧ i = .int .i64 k ∧ Below w2.heap.size w2 wr ∧ o.ts.all okTime = (o.ts.drop k).all okTime) (fun i _ => o.ts.length - (intOf i).toNat)
  case atStart => exact ⟨0, Nat.zero_le _, rfl, Below.refl _ _, rfl⟩
  case round =>
    obtain ⟨k, hk, rfl, hbw, hx⟩ := hrel
    have HXX := Lib.hid hx
    clear hx
    have gw := Below.step g2 hbw
    by_cases hlt : k < o.ts.length
    · obtain ⟨b, off, rfl, hb0, hc⟩ := HT.out (by omega)
      have c0 := (gw.cell (p := ⟨b, _, none⟩) hb0).trans (hc k hlt 0 _ rfl)
      clear hc
      simp at c0
      have hd : o.ts.drop k = o.ts[k] :: o.ts.drop (k + 1) := List.drop_eq_getElem_cons hlt
      have HD := Lib.hid hd
      clear hd
      have hb1 : b < wr.heap.size := cell?_lt c0
      have HI := Lib.hid (fun W => rwithin_c o.ts[k] (-1) 86399999 W)
      cases hp : within o.ts[k] (-1) 86399999
      · rw [hp] at HI
        have HO := Lib.hid (show o.ts.all okTime = false by rw [HXX.out, HD.out, List.all_cons, okTime, hp]; rfl)
        clear hp
        go_wp2_with (go_at_call 55; (with_reducible refine (HI.out _).mono ?_); rintro e w' ⟨rfl, rfl⟩)
        go_ret
        exact ⟨by rw [HO.out]; rfl, gw⟩
      · rw [hp] at HI
        have HO := Lib.hid (show (o.ts.drop k).all okTime = (o.ts.drop (k + 1)).all okTime by rw [HD.out, List.all_cons, okTime, hp]; rfl)
        clear hp
        go_wp2_with (go_at_call 55; (with_reducible refine (HI.out _).mono ?_); rintro e w' ⟨rfl, rfl⟩)
        go_roundw
        case rel => exact ⟨k + 1, by omega, by go_num, hbw, by rw [HXX.out, HO.out]⟩
        case measure => simp [intOf]; omega
    · obtain rfl : k = o.ts.length := by omega
      go_wp2
      go_ret
      exact ⟨by rw [HXX.out]; simp, gw⟩
end Go.Proofs.Ytbcabckokmjelaa
