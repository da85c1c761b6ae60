/-
  Names of night and of its reference, within. No conditions.
-/
import Derived.Test.YtimbdnngeoccdaaGreatDoorPre
import Derived.BigQuiet
import Derived.Deep.QuietTactic
import Derived.Lib.ConvBytes
namespace Go.Proofs.YtimbdnngeoccdaaGreatDoor
open Go.RowKit
set_option linter.unusedVariables false
set_option linter.unusedSimpArgs false
def within (n lo hi : Int) : Bool := decide (lo ≤ n) && decide (n ≤ hi)
theorem within_true {n lo hi : Int} (h : within n lo hi = true) : lo ≤ n ∧ n ≤ hi := by simpa [within] using h
theorem within_false {n lo hi : Int} (h : within n lo hi = false) : n < lo ∨ hi < n := by
  simp only [within, Bool.and_eq_false_iff, decide_eq_false_iff_not] at h; omega
theorem within_c (n lo hi : Int) (w : World) :
    Calls Tryz.prog 65 #[.int .i64 n, .int .i64 lo, .int .i64 hi] w fun e w' => e = .returned (.bool (within n lo hi)) ∧ w' = w := by
  by_cases h : lo ≤ n
  all_goals
    go_enter Tryz.func65, Tryz.ntmps65
    go_wp2
    go_ret
    exact ⟨by simp [within] <;> omega, rfl⟩
def byteAt (s : ByteArray) (k : Nat) : Nat := (s.data.toList.getD k 0).toNat
theorem byte_get (s : ByteArray) (k : Nat) (h : k < s.size) : s[k].toNat = byteAt s k := by
  unfold byteAt
  rw [List.getD_eq_getElem?_getD, List.getElem?_eq_getElem (by rw [Array.length_toList]; exact h)]
  rfl
/-- Whether a byte may stand at a place of a name. -/
def okI (k c : Nat) : Bool := (decide (97 ≤ c) && decide (c ≤ 122)) || (decide (k ≠ 0) && ((decide (48 ≤ c) && decide (c ≤ 57)) || decide (c = 95)))
def chk (s : ByteArray) : Nat → Nat → Bool
  | 0, _ => true
  | n + 1, k => okI k (byteAt s k) && chk s n (k + 1)
def nameB (s : ByteArray) : Bool := chk s s.size 0 && within s.size 1 16
theorem chk_step {s : ByteArray} {k : Nat} (h : k < s.size) : chk s (s.size - k) k = (okI k (byteAt s k) && chk s (s.size - (k + 1)) (k + 1)) := by
  rw [show s.size - k = s.size - (k + 1) + 1 by omega, chk]
theorem ok_cases (k c : Nat) : (okI k c = true ∧ (97 ≤ c ∧ c ≤ 122 ∨ k ≠ 0 ∧ (48 ≤ c ∧ c ≤ 57 ∨ c = 95))) ∨
    (okI k c = false ∧ ((k = 0 ∧ (c < 97 ∨ 122 < c)) ∨ k ≠ 0 ∧ (c < 48 ∨ 57 < c ∧ c < 97 ∧ c ≠ 95 ∨ 122 < c))) := by
  cases h : okI k c <;> simp only [okI, Bool.or_eq_true, Bool.and_eq_true, decide_eq_true_eq, Bool.or_eq_false_iff, Bool.and_eq_false_iff, decide_eq_false_iff_not] at h
  · exact Or.inr ⟨rfl, by omega⟩
  · exact Or.inl ⟨rfl, by omega⟩
set_option maxHeartbeats 2000000 in
theorem rname_c (s : ByteArray) (hs : s.size ≤ 9223372036854775807) (w : World) : Calls Tryz.prog 97 #[.string s] w fun e w' => e = .returned (.bool (nameB s)) ∧ Below w.heap.size w w' := by
  go_enter Tryz.func97, Tryz.ntmps97
  go_wp2
  go_loopw [7] (fun i wr => ∃ k : Nat, k ≤ s.size ∧ i = .int .i64 k ∧ Below w.heap.size w wr ∧ chk s s.size 0 = chk s (s.size - k) k) (fun i _ => s.size - (intOf i).toNat)
  case atStart => exact ⟨0, Nat.zero_le _, rfl, Below.refl _ _, rfl⟩
  case round =>
    obtain ⟨k, hk, rfl, hbw, hx⟩ := hrel
    have HX := Lib.hid hx
    clear hx
    by_cases hlt : k < s.size
    · have HST := Lib.hid (chk_step hlt)
      have hbg := byte_get s k hlt
      generalize byteAt s k = c at *
      rcases ok_cases k c with ⟨ho, h1 | ⟨h0, h2 | h3⟩⟩ | ⟨ho, ⟨h0, h1 | h1⟩ | ⟨h0, h1 | h1 | h1⟩⟩
      · obtain ⟨g1, g2⟩ := h1
        have HO := Lib.hid ho
        have f0 : decide ((c : Int) < 97) = false := decide_eq_false (by omega)
        have n0 : decide (c < 97) = false := decide_eq_false (by omega)
        have f1 : decide ((c : Int) > 122) = false := decide_eq_false (by omega)
        have m1 : decide (122 < (c : Int)) = false := decide_eq_false (by omega)
        have n1 : decide (122 < c) = false := decide_eq_false (by omega)
        clear ho
        go_wp2
        go_roundw
        case rel => exact ⟨k + 1, by omega, by go_num, hbw, by rw [HX.out, HST.out, HO.out]; rfl⟩
        case measure => simp [intOf]; omega
      · obtain ⟨g1, g2⟩ := h2
        have g3 : c < 97 := by omega
        have g4 : ¬ c = 95 := by omega
        have HO := Lib.hid ho
        have f0 : decide ((c : Int) < 97) = true := decide_eq_true (by omega)
        have n0 : decide (c < 97) = true := decide_eq_true (by omega)
        have f1 : decide ((c : Int) < 48) = false := decide_eq_false (by omega)
        have n1 : decide (c < 48) = false := decide_eq_false (by omega)
        have f2 : decide ((c : Int) > 57) = false := decide_eq_false (by omega)
        have m2 : decide (57 < (c : Int)) = false := decide_eq_false (by omega)
        have n2 : decide (57 < c) = false := decide_eq_false (by omega)
        have f3 : ((c : Int) != 95) = true := by simp; omega
        have f4 : ((k : Int) == 0) = false := by simp; omega
        clear ho
        go_wp2
        go_roundw
        case rel => exact ⟨k + 1, by omega, by go_num, hbw, by rw [HX.out, HST.out, HO.out]; rfl⟩
        case measure => simp [intOf]; omega
      · have g1 : c < 97 := by omega
        have g2 : 57 < c := by omega
        have HO := Lib.hid ho
        have f0 : decide ((c : Int) < 97) = true := decide_eq_true (by omega)
        have n0 : decide (c < 97) = true := decide_eq_true (by omega)
        have f1 : ((c : Int) != 95) = false := by simp; omega
        have f2 : ((k : Int) == 0) = false := by simp; omega
        clear ho
        go_wp2
        go_roundw
        case rel => exact ⟨k + 1, by omega, by go_num, hbw, by rw [HX.out, HST.out, HO.out]; rfl⟩
        case measure => simp [intOf]; omega
      · subst h0
        have HO := Lib.hid (show nameB s = false by unfold nameB; rw [HX.out, HST.out, ho]; rfl)
        have f0 : decide ((c : Int) < 97) = true := decide_eq_true (by omega)
        have n0 : decide (c < 97) = true := decide_eq_true (by omega)
        clear ho
        go_wp2
        go_ret
        exact ⟨by rw [HO.out]; rfl, hbw⟩
      · subst h0
        have g3 : 97 ≤ c := by omega
        have q3 : decide ((c : Int) ≤ 122) = false := decide_eq_false (by omega)
        have HO := Lib.hid (show nameB s = false by unfold nameB; rw [HX.out, HST.out, ho]; rfl)
        have f0 : decide ((c : Int) < 97) = false := decide_eq_false (by omega)
        have n0 : decide (c < 97) = false := decide_eq_false (by omega)
        have f1 : decide ((c : Int) > 122) = true := decide_eq_true (by omega)
        have m1 : decide (122 < (c : Int)) = true := decide_eq_true (by omega)
        have n1 : decide (122 < c) = true := decide_eq_true (by omega)
        clear ho
        go_wp2
        go_ret
        exact ⟨by rw [HO.out]; rfl, hbw⟩
      · have g1 : c < 97 := by omega
        have q1 : ((c : Int) != 95) = true := by simp; omega
        have q2 : ((k : Int) == 0) = false := by simp; omega
        have HO := Lib.hid (show nameB s = false by unfold nameB; rw [HX.out, HST.out, ho]; rfl)
        have f0 : decide ((c : Int) < 97) = true := decide_eq_true (by omega)
        have n0 : decide (c < 97) = true := decide_eq_true (by omega)
        have f1 : ((c : Int) != 95) = true := by simp; omega
        have f2 : decide ((c : Int) < 48) = true := decide_eq_true (by omega)
        have n2 : decide (c < 48) = true := decide_eq_true (by omega)
        have f3 : ((k : Int) == 0) = false := by simp; omega
        clear ho
        go_wp2
        go_ret
        exact ⟨by rw [HO.out]; rfl, hbw⟩
      · obtain ⟨g1, g2, g3⟩ := h1
        have g4 : 48 ≤ c := by omega
        have q1 : ((c : Int) != 95) = true := by simp; omega
        have q2 : ((k : Int) == 0) = false := by simp; omega
        have q4 : decide ((c : Int) ≤ 57) = false := decide_eq_false (by omega)
        have HO := Lib.hid (show nameB s = false by unfold nameB; rw [HX.out, HST.out, ho]; rfl)
        have f0 : decide ((c : Int) < 97) = true := decide_eq_true (by omega)
        have n0 : decide (c < 97) = true := decide_eq_true (by omega)
        have f1 : ((c : Int) != 95) = true := by simp; omega
        have f2 : decide ((c : Int) < 48) = false := decide_eq_false (by omega)
        have n2 : decide (c < 48) = false := decide_eq_false (by omega)
        have f3 : decide ((c : Int) > 57) = true := decide_eq_true (by omega)
        have m3 : decide (57 < (c : Int)) = true := decide_eq_true (by omega)
        have n3 : decide (57 < c) = true := decide_eq_true (by omega)
        have f4 : ((k : Int) == 0) = false := by simp; omega
        clear ho
        go_wp2
        go_ret
        exact ⟨by rw [HO.out]; rfl, hbw⟩
      · have g3 : 97 ≤ c := by omega
        have g4 : 48 ≤ c := by omega
        have g5 : 57 < c := by omega
        have g6 : c ≠ 95 := by omega
        have q1 : ((c : Int) != 95) = true := by simp; omega
        have q2 : ((k : Int) == 0) = false := by simp; omega
        have q3 : decide ((c : Int) ≤ 122) = false := decide_eq_false (by omega)
        have q4 : decide ((c : Int) ≤ 57) = false := decide_eq_false (by omega)
        have HO := Lib.hid (show nameB s = false by unfold nameB; rw [HX.out, HST.out, ho]; rfl)
        have f0 : decide ((c : Int) < 97) = false := decide_eq_false (by omega)
        have n0 : decide (c < 97) = false := decide_eq_false (by omega)
        have f1 : decide ((c : Int) > 122) = true := decide_eq_true (by omega)
        have m1 : decide (122 < (c : Int)) = true := decide_eq_true (by omega)
        have n1 : decide (122 < c) = true := decide_eq_true (by omega)
        have f2 : ((c : Int) != 95) = true := by simp; omega
        have f3 : decide ((c : Int) < 48) = false := decide_eq_false (by omega)
        have n3 : decide (c < 48) = false := decide_eq_false (by omega)
        have f4 : decide ((c : Int) > 57) = true := decide_eq_true (by omega)
        have m4 : decide (57 < (c : Int)) = true := decide_eq_true (by omega)
        have n4 : decide (57 < c) = true := decide_eq_true (by omega)
        have f5 : ((k : Int) == 0) = false := by simp; omega
        clear ho
        go_wp2
        go_ret
        exact ⟨by rw [HO.out]; rfl, hbw⟩
    · obtain rfl : k = s.size := by omega
      have HN := Lib.hid (show nameB s = within s.size 1 16 by unfold nameB; rw [HX.out, Nat.sub_self]; rfl)
      have HH := Lib.hid hs
      by_cases h1 : 1 ≤ s.size
      · have z1 : decide ((s.size : Int) ≥ 1) = true := decide_eq_true (by omega)
        have z2 : decide ((1 : Int) ≤ (s.size : Int)) = true := decide_eq_true (by omega)
        have HI := Lib.hid (show nameB s = decide ((s.size : Int) ≤ 16) by rw [HN.out]; unfold within; rw [z2]; rfl)
        go_wp2
        go_ret
        exact ⟨by rw [HI.out]; first | rfl | (simp; done) | (simp; omega), hbw⟩
      · have z1 : decide ((s.size : Int) ≥ 1) = false := decide_eq_false (by omega)
        have z2 : decide ((1 : Int) ≤ (s.size : Int)) = false := decide_eq_false (by omega)
        have HI := Lib.hid (show nameB s = false by rw [HN.out]; unfold within; rw [z2]; rfl)
        go_wp2
        go_ret
        exact ⟨by rw [HI.out]; first | rfl | (simp; done) | (simp; omega), hbw⟩
set_option maxHeartbeats 4000000 in
theorem name_c (s : ByteArray) (hs : s.size ≤ 9223372036854775807) (w : World) : Calls Tryz.prog 64 #[.string s] w fun e w' => e = .returned (.bool (nameB s)) ∧ Below w.heap.size w w' := by
  have HW := Lib.hid (fun W => within_c s.size 1 16 W)
  have hcv := Lib.run_convert_string_bytes (P := Tryz.prog) w 9 67 5 s (u := .string) Tryz.underlying9 Tryz.underlying67 Tryz.underlying5
  have HC := Lib.hid (fun j hj => Lib.bytesWorld_cell w 5 s j hj)
  have hsz := Lib.bytesWorld_size w 5 s
  have b0 : Below w.heap.size w (Lib.bytesWorld w 5 s) := ⟨rfl, rfl, rfl, by omega, fun k hk => Lib.bytesWorld_at_old w 5 s k hk⟩
  generalize Lib.bytesWorld w 5 s = W0 at *
  go_enter Tryz.func64, Tryz.ntmps64
  go_wp2
  clear hcv
  go_loopw [9] (fun i wr => ∃ k : Nat, k ≤ s.size ∧ i = .int .i64 k ∧ Below W0.heap.size W0 wr ∧ chk s s.size 0 = chk s (s.size - k) k) (fun i _ => s.size - (intOf i).toNat)
  case atStart => exact ⟨0, Nat.zero_le _, rfl, Below.refl _ _, rfl⟩
  case round =>
    obtain ⟨k, hk, rfl, hbw, hx⟩ := hrel
    have HX := Lib.hid hx
    clear hx
    by_cases hlt : k < s.size
    · have HST := Lib.hid (chk_step hlt)
      have hcl : wr.cell? ⟨w.heap.size, k, none⟩ = some (.int .u8 (byteAt s k : Nat)) := (hbw.cell (p := ⟨w.heap.size, k, none⟩) (by show w.heap.size < W0.heap.size; omega)).trans (HC.out k hlt)
      have hbl : w.heap.size < wr.heap.size := cell?_lt hcl
      have HIn := Lib.hid (fun W => within_c (byteAt s k : Nat) 48 57 W)
      have hc256 : byteAt s k < 256 := UInt8.toNat_lt _
      generalize byteAt s k = c at *
      rcases ok_cases k c with ⟨ho, h1 | ⟨h0, h2 | h3⟩⟩ | ⟨ho, ⟨h0, h1 | h1⟩ | ⟨h0, h1 | h1 | h1⟩⟩
      · obtain ⟨g1, g2⟩ := h1
        have HO := Lib.hid ho
        clear ho
        go_wp2_with (go_at_call 65; (with_reducible refine (HIn.out _).mono ?_); rintro e w' ⟨rfl, rfl⟩)
        go_roundw
        case rel => exact ⟨k + 1, by omega, by go_num, hbw, by rw [HX.out, HST.out, HO.out]; rfl⟩
        case measure => simp [intOf]; omega
      · obtain ⟨g1, g2⟩ := h2
        have g3 : c < 97 := by omega
        have q1 : ((c : Int) != 95) = true := by simp; omega
        have q2 : ((k : Int) == 0) = false := by simp; omega
        have hin : within (c : Int) 48 57 = true := by unfold within; simp; omega
        rw [hin] at HIn
        clear hin
        have HO := Lib.hid ho
        clear ho
        go_wp2_with (go_at_call 65; (with_reducible refine (HIn.out _).mono ?_); rintro e w' ⟨rfl, rfl⟩)
        go_roundw
        case rel => exact ⟨k + 1, by omega, by go_num, hbw, by rw [HX.out, HST.out, HO.out]; rfl⟩
        case measure => simp [intOf]; omega
      · have g1 : c < 97 := by omega
        have q2 : ((k : Int) == 0) = false := by simp; omega
        have HO := Lib.hid ho
        clear ho
        go_wp2_with (go_at_call 65; (with_reducible refine (HIn.out _).mono ?_); rintro e w' ⟨rfl, rfl⟩)
        go_roundw
        case rel => exact ⟨k + 1, by omega, by go_num, hbw, by rw [HX.out, HST.out, HO.out]; rfl⟩
        case measure => simp [intOf]; omega
      · subst h0
        have g1 : c < 97 := h1
        have HO := Lib.hid (show nameB s = false by unfold nameB; rw [HX.out, HST.out, ho]; rfl)
        clear ho
        go_wp2_with (go_at_call 65; (with_reducible refine (HIn.out _).mono ?_); rintro e w' ⟨rfl, rfl⟩)
        go_ret
        exact ⟨by rw [HO.out]; rfl, Below.step b0 hbw⟩
      · subst h0
        have g3 : 97 ≤ c := by omega
        have q3 : decide ((c : Int) ≤ 122) = false := decide_eq_false (by omega)
        have HO := Lib.hid (show nameB s = false by unfold nameB; rw [HX.out, HST.out, ho]; rfl)
        clear ho
        go_wp2_with (go_at_call 65; (with_reducible refine (HIn.out _).mono ?_); rintro e w' ⟨rfl, rfl⟩)
        go_ret
        exact ⟨by rw [HO.out]; rfl, Below.step b0 hbw⟩
      · have g1 : c < 97 := by omega
        have q1 : ((c : Int) != 95) = true := by simp; omega
        have q2 : ((k : Int) == 0) = false := by simp; omega
        have hin : within (c : Int) 48 57 = false := by unfold within; simp; omega
        rw [hin] at HIn
        clear hin
        have HO := Lib.hid (show nameB s = false by unfold nameB; rw [HX.out, HST.out, ho]; rfl)
        clear ho
        go_wp2_with (go_at_call 65; (with_reducible refine (HIn.out _).mono ?_); rintro e w' ⟨rfl, rfl⟩)
        go_ret
        exact ⟨by rw [HO.out]; rfl, Below.step b0 hbw⟩
      · obtain ⟨g1, g2, g3⟩ := h1
        have q1 : ((c : Int) != 95) = true := by simp; omega
        have q2 : ((k : Int) == 0) = false := by simp; omega
        have hin : within (c : Int) 48 57 = false := by unfold within; simp; omega
        rw [hin] at HIn
        clear hin
        have HO := Lib.hid (show nameB s = false by unfold nameB; rw [HX.out, HST.out, ho]; rfl)
        clear ho
        go_wp2_with (go_at_call 65; (with_reducible refine (HIn.out _).mono ?_); rintro e w' ⟨rfl, rfl⟩)
        go_ret
        exact ⟨by rw [HO.out]; rfl, Below.step b0 hbw⟩
      · have g3 : 97 ≤ c := by omega
        have hwr : IntKind.i64.wrap (c : Int) = c := IntWalk.i64_in _ (by omega)
        have q1 : ((c : Int) != 95) = true := by simp; omega
        have q2 : ((k : Int) == 0) = false := by simp; omega
        have q3 : decide ((c : Int) ≤ 122) = false := decide_eq_false (by omega)
        have hin : within (c : Int) 48 57 = false := by unfold within; simp; omega
        rw [hin] at HIn
        clear hin
        have HO := Lib.hid (show nameB s = false by unfold nameB; rw [HX.out, HST.out, ho]; rfl)
        clear ho
        go_wp2_with (go_at_call 65; (with_reducible refine (HIn.out _).mono ?_); rintro e w' ⟨rfl, rfl⟩)
        go_ret
        exact ⟨by rw [HO.out]; rfl, Below.step b0 hbw⟩
    · obtain rfl : k = s.size := by omega
      have HN := Lib.hid (show nameB s = within s.size 1 16 by unfold nameB; rw [HX.out, Nat.sub_self]; rfl)
      go_wp2_with fail
      refine (HW.out _).mono ?_
      rintro e w' ⟨rfl, rfl⟩
      go_wp2
      go_ret
      exact ⟨by rw [HN.out]; rfl, Below.step b0 hbw⟩
end Go.Proofs.YtimbdnngeoccdaaGreatDoor
