/-
  Name of transit.
-/
import Derived.Test.YtimbdnngeoccdaaDoorA4
import Derived.Lib.ConvBytes
namespace Go.Proofs.YtimbdnngeoccdaaDoor
open Go.RowKit
set_option linter.unusedVariables false
set_option linter.unusedSimpArgs false
set_option maxHeartbeats 4000000 in
theorem name_c (s : ByteArray) (hs : s.size ≤ 9223372036854775807) (w : World) : Calls Tryd.prog 52 #[.string s] w fun e w' => e = .returned (.bool (nameB s)) ∧ Below w.heap.size w w' := by
  have HW := Lib.hid (fun W => within_c s.size 1 16 W)
  have hcv := Lib.run_convert_string_bytes (P := Tryd.prog) w 9 62 5 s (u := .string) Tryd.underlying9 Tryd.underlying62 Tryd.underlying5
  have HC := Lib.hid (fun j hj => Lib.bytesWorld_cell w 5 s j hj)
  have hsz := Lib.bytesWorld_size w 5 s
  have b0 : Below w.heap.size w (Lib.bytesWorld w 5 s) := ⟨rfl, rfl, rfl, by omega, fun k hk => Lib.bytesWorld_at_old w 5 s k hk⟩
  generalize Lib.bytesWorld w 5 s = W0 at *
  go_enter Tryd.func52, Tryd.ntmps52
  go_wp2
  clear hcv
  go_loopw [9] (fun i wr => ∃ k : Nat, k ≤ s.size ∧ i = .int .i64 k ∧ Below W0.heap.size W0 wr ∧ chk s s.size 0 = chk s (s.size - k) k) (fun i _ => s.size - (intOf i).toNat)
  case atStart => exact ⟨0, Nat.zero_le _, rfl, Below.refl _ _, rfl⟩
  case round =>
    obtain ⟨k, hk, rfl, hbw, hx⟩ := hrel
    have HX := Lib.hid hx
    clear hx
    by_cases hlt : k < s.size
    · have HST := Lib.hid (chk_step hlt)
      have hcl : wr.cell? ⟨w.heap.size, k, none⟩ = some (.int .u8 (byteAt s k : Nat)) := (hbw.cell (p := ⟨w.heap.size, k, none⟩) (by show w.heap.size < W0.heap.size; omega)).trans (HC.out k hlt)
      have hbl : w.heap.size < wr.heap.size := cell?_lt hcl
      have HIn := Lib.hid (fun W => within_c (byteAt s k : Nat) 48 57 W)
      have hc256 : byteAt s k < 256 := UInt8.toNat_lt _
      generalize byteAt s k = c at *
      rcases ok_cases k c with ⟨ho, h1 | ⟨h0, h2 | h3⟩⟩ | ⟨ho, ⟨h0, h1 | h1⟩ | ⟨h0, h1 | h1 | h1⟩⟩
      · obtain ⟨g1, g2⟩ := h1
        have HO := Lib.hid ho
        clear ho
        go_wp2_with (go_at_call 45; (with_reducible refine (HIn.out _).mono ?_); rintro e w' ⟨rfl, rfl⟩)
        go_roundw
        case rel => exact ⟨k + 1, by omega, by go_num, hbw, by rw [HX.out, HST.out, HO.out]; rfl⟩
        case measure => simp [intOf]; omega
      · obtain ⟨g1, g2⟩ := h2
        have g3 : c < 97 := by omega
        have q1 : ((c : Int) != 95) = true := by simp; omega
        have q2 : ((k : Int) == 0) = false := by simp; omega
        have hin : within (c : Int) 48 57 = true := by unfold within; simp; omega
        rw [hin] at HIn
        clear hin
        have HO := Lib.hid ho
        clear ho
        go_wp2_with (go_at_call 45; (with_reducible refine (HIn.out _).mono ?_); rintro e w' ⟨rfl, rfl⟩)
        go_roundw
        case rel => exact ⟨k + 1, by omega, by go_num, hbw, by rw [HX.out, HST.out, HO.out]; rfl⟩
        case measure => simp [intOf]; omega
      · have g1 : c < 97 := by omega
        have q2 : ((k : Int) == 0) = false := by simp; omega
        have HO := Lib.hid ho
        clear ho
        go_wp2_with (go_at_call 45; (with_reducible refine (HIn.out _).mono ?_); rintro e w' ⟨rfl, rfl⟩)
        go_roundw
        case rel => exact ⟨k + 1, by omega, by go_num, hbw, by rw [HX.out, HST.out, HO.out]; rfl⟩
        case measure => simp [intOf]; omega
      · subst h0
        have g1 : c < 97 := h1
        have HO := Lib.hid (show nameB s = false by unfold nameB; rw [HX.out, HST.out, ho]; rfl)
        clear ho
        go_wp2_with (go_at_call 45; (with_reducible refine (HIn.out _).mono ?_); rintro e w' ⟨rfl, rfl⟩)
        go_ret
        exact ⟨by rw [HO.out]; rfl, Below.step b0 hbw⟩
      · subst h0
        have g3 : 97 ≤ c := by omega
        have q3 : decide ((c : Int) ≤ 122) = false := decide_eq_false (by omega)
        have HO := Lib.hid (show nameB s = false by unfold nameB; rw [HX.out, HST.out, ho]; rfl)
        clear ho
        go_wp2_with (go_at_call 45; (with_reducible refine (HIn.out _).mono ?_); rintro e w' ⟨rfl, rfl⟩)
        go_ret
        exact ⟨by rw [HO.out]; rfl, Below.step b0 hbw⟩
      · have g1 : c < 97 := by omega
        have q1 : ((c : Int) != 95) = true := by simp; omega
        have q2 : ((k : Int) == 0) = false := by simp; omega
        have hin : within (c : Int) 48 57 = false := by unfold within; simp; omega
        rw [hin] at HIn
        clear hin
        have HO := Lib.hid (show nameB s = false by unfold nameB; rw [HX.out, HST.out, ho]; rfl)
        clear ho
        go_wp2_with (go_at_call 45; (with_reducible refine (HIn.out _).mono ?_); rintro e w' ⟨rfl, rfl⟩)
        go_ret
        exact ⟨by rw [HO.out]; rfl, Below.step b0 hbw⟩
      · obtain ⟨g1, g2, g3⟩ := h1
        have q1 : ((c : Int) != 95) = true := by simp; omega
        have q2 : ((k : Int) == 0) = false := by simp; omega
        have hin : within (c : Int) 48 57 = false := by unfold within; simp; omega
        rw [hin] at HIn
        clear hin
        have HO := Lib.hid (show nameB s = false by unfold nameB; rw [HX.out, HST.out, ho]; rfl)
        clear ho
        go_wp2_with (go_at_call 45; (with_reducible refine (HIn.out _).mono ?_); rintro e w' ⟨rfl, rfl⟩)
        go_ret
        exact ⟨by rw [HO.out]; rfl, Below.step b0 hbw⟩
      · have g3 : 97 ≤ c := by omega
        have hwr : IntKind.i64.wrap (c : Int) = c := IntWalk.i64_in _ (by omega)
        have q1 : ((c : Int) != 95) = true := by simp; omega
        have q2 : ((k : Int) == 0) = false := by simp; omega
        have q3 : decide ((c : Int) ≤ 122) = false := decide_eq_false (by omega)
        have hin : within (c : Int) 48 57 = false := by unfold within; simp; omega
        rw [hin] at HIn
        clear hin
        have HO := Lib.hid (show nameB s = false by unfold nameB; rw [HX.out, HST.out, ho]; rfl)
        clear ho
        go_wp2_with (go_at_call 45; (with_reducible refine (HIn.out _).mono ?_); rintro e w' ⟨rfl, rfl⟩)
        go_ret
        exact ⟨by rw [HO.out]; rfl, Below.step b0 hbw⟩
    · obtain rfl : k = s.size := by omega
      have HN := Lib.hid (show nameB s = within s.size 1 16 by unfold nameB; rw [HX.out, Nat.sub_self]; rfl)
      go_wp2_with fail
      refine (HW.out _).mono ?_
      rintro e w' ⟨rfl, rfl⟩
      go_wp2
      go_ret
      exact ⟨by rw [HN.out]; rfl, Below.step b0 hbw⟩
end Go.Proofs.YtimbdnngeoccdaaDoor
