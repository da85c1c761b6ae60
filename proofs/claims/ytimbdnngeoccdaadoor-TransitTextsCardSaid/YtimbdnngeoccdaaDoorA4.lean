/-
  Name of the reference.
-/
import Derived.Test.YtimbdnngeoccdaaDoorA3
namespace Go.Proofs.YtimbdnngeoccdaaDoor
open Go.RowKit
set_option linter.unusedVariables false
set_option linter.unusedSimpArgs false
def byteAt (s : ByteArray) (k : Nat) : Nat := (s.data.toList.getD k 0).toNat
theorem byte_get (s : ByteArray) (k : Nat) (h : k < s.size) : s[k].toNat = byteAt s k := by
  unfold byteAt
  rw [List.getD_eq_getElem?_getD, List.getElem?_eq_getElem (by rw [Array.length_toList]; exact h)]
  rfl
/-- Whether a byte may stand at a place of a name. -/
def okI (k c : Nat) : Bool := (decide (97 ≤ c) && decide (c ≤ 122)) || (decide (k ≠ 0) && ((decide (48 ≤ c) && decide (c ≤ 57)) || decide (c = 95)))
def chk (s : ByteArray) : Nat → Nat → Bool
  | 0, _ => true
  | n + 1, k => okI k (byteAt s k) && chk s n (k + 1)
def nameB (s : ByteArray) : Bool := chk s s.size 0 && within s.size 1 16
theorem chk_step {s : ByteArray} {k : Nat} (h : k < s.size) : chk s (s.size - k) k = (okI k (byteAt s k) && chk s (s.size - (k + 1)) (k + 1)) := by
  rw [show s.size - k = s.size - (k + 1) + 1 by omega, chk]
theorem ok_cases (k c : Nat) : (okI k c = true ∧ (97 ≤ c ∧ c ≤ 122 ∨ k ≠ 0 ∧ (48 ≤ c ∧ c ≤ 57 ∨ c = 95))) ∨
    (okI k c = false ∧ ((k = 0 ∧ (c < 97 ∨ 122 < c)) ∨ k ≠ 0 ∧ (c < 48 ∨ 57 < c ∧ c < 97 ∧ c ≠ 95 ∨ 122 < c))) := by
  cases h : okI k c <;> simp only [okI, Bool.or_eq_true, Bool.and_eq_true, decide_eq_true_eq, Bool.or_eq_false_iff, Bool.and_eq_false_iff, decide_eq_false_iff_not] at h
  · exact Or.inr ⟨rfl, by omega⟩
  · exact Or.inl ⟨rfl, by omega⟩
set_option maxHeartbeats 2000000 in
theorem rname_c (s : ByteArray) (hs : s.size ≤ 9223372036854775807) (w : World) : Calls Tryd.prog 55 #[.string s] w fun e w' => e = .returned (.bool (nameB s)) ∧ Below w.heap.size w w' := by
  have HW := Lib.hid (fun W => rwithin_c s.size 1 16 W)
  go_enter Tryd.func55, Tryd.ntmps55
  go_wp2
  go_loopw [3] (fun i wr => ∃ k : Nat, k ≤ s.size ∧ i = .int .i64 k ∧ Below w.heap.size w wr ∧ chk s s.size 0 = chk s (s.size - k) k) (fun i _ => s.size - (intOf i).toNat)
  case atStart => exact ⟨0, Nat.zero_le _, rfl, Below.refl _ _, rfl⟩
  case round =>
    obtain ⟨k, hk, rfl, hbw, hx⟩ := hrel
    have HX := Lib.hid hx
    clear hx
    by_cases hlt : k < s.size
    · have HST := Lib.hid (chk_step hlt)
      have hbg := byte_get s k hlt
      generalize byteAt s k = c at *
      rcases ok_cases k c with ⟨ho, h1 | ⟨h0, h2 | h3⟩⟩ | ⟨ho, ⟨h0, h1 | h1⟩ | ⟨h0, h1 | h1 | h1⟩⟩
      · obtain ⟨g1, g2⟩ := h1
        have HO := Lib.hid ho
        clear ho
        go_wp2
        go_roundw
        case rel => exact ⟨k + 1, by omega, by go_num, hbw, by rw [HX.out, HST.out, HO.out]; rfl⟩
        case measure => simp [intOf]; omega
      · obtain ⟨g1, g2⟩ := h2
        have g3 : c < 97 := by omega
        have g4 : ¬ c = 95 := by omega
        have HO := Lib.hid ho
        clear ho
        go_wp2
        go_roundw
        case rel => exact ⟨k + 1, by omega, by go_num, hbw, by rw [HX.out, HST.out, HO.out]; rfl⟩
        case measure => simp [intOf]; omega
      · have g1 : c < 97 := by omega
        have g2 : 57 < c := by omega
        have HO := Lib.hid ho
        clear ho
        go_wp2
        go_roundw
        case rel => exact ⟨k + 1, by omega, by go_num, hbw, by rw [HX.out, HST.out, HO.out]; rfl⟩
        case measure => simp [intOf]; omega
      · subst h0
        have HO := Lib.hid (show nameB s = false by unfold nameB; rw [HX.out, HST.out, ho]; rfl)
        clear ho
        go_wp2
        go_ret
        exact ⟨by rw [HO.out]; rfl, hbw⟩
      · subst h0
        have g3 : 97 ≤ c := by omega
        have q3 : decide ((c : Int) ≤ 122) = false := decide_eq_false (by omega)
        have HO := Lib.hid (show nameB s = false by unfold nameB; rw [HX.out, HST.out, ho]; rfl)
        clear ho
        go_wp2
        go_ret
        exact ⟨by rw [HO.out]; rfl, hbw⟩
      · have g1 : c < 97 := by omega
        have q1 : ((c : Int) != 95) = true := by simp; omega
        have q2 : ((k : Int) == 0) = false := by simp; omega
        have HO := Lib.hid (show nameB s = false by unfold nameB; rw [HX.out, HST.out, ho]; rfl)
        clear ho
        go_wp2
        go_ret
        exact ⟨by rw [HO.out]; rfl, hbw⟩
      · obtain ⟨g1, g2, g3⟩ := h1
        have g4 : 48 ≤ c := by omega
        have q1 : ((c : Int) != 95) = true := by simp; omega
        have q2 : ((k : Int) == 0) = false := by simp; omega
        have q4 : decide ((c : Int) ≤ 57) = false := decide_eq_false (by omega)
        have HO := Lib.hid (show nameB s = false by unfold nameB; rw [HX.out, HST.out, ho]; rfl)
        clear ho
        go_wp2
        go_ret
        exact ⟨by rw [HO.out]; rfl, hbw⟩
      · have g3 : 97 ≤ c := by omega
        have g4 : 48 ≤ c := by omega
        have g5 : 57 < c := by omega
        have g6 : c ≠ 95 := by omega
        have q1 : ((c : Int) != 95) = true := by simp; omega
        have q2 : ((k : Int) == 0) = false := by simp; omega
        have q3 : decide ((c : Int) ≤ 122) = false := decide_eq_false (by omega)
        have q4 : decide ((c : Int) ≤ 57) = false := decide_eq_false (by omega)
        have HO := Lib.hid (show nameB s = false by unfold nameB; rw [HX.out, HST.out, ho]; rfl)
        clear ho
        go_wp2
        go_ret
        exact ⟨by rw [HO.out]; rfl, hbw⟩
    · obtain rfl : k = s.size := by omega
      have HN := Lib.hid (show nameB s = within s.size 1 16 by unfold nameB; rw [HX.out, Nat.sub_self]; rfl)
      go_wp2_with fail
      refine (HW.out _).mono ?_
      rintro e w' ⟨rfl, rfl⟩
      go_wp2
      go_ret
      exact ⟨by rw [HN.out]; rfl, hbw⟩
end Go.Proofs.YtimbdnngeoccdaaDoor
