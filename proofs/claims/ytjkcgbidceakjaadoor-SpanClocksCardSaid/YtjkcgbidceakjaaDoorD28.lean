/-
  Contract of ParseClock of the reference.
-/
import Derived.Test.YtjkcgbidceakjaaDoorD27
namespace Go.Proofs.YtjkcgbidceakjaaDoor
open Go.RowKit
set_option linter.unusedVariables false
set_option linter.unusedSimpArgs false
def worths : List Nat := [36000000, 3600000, 0, 600000, 60000, 0, 10000, 1000, 0, 100, 10, 1]
def byteAt (s : ByteArray) (k : Nat) : Nat := (s.data.toList.getD k 0).toNat
/-- What has been added up behind some bytes. -/
def rs (s : ByteArray) : Nat → Nat
  | 0 => 0
  | k + 1 => rs s k + byteAt s k % 48 * worths.getD k 0
theorem worth_le (k : Nat) : worths.getD k 0 ≤ 36000000 := by
  rcases Nat.lt_or_ge k 12 with h | h
  · have : k = 0 ∨ k = 1 ∨ k = 2 ∨ k = 3 ∨ k = 4 ∨ k = 5 ∨ k = 6 ∨ k = 7 ∨ k = 8 ∨ k = 9 ∨ k = 10 ∨ k = 11 := by omega
    rcases this with rfl | rfl | rfl | rfl | rfl | rfl | rfl | rfl | rfl | rfl | rfl | rfl <;> decide
  · have : worths.getD k 0 = 0 := by
      unfold worths
      rw [List.getD_eq_getElem?_getD, List.getElem?_eq_none (by simpa using h)]; rfl
    omega
theorem term_le (s : ByteArray) (k : Nat) : byteAt s k % 48 * worths.getD k 0 ≤ 1692000000 := by
  have h1 : byteAt s k % 48 ≤ 47 := by omega
  have := Nat.mul_le_mul h1 (worth_le k)
  omega
theorem rs_le (s : ByteArray) : ∀ k, rs s k ≤ k * 1692000000
  | 0 => by simp [rs]
  | k + 1 => by
    have := rs_le s k
    have := term_le s k
    rw [rs, Nat.add_mul]
    omega
theorem rs_clock {s : ByteArray} {m : Nat} (h : IsClock s m) : rs s 12 = m := by
  obtain ⟨hm, rfl⟩ := h
  have e : ∀ k, byteAt (str (clockL m)) k = ((clockL m).getD k 0).toNat := fun k => by unfold byteAt; rw [str_data]
  simp only [rs, e]
  have a1 := (dig_val (m / 3600000 / 10) (by omega)).2.2.2
  have a2 := (dig_val (m / 3600000 % 10) (by omega)).2.2.2
  have b1 := (dig_val (m / 60000 % 60 / 10) (by omega)).2.2.2
  have b2 := (dig_val (m / 60000 % 60 % 10) (by omega)).2.2.2
  have c1 := (dig_val (m / 1000 % 60 / 10) (by omega)).2.2.2
  have c2 := (dig_val (m / 1000 % 60 % 10) (by omega)).2.2.2
  have d1 := (dig_val (m % 1000 / 100) (by omega)).2.2.2
  have d2 := (dig_val (m % 1000 / 10 % 10) (by omega)).2.2.2
  have d3 := (dig_val (m % 1000 % 10) (by omega)).2.2.2
  have f0 : ((clockL m).getD 0 0).toNat = 48 + m / 3600000 / 10 := a1
  have f1 : ((clockL m).getD 1 0).toNat = 48 + m / 3600000 % 10 := a2
  have f3 : ((clockL m).getD 3 0).toNat = 48 + m / 60000 % 60 / 10 := b1
  have f4 : ((clockL m).getD 4 0).toNat = 48 + m / 60000 % 60 % 10 := b2
  have f6 : ((clockL m).getD 6 0).toNat = 48 + m / 1000 % 60 / 10 := c1
  have f7 : ((clockL m).getD 7 0).toNat = 48 + m / 1000 % 60 % 10 := c2
  have f9 : ((clockL m).getD 9 0).toNat = 48 + m % 1000 / 100 := d1
  have f10 : ((clockL m).getD 10 0).toNat = 48 + m % 1000 / 10 % 10 := d2
  have f11 : ((clockL m).getD 11 0).toNat = 48 + m % 1000 % 10 := d3
  rw [f0, f1, f3, f4, f6, f7, f9, f10, f11]
  have w0 : worths.getD 0 0 = 36000000 := rfl
  have w1 : worths.getD 1 0 = 3600000 := rfl
  have w2 : worths.getD 2 0 = 0 := rfl
  have w3 : worths.getD 3 0 = 600000 := rfl
  have w4 : worths.getD 4 0 = 60000 := rfl
  have w5 : worths.getD 5 0 = 0 := rfl
  have w6 : worths.getD 6 0 = 10000 := rfl
  have w7 : worths.getD 7 0 = 1000 := rfl
  have w8 : worths.getD 8 0 = 0 := rfl
  have w9 : worths.getD 9 0 = 100 := rfl
  have w10 : worths.getD 10 0 = 10 := rfl
  have w11 : worths.getD 11 0 = 1 := rfl
  rw [w0, w1, w2, w3, w4, w5, w6, w7, w8, w9, w10, w11]
  omega
theorem idx12 (k : Nat) (hk : k < 12) (W : World) : (Instr.index 67 (.agg #[.int .i64 36000000, .int .i64 3600000, .int .i64 0, .int .i64 600000, .int .i64 60000, .int .i64 0, .int .i64 10000, .int .i64 1000, .int .i64 0, .int .i64 100, .int .i64 10, .int .i64 1]) (.int .i64 (k : Int))).run Tryd.prog W = .ok (.int .i64 (((worths.getD k 0 : Nat)) : Int)) W := by
  have h : k = 0 ∨ k = 1 ∨ k = 2 ∨ k = 3 ∨ k = 4 ∨ k = 5 ∨ k = 6 ∨ k = 7 ∨ k = 8 ∨ k = 9 ∨ k = 10 ∨ k = 11 := by omega
  rcases h with rfl | rfl | rfl | rfl | rfl | rfl | rfl | rfl | rfl | rfl | rfl | rfl <;> (refine Eq.trans ?_ rfl; kernel_rfl)
theorem byte_get (s : ByteArray) (k : Nat) (h : k < s.size) : s[k].toNat = byteAt s k := by
  unfold byteAt
  rw [List.getD_eq_getElem?_getD, List.getElem?_eq_getElem (by rw [Array.length_toList]; exact h)]
  rfl
theorem rstep (a b q : Nat) (ha : a ≤ 25000000000) (hb : b < 256) (hq : q ≤ 36000000) : wrap64 ((a : Int) + wrap64 ((b : Int) % 48 * (q : Int))) = ((a + b % 48 * q : Nat) : Int) := by
  have h1 : b % 48 ≤ 47 := by omega
  have h2 := Nat.mul_le_mul h1 hq
  have e : (b : Int) % 48 * (q : Int) = ((b % 48 * q : Nat) : Int) := by
    rw [Int.natCast_mul, Int.natCast_emod]; rfl
  rw [e, IntWalk.wrap64_in ((b % 48 * q : Nat) : Int) ⟨by omega, by omega⟩, IntWalk.wrap64_in _ ⟨by omega, by omega⟩]
  omega
set_option maxHeartbeats 1000000 in
theorem rParseClock_c (s : ByteArray) (hs : s.size ≤ 100) (w : World) : Calls Tryd.prog 57 #[.string s] w fun e w' => e = .returned (.tuple #[.int .i64 (pcR s).1, .int .i64 (pcR s).2]) ∧ Below w.heap.size w w' := by
  by_cases h12 : s.size = 12
  · have HC := Lib.hid (fun v W => rClock_c v W)
    have HS := Lib.hid h12
    have g12 : ((s.size : Int) != 12) = false := by simp; omega
    have hge : 12 ≤ s.size := by omega
    clear h12
    go_enter Tryd.func57, Tryd.ntmps57
    go_wp2
    go_loop [4, 11] (fun a i => ∃ k : Nat, k ≤ 12 ∧ i = .int .i64 (k : Int) ∧ a = .int .i64 ((rs s k : Nat) : Int)) (fun a i => 12 - (intOf i).toNat)
    case atStart => exact ⟨0, by omega, rfl, rfl⟩
    case round =>
      obtain ⟨k, hk, rfl, rfl⟩ := hrel
      by_cases hlt : k < 12
      · have hix := fun W => idx12 k hlt W
        have hle := rs_le s k
        have htl := term_le s k
        have HR := Lib.hid (show rs s (k + 1) = rs s k + byteAt s k % 48 * worths.getD k 0 from rfl)
        have hks : k < s.size := by omega
        have HB := Lib.hid (byte_get s k hks)
        have hb256 : s[k].toNat < 256 := UInt8.toNat_lt _
        have hwl := worth_le k
        go_wp2
        go_round
        case rel =>
          refine ⟨k + 1, by omega, by go_num, ?_⟩
          rw [HR.out, ← HB.out, ← rstep _ _ _ (by omega) hb256 hwl]
          rfl
        case measure => simp [intOf]; omega
      · obtain rfl : k = 12 := by omega
        go_wp2_with fail
        refine (HC.out _ _).mono ?_
        rintro e w1 ⟨rfl, hb1⟩
        by_cases hv : clockT ((rs s 12 : Nat) : Int) = s
        · obtain ⟨m, hm, hm2⟩ := clockT_eq HS.out hv
          have HR := Lib.hid (pcR_yes hm)
          rw [hv]
          rw [hm2]
          clear hv hm hm2
          go_wp2
          refine bodyPost_ret (v := .tuple #[.int .i64 (m : Int), .int .i64 0]) (by simp [results, Tryd.results57, go_sem, *] <;> (repeat' apply And.intro) <;> rfl) rfl ⟨?_, ?_⟩
          · rw [HR.out]
          · assumption
        · have hne := list_ne hv
          have HR := Lib.hid (pcR_no (s := s) (by
            rintro ⟨m, hm⟩
            apply hv
            have h2 := hm.1
            rw [rs_clock hm]
            unfold clockT
            rw [if_pos (by omega), hm.2]
            rfl))
          clear hv
          go_wp2
          refine bodyPost_ret (v := .tuple #[.int .i64 0, .int .i64 2]) (by simp [results, Tryd.results57, go_sem, *] <;> (repeat' apply And.intro) <;> rfl) rfl ⟨?_, ?_⟩
          · rw [HR.out]
          · assumption
  · rw [pcR_len h12]
    have g12 : ((s.size : Int) != 12) = true := by simp; omega
    clear h12
    go_enter Tryd.func57, Tryd.ntmps57
    go_wp2
    refine bodyPost_ret (v := .tuple #[.int .i64 0, .int .i64 2]) (by simp [results, Tryd.results57, go_sem, *] <;> (repeat' apply And.intro) <;> rfl) rfl ⟨rfl, ?_⟩
    (repeat (first | (with_reducible exact Below.refl _ _) | (with_reducible assumption) | (with_reducible refine Below.drew ?_) | (with_reducible refine Below.allocS ?_ _) | (with_reducible refine Below.setCell ?_ ?_ _) | (with_reducible refine Below.step ?_ (by assumption)) | (with_reducible refine Below.drewN' ?_ _))); (try any_goals (first | (with_reducible assumption) | (simp; done) | (simp; omega) | omega))
end Go.Proofs.YtjkcgbidceakjaaDoor
