/-
  Contracts of digits, Clock, ParseClock of the reference.
-/
import Derived.Test.YtjkcgbidceakjaaDoorD26
import Derived.Lib.SmallJoins
namespace Go.Proofs.YtjkcgbidceakjaaDoor
open Go.RowKit
set_option linter.unusedVariables false
set_option linter.unusedSimpArgs false
def dgs : Nat → Nat → List UInt8 → List UInt8
  | 0, _, l => l
  | k + 1, n, l => dgs k (n / 10) (UInt8.ofNat (48 + n % 10) :: l)
theorem dgs2 (n : Nat) (h : n < 100) : dgs 2 n [] = dg2 n := by
  simp only [dgs, dg2]
  rw [show n / 10 % 10 = n / 10 by omega]
theorem dgs3 (n : Nat) (h : n < 1000) : dgs 3 n [] = dg3 n := by
  simp only [dgs, dg3]
  rw [show n / 10 / 10 % 10 = n / 100 by omega]
set_option maxHeartbeats 1000000 in
set_option maxRecDepth 100000 in
theorem digits_c (n k : Nat) (hn : n < 1000) (hk : k ≤ 3) (w : World) : Calls Tryd.prog 83 #[.int .i64 (n : Int), .int .i64 (k : Int)] w fun e w' => e = .returned (.string (str (dgs k n []))) ∧ Below w.heap.size w w' := by
  go_enter Tryd.func83, Tryd.ntmps83
  go_wp2
  go_loopw [0, 5, 7] (fun x o i wr => ∃ (j n' : Nat) (l : List UInt8), j ≤ k ∧ n' < 1000 ∧ i = .int .i64 (j : Int) ∧ x = .int .i64 (n' : Int) ∧ o = .string (str l) ∧ l.length = j ∧ dgs k n [] = dgs (k - j) n' l ∧ Below w.heap.size w wr) (fun _ _ i _ => k - (intOf i).toNat)
  case atStart => exact ⟨0, n, [], by omega, hn, rfl, rfl, rfl, rfl, rfl, Below.refl _ _⟩
  case round =>
    obtain ⟨j, n', l, hj, hn', rfl, rfl, rfl, hl, hd, hbw⟩ := hrel
    have HD := Lib.hid hd
    have HL := Lib.hid hl
    have hsz : (str l).size ≤ 3 := by rw [size_data, str_data, hl]; omega
    have HS := Lib.hid (show (⟨#[UInt8.ofNat (48 + n' % 10)]⟩ : ByteArray) ++ str l = str (UInt8.ofNat (48 + n' % 10) :: l) from by rw [str_one, str_append]; rfl)
    clear hd hl
    by_cases hlt : j < k
    · generalize str l = o at *
      have hcv : ∀ W : World, (convert 85 9 (.slice (some ⟨W.heap.size, 0, none⟩) 1 1)).run Tryd.prog (W.alloc (.cells #[.int .u8 (48 + (n' : Int) % 10)] 5)) = .ok (.string ⟨#[UInt8.ofNat (48 + n' % 10)]⟩) (W.alloc (.cells #[.int .u8 (48 + (n' : Int) % 10)] 5)) := fun W => by
        refine run_convert_bytes_back _ 85 9 5 ⟨W.heap.size, 0, none⟩ 1 [UInt8.ofNat (48 + n' % 10)] (by kernel_rfl) (by kernel_rfl) (by kernel_rfl) (fun j hj => ?_)
        obtain rfl : j = 0 := by simpa using hj
        have ht := (dig_val (n' % 10) (by omega)).2.2.2
        have he : (((48 + n' % 10 : Nat)) : Int) = 48 + (n' : Int) % 10 := by omega
        show _ = some (Value.int .u8 ((UInt8.ofNat (48 + n' % 10)).toNat : Int))
        rw [ht, he]
        simp [go_sem, Addr.add]
      have hsz1 : (⟨#[UInt8.ofNat (48 + n' % 10)]⟩ : ByteArray).size ≤ 3 := by rw [str_one, size_data, str_data]; simp
      generalize (⟨#[UInt8.ofNat (48 + n' % 10)]⟩ : ByteArray) = c at *
      go_wp2
      go_roundw
      case rel => exact ⟨j + 1, n' / 10, UInt8.ofNat (48 + n' % 10) :: l, by omega, by omega, by go_num, by go_num, by rw [HS.out], by rw [List.length_cons, HL.out], by rw [HD.out, show k - j = k - (j + 1) + 1 by omega]; rfl, by (repeat (first | (with_reducible exact Below.refl _ _) | (with_reducible assumption) | (with_reducible refine Below.drew ?_) | (with_reducible refine Below.allocS ?_ _) | (with_reducible refine Below.setCell ?_ ?_ _) | (with_reducible refine Below.step ?_ (by assumption)) | (with_reducible refine Below.drewN' ?_ _))); (try any_goals (first | (with_reducible assumption) | (simp; done) | (simp; omega) | omega))⟩
      case measure => simp [intOf]; omega
    · have hjk : k - j = 0 := by omega
      rw [hjk] at HD
      go_wp2
      go_ret
      exact ⟨by rw [HD.out]; rfl, hbw⟩
theorem digitsI (x : Int) (n : Nat) (hx : x = n) (y : Int) (k : Nat) (hy : y = k) (hn : n < 1000) (hk : k ≤ 3) (w : World) : Calls Tryd.prog 83 #[.int .i64 x, .int .i64 y] w fun e w' => e = .returned (.string (str (dgs k n []))) ∧ Below w.heap.size w w' := by
  subst hx hy; exact digits_c n k hn hk w
theorem rClock_c (ms : Int) (w : World) : Calls Tryd.prog 59 #[.int .i64 ms] w fun e w' => e = .returned (.string (clockT ms)) ∧ Below w.heap.size w w' := by
  have HW := Lib.hid (fun W => within_c ms 0 86399999 W)
  unfold clockT
  by_cases h : 0 ≤ ms ∧ ms < 86400000
  · rw [if_pos h]
    rw [show (decide (0 ≤ ms) && decide (ms ≤ 86399999)) = true from by simp; omega] at HW
    obtain ⟨m, rfl⟩ : ∃ m : Nat, ms = m := ⟨ms.toNat, by omega⟩
    have hm : m < 86400000 := by omega
    clear h
    rw [Int.toNat_natCast]
    have H1 := Lib.hid (fun W => digitsI ((m : Int) / 3600000) (m / 3600000) (by omega) 2 2 rfl (by omega) (by omega) W)
    have H2 := Lib.hid (fun W => digitsI ((m : Int) / 60000 % 60) (m / 60000 % 60) (by omega) 2 2 rfl (by omega) (by omega) W)
    have H3 := Lib.hid (fun W => digitsI ((m : Int) / 1000 % 60) (m / 1000 % 60) (by omega) 2 2 rfl (by omega) (by omega) W)
    have H4 := Lib.hid (fun W => digitsI ((m : Int) % 1000) (m % 1000) (by omega) 3 3 rfl (by omega) (by omega) W)
    rw [dgs2 _ (by omega)] at H1 H2 H3
    rw [dgs3 _ (by omega)] at H4
    unfold clockL
    have a0 := dg2_size (m / 3600000)
    have b0 := dg2_size (m / 60000 % 60)
    have c0 := dg2_size (m / 1000 % 60)
    have d0 := dg3_size (m % 1000)
    have HR := Lib.hid (show ((((((str (dg2 (m / 3600000)) ++ (⟨#[58]⟩ : ByteArray)) ++ str (dg2 (m / 60000 % 60))) ++ (⟨#[58]⟩ : ByteArray)) ++ str (dg2 (m / 1000 % 60))) ++ (⟨#[46]⟩ : ByteArray)) ++ str (dg3 (m % 1000))) = str (dg2 (m / 3600000) ++ [58] ++ dg2 (m / 60000 % 60) ++ [58] ++ dg2 (m / 1000 % 60) ++ [46] ++ dg3 (m % 1000)) by
      rw [str_one, str_one, str_append, str_append, str_append, str_append, str_append, str_append])
    generalize str (dg2 (m / 3600000)) = a at *
    generalize str (dg2 (m / 60000 % 60)) = b at *
    generalize str (dg2 (m / 1000 % 60)) = c at *
    generalize str (dg3 (m % 1000)) = d at *
    go_enter Tryd.func59, Tryd.ntmps59
    go_wp2_with fail
    refine (HW.out _).mono ?_
    rintro e w' ⟨rfl, hw'⟩; replace hw' := hw'.symm; subst hw'
    go_wp2_with fail
    refine (H1.out _).mono ?_
    rintro e w1 ⟨rfl, hb1⟩
    have g1 : Below w.heap.size w w1 := by (repeat (first | exact Below.refl _ _ | refine Below.drew ?_ | refine Below.allocS ?_ _ | refine Below.step ?_ (by assumption) | refine Below.setCell ?_ (by simp <;> omega) _ | refine Below.drewN' ?_ _))
    clear hb1
    go_wp2_with fail
    refine (H2.out _).mono ?_
    rintro e w2 ⟨rfl, hb2⟩
    have g2 : Below w.heap.size w w2 := by (repeat (first | exact Below.refl _ _ | refine Below.drew ?_ | refine Below.allocS ?_ _ | refine Below.step ?_ (by assumption) | refine Below.setCell ?_ (by simp <;> omega) _ | refine Below.drewN' ?_ _))
    clear hb2 g1 
    go_wp2_with fail
    refine (H3.out _).mono ?_
    rintro e w3 ⟨rfl, hb3⟩
    have g3 : Below w.heap.size w w3 := by (repeat (first | exact Below.refl _ _ | refine Below.drew ?_ | refine Below.allocS ?_ _ | refine Below.step ?_ (by assumption) | refine Below.setCell ?_ (by simp <;> omega) _ | refine Below.drewN' ?_ _))
    clear hb3 g2 
    go_wp2_with fail
    refine (H4.out _).mono ?_
    rintro e w4 ⟨rfl, hb4⟩
    have g4 : Below w.heap.size w w4 := by (repeat (first | exact Below.refl _ _ | refine Below.drew ?_ | refine Below.allocS ?_ _ | refine Below.step ?_ (by assumption) | refine Below.setCell ?_ (by simp <;> omega) _ | refine Below.drewN' ?_ _))
    clear hb4 g3 
    go_wp2
    go_ret
    exact ⟨by rw [← HR.out]; rfl, g4⟩
  · rw [if_neg h]
    rw [show (decide (0 ≤ ms) && decide (ms ≤ 86399999)) = false from by simp; omega] at HW
    clear h
    go_enter Tryd.func59, Tryd.ntmps59
    go_wp2_with fail
    refine (HW.out _).mono ?_
    rintro e w' ⟨rfl, hw'⟩; replace hw' := hw'.symm; subst hw'
    go_wp2
    go_ret
    exact ⟨rfl, by (repeat (first | (with_reducible exact Below.refl _ _) | (with_reducible assumption) | (with_reducible refine Below.drew ?_) | (with_reducible refine Below.allocS ?_ _) | (with_reducible refine Below.setCell ?_ ?_ _) | (with_reducible refine Below.step ?_ (by assumption)) | (with_reducible refine Below.drewN' ?_ _))); (try any_goals (first | (with_reducible assumption) | (simp; done) | (simp; omega) | omega))⟩
end Go.Proofs.YtjkcgbidceakjaaDoor
