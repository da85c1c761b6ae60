/-
  Contracts of field and Clock of span.
-/
import Derived.Test.YtjkcgbidceakjaaDoorD10
import Derived.Test.YtjkcgbidceakjaaDoorShelf
import Derived.Lib.ItoaNum
namespace Go.Proofs.YtjkcgbidceakjaaDoor
open Go.RowKit
set_option linter.unusedVariables false
set_option linter.unusedSimpArgs false
def str (l : List UInt8) : ByteArray := ⟨l.toArray⟩
theorem str_data (l : List UInt8) : (str l).data.toList = l := by simp [str]
theorem str_ext {a b : ByteArray} (h : a.data.toList = b.data.toList) : a = b := by
  cases a; cases b; simp at h; simp [h]
theorem str_of {a : ByteArray} {l : List UInt8} (h : a.data.toList = l) : a = str l := str_ext (by rw [h, str_data])
theorem str_append (a b : List UInt8) : str a ++ str b = str (a ++ b) := str_of (by simp [ByteArray.data_append, str])
theorem size_data (a : ByteArray) : a.size = a.data.toList.length := by simp only [ByteArray.size, Array.length_toList]
def padS (k : Nat) (l : List UInt8) : List UInt8 := List.replicate (k - l.length) 48 ++ l
def szOf : Value → Nat
  | .string s => s.size
  | _ => 0
/-- Itoa at n, from a world on. -/
def ItoaAt (n : Nat) (w : World) : Prop := ∀ W, Below w.heap.size w W → Calls Tryd.prog 90 #[.int .i64 (n : Int)] W fun e w' => e = .returned (.string (str (Lib.decDigits n))) ∧ Below W.heap.size W w'
theorem itoa_small (n : Nat) (h : n < 100) (w : World) : ItoaAt n w := fun W _ => (Tryd.strconv_Itoa_small n h W).mono fun e w' he => ⟨he.1, by rw [he.2]; exact Below.refl _ _⟩
theorem field_c (n k : Nat) (hk : k ≤ 3) (w : World) (hI : ItoaAt n w) :
    Calls Tryd.prog 82 #[.int .i64 (n : Int), .int .i64 (k : Int)] w fun e w' => e = .returned (.string (str (padS k (Lib.decDigits n)))) ∧ Below w.heap.size w w' := by
  have HI := Lib.hid (hI w (Below.refl _ _))
  generalize Lib.decDigits n = D at *
  clear hI
  go_enter Tryd.func82, Tryd.ntmps82
  go_wp2_with fail
  refine (HI.out).mono ?_
  rintro e w1 ⟨rfl, hb1⟩
  have g1 : Below w.heap.size w w1 := by (repeat (first | exact Below.refl _ _ | refine Below.drew ?_ | refine Below.allocS ?_ _ | refine Below.step ?_ (by assumption) | refine Below.setCell ?_ (by simp <;> omega) _ | refine Below.drewN' ?_ _))
  clear hb1
  go_wp2
  go_loop [5] (fun v => ∃ (s : ByteArray) (j : Nat), v = .string s ∧ j ≤ k - D.length ∧ s.data.toList = List.replicate j 48 ++ D) (fun v => k - szOf v)
  case atStart => exact ⟨_, 0, rfl, by omega, by simp [str_data]⟩
  case round =>
    obtain ⟨s, j, rfl, hj, hs⟩ := hrel
    have hsz : s.size = j + D.length := by rw [size_data, hs]; simp
    have HS := Lib.hid hs
    have HZ := Lib.hid hsz
    have hb : s.size ≤ 3 + D.length := by omega
    by_cases hlt : s.size < k
    · have hj1 : j + 1 ≤ k - D.length := by omega
      clear hs hsz
      go_wp2
      go_round
      case rel => exact ⟨_, j + 1, rfl, hj1, by rw [ByteArray.data_append, Array.toList_append, HS.out, List.replicate_succ]; rfl⟩
      case measure =>
        simp only [szOf]
        rw [size_data, ByteArray.data_append, Array.toList_append, List.length_append, ← size_data s]
        simp only [List.length_cons, List.length_nil]
        omega
    · have hj1 : j = k - D.length := by omega
      clear hs hsz
      go_wp2
      go_ret
      exact ⟨by rw [str_of HS.out, hj1]; rfl, g1⟩
theorem fieldI (x : Int) (n : Nat) (hx : x = n) (y : Int) (k : Nat) (hy : y = k) (hk : k ≤ 3) (w : World) (hI : ItoaAt n w) :
    Calls Tryd.prog 82 #[.int .i64 x, .int .i64 y] w fun e w' => e = .returned (.string (str (padS k (Lib.decDigits n)))) ∧ Below w.heap.size w w' := by
  subst hx hy; exact field_c n k hk w hI
def dg2 (n : Nat) : List UInt8 := [UInt8.ofNat (48 + n / 10), UInt8.ofNat (48 + n % 10)]
def dg3 (n : Nat) : List UInt8 := [UInt8.ofNat (48 + n / 100), UInt8.ofNat (48 + n / 10 % 10), UInt8.ofNat (48 + n % 10)]
theorem pad2 (n : Nat) (h : n < 100) : padS 2 (Lib.decDigits n) = dg2 n := by
  unfold dg2
  by_cases h1 : n < 10
  · rw [Lib.decDigits_one h1, show n / 10 = 0 by omega, show n % 10 = n by omega]; rfl
  · rw [Lib.decDigits_two h1 h]; rfl
theorem pad3 (n : Nat) (h : n < 1000) : padS 3 (Lib.decDigits n) = dg3 n := by
  unfold dg3
  by_cases h1 : n < 10
  · rw [Lib.decDigits_one h1, show n / 100 = 0 by omega, show n / 10 = 0 by omega, show n % 10 = n by omega]; rfl
  · by_cases h2 : n < 100
    · rw [Lib.decDigits_two h1 h2, show n / 100 = 0 by omega, show n / 10 % 10 = n / 10 by omega]; rfl
    · rw [Lib.decDigits, dif_neg h1, Lib.decDigits_two (i := n / 10) (by omega) (by omega), show n / 10 / 10 = n / 100 by omega]; rfl
def clockL (m : Nat) : List UInt8 := dg2 (m / 3600000) ++ [58] ++ dg2 (m / 60000 % 60) ++ [58] ++ dg2 (m / 1000 % 60) ++ [46] ++ dg3 (m % 1000)
/-- The text of a time of the day. -/
def clockT (ms : Int) : ByteArray := if 0 ≤ ms ∧ ms < 86400000 then str (clockL ms.toNat) else str []
theorem str_app {a b : ByteArray} {l m : List UInt8} (ha : a = str l) (hb : b = str m) : a ++ b = str (l ++ m) := by rw [ha, hb, str_append]
theorem str_one (c : UInt8) : (⟨#[c]⟩ : ByteArray) = str [c] := rfl
theorem dg2_size (n : Nat) : (str (dg2 n)).size ≤ 4 := by rw [size_data, str_data]; simp [dg2]
theorem dg3_size (n : Nat) : (str (dg3 n)).size ≤ 4 := by rw [size_data, str_data]; simp [dg3]
theorem Clock_yes (m : Nat) (hm : m < 86400000) (w : World) (hI : ∀ W, Below w.heap.size w W → ItoaAt (m % 1000) W) : Calls Tryd.prog 58 #[.int .i64 (m : Int)] w fun e w' => e = .returned (.string (str (clockL m))) ∧ Below w.heap.size w w' := by
  have H1 := Lib.hid (fun W => fieldI ((m : Int) / 3600000) (m / 3600000) (by omega) 2 2 rfl (by omega) W (itoa_small _ (by omega) W))
  have H2 := Lib.hid (fun W => fieldI ((m : Int) / 60000 % 60) (m / 60000 % 60) (by omega) 2 2 rfl (by omega) W (itoa_small _ (by omega) W))
  have H3 := Lib.hid (fun W => fieldI ((m : Int) / 1000 % 60) (m / 1000 % 60) (by omega) 2 2 rfl (by omega) W (itoa_small _ (by omega) W))
  have H4 := Lib.hid (fun W hb => fieldI ((m : Int) % 1000) (m % 1000) (by omega) 3 3 rfl (by omega) W (hI W hb))
  rw [pad2 _ (by omega)] at H1 H2 H3
  rw [pad3 _ (by omega)] at H4
  clear hI
  unfold clockL
  have a0 := dg2_size (m / 3600000)
  have b0 := dg2_size (m / 60000 % 60)
  have c0 := dg2_size (m / 1000 % 60)
  have d0 := dg3_size (m % 1000)
  have HR := Lib.hid (show ((((((str (dg2 (m / 3600000)) ++ (⟨#[58]⟩ : ByteArray)) ++ str (dg2 (m / 60000 % 60))) ++ (⟨#[58]⟩ : ByteArray)) ++ str (dg2 (m / 1000 % 60))) ++ (⟨#[46]⟩ : ByteArray)) ++ str (dg3 (m % 1000))) = str (dg2 (m / 3600000) ++ [58] ++ dg2 (m / 60000 % 60) ++ [58] ++ dg2 (m / 1000 % 60) ++ [46] ++ dg3 (m % 1000)) by
    rw [str_one, str_one, str_append, str_append, str_append, str_append, str_append, str_append])
  generalize str (dg2 (m / 3600000)) = a at *
  generalize str (dg2 (m / 60000 % 60)) = b at *
  generalize str (dg2 (m / 1000 % 60)) = c at *
  generalize str (dg3 (m % 1000)) = d at *
  have g0 := decide_eq_false (show ¬ (m : Int) < 0 by omega)
  have g00 := decide_eq_false (show ¬ (86400000 : Int) ≤ (m : Int) by omega)
  go_enter Tryd.func58, Tryd.ntmps58
  go_wp2_with fail
  refine (H1.out _).mono ?_
  rintro e w1 ⟨rfl, hb1⟩
  have g1 : Below w.heap.size w w1 := by (repeat (first | exact Below.refl _ _ | refine Below.drew ?_ | refine Below.allocS ?_ _ | refine Below.step ?_ (by assumption) | refine Below.setCell ?_ (by simp <;> omega) _ | refine Below.drewN' ?_ _))
  clear hb1
  go_wp2_with fail
  refine (H2.out _).mono ?_
  rintro e w2 ⟨rfl, hb2⟩
  have g2 : Below w.heap.size w w2 := by (repeat (first | exact Below.refl _ _ | refine Below.drew ?_ | refine Below.allocS ?_ _ | refine Below.step ?_ (by assumption) | refine Below.setCell ?_ (by simp <;> omega) _ | refine Below.drewN' ?_ _))
  clear hb2 g1 
  go_wp2_with fail
  refine (H3.out _).mono ?_
  rintro e w3 ⟨rfl, hb3⟩
  have g3 : Below w.heap.size w w3 := by (repeat (first | exact Below.refl _ _ | refine Below.drew ?_ | refine Below.allocS ?_ _ | refine Below.step ?_ (by assumption) | refine Below.setCell ?_ (by simp <;> omega) _ | refine Below.drewN' ?_ _))
  clear hb3 g2 
  go_wp2_with fail
  refine (H4.out _ g3).mono ?_
  rintro e w4 ⟨rfl, hb4⟩
  have g4 : Below w.heap.size w w4 := by (repeat (first | exact Below.refl _ _ | refine Below.drew ?_ | refine Below.allocS ?_ _ | refine Below.step ?_ (by assumption) | refine Below.setCell ?_ (by simp <;> omega) _ | refine Below.drewN' ?_ _))
  clear hb4 g3 
  go_wp2
  go_ret
  exact ⟨by rw [← HR.out]; rfl, g4⟩
theorem Clock_no (ms : Int) (h : ¬ (0 ≤ ms ∧ ms < 86400000)) (w : World) : Calls Tryd.prog 58 #[.int .i64 ms] w fun e w' => e = .returned (.string (str [])) ∧ Below w.heap.size w w' := by
  rcases (by omega : ms < 0 ∨ 0 ≤ ms ∧ 86400000 ≤ ms) with h1 | ⟨h1, h2⟩
  all_goals
    clear h
    go_enter Tryd.func58, Tryd.ntmps58
    go_wp2
    go_ret
    exact ⟨rfl, Below.refl _ _⟩
end Go.Proofs.YtjkcgbidceakjaaDoor
