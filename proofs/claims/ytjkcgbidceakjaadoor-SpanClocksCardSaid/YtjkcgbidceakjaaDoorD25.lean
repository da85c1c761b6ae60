/-
  Contracts of digits, Clock, ParseClock of the reference, and of ParseClock of span.
-/
import Derived.Test.YtjkcgbidceakjaaDoorD21
import Derived.Test.YtjkcgbidceakjaaDoorShelf2
import Derived.Test.YtjkcgbidceakjaaDoorQt
import Derived.Lib.AtoiErrMem
namespace Go.Proofs.YtjkcgbidceakjaaDoor
open Go.RowKit
set_option linter.unusedVariables false
set_option linter.unusedSimpArgs false
theorem dig_val (k : Nat) (h : k < 10) : Lib.digitVal (UInt8.ofNat (48 + k)) = some k ∧ (UInt8.ofNat (48 + k) == 45) = false ∧ (UInt8.ofNat (48 + k) == 43) = false ∧ (UInt8.ofNat (48 + k)).toNat = 48 + k := by
  have : k = 0 ∨ k = 1 ∨ k = 2 ∨ k = 3 ∨ k = 4 ∨ k = 5 ∨ k = 6 ∨ k = 7 ∨ k = 8 ∨ k = 9 := by omega
  rcases this with rfl | rfl | rfl | rfl | rfl | rfl | rfl | rfl | rfl | rfl <;> exact ⟨rfl, rfl, rfl, rfl⟩
theorem atoi_dg2 (n : Nat) (h : n < 100) : Lib.atoi (dg2 n) = some (n : Int) := by
  obtain ⟨a1, a2, a3, _⟩ := dig_val (n / 10) (by omega)
  obtain ⟨b1, b2, b3, _⟩ := dig_val (n % 10) (by omega)
  unfold dg2 Lib.atoi
  simp only [a2, a3, List.isEmpty_cons, Bool.false_eq_true, if_false, Lib.decNat, Lib.decFrom, a1, b1, Option.bind_some, Option.map_some]
  congr 2
  omega
theorem atoi_dg3 (n : Nat) (h : n < 1000) : Lib.atoi (dg3 n) = some (n : Int) := by
  obtain ⟨a1, a2, a3, _⟩ := dig_val (n / 100) (by omega)
  obtain ⟨b1, b2, b3, _⟩ := dig_val (n / 10 % 10) (by omega)
  obtain ⟨c1, c2, c3, _⟩ := dig_val (n % 10) (by omega)
  unfold dg3 Lib.atoi
  simp only [a2, a3, List.isEmpty_cons, Bool.false_eq_true, if_false, Lib.decNat, Lib.decFrom, a1, b1, c1, Option.bind_some, Option.map_some]
  congr 2
  omega
def atoiV (p : ByteArray) : Int := (Lib.atoi p.data.toList).getD 0
/-- The variable that holds the error of a text that is no number. -/
def ErrHeld (w : World) : Prop := ∃ ev, w.cell? ⟨0, 0, none⟩ = some ev ∧ (ev = .nilIface ∨ ∃ te pe, ev = .iface te pe)
theorem ErrHeld.step {w w' : World} (h : ErrHeld w) (hb : Below w.heap.size w w') : ErrHeld w' := by
  obtain ⟨ev, h1, h2⟩ := h
  exact ⟨ev, keep_cell hb h1, h2⟩
def AtoiP (p : ByteArray) (w : World) (e : Ending) (w' : World) : Prop := ∃ E, e = .returned (.tuple #[.int .i64 (atoiV p), E]) ∧ Below w.heap.size w w'
theorem atoi_c (p : ByteArray) (hp : p.size ≤ 18) (w : World) (he : ErrHeld w) : Calls Tryd.prog 81 #[.string p] w (AtoiP p w) := by
  obtain ⟨ev, h1, h2⟩ := he
  cases h : Lib.atoi p.data.toList with
  | some n =>
    refine (Tryd.strconv_Atoi p n hp h w).mono ?_
    rintro e w' ⟨rfl, t, rfl⟩
    exact ⟨_, by unfold atoiV; rw [h]; rfl, Lib.bytesWorld_below w _ t⟩
  | none =>
    refine (Tryd.strconv_Atoi_err p hp h ev w h1 h2).mono ?_
    rintro e w' ⟨N, rfl, _, _, hb⟩
    exact ⟨_, by unfold atoiV; rw [h]; rfl, hb⟩
theorem extract_data (s : ByteArray) (a b : Nat) : (s.extract a b).data.toList = (s.data.toList.drop a).take (b - a) := by
  simp [ByteArray.data_extract, Array.toList_extract, List.extract_eq_take_drop]
theorem clockL_len (m : Nat) : (clockL m).length = 12 := rfl
theorem piece_h {s : ByteArray} {m : Nat} (hm : m < 86400000) (hs : s = str (clockL m)) : atoiV (s.extract 0 2) = (m / 3600000 : Nat) := by
  unfold atoiV
  rw [extract_data, hs, str_data]
  show (Lib.atoi (dg2 (m / 3600000))).getD 0 = _
  rw [atoi_dg2 _ (by omega)]; rfl
theorem piece_m {s : ByteArray} {m : Nat} (hm : m < 86400000) (hs : s = str (clockL m)) : atoiV (s.extract 3 5) = (m / 60000 % 60 : Nat) := by
  unfold atoiV
  rw [extract_data, hs, str_data]
  show (Lib.atoi (dg2 (m / 60000 % 60))).getD 0 = _
  rw [atoi_dg2 _ (by omega)]; rfl
theorem piece_s {s : ByteArray} {m : Nat} (hm : m < 86400000) (hs : s = str (clockL m)) : atoiV (s.extract 6 8) = (m / 1000 % 60 : Nat) := by
  unfold atoiV
  rw [extract_data, hs, str_data]
  show (Lib.atoi (dg2 (m / 1000 % 60))).getD 0 = _
  rw [atoi_dg2 _ (by omega)]; rfl
theorem piece_f {s : ByteArray} {m : Nat} (hm : m < 86400000) (hs : s = str (clockL m)) : atoiV (s.extract 9 12) = (m % 1000 : Nat) := by
  unfold atoiV
  rw [extract_data, hs, str_data]
  show (Lib.atoi (dg3 (m % 1000))).getD 0 = _
  rw [atoi_dg3 _ (by omega)]; rfl
/-- What ParseClock answers: the time whose text it is, or that it is none. -/
def IsClock (s : ByteArray) (m : Nat) : Prop := m < 86400000 ∧ s = str (clockL m)
open Classical in
noncomputable def pcR (s : ByteArray) : Int × Int := if h : ∃ m, IsClock s m then ((Classical.choose h : Nat), 0) else (0, 2)
theorem clock_inj {m n : Nat} (hm : m < 86400000) (hn : n < 86400000) (h : str (clockL m) = str (clockL n)) : m = n := by
  have a1 := piece_h hm rfl
  have a2 := piece_m hm rfl
  have a3 := piece_s hm rfl
  have a4 := piece_f hm rfl
  rw [h] at a1 a2 a3 a4
  rw [piece_h hn rfl] at a1
  rw [piece_m hn rfl] at a2
  rw [piece_s hn rfl] at a3
  rw [piece_f hn rfl] at a4
  omega
theorem pcR_yes {s : ByteArray} {m : Nat} (h : IsClock s m) : pcR s = ((m : Int), 0) := by
  have hex : ∃ m, IsClock s m := ⟨m, h⟩
  unfold pcR
  rw [dif_pos hex]
  have hc := Classical.choose_spec hex
  rw [clock_inj hc.1 h.1 (hc.2.symm.trans h.2)]
theorem pcR_no {s : ByteArray} (h : ¬ ∃ m, IsClock s m) : pcR s = (0, 2) := by unfold pcR; rw [dif_neg h]
theorem pcR_len {s : ByteArray} (h : s.size ≠ 12) : pcR s = (0, 2) := pcR_no (by
  rintro ⟨m, _, rfl⟩
  rw [size_data, str_data] at h
  exact h (clockL_len m))
/-- The text of a number: what Clock answers. -/
theorem clockT_eq {s : ByteArray} {v : Int} (h : s.size = 12) (hv : clockT v = s) : ∃ m, IsClock s m ∧ v = m := by
  unfold clockT at hv
  by_cases hr : 0 ≤ v ∧ v < 86400000
  · rw [if_pos hr] at hv
    exact ⟨v.toNat, ⟨by omega, hv.symm⟩, by omega⟩
  · rw [if_neg hr] at hv
    rw [← hv, size_data, str_data] at h
    simp at h
theorem Clock_c (ms : Int) (w : World) (hI : ∀ n, n < 1000 → ∀ W, Below w.heap.size w W → ItoaAt n W) : Calls Tryd.prog 58 #[.int .i64 ms] w fun e w' => e = .returned (.string (clockT ms)) ∧ Below w.heap.size w w' := by
  unfold clockT
  by_cases h : 0 ≤ ms ∧ ms < 86400000
  · rw [if_pos h]
    have := Clock_yes ms.toNat (by omega) w (fun W hW => hI _ (by omega) W hW)
    rwa [show ((ms.toNat : Nat) : Int) = ms by omega] at this
  · rw [if_neg h]; exact Clock_no ms h w
theorem clockT_size (v : Int) : (clockT v).size ≤ 12 := by
  unfold clockT
  split <;> rw [size_data, str_data]
  · rw [clockL_len]; omega
  · simp
end Go.Proofs.YtjkcgbidceakjaaDoor
