/-
  Boxes: which are valid (the name is "a").
-/
import Derived.Test.YtagbokhmcidokaaLe1
import Derived.Lib.ConvBytes
namespace Go.Proofs.Ytagbokhmcidokaa
open Go.RowKit
set_option linter.unusedVariables false
set_option linter.unusedSimpArgs false
def inE (x : Int) : List Value := [.int .i64 x]
theorem rwithin_c (n lo hi : Int) (w : World) :
    Calls Try.prog 44 #[.int .i64 n, .int .i64 lo, .int .i64 hi] w fun e w' => e = .returned (.bool (wiB n lo hi)) ∧ w' = w := by
  by_cases h : lo ≤ n
  all_goals
    go_enter Try.func44, Try.ntmps44
    go_wp2
    go_ret
    exact ⟨by simp [wiB] <;> omega, rfl⟩
def nearB (n : Int) : Bool := wiB n (-86400000) 86400000
theorem far_c (n : Int) (w : World) : Calls Try.prog 46 #[.int .i64 n] w fun e w' => e = .returned (.bool (!nearB n)) ∧ Below w.heap.size w w' := by
  have H := Lib.hid (fun W => rwithin_c n (-86400000) 86400000 W)
  unfold nearB
  generalize wiB n (-86400000) 86400000 = B at *
  go_enter Try.func46, Try.ntmps46
  go_wp2_with fail
  refine (H.out _).mono ?_
  rintro e w1 ⟨rfl, rfl⟩
  go_wp2
  go_ret
  exact ⟨rfl, Below.refl _ _⟩
theorem call_far (args : Array Value) (W : World) : (callFunc 46 args).run Try.prog W = .ok (.enter 46 args) W := by kernel_rfl
set_option maxHeartbeats 1000000 in
theorem IndexFuncIn (l : List Int) (A : Option Addr) (cap : Nat) (hl : l.length ≤ 9223372036854775807) (fv : Nat) (caps : Array Value) (p : Int → Bool) (w : World) (hr : RdL w w.heap.size inE 1 A l)
    (hcall : ∀ (args : Array Value) (W : World), (callFunc fv args).run Try.prog W = .ok (.enter fv args) W)
    (hf : ∀ x ∈ l, ∀ W, Below w.heap.size w W → Calls Try.prog fv (#[.int .i64 x] ++ caps) W fun e W' => e = .returned (.bool (p x)) ∧ Below W.heap.size W W') :
    Calls Try.prog 90 #[.slice A l.length cap, .func (.func fv) #[] caps] w fun e w' => e = .returned (.int .i64 (idxOf p l 0)) ∧ Below w.heap.size w w' := by
  have HF := Lib.hid hf
  have HR := Lib.hid hr
  clear hf hr
  go_enter Try.func90, Try.ntmps90
  go_wp2
  go_loopw [5, 8] (fun u i wr => ∃ k : Nat, k ≤ l.length ∧ i = .int .i64 k ∧ Below w.heap.size w wr ∧ idxOf p l 0 = idxOf p (l.drop k) k) (fun u i _ => l.length - (intOf i).toNat)
  case atStart => exact ⟨0, Nat.zero_le _, rfl, Below.refl _ _, rfl⟩
  case round =>
    obtain ⟨k, hk, rfl, hbw, hx⟩ := hrel
    have HX := Lib.hid hx
    clear hx
    by_cases hlt : k < l.length
    · obtain ⟨b, off, rfl, hb0, hc⟩ := HR.out (by omega)
      have c0 := hc k hlt 0 _ rfl
      clear hc
      rw [← hbw.cell (p := ⟨b, _, none⟩) hb0] at c0
      simp at c0
      have hmem : l[k] ∈ l := List.getElem_mem hlt
      have hcc := Lib.hid (HF.out l[k] hmem wr hbw)
      have hd : l.drop k = l[k] :: l.drop (k + 1) := List.drop_eq_getElem_cons hlt
      have HD := Lib.hid hd
      clear hd
      cases hp : p l[k]
      · go_wp2_with fail
        refine hcc.out.mono ?_
        rintro e w1 ⟨rfl, hb⟩
        rw [hp]
        go_wp2
        go_roundw
        case rel => exact ⟨k + 1, by omega, by go_num, Below.step hbw hb, by rw [HX.out, HD.out, idxOf_false _ _ _ _ hp]⟩
        case measure => simp [intOf]; omega
      · go_wp2_with fail
        refine hcc.out.mono ?_
        rintro e w1 ⟨rfl, hb⟩
        rw [hp]
        go_wp2
        go_ret
        exact ⟨by rw [HX.out, HD.out, idxOf_true _ _ _ _ hp]; rfl, Below.step hbw hb⟩
    · obtain rfl : k = l.length := by omega
      go_wp2
      go_ret
      exact ⟨by rw [HX.out]; simp [idxOf], hbw⟩

theorem ContainsFuncIn (l : List Int) (A : Option Addr) (cap : Nat) (hl : l.length ≤ 9223372036854775807) (fv : Nat) (caps : Array Value) (p : Int → Bool) (w : World) (hr : RdL w w.heap.size inE 1 A l)
    (hcall : ∀ (args : Array Value) (W : World), (callFunc fv args).run Try.prog W = .ok (.enter fv args) W)
    (hf : ∀ x ∈ l, ∀ W, Below w.heap.size w W → Calls Try.prog fv (#[.int .i64 x] ++ caps) W fun e W' => e = .returned (.bool (p x)) ∧ Below W.heap.size W W') :
    Calls Try.prog 45 #[.slice A l.length cap, .func (.func fv) #[] caps] w fun e w' => e = .returned (.bool (l.any p)) ∧ Below w.heap.size w w' := by
  have HI := Lib.hid (IndexFuncIn l A cap hl fv caps p w hr hcall hf)
  have HE := Lib.hid (idxOf_any p l 0)
  clear hf hr hcall
  go_enter Try.func45, Try.ntmps45
  go_wp2_with (go_at_call 90; refine HI.out.mono ?_; rintro e w1 ⟨rfl, hb⟩)
  go_ret
  exact ⟨by rw [← HE.out]; rfl, hb⟩

set_option maxHeartbeats 2000000 in
set_option maxRecDepth 100000 in
theorem name_a (w : World) : Calls Try.prog 43 #[.string ⟨#[97]⟩] w fun e w' => e = .returned (.bool true) ∧ Below w.heap.size w w' := by
  have H := Lib.hid (fun W => rwithin_c 1 1 16 W)
  rw [show wiB 1 1 16 = true by decide] at H
  have hcv := Lib.run_convert_string_bytes (P := Try.prog) w 9 147 5 ⟨#[97]⟩ (u := .string) Try.underlying9 Try.underlying147 Try.underlying5
  have HC : (Lib.bytesWorld w 5 ⟨#[97]⟩).cell? ⟨w.heap.size, 0, none⟩ = some (.int .u8 97) := Lib.bytesWorld_cell w 5 ⟨#[97]⟩ 0 (by decide)
  have hsz := Lib.bytesWorld_size w 5 ⟨#[97]⟩
  have b0 : Below w.heap.size w (Lib.bytesWorld w 5 ⟨#[97]⟩) := ⟨rfl, rfl, rfl, by omega, fun k hk => Lib.bytesWorld_at_old w 5 ⟨#[97]⟩ k hk⟩
  have h1 : (⟨#[97]⟩ : ByteArray).size = 1 := rfl
  generalize Lib.bytesWorld w 5 ⟨#[97]⟩ = W0 at *
  go_enter Try.func43, Try.ntmps43
  go_wp2
  clear hcv
  go_loopw [9] (fun i wr => (i = .int .i64 0 ∨ i = .int .i64 1) ∧ wr.cell? ⟨w.heap.size, 0, none⟩ = some (.int .u8 97) ∧ Below w.heap.size w wr) (fun i _ => 1 - (intOf i).toNat)
  case atStart => exact ⟨.inl rfl, HC, b0⟩
  case round =>
    obtain ⟨hi, hc, hbw⟩ := hrel
    rcases hi with rfl | rfl
    · go_wp2
      go_roundw
      case rel => exact ⟨.inr rfl, hc, hbw⟩
      case measure => simp [intOf]
    · go_wp2_with fail
      refine (H.out _).mono ?_
      rintro e w1 ⟨rfl, rfl⟩
      go_wp2
      go_ret
      exact ⟨rfl, hbw⟩
/-- A box's errors are right. -/
def okErr (l : List Int) : Bool := wiB (l.length : Int) 2 400 && l.all nearB
set_option maxHeartbeats 2000000 in
set_option maxRecDepth 100000 in
theorem ValidBox_c (l : List Int) (A : Option Addr) (cap : Nat) (hl : l.length ≤ 9223372036854775807) (w : World) (hr : RdL w w.heap.size inE 1 A l) :
    Calls Try.prog 12 #[.agg #[.string ⟨#[97]⟩, .slice A l.length cap]] w fun e w' => e = .returned (.bool (okErr l)) ∧ Below w.heap.size w w' := by
  have HN := Lib.hid (fun W => name_a W)
  have HW := Lib.hid (fun W => rwithin_c l.length 2 400 W)
  have HC := Lib.hid (fun W (hb : Below w.heap.size w W) => ContainsFuncIn l A cap hl _ #[] (fun x => !nearB x) W (hr.step hb) call_far (fun x _ V _ => by simpa using far_c x V))
  have he := any_not nearB l
  unfold okErr
  rw [← he]
  clear hr he
  generalize l.any (fun x => !nearB x) = X at *
  cases h : wiB l.length 2 400
  all_goals
    rw [h] at HW
    clear h
    generalize l.length = m at *
    go_enter Try.func12, Try.ntmps12
    go_wp2_with fail
    refine (HN.out _).mono ?_
    rintro e w1 ⟨rfl, hb1⟩
    have d0 : w1.cell? ⟨w.heap.size, 0, none⟩ = some (.string ⟨#[97]⟩) := keep_cell hb1 (by simp [go_sem])
    have d1 : w1.cell? ⟨w.heap.size, 1, none⟩ = some (.slice A m cap) := keep_cell hb1 (by simp [go_sem])
    have hbw : Below w.heap.size w w1 := Below.step (by (repeat (first | (with_reducible exact Below.refl _ _) | (with_reducible assumption) | (with_reducible refine Below.drew ?_) | (with_reducible refine Below.allocS ?_ _) | (with_reducible refine Below.setCell ?_ ?_ _) | (with_reducible refine Below.step ?_ (by assumption)) | (with_reducible refine Below.drewN' ?_ _))); (try any_goals (first | (with_reducible assumption) | (simp; done) | (simp; omega) | omega))) hb1
    clear hb1
    go_wp2_with fail
    refine (HW.out _).mono ?_
    rintro e w2 ⟨rfl, rfl⟩
  · go_wp2
    go_ret
    exact ⟨rfl, hbw⟩
  · go_wp2_with fail
    refine (HC.out _ hbw).mono ?_
    rintro e w3 ⟨rfl, hb3⟩
    go_wp2
    go_ret
    exact ⟨by simp, Below.step hbw hb3⟩
end Go.Proofs.Ytagbokhmcidokaa
