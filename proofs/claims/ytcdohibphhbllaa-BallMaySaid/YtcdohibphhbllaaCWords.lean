/-
  The walk of the law BallWords: Fault, Word and Count of ball and of its reference answer the same. No conditions.
-/
import Derived.Test.YtcdohibphhbllaaC0
import Derived.ChangeKeysEq
namespace Go.Proofs.Ytcdohibphhbllaa
open Go.RowKit
set_option linter.unusedVariables false
def inE (n : Int) : List Value := [.int .i64 n]
def wordS (v : Int) : ByteArray := if v = 0 then ⟨#[103, 111, 111, 100]⟩ else if v = 1 then ⟨#[119, 114, 111, 110, 103]⟩ else if v = 2 then ⟨#[102, 97, 108, 115, 101]⟩ else if v = 3 then ⟨#[97, 103, 97, 105, 110]⟩ else if v = 4 then ⟨#[116, 111, 108, 100]⟩ else if v = 5 then ⟨#[115, 105, 108, 101, 110, 116]⟩ else ⟨#[]⟩
def cnt (l : List Int) (j : Int) : Int := ((l.countP (fun v => v == j) : Nat) : Int)
def cntE (l : List Int) : Int := if l.all (fun v => within v 0 5) then 0 else 7
def cntV (l : List Int) (j : Int) : Int := if cntE l = 0 then cnt l j else 0
theorem cnt_snoc (l : List Int) (k : Nat) (h : k < l.length) (j : Int) : cnt (l.take (k + 1)) j = cnt (l.take k) j + if l[k] = j then 1 else 0 := by
  unfold cnt
  rw [List.take_succ_eq_append_getElem h, List.countP_append, List.countP_singleton]
  by_cases hj : l[k] = j <;> simp [hj]
theorem cnt_bd (l : List Int) (j : Int) : 0 ≤ cnt l j ∧ cnt l j ≤ l.length := by
  unfold cnt
  have := List.countP_le_length (p := fun v => v == j) (l := l)
  omega
theorem cntE_no {l : List Int} {v : Int} (hm : v ∈ l) (h : within v 0 5 = false) : cntE l = 7 := by
  unfold cntE
  rw [if_neg]
  intro ha
  rw [List.all_eq_true] at ha
  have := ha v hm
  rw [h] at this; cases this
theorem cntV_no {l : List Int} {j : Int} (h : cntE l = 7) : cntV l j = 0 := by unfold cntV; rw [h]; rfl
theorem cntV_ok {l : List Int} {j : Int} (h : cntE l = 0) : cntV l j = cnt l j := by unfold cntV; rw [if_pos h]
structure Own6 (W : World) (b : Nat) (x0 x1 x2 x3 x4 x5 : Int) : Prop where
  c0 : W.cell? ⟨b, 0, none⟩ = some (.int .i64 x0)
  c1 : W.cell? ⟨b, 1, none⟩ = some (.int .i64 x1)
  c2 : W.cell? ⟨b, 2, none⟩ = some (.int .i64 x2)
  c3 : W.cell? ⟨b, 3, none⟩ = some (.int .i64 x3)
  c4 : W.cell? ⟨b, 4, none⟩ = some (.int .i64 x4)
  c5 : W.cell? ⟨b, 5, none⟩ = some (.int .i64 x5)
  f0 : W.frozen? ⟨b, 0, none⟩ = false
  f1 : W.frozen? ⟨b, 1, none⟩ = false
  f2 : W.frozen? ⟨b, 2, none⟩ = false
  f3 : W.frozen? ⟨b, 3, none⟩ = false
  f4 : W.frozen? ⟨b, 4, none⟩ = false
  f5 : W.frozen? ⟨b, 5, none⟩ = false

theorem Fault_c (v : Int) (w : World) : Calls Try.prog 18 #[.int .i64 v] w fun e w' => e = .returned (.bool (v == 2 || v == 5)) ∧ w = w' := by
  cases h : (v == 2)
  all_goals
    go_enter Try.func18, Try.ntmps18
    go_wp2
    go_ret
    exact ⟨rfl, rfl⟩

theorem rFault_c (v : Int) (w : World) : Calls Try.prog 27 #[.int .i64 v] w fun e w' => e = .returned (.bool (v == 2 || v == 5)) ∧ w = w' := by
  cases h : (v == 2)
  all_goals
    go_enter Try.func27, Try.ntmps27
    go_wp2
    go_ret
    exact ⟨rfl, rfl⟩

theorem Word_c (v : Int) (w : World) :
    Calls Try.prog 28 #[.int .i64 v] w fun e w' => e = .returned (.string (wordS v)) ∧ w = w' := by
  cases h : within v 0 5
  · have hs : wordS v = ⟨#[]⟩ := by have := within_false h; unfold wordS; rw [if_neg (by omega), if_neg (by omega), if_neg (by omega), if_neg (by omega), if_neg (by omega), if_neg (by omega)]
    rw [hs]
    go_enter Try.func28, Try.ntmps28
    go_wp2_with (go_at_call 61; (with_reducible refine (within_c _ _ _ _).mono ?_); rintro e w' ⟨rfl, rfl⟩)
    go_ret
    exact ⟨rfl, rfl⟩
  · have h' := within_true h
    have hv : v = 0 ∨ v = 1 ∨ v = 2 ∨ v = 3 ∨ v = 4 ∨ v = 5 := by omega
    rcases hv with rfl | rfl | rfl | rfl | rfl | rfl
    · have hix : ∀ W : World, (Instr.index 80 (.agg #[.string ⟨#[103, 111, 111, 100]⟩, .string ⟨#[119, 114, 111, 110, 103]⟩, .string ⟨#[102, 97, 108, 115, 101]⟩, .string ⟨#[97, 103, 97, 105, 110]⟩, .string ⟨#[116, 111, 108, 100]⟩, .string ⟨#[115, 105, 108, 101, 110, 116]⟩]) (.int .i64 0)).run Try.prog W = .ok (.string ⟨#[103, 111, 111, 100]⟩) W := fun _ => by kernel_rfl
      go_enter Try.func28, Try.ntmps28
      go_wp2_with (go_at_call 61; (with_reducible refine (within_c _ _ _ _).mono ?_); rintro e w' ⟨rfl, rfl⟩)
      go_ret
      exact ⟨rfl, rfl⟩
    · have hix : ∀ W : World, (Instr.index 80 (.agg #[.string ⟨#[103, 111, 111, 100]⟩, .string ⟨#[119, 114, 111, 110, 103]⟩, .string ⟨#[102, 97, 108, 115, 101]⟩, .string ⟨#[97, 103, 97, 105, 110]⟩, .string ⟨#[116, 111, 108, 100]⟩, .string ⟨#[115, 105, 108, 101, 110, 116]⟩]) (.int .i64 1)).run Try.prog W = .ok (.string ⟨#[119, 114, 111, 110, 103]⟩) W := fun _ => by kernel_rfl
      go_enter Try.func28, Try.ntmps28
      go_wp2_with (go_at_call 61; (with_reducible refine (within_c _ _ _ _).mono ?_); rintro e w' ⟨rfl, rfl⟩)
      go_ret
      exact ⟨rfl, rfl⟩
    · have hix : ∀ W : World, (Instr.index 80 (.agg #[.string ⟨#[103, 111, 111, 100]⟩, .string ⟨#[119, 114, 111, 110, 103]⟩, .string ⟨#[102, 97, 108, 115, 101]⟩, .string ⟨#[97, 103, 97, 105, 110]⟩, .string ⟨#[116, 111, 108, 100]⟩, .string ⟨#[115, 105, 108, 101, 110, 116]⟩]) (.int .i64 2)).run Try.prog W = .ok (.string ⟨#[102, 97, 108, 115, 101]⟩) W := fun _ => by kernel_rfl
      go_enter Try.func28, Try.ntmps28
      go_wp2_with (go_at_call 61; (with_reducible refine (within_c _ _ _ _).mono ?_); rintro e w' ⟨rfl, rfl⟩)
      go_ret
      exact ⟨rfl, rfl⟩
    · have hix : ∀ W : World, (Instr.index 80 (.agg #[.string ⟨#[103, 111, 111, 100]⟩, .string ⟨#[119, 114, 111, 110, 103]⟩, .string ⟨#[102, 97, 108, 115, 101]⟩, .string ⟨#[97, 103, 97, 105, 110]⟩, .string ⟨#[116, 111, 108, 100]⟩, .string ⟨#[115, 105, 108, 101, 110, 116]⟩]) (.int .i64 3)).run Try.prog W = .ok (.string ⟨#[97, 103, 97, 105, 110]⟩) W := fun _ => by kernel_rfl
      go_enter Try.func28, Try.ntmps28
      go_wp2_with (go_at_call 61; (with_reducible refine (within_c _ _ _ _).mono ?_); rintro e w' ⟨rfl, rfl⟩)
      go_ret
      exact ⟨rfl, rfl⟩
    · have hix : ∀ W : World, (Instr.index 80 (.agg #[.string ⟨#[103, 111, 111, 100]⟩, .string ⟨#[119, 114, 111, 110, 103]⟩, .string ⟨#[102, 97, 108, 115, 101]⟩, .string ⟨#[97, 103, 97, 105, 110]⟩, .string ⟨#[116, 111, 108, 100]⟩, .string ⟨#[115, 105, 108, 101, 110, 116]⟩]) (.int .i64 4)).run Try.prog W = .ok (.string ⟨#[116, 111, 108, 100]⟩) W := fun _ => by kernel_rfl
      go_enter Try.func28, Try.ntmps28
      go_wp2_with (go_at_call 61; (with_reducible refine (within_c _ _ _ _).mono ?_); rintro e w' ⟨rfl, rfl⟩)
      go_ret
      exact ⟨rfl, rfl⟩
    · have hix : ∀ W : World, (Instr.index 80 (.agg #[.string ⟨#[103, 111, 111, 100]⟩, .string ⟨#[119, 114, 111, 110, 103]⟩, .string ⟨#[102, 97, 108, 115, 101]⟩, .string ⟨#[97, 103, 97, 105, 110]⟩, .string ⟨#[116, 111, 108, 100]⟩, .string ⟨#[115, 105, 108, 101, 110, 116]⟩]) (.int .i64 5)).run Try.prog W = .ok (.string ⟨#[115, 105, 108, 101, 110, 116]⟩) W := fun _ => by kernel_rfl
      go_enter Try.func28, Try.ntmps28
      go_wp2_with (go_at_call 61; (with_reducible refine (within_c _ _ _ _).mono ?_); rintro e w' ⟨rfl, rfl⟩)
      go_ret
      exact ⟨rfl, rfl⟩

theorem rWord_c (v : Int) (w : World) :
    Calls Try.prog 29 #[.int .i64 v] w fun e w' => e = .returned (.string (wordS v)) ∧ w = w' := by
  cases h : within v 0 5
  · have hs : wordS v = ⟨#[]⟩ := by have := within_false h; unfold wordS; rw [if_neg (by omega), if_neg (by omega), if_neg (by omega), if_neg (by omega), if_neg (by omega), if_neg (by omega)]
    rw [hs]
    go_enter Try.func29, Try.ntmps29
    go_wp2_with (go_at_call 58; (with_reducible refine (rwithin_c _ _ _ _).mono ?_); rintro e w' ⟨rfl, rfl⟩)
    go_ret
    exact ⟨rfl, rfl⟩
  · have h' := within_true h
    have hv : v = 0 ∨ v = 1 ∨ v = 2 ∨ v = 3 ∨ v = 4 ∨ v = 5 := by omega
    rcases hv with rfl | rfl | rfl | rfl | rfl | rfl
    · have hix : ∀ W : World, (Instr.index 80 (.agg #[.string ⟨#[103, 111, 111, 100]⟩, .string ⟨#[119, 114, 111, 110, 103]⟩, .string ⟨#[102, 97, 108, 115, 101]⟩, .string ⟨#[97, 103, 97, 105, 110]⟩, .string ⟨#[116, 111, 108, 100]⟩, .string ⟨#[115, 105, 108, 101, 110, 116]⟩]) (.int .i64 0)).run Try.prog W = .ok (.string ⟨#[103, 111, 111, 100]⟩) W := fun _ => by kernel_rfl
      go_enter Try.func29, Try.ntmps29
      go_wp2_with (go_at_call 58; (with_reducible refine (rwithin_c _ _ _ _).mono ?_); rintro e w' ⟨rfl, rfl⟩)
      go_ret
      exact ⟨rfl, rfl⟩
    · have hix : ∀ W : World, (Instr.index 80 (.agg #[.string ⟨#[103, 111, 111, 100]⟩, .string ⟨#[119, 114, 111, 110, 103]⟩, .string ⟨#[102, 97, 108, 115, 101]⟩, .string ⟨#[97, 103, 97, 105, 110]⟩, .string ⟨#[116, 111, 108, 100]⟩, .string ⟨#[115, 105, 108, 101, 110, 116]⟩]) (.int .i64 1)).run Try.prog W = .ok (.string ⟨#[119, 114, 111, 110, 103]⟩) W := fun _ => by kernel_rfl
      go_enter Try.func29, Try.ntmps29
      go_wp2_with (go_at_call 58; (with_reducible refine (rwithin_c _ _ _ _).mono ?_); rintro e w' ⟨rfl, rfl⟩)
      go_ret
      exact ⟨rfl, rfl⟩
    · have hix : ∀ W : World, (Instr.index 80 (.agg #[.string ⟨#[103, 111, 111, 100]⟩, .string ⟨#[119, 114, 111, 110, 103]⟩, .string ⟨#[102, 97, 108, 115, 101]⟩, .string ⟨#[97, 103, 97, 105, 110]⟩, .string ⟨#[116, 111, 108, 100]⟩, .string ⟨#[115, 105, 108, 101, 110, 116]⟩]) (.int .i64 2)).run Try.prog W = .ok (.string ⟨#[102, 97, 108, 115, 101]⟩) W := fun _ => by kernel_rfl
      go_enter Try.func29, Try.ntmps29
      go_wp2_with (go_at_call 58; (with_reducible refine (rwithin_c _ _ _ _).mono ?_); rintro e w' ⟨rfl, rfl⟩)
      go_ret
      exact ⟨rfl, rfl⟩
    · have hix : ∀ W : World, (Instr.index 80 (.agg #[.string ⟨#[103, 111, 111, 100]⟩, .string ⟨#[119, 114, 111, 110, 103]⟩, .string ⟨#[102, 97, 108, 115, 101]⟩, .string ⟨#[97, 103, 97, 105, 110]⟩, .string ⟨#[116, 111, 108, 100]⟩, .string ⟨#[115, 105, 108, 101, 110, 116]⟩]) (.int .i64 3)).run Try.prog W = .ok (.string ⟨#[97, 103, 97, 105, 110]⟩) W := fun _ => by kernel_rfl
      go_enter Try.func29, Try.ntmps29
      go_wp2_with (go_at_call 58; (with_reducible refine (rwithin_c _ _ _ _).mono ?_); rintro e w' ⟨rfl, rfl⟩)
      go_ret
      exact ⟨rfl, rfl⟩
    · have hix : ∀ W : World, (Instr.index 80 (.agg #[.string ⟨#[103, 111, 111, 100]⟩, .string ⟨#[119, 114, 111, 110, 103]⟩, .string ⟨#[102, 97, 108, 115, 101]⟩, .string ⟨#[97, 103, 97, 105, 110]⟩, .string ⟨#[116, 111, 108, 100]⟩, .string ⟨#[115, 105, 108, 101, 110, 116]⟩]) (.int .i64 4)).run Try.prog W = .ok (.string ⟨#[116, 111, 108, 100]⟩) W := fun _ => by kernel_rfl
      go_enter Try.func29, Try.ntmps29
      go_wp2_with (go_at_call 58; (with_reducible refine (rwithin_c _ _ _ _).mono ?_); rintro e w' ⟨rfl, rfl⟩)
      go_ret
      exact ⟨rfl, rfl⟩
    · have hix : ∀ W : World, (Instr.index 80 (.agg #[.string ⟨#[103, 111, 111, 100]⟩, .string ⟨#[119, 114, 111, 110, 103]⟩, .string ⟨#[102, 97, 108, 115, 101]⟩, .string ⟨#[97, 103, 97, 105, 110]⟩, .string ⟨#[116, 111, 108, 100]⟩, .string ⟨#[115, 105, 108, 101, 110, 116]⟩]) (.int .i64 5)).run Try.prog W = .ok (.string ⟨#[115, 105, 108, 101, 110, 116]⟩) W := fun _ => by kernel_rfl
      go_enter Try.func29, Try.ntmps29
      go_wp2_with (go_at_call 58; (with_reducible refine (rwithin_c _ _ _ _).mono ?_); rintro e w' ⟨rfl, rfl⟩)
      go_ret
      exact ⟨rfl, rfl⟩

set_option maxHeartbeats 2000000 in
theorem Count_c (l : List Int) (A : Option Addr) (cap : Nat) (hl : l.length ≤ 1000) (w : World) (hr : RdL w w.heap.size inE 1 A l) :
    Calls Try.prog 25 #[.slice A l.length cap] w fun e w' => e = .returned (.tuple #[.agg #[.int .i64 (cntV l 0), .int .i64 (cntV l 1), .int .i64 (cntV l 2), .int .i64 (cntV l 3), .int .i64 (cntV l 4), .int .i64 (cntV l 5)], .int .i64 (cntE l)]) ∧ Below w.heap.size w w' := by
  have HR := Lib.hid hr
  clear hr
  go_enter Try.func25, Try.ntmps25
  go_wp2
  go_loopw [9] (fun i wr => ∃ k : Nat, k ≤ l.length ∧ i = .int .i64 k ∧ Own6 wr w.heap.size 0 0 0 0 0 0 ∧ Own6 wr (w.heap.size + 1) (cnt (l.take k) 0) (cnt (l.take k) 1) (cnt (l.take k) 2) (cnt (l.take k) 3) (cnt (l.take k) 4) (cnt (l.take k) 5) ∧ (l.take k).all (fun v => within v 0 5) = true ∧ Below w.heap.size w wr) (fun i _ => l.length - (intOf i).toNat)
  case atStart => exact ⟨0, Nat.zero_le _, rfl, ⟨by simp [go_sem], by simp [go_sem], by simp [go_sem], by simp [go_sem], by simp [go_sem], by simp [go_sem], by simp [go_sem], by simp [go_sem], by simp [go_sem], by simp [go_sem], by simp [go_sem], by simp [go_sem]⟩, ⟨by simp [go_sem, cnt], by simp [go_sem, cnt], by simp [go_sem, cnt], by simp [go_sem, cnt], by simp [go_sem, cnt], by simp [go_sem, cnt], by simp [go_sem], by simp [go_sem], by simp [go_sem], by simp [go_sem], by simp [go_sem], by simp [go_sem]⟩, rfl, by (repeat (first | (with_reducible exact Below.refl _ _) | (with_reducible assumption) | (with_reducible refine Below.drew ?_) | (with_reducible refine Below.allocS ?_ _) | (with_reducible refine Below.setCell ?_ ?_ _) | (with_reducible refine Below.step ?_ (by assumption)) | (with_reducible refine Below.drewN' ?_ _))); (try any_goals (first | (with_reducible assumption) | (simp; done) | (simp; omega) | omega))⟩
  case round =>
    obtain ⟨k, hk, rfl, hO, hC, hall, hbw⟩ := hrel
    obtain ⟨o0, o1, o2, o3, o4, o5, of0, of1, of2, of3, of4, of5⟩ := hO
    have y0 := cell?_lt o0
    by_cases hlt : k < l.length
    · obtain ⟨b, off, rfl, hb0, hc⟩ := HR.out (by omega)
      have c0 := (hbw.cell (p := ⟨b, _, none⟩) hb0).trans (hc k hlt 0 _ rfl)
      clear hc
      simp at c0
      have HA := Lib.hid hall
      have hs : ∀ j, cnt (l.take (k + 1)) j = cnt (l.take k) j + if l[k] = j then 1 else 0 := fun j => cnt_snoc l k hlt j
      have HS := Lib.hid hs
      have ht : l.take (k + 1) = l.take k ++ [l[k]] := List.take_succ_eq_append_getElem hlt
      have HT := Lib.hid ht
      have bd := fun j => cnt_bd (l.take k) j
      have hlen : (l.take k).length ≤ 1000 := by rw [List.length_take]; omega
      have d0 := bd 0
      have d1 := bd 1
      have d2 := bd 2
      have d3 := bd 3
      have d4 := bd 4
      have d5 := bd 5
      clear hall hs ht bd
      cases hv : within l[k] 0 5
      · have HE := Lib.hid (show cntE l = 7 from cntE_no (List.getElem_mem hlt) hv)
        clear hC
        go_wp2_with (go_at_call 61; (with_reducible refine (within_c _ _ _ _).mono ?_); rintro e w' ⟨rfl, rfl⟩)
        refine bodyPost_ret (v := .tuple #[.agg #[.int .i64 0, .int .i64 0, .int .i64 0, .int .i64 0, .int .i64 0, .int .i64 0], .int .i64 7]) (by simp [results, Try.results25, go_sem, *] <;> (repeat' apply And.intro) <;> rfl) rfl ⟨?_, ?_⟩
        · rw [cntV_no HE.out, cntV_no HE.out, cntV_no HE.out, cntV_no HE.out, cntV_no HE.out, cntV_no HE.out, HE.out]
        · (repeat (first | (with_reducible exact Below.refl _ _) | (with_reducible assumption) | (with_reducible refine Below.drew ?_) | (with_reducible refine Below.allocS ?_ _) | (with_reducible refine Below.setCell ?_ ?_ _) | (with_reducible refine Below.step ?_ (by assumption)) | (with_reducible refine Below.drewN' ?_ _))); (try any_goals (first | (with_reducible assumption) | (simp; done) | (simp; omega) | omega))
      · obtain ⟨v0, v5⟩ := within_true hv
        generalize hx : l[k] = x at *
        clear hx
        have hk6 : x = 0 ∨ x = 1 ∨ x = 2 ∨ x = 3 ∨ x = 4 ∨ x = 5 := by omega
        have hC0 := Lib.hid hC
        obtain ⟨c10, c11, c12, c13, c14, c15, f10, f11, f12, f13, f14, f15⟩ := hC
        have y1 := cell?_lt c10
        rcases hk6 with rfl | rfl | rfl | rfl | rfl | rfl
        all_goals
          go_wp2_with (go_at_call 61; (with_reducible refine (within_c _ _ _ _).mono ?_); rintro e w' ⟨rfl, rfl⟩)
          go_roundw
          case rel =>
            refine ⟨k + 1, by omega, by go_num, ?_, ?_, by rw [HT.out, List.all_append, HA.out]; rfl, by (repeat (first | (with_reducible exact Below.refl _ _) | (with_reducible assumption) | (with_reducible refine Below.drew ?_) | (with_reducible refine Below.allocS ?_ _) | (with_reducible refine Below.setCell ?_ ?_ _) | (with_reducible refine Below.step ?_ (by assumption)) | (with_reducible refine Below.drewN' ?_ _))); (try any_goals (first | (with_reducible assumption) | (simp; done) | (simp; omega) | omega))⟩
            · exact ⟨by simp [go_sem, *], by simp [go_sem, *], by simp [go_sem, *], by simp [go_sem, *], by simp [go_sem, *], by simp [go_sem, *], by simp [go_sem, *], by simp [go_sem, *], by simp [go_sem, *], by simp [go_sem, *], by simp [go_sem, *], by simp [go_sem, *]⟩
            · rw [HS.out 0, HS.out 1, HS.out 2, HS.out 3, HS.out 4, HS.out 5]
              exact ⟨by simp [go_sem, *], by simp [go_sem, *], by simp [go_sem, *], by simp [go_sem, *], by simp [go_sem, *], by simp [go_sem, *], by simp [go_sem, *], by simp [go_sem, *], by simp [go_sem, *], by simp [go_sem, *], by simp [go_sem, *], by simp [go_sem, *]⟩
          case measure => simp [intOf]; omega
    · obtain rfl : k = l.length := by omega
      have HE := Lib.hid (show cntE l = 0 by unfold cntE; rw [List.take_length] at hall; rw [hall]; rfl)
      obtain ⟨c10, c11, c12, c13, c14, c15, f10, f11, f12, f13, f14, f15⟩ := hC
      rw [List.take_length] at c10 c11 c12 c13 c14 c15
      clear hall
      go_wp2
      refine bodyPost_ret (v := .tuple #[.agg #[.int .i64 (cnt l 0), .int .i64 (cnt l 1), .int .i64 (cnt l 2), .int .i64 (cnt l 3), .int .i64 (cnt l 4), .int .i64 (cnt l 5)], .int .i64 0]) (by simp [results, Try.results25, go_sem, *] <;> (repeat' apply And.intro) <;> rfl) rfl ⟨?_, ?_⟩
      · rw [cntV_ok HE.out, cntV_ok HE.out, cntV_ok HE.out, cntV_ok HE.out, cntV_ok HE.out, cntV_ok HE.out, HE.out]
      · (repeat (first | (with_reducible exact Below.refl _ _) | (with_reducible assumption) | (with_reducible refine Below.drew ?_) | (with_reducible refine Below.allocS ?_ _) | (with_reducible refine Below.setCell ?_ ?_ _) | (with_reducible refine Below.step ?_ (by assumption)) | (with_reducible refine Below.drewN' ?_ _))); (try any_goals (first | (with_reducible assumption) | (simp; done) | (simp; omega) | omega))

set_option maxHeartbeats 2000000 in
theorem rCount_c (l : List Int) (A : Option Addr) (cap : Nat) (hl : l.length ≤ 1000) (w : World) (hr : RdL w w.heap.size inE 1 A l) :
    Calls Try.prog 26 #[.slice A l.length cap] w fun e w' => e = .returned (.tuple #[.agg #[.int .i64 (cntV l 0), .int .i64 (cntV l 1), .int .i64 (cntV l 2), .int .i64 (cntV l 3), .int .i64 (cntV l 4), .int .i64 (cntV l 5)], .int .i64 (cntE l)]) ∧ Below w.heap.size w w' := by
  have HR := Lib.hid hr
  clear hr
  go_enter Try.func26, Try.ntmps26
  go_wp2
  go_loopw [9] (fun i wr => ∃ k : Nat, k ≤ l.length ∧ i = .int .i64 k ∧ Own6 wr w.heap.size 0 0 0 0 0 0 ∧ Own6 wr (w.heap.size + 1) (cnt (l.take k) 0) (cnt (l.take k) 1) (cnt (l.take k) 2) (cnt (l.take k) 3) (cnt (l.take k) 4) (cnt (l.take k) 5) ∧ (l.take k).all (fun v => within v 0 5) = true ∧ Below w.heap.size w wr) (fun i _ => l.length - (intOf i).toNat)
  case atStart => exact ⟨0, Nat.zero_le _, rfl, ⟨by simp [go_sem], by simp [go_sem], by simp [go_sem], by simp [go_sem], by simp [go_sem], by simp [go_sem], by simp [go_sem], by simp [go_sem], by simp [go_sem], by simp [go_sem], by simp [go_sem], by simp [go_sem]⟩, ⟨by simp [go_sem, cnt], by simp [go_sem, cnt], by simp [go_sem, cnt], by simp [go_sem, cnt], by simp [go_sem, cnt], by simp [go_sem, cnt], by simp [go_sem], by simp [go_sem], by simp [go_sem], by simp [go_sem], by simp [go_sem], by simp [go_sem]⟩, rfl, by (repeat (first | (with_reducible exact Below.refl _ _) | (with_reducible assumption) | (with_reducible refine Below.drew ?_) | (with_reducible refine Below.allocS ?_ _) | (with_reducible refine Below.setCell ?_ ?_ _) | (with_reducible refine Below.step ?_ (by assumption)) | (with_reducible refine Below.drewN' ?_ _))); (try any_goals (first | (with_reducible assumption) | (simp; done) | (simp; omega) | omega))⟩
  case round =>
    obtain ⟨k, hk, rfl, hO, hC, hall, hbw⟩ := hrel
    obtain ⟨o0, o1, o2, o3, o4, o5, of0, of1, of2, of3, of4, of5⟩ := hO
    have y0 := cell?_lt o0
    by_cases hlt : k < l.length
    · obtain ⟨b, off, rfl, hb0, hc⟩ := HR.out (by omega)
      have c0 := (hbw.cell (p := ⟨b, _, none⟩) hb0).trans (hc k hlt 0 _ rfl)
      clear hc
      simp at c0
      have HA := Lib.hid hall
      have hs : ∀ j, cnt (l.take (k + 1)) j = cnt (l.take k) j + if l[k] = j then 1 else 0 := fun j => cnt_snoc l k hlt j
      have HS := Lib.hid hs
      have ht : l.take (k + 1) = l.take k ++ [l[k]] := List.take_succ_eq_append_getElem hlt
      have HT := Lib.hid ht
      have bd := fun j => cnt_bd (l.take k) j
      have hlen : (l.take k).length ≤ 1000 := by rw [List.length_take]; omega
      have d0 := bd 0
      have d1 := bd 1
      have d2 := bd 2
      have d3 := bd 3
      have d4 := bd 4
      have d5 := bd 5
      clear hall hs ht bd
      cases hv : within l[k] 0 5
      · have HE := Lib.hid (show cntE l = 7 from cntE_no (List.getElem_mem hlt) hv)
        clear hC
        go_wp2_with (go_at_call 58; (with_reducible refine (rwithin_c _ _ _ _).mono ?_); rintro e w' ⟨rfl, rfl⟩)
        refine bodyPost_ret (v := .tuple #[.agg #[.int .i64 0, .int .i64 0, .int .i64 0, .int .i64 0, .int .i64 0, .int .i64 0], .int .i64 7]) (by simp [results, Try.results26, go_sem, *] <;> (repeat' apply And.intro) <;> rfl) rfl ⟨?_, ?_⟩
        · rw [cntV_no HE.out, cntV_no HE.out, cntV_no HE.out, cntV_no HE.out, cntV_no HE.out, cntV_no HE.out, HE.out]
        · (repeat (first | (with_reducible exact Below.refl _ _) | (with_reducible assumption) | (with_reducible refine Below.drew ?_) | (with_reducible refine Below.allocS ?_ _) | (with_reducible refine Below.setCell ?_ ?_ _) | (with_reducible refine Below.step ?_ (by assumption)) | (with_reducible refine Below.drewN' ?_ _))); (try any_goals (first | (with_reducible assumption) | (simp; done) | (simp; omega) | omega))
      · obtain ⟨v0, v5⟩ := within_true hv
        generalize hx : l[k] = x at *
        clear hx
        have hk6 : x = 0 ∨ x = 1 ∨ x = 2 ∨ x = 3 ∨ x = 4 ∨ x = 5 := by omega
        have hC0 := Lib.hid hC
        obtain ⟨c10, c11, c12, c13, c14, c15, f10, f11, f12, f13, f14, f15⟩ := hC
        have y1 := cell?_lt c10
        rcases hk6 with rfl | rfl | rfl | rfl | rfl | rfl
        all_goals
          go_wp2_with (go_at_call 58; (with_reducible refine (rwithin_c _ _ _ _).mono ?_); rintro e w' ⟨rfl, rfl⟩)
          go_roundw
          case rel =>
            refine ⟨k + 1, by omega, by go_num, ?_, ?_, by rw [HT.out, List.all_append, HA.out]; rfl, by (repeat (first | (with_reducible exact Below.refl _ _) | (with_reducible assumption) | (with_reducible refine Below.drew ?_) | (with_reducible refine Below.allocS ?_ _) | (with_reducible refine Below.setCell ?_ ?_ _) | (with_reducible refine Below.step ?_ (by assumption)) | (with_reducible refine Below.drewN' ?_ _))); (try any_goals (first | (with_reducible assumption) | (simp; done) | (simp; omega) | omega))⟩
            · exact ⟨by simp [go_sem, *], by simp [go_sem, *], by simp [go_sem, *], by simp [go_sem, *], by simp [go_sem, *], by simp [go_sem, *], by simp [go_sem, *], by simp [go_sem, *], by simp [go_sem, *], by simp [go_sem, *], by simp [go_sem, *], by simp [go_sem, *]⟩
            · rw [HS.out 0, HS.out 1, HS.out 2, HS.out 3, HS.out 4, HS.out 5]
              exact ⟨by simp [go_sem, *], by simp [go_sem, *], by simp [go_sem, *], by simp [go_sem, *], by simp [go_sem, *], by simp [go_sem, *], by simp [go_sem, *], by simp [go_sem, *], by simp [go_sem, *], by simp [go_sem, *], by simp [go_sem, *], by simp [go_sem, *]⟩
          case measure => simp [intOf]; omega
    · obtain rfl : k = l.length := by omega
      have HE := Lib.hid (show cntE l = 0 by unfold cntE; rw [List.take_length] at hall; rw [hall]; rfl)
      obtain ⟨c10, c11, c12, c13, c14, c15, f10, f11, f12, f13, f14, f15⟩ := hC
      rw [List.take_length] at c10 c11 c12 c13 c14 c15
      clear hall
      go_wp2
      refine bodyPost_ret (v := .tuple #[.agg #[.int .i64 (cnt l 0), .int .i64 (cnt l 1), .int .i64 (cnt l 2), .int .i64 (cnt l 3), .int .i64 (cnt l 4), .int .i64 (cnt l 5)], .int .i64 0]) (by simp [results, Try.results26, go_sem, *] <;> (repeat' apply And.intro) <;> rfl) rfl ⟨?_, ?_⟩
      · rw [cntV_ok HE.out, cntV_ok HE.out, cntV_ok HE.out, cntV_ok HE.out, cntV_ok HE.out, cntV_ok HE.out, HE.out]
      · (repeat (first | (with_reducible exact Below.refl _ _) | (with_reducible assumption) | (with_reducible refine Below.drew ?_) | (with_reducible refine Below.allocS ?_ _) | (with_reducible refine Below.setCell ?_ ?_ _) | (with_reducible refine Below.step ?_ (by assumption)) | (with_reducible refine Below.drewN' ?_ _))); (try any_goals (first | (with_reducible assumption) | (simp; done) | (simp; omega) | omega))

theorem eqStep (d : Nat) (xs : Array Value) (is : List Nat) (i : Nat) (v : Int) (W : World) (hx : xs[i]? = some (.int .i64 v)) : (Op.eqItems (d + 1) 3 1 xs xs (i :: is)).run Try.prog W = (Op.eqItems (d + 1) 3 1 xs xs is).run Try.prog W := by
  have hp : Try.prog.plainKey 3 = true := by kernel_rfl
  simp only [Op.eqItems, Sem.run_bind, Nat.mul_one, run_part_plain _ hp hx, Result.andThen_ok, run_equalIn_int W d 3 .i64 .i64 v v Try.underlying3]
  simp
theorem inI : (Try.prog.info? 3).map (fun i => (i.zero, i.size, i.bytes)) = some (some (.int .i64 0), 1, 8) := by kernel_rfl
theorem eq6 (x0 x1 x2 x3 x4 x5 : Int) (W : World) : (Op.equalIn 10000 44 (.agg #[.int .i64 x0, .int .i64 x1, .int .i64 x2, .int .i64 x3, .int .i64 x4, .int .i64 x5]) (.agg #[.int .i64 x0, .int .i64 x1, .int .i64 x2, .int .i64 x3, .int .i64 x4, .int .i64 x5])).run Try.prog W = .ok true W := by
  obtain ⟨i0, hi, -⟩ := info_parts inI
  have hc : Try.prog.cellsOf 3 = 1 := by kernel_rfl
  have h := run_equalIn_array (w := W) 9999 #[.int .i64 x0, .int .i64 x1, .int .i64 x2, .int .i64 x3, .int .i64 x4, .int .i64 x5] #[.int .i64 x0, .int .i64 x1, .int .i64 x2, .int .i64 x3, .int .i64 x4, .int .i64 x5] Try.underlying44 hi
  rw [hc] at h
  refine h.trans ?_
  show (Op.eqItems (9998 + 1) 3 1 _ _ [0, 1, 2, 3, 4, 5]).run Try.prog W = _
  rw [eqStep _ _ _ 0 x0 _ rfl, eqStep _ _ _ 1 x1 _ rfl, eqStep _ _ _ 2 x2 _ rfl, eqStep _ _ _ 3 x3 _ rfl, eqStep _ _ _ 4 x4 _ rfl, eqStep _ _ _ 5 x5 _ rfl]
  simp [Op.eqItems]

set_option maxHeartbeats 1000000 in
set_option maxRecDepth 100000 in
theorem BallWords_walk (w : World) (v : Int) (A1 : Option Addr) (c1 : Nat) (l1 : List Int) (w0 : I64 v) (n1 : l1.length ≤ c1) (m1 : c1 ≤ maxLen) (r1 : RdL w w.heap.size inE 1 A1 l1) (w1 : ∀ x ∈ l1, ∃ g : Nat → Int, x = (fun g => g 0) g ∧ ∀ j, j < 1 → I64 (g j)) :
    Calls Try.prog 8 #[.int .i64 v, .slice A1 l1.length c1] w fun e w' => e = .returned (.bool true) ∧ Below w.heap.size w w' := by
  have hl : l1.length ≤ 9223372036854775807 := by unfold maxLen at m1; omega
  clear w1 m1 n1
  by_cases hlong : 1000 < (l1.length : Int)
  · go_enter Try.func8, Try.ntmps8
    go_wp2_with (go_at_call 14; (with_reducible refine (awake_c _).mono ?_); rintro e w1 ⟨rfl, hb⟩; obtain ⟨hc, hf⟩ := bcell hb; have hz := hb.size; (try simp at hz); (try have hz0 : w.heap.size < w1.heap.size := by omega); (try have hz1 : w.heap.size + 1 < w1.heap.size := by omega); (try have hz2 : w.heap.size + 1 + 1 < w1.heap.size := by omega); (try have hz3 : w.heap.size + 1 + 1 + 1 < w1.heap.size := by omega); (try have hz4 : w.heap.size + 1 + 1 + 1 + 1 < w1.heap.size := by omega); (try have hz5 : w.heap.size + 1 + 1 + 1 + 1 + 1 < w1.heap.size := by omega))
    go_ret
    exact ⟨rfl, by (repeat (first | (with_reducible exact Below.refl _ _) | (with_reducible assumption) | (with_reducible refine Below.drew ?_) | (with_reducible refine Below.allocS ?_ _) | (with_reducible refine Below.setCell ?_ ?_ _) | (with_reducible refine Below.step ?_ (by assumption)) | (with_reducible refine Below.drewN' ?_ _))); (try any_goals (first | (with_reducible assumption) | (simp; done) | (simp; omega) | omega))⟩
  · have hd : decide (1000 < (l1.length : Int)) = false := by simpa using hlong
    have H1 := Lib.hid (fun W (hb : Below w.heap.size w W) => Count_c l1 A1 c1 (by omega) W (r1.step hb))
    have H2 := Lib.hid (fun W (hb : Below w.heap.size w W) => rCount_c l1 A1 c1 (by omega) W (r1.step hb))
    have H3 := Lib.hid (fun W => Fault_c v W)
    have H4 := Lib.hid (fun W => rFault_c v W)
    clear r1
    generalize cntV l1 0 = x0 at *
    generalize cntV l1 1 = x1 at *
    generalize cntV l1 2 = x2 at *
    generalize cntV l1 3 = x3 at *
    generalize cntV l1 4 = x4 at *
    generalize cntV l1 5 = x5 at *
    generalize cntE l1 = xe at *
    generalize (v == 2 || v == 5) = q at *
    have heq := fun W => eq6 x0 x1 x2 x3 x4 x5 W
    go_enter Try.func8, Try.ntmps8
    go_wp2_with fail
    refine (H1.out _ (by (repeat (first | (with_reducible exact Below.refl _ _) | (with_reducible assumption) | (with_reducible refine Below.drew ?_) | (with_reducible refine Below.allocS ?_ _) | (with_reducible refine Below.setCell ?_ ?_ _) | (with_reducible refine Below.step ?_ (by assumption)) | (with_reducible refine Below.drewN' ?_ _))); (try any_goals (first | (with_reducible assumption) | (simp; done) | (simp; omega) | omega)))).mono ?_
    rintro e w1 ⟨rfl, hb1⟩
    have g1 : Below w.heap.size w w1 := by (repeat (first | exact Below.refl _ _ | refine Below.drew ?_ | refine Below.allocS ?_ _ | refine Below.step ?_ (by assumption) | refine Below.setCell ?_ (by simp <;> omega) _ | refine Below.drewN' ?_ _))
    clear hb1
    go_wp2_with fail
    refine (H2.out _ (by (repeat (first | (with_reducible exact Below.refl _ _) | (with_reducible assumption) | (with_reducible refine Below.drew ?_) | (with_reducible refine Below.allocS ?_ _) | (with_reducible refine Below.setCell ?_ ?_ _) | (with_reducible refine Below.step ?_ (by assumption)) | (with_reducible refine Below.drewN' ?_ _))); (try any_goals (first | (with_reducible assumption) | (simp; done) | (simp; omega) | omega)))).mono ?_
    rintro e w2 ⟨rfl, hb2⟩
    have x2_0_0 : w2.cell? ⟨w1.heap.size, 0, none⟩ = some (.int .i64 x0) := keep_cell hb2 (by simp [go_sem, *])
    have x2_0_1 : w2.cell? ⟨w1.heap.size, 1, none⟩ = some (.int .i64 x1) := keep_cell hb2 (by simp [go_sem, *])
    have x2_0_2 : w2.cell? ⟨w1.heap.size, 2, none⟩ = some (.int .i64 x2) := keep_cell hb2 (by simp [go_sem, *])
    have x2_0_3 : w2.cell? ⟨w1.heap.size, 3, none⟩ = some (.int .i64 x3) := keep_cell hb2 (by simp [go_sem, *])
    have x2_0_4 : w2.cell? ⟨w1.heap.size, 4, none⟩ = some (.int .i64 x4) := keep_cell hb2 (by simp [go_sem, *])
    have x2_0_5 : w2.cell? ⟨w1.heap.size, 5, none⟩ = some (.int .i64 x5) := keep_cell hb2 (by simp [go_sem, *])
    have y2_0 : w1.heap.size < w2.heap.size := cell?_lt x2_0_0
    have g2 : Below w.heap.size w w2 := by (repeat (first | exact Below.refl _ _ | refine Below.drew ?_ | refine Below.allocS ?_ _ | refine Below.step ?_ (by assumption) | refine Below.setCell ?_ (by simp <;> omega) _ | refine Below.drewN' ?_ _))
    clear hb2
    go_wp2_with fail
    refine (H3.out _).mono ?_
    rintro e w' ⟨rfl, rfl⟩
    go_wp2_with fail
    refine (H4.out _).mono ?_
    rintro e w' ⟨rfl, rfl⟩
    go_wp2_with fail
    refine (Word_c _ _).mono ?_
    rintro e w' ⟨rfl, rfl⟩
    go_wp2_with fail
    refine (rWord_c _ _).mono ?_
    rintro e w' ⟨rfl, rfl⟩
    go_wp2_with (go_at_call 14; (with_reducible refine (awake_c _).mono ?_); rintro e w1 ⟨rfl, hb⟩; obtain ⟨hc, hf⟩ := bcell hb; have hz := hb.size; (try simp at hz); (try have hz0 : w.heap.size < w1.heap.size := by omega); (try have hz1 : w.heap.size + 1 < w1.heap.size := by omega); (try have hz2 : w.heap.size + 1 + 1 < w1.heap.size := by omega); (try have hz3 : w.heap.size + 1 + 1 + 1 < w1.heap.size := by omega); (try have hz4 : w.heap.size + 1 + 1 + 1 + 1 < w1.heap.size := by omega); (try have hz5 : w.heap.size + 1 + 1 + 1 + 1 + 1 < w1.heap.size := by omega))
    go_ret
    exact ⟨rfl, by (repeat (first | (with_reducible exact Below.refl _ _) | (with_reducible assumption) | (with_reducible refine Below.drew ?_) | (with_reducible refine Below.allocS ?_ _) | (with_reducible refine Below.setCell ?_ ?_ _) | (with_reducible refine Below.step ?_ (by assumption)) | (with_reducible refine Below.drewN' ?_ _))); (try any_goals (first | (with_reducible assumption) | (simp; done) | (simp; omega) | omega))⟩
end Go.Proofs.Ytcdohibphhbllaa
