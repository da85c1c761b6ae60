/-
  ValidTube of both.
-/
import Derived.Test.YtimbdnngeoccdaaDoorA6
import Derived.Test.YtimbdnngeoccdaaDoorTypes
namespace Go.Proofs.YtimbdnngeoccdaaDoor
open Go.RowKit
set_option linter.unusedVariables false
set_option linter.unusedSimpArgs false
def inE (x : Int) : List Value := [.int .i64 x]
/-- Whether a wire stands right, behind the one ahead of it. -/
def okW (k : Nat) (n m : Int) : Bool := within n (-100000) 100000 && (decide (k = 0) || decide (m < n))
def chkW (xs : List Int) : Nat → Nat → Bool
  | 0, _ => true
  | n + 1, k => okW k (xs.getD k 0) (xs.getD (k - 1) 0) && chkW xs n (k + 1)
theorem chkW_step {xs : List Int} {k : Nat} (h : k < xs.length) : chkW xs (xs.length - k) k = (okW k (xs.getD k 0) (xs.getD (k - 1) 0) && chkW xs (xs.length - (k + 1)) (k + 1)) := by
  rw [show xs.length - k = xs.length - (k + 1) + 1 by omega, chkW]
def okTube (xs : List Int) (e : Int) : Bool := chkW xs xs.length 0 && (within xs.length 1 7 && within e 0 10000)
set_option maxHeartbeats 2000000 in
theorem ValidTube_c (xs : List Int) (A : Option Addr) (cap : Nat) (e : Int) (hl : xs.length ≤ 9223372036854775807) (w : World) (hr : RdL w w.heap.size inE 1 A xs) : Calls Tryd.prog 70 #[.agg #[.slice A xs.length cap, .int .i64 e]] w fun r w' => r = .returned (.bool (okTube xs e)) ∧ Below w.heap.size w w' := by
  have H1 := Lib.hid (fun W => within_c xs.length 1 7 W)
  have H2 := Lib.hid (fun W => within_c e 0 10000 W)
  have HR := Lib.hid hr
  clear hr
  go_enter Tryd.func70, Tryd.ntmps70
  go_wp2
  obtain ⟨W0, hW0⟩ : ∃ W, W = w.alloc (.cells #[.slice A xs.length cap, .int .i64 e] 41) := ⟨_, rfl⟩
  have z0 : W0.cell? ⟨w.heap.size, 0, none⟩ = some (.slice A xs.length cap) := by rw [hW0]; simp [go_sem]
  have z1 : W0.cell? ⟨w.heap.size, 1, none⟩ = some (.int .i64 e) := by rw [hW0]; simp [go_sem]
  have g0 : Below w.heap.size w W0 := by rw [hW0]; (repeat (first | exact Below.refl _ _ | refine Below.drew ?_ | refine Below.allocS ?_ _ | refine Below.step ?_ (by assumption) | refine Below.setCell ?_ (by simp <;> omega) _ | refine Below.drewN' ?_ _))
  rw [← hW0]
  clear hW0
  go_loopw [8] (fun i wr => ∃ k : Nat, k ≤ xs.length ∧ i = .int .i64 k ∧ Below W0.heap.size W0 wr ∧ chkW xs xs.length 0 = chkW xs (xs.length - k) k) (fun i _ => xs.length - (intOf i).toNat)
  case atStart => exact ⟨0, Nat.zero_le _, rfl, Below.refl _ _, rfl⟩
  case round =>
    obtain ⟨k, hk, rfl, hbw, hx⟩ := hrel
    have HX := Lib.hid hx
    clear hx
    have d0 := keep_cell hbw z0
    have d1 := keep_cell hbw z1
    have gw := Below.step g0 hbw
    by_cases hlt : k < xs.length
    · have HST := Lib.hid (chkW_step hlt)
      have HP := Lib.hid HR.out
      obtain ⟨b, off, rfl, hb0, hc⟩ := HR.out (by omega)
      have c0 := (gw.cell (p := ⟨b, _, none⟩) hb0).trans (hc k hlt 0 _ rfl)
      simp at c0
      have cp : 0 < k → wr.cell? ⟨b, off + (k - 1), none⟩ = some (.int .i64 (xs.getD (k - 1) 0)) := fun h0 => by
        have h := (gw.cell (p := ⟨b, _, none⟩) hb0).trans (hc (k - 1) (by omega) 0 _ rfl)
        simp at h
        rw [h, List.getD_eq_getElem?_getD, List.getElem?_eq_getElem (by omega)]
        rfl
      clear hc
      have hg : xs[k] = xs.getD k 0 := by rw [List.getD_eq_getElem?_getD, List.getElem?_eq_getElem hlt]; rfl
      rw [hg] at c0
      generalize xs.getD k 0 = n at *
      generalize xs.getD (k - 1) 0 = m at *
      have hb1 : b < wr.heap.size := cell?_lt c0
      have hw1 : w.heap.size < wr.heap.size := cell?_lt d0
      have HI := Lib.hid (fun W => within_c n (-100000) 100000 W)
      cases hin : within n (-100000) 100000
      · rw [hin] at HI
        have HO := Lib.hid (show okTube xs e = false by unfold okTube; rw [HX.out, HST.out, okW, hin]; rfl)
        clear cp hin
        go_wp2_with (go_at_call 45; (with_reducible refine (HI.out _).mono ?_); rintro e w' ⟨rfl, rfl⟩)
        go_ret
        exact ⟨by rw [HO.out]; rfl, gw⟩
      · rw [hin] at HI
        by_cases h0 : k = 0
        · have HO := Lib.hid (show okW k n m = true by unfold okW; rw [hin, h0]; rfl)
          have hpos : ¬ 0 < k := by omega
          clear cp hin h0
          go_wp2_with (go_at_call 45; (with_reducible refine (HI.out _).mono ?_); rintro e w' ⟨rfl, rfl⟩)
          go_roundw
          case rel => exact ⟨k + 1, by omega, by go_num, hbw, by rw [HX.out, HST.out, HO.out]; rfl⟩
          case measure => simp [intOf]; omega
        · obtain ⟨k', rfl⟩ : ∃ k', k = k' + 1 := ⟨k - 1, by omega⟩
          have c1 := cp (by omega)
          simp only [Nat.add_sub_cancel] at c1
          have hwr : IntKind.i64.wrap (((k' + 1 : Nat) : Int) - 1) = (k' : Int) := by rw [show ((k' + 1 : Nat) : Int) - 1 = (k' : Int) by omega]; exact IntWalk.i64_in _ (by omega)
          have hpos : decide (((k' + 1 : Nat) : Int) > 0) = true := decide_eq_true (by omega)
          clear cp
          by_cases hmn : m < n
          · have HO := Lib.hid (show okW (k' + 1) n m = true by unfold okW; rw [hin, decide_eq_true hmn]; simp)
            have hd : decide (n ≤ m) = false := decide_eq_false (by omega)
            clear hin
            go_wp2_with (go_at_call 45; (with_reducible refine (HI.out _).mono ?_); rintro e w' ⟨rfl, rfl⟩)
            go_roundw
            case rel => exact ⟨k' + 1 + 1, by omega, by go_num, hbw, by rw [HX.out, HST.out, HO.out]; rfl⟩
            case measure => simp [intOf]; omega
          · have HO := Lib.hid (show okTube xs e = false by unfold okTube; rw [HX.out, HST.out, okW, hin, decide_eq_false hmn]; simp)
            have hd : decide (n ≤ m) = true := decide_eq_true (by omega)
            clear hin
            go_wp2_with (go_at_call 45; (with_reducible refine (HI.out _).mono ?_); rintro e w' ⟨rfl, rfl⟩)
            go_ret
            exact ⟨by rw [HO.out]; rfl, gw⟩
    · obtain rfl : k = xs.length := by omega
      have HN := Lib.hid (show okTube xs e = (within xs.length 1 7 && within e 0 10000) by unfold okTube; rw [HX.out, Nat.sub_self]; rfl)
      cases h1 : within xs.length 1 7
      · rw [h1] at H1 HN
        clear h1
        go_wp2_with (go_at_call 45; (with_reducible refine (H1.out _).mono ?_); rintro e w' ⟨rfl, rfl⟩)
        go_ret
        exact ⟨by rw [HN.out]; rfl, gw⟩
      · rw [h1] at H1 HN
        clear h1
        go_wp2_with (first | (go_at_call 45; (with_reducible refine (H1.out _).mono ?_); rintro e w' ⟨rfl, rfl⟩) | (go_at_call 45; (with_reducible refine (H2.out _).mono ?_); rintro e w' ⟨rfl, rfl⟩))
        go_ret
        exact ⟨by rw [HN.out]; rfl, gw⟩
end Go.Proofs.YtimbdnngeoccdaaDoor
