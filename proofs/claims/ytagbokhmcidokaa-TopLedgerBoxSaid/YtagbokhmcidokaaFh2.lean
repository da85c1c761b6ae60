/-
  The hoist of 1111.
-/
import Derived.Test.YtagbokhmcidokaaFh1
namespace Go.Proofs.Ytagbokhmcidokaa
open Go.RowKit Go.Deep
set_option linter.unusedVariables false
set_option linter.unusedSimpArgs false
def ones : List Int := [1, 1, 1, 1]
def hst : List Int := [1, 10, 11, 12]
theorem call_listed (caps : Array Value) (W : World) : (callFunc 149 caps).run Try.prog W = .ok (.enter 149 caps) W := by kernel_rfl
theorem listed1_c (x : Int) (b : Nat) (w : World) (h : w.cell? ⟨b, 0, none⟩ = some (.int .i64 9)) : Calls Try.prog 149 #[.int .i64 x, .pointer (some ⟨b, 0, none⟩)] w fun e w' => e = .returned (.bool (!wiB x 0 9)) ∧ Below w.heap.size w w' := by
  have H := Lib.hid (fun W => fwithin_c x 0 9 W)
  generalize wiB x 0 9 = B at *
  go_enter Try.func149, Try.ntmps149
  go_wp2_with fail
  refine (H.out _).mono ?_
  rintro e w1 ⟨rfl, rfl⟩
  go_wp2
  go_ret
  exact ⟨rfl, Below.refl _ _⟩
set_option maxHeartbeats 1000000 in
theorem ValidDigits_c (A : Option Addr) (cap : Nat) (w : World) (hr : RdL w w.heap.size inE 1 A ones) : Calls Try.prog 86 #[.slice A 4 cap] w fun e w' => e = .returned (.bool true) ∧ Below w.heap.size w w' := by
  have HL : Hid (∀ W, Below w.heap.size w W → Calls Try.prog 126 #[.slice A 4 cap, .int .i64 9] W fun e w' => e = .returned (.bool true) ∧ Below W.heap.size W w') := Lib.hid (by
    intro W hb
    have H := Lib.hid (fun W => fwithin_c 4 1 4 W)
    rw [show wiB 4 1 4 = true by decide] at H
    have HC := Lib.hid (fun V (hb2 : Below W.heap.size W V) (hcell : V.cell? ⟨W.heap.size, 0, none⟩ = some (.int .i64 9)) => ContainsFuncIn ones A cap (by decide) 149 #[.pointer (some ⟨W.heap.size, 0, none⟩)] (fun x => !wiB x 0 9) V ((hr.step hb).step hb2) call_listed (fun x _ U hU => listed1_c x _ U (keep_cell hU hcell)))
    rw [show (ones.any fun x => !wiB x 0 9) = false by decide] at HC
    clear hr
    go_enter Try.func126, Try.ntmps126
    go_wp2_with fail
    refine (H.out _).mono ?_
    rintro e w1 ⟨rfl, rfl⟩
    go_wp2_with fail
    refine (HC.out _ (by (repeat (first | (with_reducible exact Below.refl _ _) | (with_reducible assumption) | (with_reducible refine Below.drew ?_) | (with_reducible refine Below.allocS ?_ _) | (with_reducible refine Below.setCell ?_ ?_ _) | (with_reducible refine Below.step ?_ (by assumption)) | (with_reducible refine Below.drewN' ?_ _))); (try any_goals (first | (with_reducible assumption) | (simp; done) | (simp; omega) | omega))) (by simp [go_sem])).mono ?_
    rintro e w1 ⟨rfl, hb1⟩
    go_wp2
    go_ret
    exact ⟨rfl, by (repeat (first | (with_reducible exact Below.refl _ _) | (with_reducible assumption) | (with_reducible refine Below.drew ?_) | (with_reducible refine Below.allocS ?_ _) | (with_reducible refine Below.setCell ?_ ?_ _) | (with_reducible refine Below.step ?_ (by assumption)) | (with_reducible refine Below.drewN' ?_ _))); (try any_goals (first | (with_reducible assumption) | (simp; done) | (simp; omega) | omega))⟩)
  clear hr
  go_enter Try.func86, Try.ntmps86
  go_wp2_with fail
  refine (HL.out _ (Below.refl _ _)).mono ?_
  rintro e w1 ⟨rfl, hb1⟩
  go_wp2
  go_ret
  exact ⟨rfl, hb1⟩
theorem any_hst : ∀ k, k < 5 → ∀ j, j < k → (hst.take k).any (fun y => (10 + (j : Int)) == y) = decide (j + 1 < k) := by decide
theorem any_one : ∀ k, k < 5 → (hst.take k).any (fun y => (1 : Int) == y) = decide (1 ≤ k) := by decide
theorem hst_next : ∀ k, k < 4 → hst.take (k + 1) = hst.take k ++ [if k = 0 then 1 else 9 + (k : Int)] := by decide
theorem hst_len : ∀ k, k < 5 → (hst.take k).length = k := by decide
theorem ones_at {A : Option Addr} {w : World} {B : Nat} (hr : RdL w B inE 1 A ones) : ∃ b off, A = some ⟨b, off, none⟩ ∧ b < B ∧ ∀ i : Nat, i < 4 → w.cell? ⟨b, off + i, none⟩ = some (.int .i64 1) := by
  obtain ⟨b, off, rfl, hb, hc⟩ := rd_cells hr (by decide)
  exact ⟨b, off, rfl, hb, fun i hi => by rw [hc i hi]; rcases i with _ | _ | _ | _ | i <;> first | rfl | omega⟩
set_option maxHeartbeats 4000000 in
set_option maxRecDepth 100000 in
theorem Hoist_c (A : Option Addr) (cap : Nat) (w : World) (hr : RdL w w.heap.size inE 1 A ones) :
    Calls Try.prog 37 #[.slice A 4 cap] w fun e w' => ∃ A' c, e = .returned (.tuple #[.slice A' 4 c, .int .i64 0]) ∧ (RdL w' w'.heap.size inE 1 A' hst ∧ 4 ≤ c) ∧ Below w.heap.size w w' := by
  have HV := Lib.hid (ValidDigits_c A cap w hr)
  obtain ⟨b, off, rfl, hb, hc⟩ := ones_at hr
  have HC := Lib.hid hc
  clear hr hc
  go_enter Try.func37, Try.ntmps37
  go_wp2_with fail
  refine (HV.out).mono ?_
  rintro e w1 ⟨rfl, hb1⟩
  go_wp2
  go_loopw [4, 13] (fun h i wr => ∃ k : Nat, k ≤ 4 ∧ i = .int .i64 k ∧ wr.ownsRow w.heap.size 3 1 h k ((hst.take k).flatMap inE) ∧ Below w.heap.size w wr) (fun h i _ => 4 - (intOf i).toNat)
  case atStart => exact ⟨0, by omega, rfl, World.ownsRow_nil _ _ _ _, hb1⟩
  case round =>
    obtain ⟨k, hk, rfl, hown, hbw⟩ := hrel
    clear HV hb1
    obtain ⟨Ah, ch, rfl, hch, -⟩ := row_form hown
    have HOw := Lib.hid hown
    by_cases hlt : k < 4
    · have hrd : RdL wr wr.heap.size inE 1 Ah (hst.take k) := RdL.of_own (fun _ => rfl) hown (hst_len k (by omega))
      have HK1 := Lib.hid (ContainsI_c (hst.take k) Ah ch (by rw [hst_len k (by omega)]; omega) 1 wr hrd)
      rw [hst_len k (by omega), any_one k (by omega)] at HK1
      have c0 : wr.cell? ⟨b, off + k, none⟩ = some (.int .i64 1) := (hbw.cell (p := ⟨b, off + k, none⟩) hb).trans (HC.out k hlt)
      have u1 : (0 : Int) ≤ (k : Int) := by omega
      have u2 : (k : Int) < 4 := by omega
      have HN := Lib.hid (hst_next k hlt)
      have HA := Lib.hid (fun (x : Int) => app_run appIn (hst.take k) x k (hst_len k (by omega)) (by omega) (wr.alloc (.cells #[.int .i64 x] 3)) w.heap.size wr.heap.size _ (hown.alloc _) (by have := hbw.size; simp; omega) (one_cell rfl (by simp [go_sem])))
      have HG := Lib.hid (fun (j : Nat) (hj : j < k) => ContainsI_c (hst.take k) Ah ch (by rw [hst_len k (by omega)]; omega) (10 + (j : Int)) wr hrd)
      rw [hst_len k (by omega)] at HG
      clear hown hrd
      by_cases hk0 : k = 0
      · subst hk0
        rw [Nat.add_zero] at c0
        go_wp2_with fail
        refine (HK1.out).mono ?_
        rintro e w' ⟨rfl, rfl⟩
        go_wp2_with (at_builtin; refine wpList_app rfl (.tmp 42) (.tmp 44) 24 rfl _ _ rfl rfl (HA.out 1) ?_; rintro v9 w9 ⟨hrow9, hb9⟩; obtain ⟨A9, c9, rfl, -, -⟩ := row_form hrow9; have HR9 := Lib.hid hrow9; clear hrow9)
        go_roundw
        case rel => exact ⟨1, by omega, by go_num, by rw [HN.out]; exact HR9.out, (Below.allocS hbw _).trans hb9⟩
        case measure => simp [intOf]
      · rw [show decide (1 ≤ k) = true from decide_eq_true (by omega)] at HK1
        have HAn := Lib.hid (any_hst k (by omega))
        rw [if_neg hk0] at HN
        go_wp2_with fail
        refine (HK1.out).mono ?_
        rintro e w' ⟨rfl, rfl⟩
        go_wp2
        go_loop [7] (fun f => ∃ j : Nat, j < k ∧ f = .int .i64 (10 + (j : Int))) (fun f => 20 - (intOf f).toNat)
        case atStart => exact ⟨0, by omega, rfl⟩
        case round =>
          obtain ⟨j, hj, rfl⟩ := hrel
          have cj : w'.cell? ⟨b, off + j, none⟩ = some (.int .i64 1) := (hbw.cell (p := ⟨b, off + j, none⟩) hb).trans (HC.out j (by omega))
          have HG1 := Lib.hid (HG.out j hj)
          rw [HAn.out j hj] at HG1
          have HP := Lib.hid (fun W => place_c (10 + (j : Int)) W ⟨by omega, by omega⟩)
          rw [show 10 + (j : Int) - 10 = (j : Int) by omega] at HP
          have v1 : (0 : Int) ≤ (j : Int) := by omega
          have v2 : (j : Int) < (k : Int) := by omega
          by_cases hjk : j + 1 < k
          · rw [decide_eq_true hjk] at HG1
            go_wp2_with fail
            refine (HG1.out).mono ?_
            rintro e w2 ⟨rfl, rfl⟩
            go_wp2
            go_round
            case rel => exact ⟨j + 1, hjk, by go_num⟩
            case measure => simp [intOf]; omega
          · rw [decide_eq_false hjk] at HG1
            have HJ : Hid (10 + (j : Int) = 9 + (k : Int)) := Lib.hid (by omega)
            go_wp2_with fail
            refine (HG1.out).mono ?_
            rintro e w2 ⟨rfl, rfl⟩
            go_wp2_with fail
            refine (HP.out _).mono ?_
            rintro e w3 ⟨rfl, rfl⟩
            go_wp2_with fail
            refine (HP.out _).mono ?_
            rintro e w4 ⟨rfl, rfl⟩
            go_wp2_with (at_builtin; refine wpList_app rfl (.tmp 42) (.tmp 44) 24 rfl _ _ rfl rfl (HA.out (10 + (j : Int))) ?_; rintro v9 w9 ⟨hrow9, hb9⟩; obtain ⟨A9, c9, rfl, -, -⟩ := row_form hrow9; have HR9 := Lib.hid hrow9; clear hrow9)
            go_roundw
            case rel => exact ⟨k + 1, by omega, by go_num, by rw [HN.out, ← HJ.out]; exact HR9.out, (Below.allocS hbw _).trans hb9⟩
            case measure => simp [intOf]; omega
    · obtain rfl : k = 4 := by omega
      go_wp2
      refine bodyPost_ret (v := .tuple #[.slice Ah 4 ch, .int .i64 0]) (by simp [results, Try.results37, go_sem, *] <;> (repeat' apply And.intro) <;> rfl) rfl ⟨Ah, ch, rfl, ⟨RdL.of_own (fun _ => rfl) HOw.out rfl, hch⟩, hbw⟩
end Go.Proofs.Ytagbokhmcidokaa
