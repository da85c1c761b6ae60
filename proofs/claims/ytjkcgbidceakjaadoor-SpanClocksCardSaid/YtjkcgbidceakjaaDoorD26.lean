/-
  Contract of ParseClock of span.
-/
import Derived.Test.YtjkcgbidceakjaaDoorD25
namespace Go.Proofs.YtjkcgbidceakjaaDoor
open Go.RowKit
set_option linter.unusedVariables false
set_option linter.unusedSimpArgs false
/-- What has been added up behind some fields, of a text that is a clock's. -/
def partOf (m : Nat) : Nat → Nat
  | 0 => 0
  | 1 => m / 3600000 * 3600000
  | 2 => m / 3600000 * 3600000 + m / 60000 % 60 * 60000
  | 3 => m / 3600000 * 3600000 + m / 60000 % 60 * 60000 + m / 1000 % 60 * 1000
  | _ => m
def AccOk (s : ByteArray) (j : Nat) (acc : Int) : Prop := ∀ m, IsClock s m → acc = (partOf m j : Nat)
theorem idx4 (k : Int) (hk : k = 0 ∨ k = 1 ∨ k = 2 ∨ k = 3) (W : World) : (Instr.index 75 (.agg #[.int .i64 0, .int .i64 2, .int .i64 3600000, .int .i64 3, .int .i64 5, .int .i64 60000, .int .i64 6, .int .i64 8, .int .i64 1000, .int .i64 9, .int .i64 12, .int .i64 1]) (.int .i64 k)).run Tryd.prog W = .ok (if k = 0 then .agg #[.int .i64 0, .int .i64 2, .int .i64 3600000] else if k = 1 then .agg #[.int .i64 3, .int .i64 5, .int .i64 60000] else if k = 2 then .agg #[.int .i64 6, .int .i64 8, .int .i64 1000] else .agg #[.int .i64 9, .int .i64 12, .int .i64 1]) W := by
  rcases hk with rfl | rfl | rfl | rfl <;> (refine Eq.trans ?_ rfl; kernel_rfl)
theorem acc0 (m : Nat) (hm : m < 86400000) : wrap64 (((partOf m 0 : Nat) : Int) + wrap64 (((m / 3600000 : Nat) : Int) * 3600000)) = ((partOf m 1 : Nat) : Int) := by
  have h0 : 0 ≤ ((m / 3600000 : Nat) : Int) * 3600000 := by omega
  have h1 : ((m / 3600000 : Nat) : Int) * 3600000 ≤ 90000000 := by omega
  rw [IntWalk.wrap64_in (((m / 3600000 : Nat) : Int) * 3600000) ⟨by omega, by omega⟩]
  simp only [partOf]
  rw [IntWalk.wrap64_in _ ⟨by omega, by omega⟩]
  omega
theorem acc1 (m : Nat) (hm : m < 86400000) : wrap64 (((partOf m 1 : Nat) : Int) + wrap64 (((m / 60000 % 60 : Nat) : Int) * 60000)) = ((partOf m 2 : Nat) : Int) := by
  have h0 : 0 ≤ ((m / 60000 % 60 : Nat) : Int) * 60000 := by omega
  have h1 : ((m / 60000 % 60 : Nat) : Int) * 60000 ≤ 90000000 := by omega
  rw [IntWalk.wrap64_in (((m / 60000 % 60 : Nat) : Int) * 60000) ⟨by omega, by omega⟩]
  simp only [partOf]
  rw [IntWalk.wrap64_in _ ⟨by omega, by omega⟩]
  omega
theorem acc2 (m : Nat) (hm : m < 86400000) : wrap64 (((partOf m 2 : Nat) : Int) + wrap64 (((m / 1000 % 60 : Nat) : Int) * 1000)) = ((partOf m 3 : Nat) : Int) := by
  have h0 : 0 ≤ ((m / 1000 % 60 : Nat) : Int) * 1000 := by omega
  have h1 : ((m / 1000 % 60 : Nat) : Int) * 1000 ≤ 90000000 := by omega
  rw [IntWalk.wrap64_in (((m / 1000 % 60 : Nat) : Int) * 1000) ⟨by omega, by omega⟩]
  simp only [partOf]
  rw [IntWalk.wrap64_in _ ⟨by omega, by omega⟩]
  omega
theorem acc3 (m : Nat) (hm : m < 86400000) : wrap64 (((partOf m 3 : Nat) : Int) + wrap64 (((m % 1000 : Nat) : Int))) = ((partOf m 4 : Nat) : Int) := by
  have h0 : 0 ≤ ((m % 1000 : Nat) : Int) := by omega
  have h1 : ((m % 1000 : Nat) : Int) ≤ 90000000 := by omega
  rw [IntWalk.wrap64_in (((m % 1000 : Nat) : Int)) ⟨by omega, by omega⟩]
  simp only [partOf]
  rw [IntWalk.wrap64_in _ ⟨by omega, by omega⟩]
  omega
theorem ext_size (s : ByteArray) (a b : Nat) : (s.extract a b).size ≤ b - a := by
  rw [size_data, extract_data, List.length_take]; omega
theorem list_ne {a b : ByteArray} (h : a ≠ b) : (a.toList == b.toList) = false := by
  rw [beq_eq_false_iff_ne]
  intro h2
  exact h (str_ext (by rwa [Go.ByteArray.toList_eq, Go.ByteArray.toList_eq] at h2))
set_option maxHeartbeats 2000000 in
theorem ParseClock_c (s : ByteArray) (hs : s.size ≤ 100) (w : World) (hE : ErrHeld w) (hI : ∀ n, n < 1000 → ∀ W, Below w.heap.size w W → ItoaAt n W) :
    Calls Tryd.prog 56 #[.string s] w fun e w' => e = .returned (.tuple #[.int .i64 (pcR s).1, .int .i64 (pcR s).2]) ∧ Below w.heap.size w w' := by
  by_cases h12 : s.size = 12
  · have HA := Lib.hid (fun p hp W hb => atoi_c p hp W (hE.step hb))
    have HC := Lib.hid (fun v W (hb : Below w.heap.size w W) => Clock_c v W (fun n hn W' hb' => hI n hn W' (Below.step hb hb')))
    clear hE hI
    have hx := idx4
    have g12 : (s.size : Int) = 12 := by omega
    have HS := Lib.hid h12
    have hge : 12 ≤ s.size := by omega
    clear h12
    go_enter Tryd.func56, Tryd.ntmps56
    go_wp2
    go_loopw [4, 17] (fun a i wr => ∃ (j : Nat) (k acc : Int), ((j = 0 ∧ k = 0) ∨ (j = 1 ∧ k = 1) ∨ (j = 2 ∧ k = 2) ∨ (j = 3 ∧ k = 3) ∨ (j = 4 ∧ k = 4)) ∧ i = .int .i64 k ∧ a = .int .i64 acc ∧ AccOk s j acc ∧ Below w.heap.size w wr) (fun a i _ => 4 - (intOf i).toNat)
    case atStart => exact ⟨0, 0, 0, by omega, rfl, rfl, fun m hm => rfl, Below.refl _ _⟩
    case round =>
      obtain ⟨j, k, acc, hjk, rfl, rfl, hacc, hbw⟩ := hrel
      have HX := Lib.hid hacc
      clear hacc
      rcases hjk with ⟨rfl, rfl⟩ | ⟨rfl, rfl⟩ | ⟨rfl, rfl⟩ | ⟨rfl, rfl⟩ | ⟨rfl, rfl⟩
      · have h0 : ∀ W, (Instr.index 75 (.agg #[.int .i64 0, .int .i64 2, .int .i64 3600000, .int .i64 3, .int .i64 5, .int .i64 60000, .int .i64 6, .int .i64 8, .int .i64 1000, .int .i64 9, .int .i64 12, .int .i64 1]) (.int .i64 0)).run Tryd.prog W = .ok (.agg #[.int .i64 0, .int .i64 2, .int .i64 3600000]) W := fun W => idx4 0 (by omega) W
        clear hx
        have HP := Lib.hid (fun m (h : IsClock s m) => piece_h h.1 h.2)
        go_wp2_with fail
        refine (HA.out _ (Nat.le_trans (ext_size s 0 2) (by omega)) _ (by (repeat (first | (with_reducible exact Below.refl _ _) | (with_reducible assumption) | (with_reducible refine Below.drew ?_) | (with_reducible refine Below.allocS ?_ _) | (with_reducible refine Below.setCell ?_ ?_ _) | (with_reducible refine Below.step ?_ (by assumption)) | (with_reducible refine Below.drewN' ?_ _))); (try any_goals (first | (with_reducible assumption) | (simp; done) | (simp; omega) | omega)))).mono ?_
        rintro e w1 ⟨E, rfl, hb1⟩
        generalize atoiV (s.extract 0 2) = v at *
        have x0 := keep_cell hb1 (a := ⟨wr.heap.size, 2, none⟩) (v := .int .i64 3600000) (by simp [go_sem])
        have y0 := cell?_lt x0
        have g1 : Below w.heap.size w w1 := by (repeat (first | (with_reducible exact Below.refl _ _) | (with_reducible assumption) | (with_reducible refine Below.drew ?_) | (with_reducible refine Below.allocS ?_ _) | (with_reducible refine Below.setCell ?_ ?_ _) | (with_reducible refine Below.step ?_ (by assumption)) | (with_reducible refine Below.drewN' ?_ _))); (try any_goals (first | (with_reducible assumption) | (simp; done) | (simp; omega) | omega))
        clear hb1
        go_wp2
        go_roundw
        case rel =>
          exact ⟨1, 1, _, by omega, rfl, rfl, (fun m hm => by
            have h1 := HX.out m hm
            have h2 := HP.out m hm
            have h3 := hm.1
            subst h1 h2
            exact acc0 m h3), g1⟩
        case measure => simp [intOf]
      · have h0 : ∀ W, (Instr.index 75 (.agg #[.int .i64 0, .int .i64 2, .int .i64 3600000, .int .i64 3, .int .i64 5, .int .i64 60000, .int .i64 6, .int .i64 8, .int .i64 1000, .int .i64 9, .int .i64 12, .int .i64 1]) (.int .i64 1)).run Tryd.prog W = .ok (.agg #[.int .i64 3, .int .i64 5, .int .i64 60000]) W := fun W => idx4 1 (by omega) W
        clear hx
        have HP := Lib.hid (fun m (h : IsClock s m) => piece_m h.1 h.2)
        go_wp2_with fail
        refine (HA.out _ (Nat.le_trans (ext_size s 3 5) (by omega)) _ (by (repeat (first | (with_reducible exact Below.refl _ _) | (with_reducible assumption) | (with_reducible refine Below.drew ?_) | (with_reducible refine Below.allocS ?_ _) | (with_reducible refine Below.setCell ?_ ?_ _) | (with_reducible refine Below.step ?_ (by assumption)) | (with_reducible refine Below.drewN' ?_ _))); (try any_goals (first | (with_reducible assumption) | (simp; done) | (simp; omega) | omega)))).mono ?_
        rintro e w1 ⟨E, rfl, hb1⟩
        generalize atoiV (s.extract 3 5) = v at *
        have x0 := keep_cell hb1 (a := ⟨wr.heap.size, 2, none⟩) (v := .int .i64 60000) (by simp [go_sem])
        have y0 := cell?_lt x0
        have g1 : Below w.heap.size w w1 := by (repeat (first | (with_reducible exact Below.refl _ _) | (with_reducible assumption) | (with_reducible refine Below.drew ?_) | (with_reducible refine Below.allocS ?_ _) | (with_reducible refine Below.setCell ?_ ?_ _) | (with_reducible refine Below.step ?_ (by assumption)) | (with_reducible refine Below.drewN' ?_ _))); (try any_goals (first | (with_reducible assumption) | (simp; done) | (simp; omega) | omega))
        clear hb1
        go_wp2
        go_roundw
        case rel =>
          exact ⟨2, 2, _, by omega, rfl, rfl, (fun m hm => by
            have h1 := HX.out m hm
            have h2 := HP.out m hm
            have h3 := hm.1
            subst h1 h2
            exact acc1 m h3), g1⟩
        case measure => simp [intOf]
      · have h0 : ∀ W, (Instr.index 75 (.agg #[.int .i64 0, .int .i64 2, .int .i64 3600000, .int .i64 3, .int .i64 5, .int .i64 60000, .int .i64 6, .int .i64 8, .int .i64 1000, .int .i64 9, .int .i64 12, .int .i64 1]) (.int .i64 2)).run Tryd.prog W = .ok (.agg #[.int .i64 6, .int .i64 8, .int .i64 1000]) W := fun W => idx4 2 (by omega) W
        clear hx
        have HP := Lib.hid (fun m (h : IsClock s m) => piece_s h.1 h.2)
        go_wp2_with fail
        refine (HA.out _ (Nat.le_trans (ext_size s 6 8) (by omega)) _ (by (repeat (first | (with_reducible exact Below.refl _ _) | (with_reducible assumption) | (with_reducible refine Below.drew ?_) | (with_reducible refine Below.allocS ?_ _) | (with_reducible refine Below.setCell ?_ ?_ _) | (with_reducible refine Below.step ?_ (by assumption)) | (with_reducible refine Below.drewN' ?_ _))); (try any_goals (first | (with_reducible assumption) | (simp; done) | (simp; omega) | omega)))).mono ?_
        rintro e w1 ⟨E, rfl, hb1⟩
        generalize atoiV (s.extract 6 8) = v at *
        have x0 := keep_cell hb1 (a := ⟨wr.heap.size, 2, none⟩) (v := .int .i64 1000) (by simp [go_sem])
        have y0 := cell?_lt x0
        have g1 : Below w.heap.size w w1 := by (repeat (first | (with_reducible exact Below.refl _ _) | (with_reducible assumption) | (with_reducible refine Below.drew ?_) | (with_reducible refine Below.allocS ?_ _) | (with_reducible refine Below.setCell ?_ ?_ _) | (with_reducible refine Below.step ?_ (by assumption)) | (with_reducible refine Below.drewN' ?_ _))); (try any_goals (first | (with_reducible assumption) | (simp; done) | (simp; omega) | omega))
        clear hb1
        go_wp2
        go_roundw
        case rel =>
          exact ⟨3, 3, _, by omega, rfl, rfl, (fun m hm => by
            have h1 := HX.out m hm
            have h2 := HP.out m hm
            have h3 := hm.1
            subst h1 h2
            exact acc2 m h3), g1⟩
        case measure => simp [intOf]
      · have h0 : ∀ W, (Instr.index 75 (.agg #[.int .i64 0, .int .i64 2, .int .i64 3600000, .int .i64 3, .int .i64 5, .int .i64 60000, .int .i64 6, .int .i64 8, .int .i64 1000, .int .i64 9, .int .i64 12, .int .i64 1]) (.int .i64 3)).run Tryd.prog W = .ok (.agg #[.int .i64 9, .int .i64 12, .int .i64 1]) W := fun W => idx4 3 (by omega) W
        clear hx
        have HP := Lib.hid (fun m (h : IsClock s m) => piece_f h.1 h.2)
        go_wp2_with fail
        refine (HA.out _ (Nat.le_trans (ext_size s 9 12) (by omega)) _ (by (repeat (first | (with_reducible exact Below.refl _ _) | (with_reducible assumption) | (with_reducible refine Below.drew ?_) | (with_reducible refine Below.allocS ?_ _) | (with_reducible refine Below.setCell ?_ ?_ _) | (with_reducible refine Below.step ?_ (by assumption)) | (with_reducible refine Below.drewN' ?_ _))); (try any_goals (first | (with_reducible assumption) | (simp; done) | (simp; omega) | omega)))).mono ?_
        rintro e w1 ⟨E, rfl, hb1⟩
        generalize atoiV (s.extract 9 12) = v at *
        have x0 := keep_cell hb1 (a := ⟨wr.heap.size, 2, none⟩) (v := .int .i64 1) (by simp [go_sem])
        have y0 := cell?_lt x0
        have g1 : Below w.heap.size w w1 := by (repeat (first | (with_reducible exact Below.refl _ _) | (with_reducible assumption) | (with_reducible refine Below.drew ?_) | (with_reducible refine Below.allocS ?_ _) | (with_reducible refine Below.setCell ?_ ?_ _) | (with_reducible refine Below.step ?_ (by assumption)) | (with_reducible refine Below.drewN' ?_ _))); (try any_goals (first | (with_reducible assumption) | (simp; done) | (simp; omega) | omega))
        clear hb1
        go_wp2
        go_roundw
        case rel =>
          exact ⟨4, 4, _, by omega, rfl, rfl, (fun m hm => by
            have h1 := HX.out m hm
            have h2 := HP.out m hm
            have h3 := hm.1
            subst h1 h2
            exact acc3 m h3), g1⟩
        case measure => simp [intOf]
      · clear hx
        go_wp2_with fail
        refine (HC.out _ _ hbw).mono ?_
        rintro e w1 ⟨rfl, hb1⟩
        have g1 : Below w.heap.size w w1 := by (repeat (first | (with_reducible exact Below.refl _ _) | (with_reducible assumption) | (with_reducible refine Below.drew ?_) | (with_reducible refine Below.allocS ?_ _) | (with_reducible refine Below.setCell ?_ ?_ _) | (with_reducible refine Below.step ?_ (by assumption)) | (with_reducible refine Below.drewN' ?_ _))); (try any_goals (first | (with_reducible assumption) | (simp; done) | (simp; omega) | omega))
        clear hb1
        by_cases hv : clockT acc = s
        · obtain ⟨m, hm, hm2⟩ := clockT_eq HS.out hv
          have HR := Lib.hid (pcR_yes hm)
          rw [hv]
          clear hv hm
          subst hm2
          go_wp2
          refine bodyPost_ret (v := .tuple #[.int .i64 (m : Int), .int .i64 0]) (by simp [results, Tryd.results56, go_sem, *] <;> (repeat' apply And.intro) <;> rfl) rfl ⟨?_, ?_⟩
          · rw [HR.out]
          · assumption
        · have hne := list_ne hv
          have HR := Lib.hid (pcR_no (s := s) (by
            rintro ⟨m, hm⟩
            have h1 := HX.out m hm
            apply hv
            have h2 := hm.1
            rw [h1]
            show clockT ((m : Nat) : Int) = s
            unfold clockT
            rw [if_pos (by omega), hm.2]
            rfl))
          clear hv
          go_wp2
          refine bodyPost_ret (v := .tuple #[.int .i64 0, .int .i64 2]) (by simp [results, Tryd.results56, go_sem, *] <;> (repeat' apply And.intro) <;> rfl) rfl ⟨?_, ?_⟩
          · rw [HR.out]
          · assumption
  · rw [pcR_len h12]
    have g12 : ((s.size : Int) != 12) = true := by simp; omega
    clear hE hI h12
    go_enter Tryd.func56, Tryd.ntmps56
    go_wp2
    refine bodyPost_ret (v := .tuple #[.int .i64 0, .int .i64 2]) (by simp [results, Tryd.results56, go_sem, *] <;> (repeat' apply And.intro) <;> rfl) rfl ⟨rfl, ?_⟩
    (repeat (first | (with_reducible exact Below.refl _ _) | (with_reducible assumption) | (with_reducible refine Below.drew ?_) | (with_reducible refine Below.allocS ?_ _) | (with_reducible refine Below.setCell ?_ ?_ _) | (with_reducible refine Below.step ?_ (by assumption)) | (with_reducible refine Below.drewN' ?_ _))); (try any_goals (first | (with_reducible assumption) | (simp; done) | (simp; omega) | omega))
end Go.Proofs.YtjkcgbidceakjaaDoor
