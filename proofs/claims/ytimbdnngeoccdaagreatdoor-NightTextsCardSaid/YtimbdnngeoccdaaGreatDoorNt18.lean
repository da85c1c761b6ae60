/-
  Best of night, the comparison of lists of numbers, awake. No conditions.
-/
import Derived.Test.YtimbdnngeoccdaaGreatDoorNt17
import Derived.Test.YtimbdnngeoccdaaGreatDoorNt7
namespace Go.Proofs.YtimbdnngeoccdaaGreatDoor
open Go.RowKit Go.Deep
set_option linter.unusedVariables false
set_option linter.unusedSimpArgs false
theorem PlanOk.of_as {l : List Ch} {L : List Cl} {per : Int} (h : asE l L per = 0) : PlanOk l per := by
  unfold asE at h
  by_cases h1 : (okV l && okCl L) = true
  · rw [if_pos h1] at h
    by_cases h2 : within per 0 10000 = true
    · simp only [Bool.and_eq_true] at h1
      have hv := h1.1
      unfold okV at hv
      simp only [Bool.and_eq_true, decide_eq_true_eq, List.all_eq_true, List.mem_range] at hv
      have hc : ∀ x ∈ l, okC x.nm x.a x.b x.t x.v = true := fun x hx => by
        obtain ⟨k, hk, e⟩ := List.mem_iff_getElem.1 hx
        have := (okAt_iff.1 (hv.1 k hk)).1
        rw [List.getD_eq_getElem?_getD, List.getElem?_eq_getElem hk, Option.getD_some, e] at this
        exact this
      have hc2 : ∀ x ∈ l, 0 ≤ x.a ∧ x.a < x.b ∧ x.b ≤ 86400000 ∧ (-90000 ≤ x.t ∧ x.t ≤ 90000) ∧ 0 ≤ x.v ∧ x.v ≤ 1000000 := fun x hx => by
        have := hc x hx
        unfold okC at this
        simp only [Bool.and_eq_true, decide_eq_true_eq] at this
        exact ⟨this.2.1, this.2.2.1, this.2.2.2.1, within_true this.2.2.2.2.1, within_true this.2.2.2.2.2⟩
      exact ⟨fun x hx => (hc2 x hx).2.2.2.2, fun x hx => (hc2 x hx).2.2.2.1, fun x hx => by have := hc2 x hx; omega, hv.2, within_true h2⟩
    · rw [if_neg h2] at h; cases h
  · rw [if_neg h1] at h; cases h
theorem SlAt.nil (w : World) (n : Nat) : SlAt w n sl0 := ⟨fun h => absurd h (by simp [sl0]), fun j hj => by simp [sl0] at hj, by simp [sl0], by simp [sl0]⟩
noncomputable def bstE (l : List Ch) (L : List Cl) (per : Int) : List Nat := if asE l L per = 0 then bestL l L per else []
set_option maxHeartbeats 1000000 in
theorem Best_c (l : List Ch) (A : Option Addr) (cap : Nat) (L : List Cl) (B : Option Addr) (cb : Nat) (per : Int) (w : World) (h : InAt w l A cap L B cb) :
    Calls Tryz.prog 34 #[.slice A l.length cap, .slice B L.length cb, .int .i64 per] w fun e w' => (∃ x : SlL, e = .returned (.tuple #[.slice x.A x.xs.length x.c, .int .i64 (asE l L per)]) ∧ SlAt w' l.length x ∧ x.xs = bstE l L per) ∧ Below w.heap.size w w' := by
  have H1 := Lib.hid (fun W (hb : Below w.heap.size w W) => asked_c l A cap L B cb per W (h.step hb))
  have H2 := Lib.hid (fun W (hb : Below w.heap.size w W) (h0 : asE l L per = 0) => best_c l A cap L B cb per W (h.step hb) (PlanOk.of_as h0))
  have HB : Hid (bstE l L per = if asE l L per = 0 then bestL l L per else []) := Lib.hid (by unfold bstE; rfl)
  clear h
  generalize asE l L per = v at *
  generalize bstE l L per = R at *
  generalize bestL l L per = R2 at *
  generalize hn : l.length = n at *
  generalize L.length = m at *
  clear hn
  by_cases hv : v = 0
  · subst hv
    have HB2 := Lib.hid (show R = R2 by rw [HB.out, if_pos rfl])
    go_enter Tryz.func34, Tryz.ntmps34
    go_wp2_with fail
    refine (H1.out _ (by (repeat (first | exact Below.refl _ _ | refine Below.drew ?_ | refine Below.allocS ?_ _ | refine Below.step ?_ (by assumption) | refine Below.setCell ?_ (by simp <;> omega) _ | refine Below.drewN' ?_ _)))).mono ?_
    rintro e w1 ⟨rfl, hb1⟩
    have x1_0_0 : w1.cell? ⟨w.heap.size, 0, none⟩ = some (.slice A n cap) := keep_cell hb1 (by simp [go_sem, *])
    have x1_0_1 : w1.cell? ⟨w.heap.size, 1, none⟩ = some (.slice B m cb) := keep_cell hb1 (by simp [go_sem, *])
    have x1_0_2 : w1.cell? ⟨w.heap.size, 2, none⟩ = some (.int .i64 per) := keep_cell hb1 (by simp [go_sem, *])
    have y1_0 : w.heap.size < w1.heap.size := cell?_lt x1_0_0
    have g1 : Below w.heap.size w w1 := by (repeat (first | exact Below.refl _ _ | refine Below.drew ?_ | refine Below.allocS ?_ _ | refine Below.step ?_ (by assumption) | refine Below.setCell ?_ (by simp <;> omega) _ | refine Below.drewN' ?_ _))
    clear hb1
    go_wp2_with fail
    refine (H2.out _ (by (repeat (first | exact Below.refl _ _ | refine Below.drew ?_ | refine Below.allocS ?_ _ | refine Below.step ?_ (by assumption) | refine Below.setCell ?_ (by simp <;> omega) _ | refine Below.drewN' ?_ _))) (by first | trivial | rfl)).mono ?_
    rintro e w2 ⟨⟨x, rfl, hx, hx2⟩, hb2⟩
    have HX := Lib.hid hx
    have HX2 := Lib.hid hx2
    clear hx hx2
    go_wp2
    go_ret2
    exact ⟨⟨x, rfl, HX.out, by rw [HB2.out]; exact HX2.out⟩, by (repeat (first | exact Below.refl _ _ | refine Below.drew ?_ | refine Below.allocS ?_ _ | refine Below.step ?_ (by assumption) | refine Below.setCell ?_ (by simp <;> omega) _ | refine Below.drewN' ?_ _))⟩
  · have HB2 := Lib.hid (show R = [] by rw [HB.out, if_neg hv])
    have q1 : (v != 0) = true := by simp [hv]
    go_enter Tryz.func34, Tryz.ntmps34
    go_wp2_with fail
    refine (H1.out _ (by (repeat (first | exact Below.refl _ _ | refine Below.drew ?_ | refine Below.allocS ?_ _ | refine Below.step ?_ (by assumption) | refine Below.setCell ?_ (by simp <;> omega) _ | refine Below.drewN' ?_ _)))).mono ?_
    rintro e w1 ⟨rfl, hb1⟩
    have x1_0_0 : w1.cell? ⟨w.heap.size, 0, none⟩ = some (.slice A n cap) := keep_cell hb1 (by simp [go_sem, *])
    have x1_0_1 : w1.cell? ⟨w.heap.size, 1, none⟩ = some (.slice B m cb) := keep_cell hb1 (by simp [go_sem, *])
    have x1_0_2 : w1.cell? ⟨w.heap.size, 2, none⟩ = some (.int .i64 per) := keep_cell hb1 (by simp [go_sem, *])
    have y1_0 : w.heap.size < w1.heap.size := cell?_lt x1_0_0
    have g1 : Below w.heap.size w w1 := by (repeat (first | exact Below.refl _ _ | refine Below.drew ?_ | refine Below.allocS ?_ _ | refine Below.step ?_ (by assumption) | refine Below.setCell ?_ (by simp <;> omega) _ | refine Below.drewN' ?_ _))
    clear hb1
    go_wp2
    go_ret2
    exact ⟨⟨sl0, rfl, SlAt.nil _ _, by rw [HB2.out]; rfl⟩, by (repeat (first | exact Below.refl _ _ | refine Below.drew ?_ | refine Below.allocS ?_ _ | refine Below.step ?_ (by assumption) | refine Below.setCell ?_ (by simp <;> omega) _ | refine Below.drewN' ?_ _))⟩
set_option maxHeartbeats 1000000 in
theorem SameInts_c (l r : List Int) (n m : Nat) (hn : l.length = n) (hm : r.length = m) (A B : Option Addr) (cap cap' : Nat) (hl : n ≤ 9223372036854775807) (w : World) (hr : RdL w w.heap.size inE 1 A l) (hs : RdL w w.heap.size inE 1 B r) :
    Calls Tryz.prog 35 #[.slice A n cap, .slice B m cap'] w fun e w' => e = .returned (.bool (decide (l = r))) ∧ Below w.heap.size w w' := by
  have HR := Lib.hid hr
  have HS := Lib.hid hs
  have HN := Lib.hid hn
  have HM := Lib.hid hm
  clear hr hs hn hm
  by_cases hnm : n = m
  · subst hnm
    go_enter Tryz.func35, Tryz.ntmps35
    go_wp2
    go_loopw [13] (fun i wr => ∃ k : Nat, k ≤ n ∧ i = .int .i64 k ∧ l.take k = r.take k ∧ Below w.heap.size w wr) (fun i _ => n - (intOf i).toNat)
    case atStart => exact ⟨0, Nat.zero_le _, rfl, rfl, Below.refl _ _⟩
    case round =>
      obtain ⟨k, hk, rfl, ht, hbw⟩ := hrel
      have HT := Lib.hid ht
      clear ht
      by_cases hlt : k < n
      · have hl1 : k < l.length := by rw [HN.out]; exact hlt
        have hl2 : k < r.length := by rw [HM.out]; exact hlt
        obtain ⟨p, hp⟩ : ∃ p, p = l[k] := ⟨_, rfl⟩
        obtain ⟨q, hq⟩ : ∃ q, q = r[k] := ⟨_, rfl⟩
        obtain ⟨b, off, rfl, hb0, hc⟩ := HR.out (by omega)
        obtain ⟨b', off', rfl, hb0', hc'⟩ := HS.out (by omega)
        have c0 := (hbw.cell (p := ⟨b, _, none⟩) hb0).trans (hc k hl1 0 _ rfl)
        have d0 := (hbw.cell (p := ⟨b', _, none⟩) hb0').trans (hc' k hl2 0 _ rfl)
        rw [← hp] at c0
        rw [← hq] at d0
        clear hc hc'
        simp at c0 d0
        have HP := Lib.hid hp
        have HQ := Lib.hid hq
        have u1 : (0 : Int) ≤ (k : Int) := by omega
        have u2 : (k : Int) < (n : Int) := by omega
        clear hp hq
        by_cases hpq : p = q
        · subst hpq
          have HT2 := Lib.hid (show l.take (k + 1) = r.take (k + 1) by
            rw [List.take_succ_eq_append_getElem hl1, List.take_succ_eq_append_getElem hl2, HT.out, ← HP.out, ← HQ.out])
          go_wp2_with fail
          go_quiet (fail)
          go_wp2
          go_roundw
          case rel => exact ⟨k + 1, by omega, by go_num, HT2.out, by (repeat (first | (with_reducible exact Below.refl _ _) | (with_reducible assumption) | (with_reducible refine Below.drew ?_) | (with_reducible refine Below.allocS ?_ _) | (with_reducible refine Below.setCell ?_ ?_ _) | (with_reducible refine Below.step ?_ (by assumption)) | (with_reducible refine Below.drewN' ?_ _))); (try any_goals (first | (with_reducible assumption) | (simp; done) | (simp; omega) | omega))⟩
          case measure => simp [intOf]; omega
        · have q1 : (p != q) = true := by simp [hpq]
          have HF := Lib.hid (show decide (l = r) = false from decide_eq_false (fun e => by subst e; exact hpq (HP.out.trans HQ.out.symm)))
          clear hpq
          go_wp2_with fail
          go_quiet (fail)
          go_wp2
          go_ret
          exact ⟨by rw [HF.out]; rfl, by (repeat (first | (with_reducible exact Below.refl _ _) | (with_reducible assumption) | (with_reducible refine Below.drew ?_) | (with_reducible refine Below.allocS ?_ _) | (with_reducible refine Below.setCell ?_ ?_ _) | (with_reducible refine Below.step ?_ (by assumption)) | (with_reducible refine Below.drewN' ?_ _))); (try any_goals (first | (with_reducible assumption) | (simp; done) | (simp; omega) | omega))⟩
      · obtain rfl : k = n := by omega
        have HF := Lib.hid (show decide (l = r) = true from decide_eq_true (by
          have h := HT.out
          rwa [List.take_of_length_le (by rw [HN.out]; exact Nat.le_refl _), List.take_of_length_le (by rw [HM.out]; exact Nat.le_refl _)] at h))
        go_wp2
        go_ret
        exact ⟨by rw [HF.out]; rfl, hbw⟩
  · have q1 : ((n : Int) != (m : Int)) = true := by simp; omega
    have HF := Lib.hid (show decide (l = r) = false from decide_eq_false (fun e => by subst e; exact hnm (HN.out.symm.trans HM.out)))
    clear hnm
    go_enter Tryz.func35, Tryz.ntmps35
    go_wp2
    go_ret
    exact ⟨by rw [HF.out]; rfl, Below.refl _ _⟩
def awL : List Ch := [⟨⟨#[97]⟩, 0, 100, 0, 5⟩, ⟨⟨#[98]⟩, 90, 150, 0, 9⟩, ⟨⟨#[99]⟩, 160, 200, 30000, 6⟩]
theorem aw_as0 : asE awL [] 0 = 0 := by
  unfold asE
  rw [ok_eq]
  kernel_rfl
theorem aw_as1 : asE awL [] 1 = 0 := by
  unfold asE
  rw [ok_eq]
  kernel_rfl
theorem aw_b0 : bestL awL [] 0 = [1, 2] := by kernel_rfl
theorem aw_b1 : bestL awL [] 1 = [1] := by kernel_rfl
theorem aw_at (w : World) (hf : w.heap.size = w.heap.size) : InAt (w.alloc (.cells #[.string ⟨#[97]⟩, .int .i64 0, .int .i64 100, .int .i64 0, .int .i64 5, .string ⟨#[98]⟩, .int .i64 90, .int .i64 150, .int .i64 0, .int .i64 9, .string ⟨#[99]⟩, .int .i64 160, .int .i64 200, .int .i64 30000, .int .i64 6] 74)) awL (some ⟨w.heap.size, 0, none⟩) 3 [] none 0 :=
  ⟨by decide, by decide, fun x hx => by
    unfold awL at hx
    simp at hx
    rcases hx with rfl | rfl | rfl <;> decide, RdL.new w 74 chE 5 awL (fun _ => rfl), by decide, fun h => absurd h (by simp)⟩
set_option maxHeartbeats 1000000 in
theorem awake_c (w : World) : Calls Tryz.prog 13 #[] w fun e w' => e = .returned (.bool true) ∧ Below w.heap.size w w' := by
  have HA := Lib.hid (aw_at w rfl)
  have hB : ∀ W, Below w.heap.size w W → InAt W awL (some ⟨w.heap.size, 0, none⟩) 3 [] none 0 → ∀ per : Int, per = 0 ∨ per = 1 → Calls Tryz.prog 34 #[.slice (some ⟨w.heap.size, 0, none⟩) 3 3, .slice none 0 0, .int .i64 per] W fun e w' => (∃ A c, e = .returned (.tuple #[.slice A (if per = 0 then 2 else 1) c, .int .i64 0]) ∧ RdL w' w'.heap.size inE 1 A (if per = 0 then [1, 2] else [1])) ∧ Below W.heap.size W w' := fun W hb hi per hp => (Best_c awL _ 3 [] none 0 per W hi).mono fun e w' ⟨⟨x, h1, h2, h3⟩, h4⟩ => by
    rcases hp with rfl | rfl
    · rw [aw_as0] at h1
      have h5 : x.xs = [1, 2] := by rw [h3]; unfold bstE; rw [if_pos aw_as0]; exact aw_b0
      rw [h5] at h1
      have h6 := h2.r
      rw [h5] at h6
      exact ⟨⟨x.A, x.c, h1, h6⟩, h4⟩
    · rw [aw_as1] at h1
      have h5 : x.xs = [1] := by rw [h3]; unfold bstE; rw [if_pos aw_as1]; exact aw_b1
      rw [h5] at h1
      have h6 := h2.r
      rw [h5] at h6
      exact ⟨⟨x.A, x.c, h1, h6⟩, h4⟩
  have HB := Lib.hid hB
  clear hB
  go_enter Tryz.func13, Tryz.ntmps13
  go_wp2_with fail
  refine (HB.out _ (by (repeat (first | (with_reducible exact Below.refl _ _) | (with_reducible assumption) | (with_reducible refine Below.drew ?_) | (with_reducible refine Below.allocS ?_ _) | (with_reducible refine Below.setCell ?_ ?_ _) | (with_reducible refine Below.step ?_ (by assumption)) | (with_reducible refine Below.drewN' ?_ _))); (try any_goals (first | (with_reducible assumption) | (simp; done) | (simp; omega) | omega))) HA.out 0 (.inl rfl)).mono ?_
  rintro e w1 ⟨⟨A1, c1, rfl, r1⟩, hb1⟩
  have g1 : Below w.heap.size w w1 := Below.low (by (repeat (first | (with_reducible exact Below.refl _ _) | (with_reducible assumption) | (with_reducible refine Below.drew ?_) | (with_reducible refine Below.allocS ?_ _) | (with_reducible refine Below.setCell ?_ ?_ _) | (with_reducible refine Below.step ?_ (by assumption)) | (with_reducible refine Below.drewN' ?_ _))); (try any_goals (first | (with_reducible assumption) | (simp; done) | (simp; omega) | omega))) hb1 (by simp)
  have HA1 := Lib.hid (HA.out.step hb1)
  have R1 := Lib.hid r1
  clear r1 hb1
  go_wp2_with fail
  refine (HB.out _ g1 HA1.out 1 (.inr rfl)).mono ?_
  rintro e w2 ⟨⟨A2, c2, rfl, r2⟩, hb2⟩
  have g2 : Below w.heap.size w w2 := Below.low g1 hb2 g1.size
  have R2 := Lib.hid r2
  have R1' := Lib.hid (R1.out.step hb2)
  clear r2 hb2
  go_wp2_with fail
  have hbn := (Below.allocS (Below.refl w2.heap.size w2) (.cells #[.int .i64 1, .int .i64 2] 3))
  refine (SameInts_c [1, 2] [1, 2] 2 2 rfl rfl _ _ _ _ (by decide) _ (R1'.out.step hbn) (two_ints (by simp [go_sem]) (by simp [go_sem]))).mono ?_
  rintro e w3 ⟨rfl, hb3⟩
  have g3 : Below w.heap.size w w3 := Below.low (Below.allocS g2 _) hb3 (by have := g2.size; simp; omega)
  have R2' := Lib.hid ((R2.out.step hbn).step hb3)
  clear hb3 hbn
  go_wp2_with fail
  have hbn := (Below.allocS (Below.refl w3.heap.size w3) (.cells #[.int .i64 1] 3))
  refine (SameInts_c [1] [1] 1 1 rfl rfl _ _ _ _ (by decide) _ (R2'.out.step hbn) (RdL.new w3 3 inE 1 [(1 : Int)] (fun _ => rfl))).mono ?_
  rintro e w4 ⟨rfl, hb4⟩
  have g4 : Below w.heap.size w w4 := Below.low (Below.allocS g3 _) hb4 (by have := g3.size; simp; omega)
  go_wp2
  go_ret
  exact ⟨rfl, g4⟩
end Go.Proofs.YtimbdnngeoccdaaGreatDoor
