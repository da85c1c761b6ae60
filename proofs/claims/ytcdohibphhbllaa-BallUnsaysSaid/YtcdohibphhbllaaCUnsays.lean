/-
  The walk of the law BallUnsays. No conditions.
-/
import Derived.Test.YtcdohibphhbllaaC0
import Derived.Test.YtcdohibphhbllaaUns
import Derived.Test.YtcdohibphhbllaaCWords
import Derived.Deep.RegionHeld3
namespace Go.Proofs.Ytcdohibphhbllaa
open Go.RowKit Go.Deep
set_option linter.unusedVariables false
theorem one_flat (l : List Ev) : ∀ u ∈ l.flatMap evE, u.oneCell' = true := by
  intro u hu
  obtain ⟨e, _, he⟩ := List.mem_flatMap.1 hu
  simp [evE] at he
  rcases he with rfl | rfl | rfl <;> simp [Value.oneCell']
theorem own0 (W : World) (base g : Nat) (hb : base ≤ W.heap.size) (hg : g = W.heap.size) : (W.alloc (.cells #[] 34)).ownsRow base 34 3 (.slice (some ⟨g, 0, none⟩) 0 0) 0 [] := by
  subst hg; exact World.ownsRow_lit W #[] 0 hb (by decide) rfl
theorem VerdictN (x : Ms) (l : List Ev) (n : Nat) (hn : l.length = n) (A : Option Addr) (cap : Nat) (hl : n ≤ 9223372036854775807) (hcap : n ≤ cap) (hcap' : cap ≤ maxLen) (w : World) (hr : RdL w w.heap.size evE 3 A l) :
    Calls Try.prog 17 #[msV x, .slice A n cap] w fun e w' => e = .returned (.tuple #[.int .i64 (vdV x l), .int .i64 (vdE x l)]) ∧ Below w.heap.size w w' := by
  subst hn; exact Verdict_c x l A cap hl hcap hcap' w hr

set_option maxHeartbeats 4000000 in
set_option maxRecDepth 100000 in
theorem BallUnsays_w (x : Ms) (l : List Ev) (A : Option Addr) (cap : Nat) (hcap : l.length ≤ cap) (hm : cap ≤ maxLen) (hA0 : A = none → cap = 0) (hl : l.length ≤ 9223372036854775807) (ev : Ev) (w : World) (hr : RdL w w.heap.size evE 3 A l) :
    Calls Try.prog 4 #[msV x, .slice A l.length cap, evV ev] w fun e w' => e = .returned (.bool true) ∧ Below w.heap.size w w' := by
  obtain ⟨i0, hi, hz0, hz1, hz2⟩ := info_parts evI
  have H1 := Lib.hid (fun W (hb : Below w.heap.size w W) => Verdict_c x l A cap hl hcap hm W (hr.step hb))
  have H2 := Lib.hid (fun g cap' W (h1 : l.length + 1 ≤ cap') (h2 : cap' ≤ maxLen) (hr : RdL W W.heap.size evE 3 g (l ++ [ev])) => VerdictN x (l ++ [ev]) (l.length + 1) (by simp) g cap' (by unfold maxLen at h2; omega) h1 h2 W hr)
  have HF := Lib.hid (fun v W => Fault_c v W)
  have HR := Lib.hid hr
  have HA := Lib.hid (fun h => hr.none_len h)
  have HA0 := Lib.hid hA0
  clear hr hA0
  by_cases hlong : 300 < (l.length : Int)
  · unfold msV evV at *
    go_enter Try.func4, Try.ntmps4
    go_wp2_with (first | (go_at_call 13; (with_reducible refine (long_c _ _ _ hl _).mono ?_); rintro e w' ⟨rfl, rfl⟩) | (go_at_call 14; (with_reducible refine (awake_c _).mono ?_); rintro e w1 ⟨rfl, hb⟩; obtain ⟨hc, hf⟩ := bcell hb; have hz := hb.size; (try simp at hz); (try have hz0 : w.heap.size < w1.heap.size := by omega); (try have hz1 : w.heap.size + 1 < w1.heap.size := by omega); (try have hz2 : w.heap.size + 1 + 1 < w1.heap.size := by omega); (try have hz3 : w.heap.size + 1 + 1 + 1 < w1.heap.size := by omega); (try have hz4 : w.heap.size + 1 + 1 + 1 + 1 < w1.heap.size := by omega); (try have hz5 : w.heap.size + 1 + 1 + 1 + 1 + 1 < w1.heap.size := by omega)))
    go_ret
    exact ⟨rfl, by (repeat (first | (with_reducible exact Below.refl _ _) | (with_reducible assumption) | (with_reducible refine Below.drew ?_) | (with_reducible refine Below.allocS ?_ _) | (with_reducible refine Below.setCell ?_ ?_ _) | (with_reducible refine Below.step ?_ (by assumption)) | (with_reducible refine Below.drewN' ?_ _))); (try any_goals (first | (with_reducible assumption) | (simp; done) | (simp; omega) | omega))⟩
  have hd : decide (300 < (l.length : Int)) = false := by simpa using hlong
  have hlen : l.length ≤ 300 := by omega
  by_cases he : vdE x l = 0
  · have hvd : vdV x l = verdV x l := by unfold vdV; rw [if_pos he]
    rw [hvd, he] at H1
    have HU := Lib.hid (unsay x l ev)
    have HW := Lib.hid (fun (h : vdE x (l ++ [ev]) = 0) => (show vdV x (l ++ [ev]) = verdV x (l ++ [ev]) by unfold vdV; rw [if_pos h]))
    generalize verdV x l = a at *
    generalize verdV x (l ++ [ev]) = b at *
    generalize vdV x (l ++ [ev]) = bv at *
    generalize vdE x (l ++ [ev]) = be at *
    clear he hvd
    unfold msV evV at *
    go_enter Try.func4, Try.ntmps4
    go_wp2_with fail
    refine (long_c _ _ _ hl _).mono ?_
    rintro e w' ⟨rfl, rfl⟩
    go_wp2_with fail
    refine (H1.out _ (by (repeat (first | (with_reducible exact Below.refl _ _) | (with_reducible assumption) | (with_reducible refine Below.drew ?_) | (with_reducible refine Below.allocS ?_ _) | (with_reducible refine Below.setCell ?_ ?_ _) | (with_reducible refine Below.step ?_ (by assumption)) | (with_reducible refine Below.drewN' ?_ _))); (try any_goals (first | (with_reducible assumption) | (simp; done) | (simp; omega) | omega)))).mono ?_
    rintro e w1 ⟨rfl, hb1⟩
    have x1_0_0 : w1.cell? ⟨w.heap.size, 0, none⟩ = some (.int .i64 x.noon) := keep_cell hb1 (by simp [go_sem, *])
    have x1_0_1 : w1.cell? ⟨w.heap.size, 1, none⟩ = some (.int .i64 x.half) := keep_cell hb1 (by simp [go_sem, *])
    have x1_0_2 : w1.cell? ⟨w.heap.size, 2, none⟩ = some (.int .i64 x.full) := keep_cell hb1 (by simp [go_sem, *])
    have x1_0_3 : w1.cell? ⟨w.heap.size, 3, none⟩ = some (.int .i64 x.late) := keep_cell hb1 (by simp [go_sem, *])
    have x1_0_4 : w1.cell? ⟨w.heap.size, 4, none⟩ = some (.int .i64 x.again) := keep_cell hb1 (by simp [go_sem, *])
    have x1_0_5 : w1.cell? ⟨w.heap.size, 5, none⟩ = some (.int .i64 x.wind) := keep_cell hb1 (by simp [go_sem, *])
    have y1_0 : w.heap.size < w1.heap.size := cell?_lt x1_0_0
    have x1_1_0 : w1.cell? ⟨w.heap.size + 1, 0, none⟩ = some (.int .i64 ev.at') := keep_cell hb1 (by simp [go_sem, *])
    have x1_1_1 : w1.cell? ⟨w.heap.size + 1, 1, none⟩ = some (.int .i64 ev.kind) := keep_cell hb1 (by simp [go_sem, *])
    have x1_1_2 : w1.cell? ⟨w.heap.size + 1, 2, none⟩ = some (.int .i64 ev.n) := keep_cell hb1 (by simp [go_sem, *])
    have y1_1 : w.heap.size + 1 < w1.heap.size := cell?_lt x1_1_0
    have g1 : Below w.heap.size w w1 := by (repeat (first | exact Below.refl _ _ | refine Below.drew ?_ | refine Below.allocS ?_ _ | refine Below.step ?_ (by assumption) | refine Below.setCell ?_ (by simp <;> omega) _ | refine Below.drewN' ?_ _))
    clear hb1
    go_wp2
    have HR1 := Lib.hid (HR.out.step g1)
    go_upto_region 7 with fail
    go_cut [9] (fun s9 w2 => (∃ (g cap' : Nat), s9 = .slice (some ⟨g, 0, none⟩) (l.length + 1) cap' ∧ l.length + 1 ≤ cap' ∧ cap' ≤ maxLen ∧ RdL w2 w2.heap.size evE 3 (some ⟨g, 0, none⟩) (l ++ [ev])) ∧ w2.cell? ⟨w.heap.size, 0, none⟩ = some (.int .i64 x.noon) ∧ w2.cell? ⟨w.heap.size, 1, none⟩ = some (.int .i64 x.half) ∧ w2.cell? ⟨w.heap.size, 2, none⟩ = some (.int .i64 x.full) ∧ w2.cell? ⟨w.heap.size, 3, none⟩ = some (.int .i64 x.late) ∧ w2.cell? ⟨w.heap.size, 4, none⟩ = some (.int .i64 x.again) ∧ w2.cell? ⟨w.heap.size, 5, none⟩ = some (.int .i64 x.wind) ∧ w2.cell? ⟨w.heap.size + 1, 0, none⟩ = some (.int .i64 ev.at') ∧ w2.cell? ⟨w.heap.size + 1, 1, none⟩ = some (.int .i64 ev.kind) ∧ w2.cell? ⟨w.heap.size + 1, 2, none⟩ = some (.int .i64 ev.n) ∧ Below w.heap.size w w2)
    case first =>
      have hS : ∀ W, Below w1.heap.size w1 W → W.cell? ⟨w.heap.size + 1, 0, none⟩ = some (.int .i64 ev.at') ∧ W.cell? ⟨w.heap.size + 1, 1, none⟩ = some (.int .i64 ev.kind) ∧ W.cell? ⟨w.heap.size + 1, 2, none⟩ = some (.int .i64 ev.n) ∧ Below w1.heap.size w1 W := fun W hb => ⟨keep_cell hb x1_1_0, keep_cell hb x1_1_1, keep_cell hb x1_1_2, hb⟩
      have HS := Lib.hid hS
      clear hS
      cases A with
      | none =>
        have hl0 : l = [] := List.eq_nil_of_length_eq_zero (HA.out rfl)
        have hc0 : cap = 0 := HA0.out rfl
        subst hl0
        subst hc0
        refine wp_region_held_drew (S := (fun W => W.cell? ⟨w.heap.size + 1, 0, none⟩ = some (.int .i64 ev.at') ∧ W.cell? ⟨w.heap.size + 1, 1, none⟩ = some (.int .i64 ev.kind) ∧ W.cell? ⟨w.heap.size + 1, 2, none⟩ = some (.int .i64 ev.n) ∧ Below w1.heap.size w1 W)) (by kernel_rfl) ?_ (fun hHeld => ?_); (· exact HS.out _ (Below.drew (Below.refl _ _)))
        (first | (refine wpAnyH_take (i := 1) (oi := ⟨_, _, _, _, _, _⟩) (v := ?_) rfl (by kernel_rfl) (by kernel_rfl) (by kernel_rfl) (fun _ _ _ h => h) (Or.inl ⟨by rfl, ?_⟩) (by assumption) ?_; rotate_left 1; (· (intro w0 hSw; (try dsimp only at hSw); go_simp; (try with_reducible rfl)))) | (refine wpAnyH_take (i := 1) (oi := ⟨_, _, _, _, _, _⟩) (v := undef) rfl (by kernel_rfl) (by kernel_rfl) (by kernel_rfl) (fun _ _ _ h => h) (Or.inr ⟨by rfl, rfl⟩) (by assumption) ?_)); (try simp only [Act.put, List.setIfInBounds_toArray, List.set_cons_zero, List.set_cons_succ])
        (first | (refine wpAnyH_take (i := 3) (oi := ⟨_, _, _, _, _, _⟩) (v := ?_) rfl (by kernel_rfl) (by kernel_rfl) (by kernel_rfl) (fun _ _ _ h => h) (Or.inl ⟨by rfl, ?_⟩) (by assumption) ?_; rotate_left 1; (· (intro w0 hSw; (try dsimp only at hSw); go_simp; (try with_reducible rfl)))) | (refine wpAnyH_take (i := 3) (oi := ⟨_, _, _, _, _, _⟩) (v := undef) rfl (by kernel_rfl) (by kernel_rfl) (by kernel_rfl) (fun _ _ _ h => h) (Or.inr ⟨by rfl, rfl⟩) (by assumption) ?_)); (try simp only [Act.put, List.setIfInBounds_toArray, List.set_cons_zero, List.set_cons_succ])
        refine wpAnyH_ready (rs := [0, 4]) (by kernel_rfl) (by simp) ?_
        refine AllReadyH.cons (o := ⟨_, _, _, _, _, _⟩) rfl (fun K hK => ?_) ?_
        · go_simp
          have hB' := Below.allocS ((fun (h : _ ∧ _ ∧ _ ∧ Below w1.heap.size w1 _) => h.2.2.2) (by assumption)) (.cells #[] 34)
          refine hK.out _ _ ?_ (fun hHeld => ?_)
          · exact HS.out _ hB'
          clear hK K
          (try simp only [Act.put, List.setIfInBounds_toArray, List.set_cons_zero, List.set_cons_succ])
          have OW0 := own0 (w1) w1.heap.size (w1.heap.size) (by simp) (by simp)
          refine wpAnyH_ready (rs := [2, 4]) (by kernel_rfl) (by simp) ?_
          refine AllReadyH.cons (o := ⟨_, _, _, _, _, _⟩) rfl (fun K hK => ?_) ?_
          · refine step_append_none rfl (.tmp 24) (.tmp 25) 24 rfl w1.heap.size 34 i0 3 24 (by kernel_rfl) hi _ 0 [] rfl OW0 rfl ?_
            have hB' := ((fun (h : _ ∧ _ ∧ _ ∧ Below w1.heap.size w1 _) => h.2.2.2) (by assumption))
            refine hK.out _ _ ?_ (fun hHeld => ?_)
            · exact HS.out _ hB'
            clear hK K
            (try simp only [Act.put, List.setIfInBounds_toArray, List.set_cons_zero, List.set_cons_succ])
            have OX := OW0
            refine wpAnyH_ready (rs := [4]) (by kernel_rfl) (by simp) ?_
            refine AllReadyH.cons (o := ⟨_, _, _, _, _, _⟩) rfl (fun K hK => ?_) AllReadyH.nil
            go_simp
            have hB' := Below.allocS ((fun (h : _ ∧ _ ∧ _ ∧ Below w1.heap.size w1 _) => h.2.2.2) (by assumption)) (.cells #[.int .i64 ev.at', .int .i64 ev.kind, .int .i64 ev.n] 34)
            refine hK.out _ _ ?_ (fun hHeld => ?_)
            · exact HS.out _ hB'
            clear hK K
            (try simp only [Act.put, List.setIfInBounds_toArray, List.set_cons_zero, List.set_cons_succ])
            have NW2 := new_cells ((w1).alloc (.cells #[] 34)) (w1.heap.size + 1) [.int .i64 ev.at', .int .i64 ev.kind, .int .i64 ev.n] 34 (by simp)
            have OW2 := OX.alloc (.cells #[.int .i64 ev.at', .int .i64 ev.kind, .int .i64 ev.n] 34)
            refine wpAnyH_ready (rs := [5]) (by kernel_rfl) (by simp) ?_
            refine AllReadyH.cons (o := ⟨_, _, _, _, _, _⟩) rfl (fun K hK => ?_) AllReadyH.nil
            refine step_append_own rfl (.tmp 26) (.tmp 28) 24 rfl w1.heap.size 34 i0 (.agg #[.int .i64 0, .int .i64 0, .int .i64 0]) 3 24 (by kernel_rfl) hi hz0 hz1 hz2 rfl (by decide) _ 0 _ rfl OW2 ⟨w1.heap.size + 1, 0, none⟩ 1 1 [.int .i64 ev.at', .int .i64 ev.kind, .int .i64 ev.n] rfl rfl NW2 (by simp [Value.oneCell']) (by unfold maxLen; omega) (by omega) ((fun (h : _ ∧ _ ∧ _ ∧ Below w1.heap.size w1 _) => h.2.2.2) (by assumption)).size ?_
            intro v2 wb hown2 hgrow2
            obtain ⟨g, cap', rfl⟩ := ownsRow_succ hown2
            have hB' := Below.grown ((fun (h : _ ∧ _ ∧ _ ∧ Below w1.heap.size w1 _) => h.2.2.2) (by assumption)) hgrow2 ((fun (h : _ ∧ _ ∧ _ ∧ Below w1.heap.size w1 _) => h.2.2.2) (by assumption)).size (own_from OW2)
            refine hK.out _ _ ?_ (fun hHeld => ?_)
            · exact HS.out _ hB'
            clear hK K
            (try simp only [Act.put, List.setIfInBounds_toArray, List.set_cons_zero, List.set_cons_succ])
            have hcap2 := own_cap hown2
            have hown3 : wb.ownsRow w1.heap.size 34 3 (.slice (some ⟨g, 0, none⟩) 1 cap') 1 [.int .i64 ev.at', .int .i64 ev.kind, .int .i64 ev.n] := by simpa using hown2
            have RA : RdL wb wb.heap.size evE 3 (some ⟨g, 0, none⟩) ([] ++ [ev]) := RdL.of_own evE_len hown3 rfl
            (first | (refine wpAnyH_take (i := 6) (oi := ⟨_, _, _, _, _, _⟩) (v := ?_) rfl (by kernel_rfl) (by kernel_rfl) (by kernel_rfl) (fun _ _ _ h => h) (Or.inl ⟨by rfl, ?_⟩) (by assumption) ?_; rotate_left 1; (· (intro w0 hSw; (try dsimp only at hSw); go_simp; (try with_reducible rfl)))) | (refine wpAnyH_take (i := 6) (oi := ⟨_, _, _, _, _, _⟩) (v := undef) rfl (by kernel_rfl) (by kernel_rfl) (by kernel_rfl) (fun _ _ _ h => h) (Or.inr ⟨by rfl, rfl⟩) (by assumption) ?_)); (try simp only [Act.put, List.setIfInBounds_toArray, List.set_cons_zero, List.set_cons_succ])
            refine wpAnyH_done (by kernel_rfl) ?_ _
            go_wp2_with fail
            have hb9 := hHeld.2.2.2
            have q0_0 : wb.cell? ⟨w.heap.size, 0, none⟩ = some (.int .i64 x.noon) := keep_cell hb9 (by simp [go_sem, *]); have q0_1 : wb.cell? ⟨w.heap.size, 1, none⟩ = some (.int .i64 x.half) := keep_cell hb9 (by simp [go_sem, *]); have q0_2 : wb.cell? ⟨w.heap.size, 2, none⟩ = some (.int .i64 x.full) := keep_cell hb9 (by simp [go_sem, *]); have q0_3 : wb.cell? ⟨w.heap.size, 3, none⟩ = some (.int .i64 x.late) := keep_cell hb9 (by simp [go_sem, *]); have q0_4 : wb.cell? ⟨w.heap.size, 4, none⟩ = some (.int .i64 x.again) := keep_cell hb9 (by simp [go_sem, *]); have q0_5 : wb.cell? ⟨w.heap.size, 5, none⟩ = some (.int .i64 x.wind) := keep_cell hb9 (by simp [go_sem, *]); have p0 : w.heap.size < wb.heap.size := cell?_lt q0_0; have q1_0 : wb.cell? ⟨w.heap.size + 1, 0, none⟩ = some (.int .i64 ev.at') := keep_cell hb9 (by simp [go_sem, *]); have q1_1 : wb.cell? ⟨w.heap.size + 1, 1, none⟩ = some (.int .i64 ev.kind) := keep_cell hb9 (by simp [go_sem, *]); have q1_2 : wb.cell? ⟨w.heap.size + 1, 2, none⟩ = some (.int .i64 ev.n) := keep_cell hb9 (by simp [go_sem, *]); have p1 : w.heap.size + 1 < wb.heap.size := cell?_lt q1_0
            go_meet; exact ⟨⟨g, cap', by simp, by simpa using hcap2.1, hcap2.2, RA⟩, (by simp [go_sem, *]), (by simp [go_sem, *]), (by simp [go_sem, *]), (by simp [go_sem, *]), (by simp [go_sem, *]), (by simp [go_sem, *]), (by simp [go_sem, *]), (by simp [go_sem, *]), (by simp [go_sem, *]), by (repeat (first | exact Below.refl _ _ | refine Below.drew ?_ | refine Below.allocS ?_ _ | refine Below.step ?_ (by assumption) | refine Below.setCell ?_ (by simp <;> omega) _ | refine Below.drewN' ?_ _))⟩
          refine AllReadyH.cons (o := ⟨_, _, _, _, _, _⟩) rfl (fun K hK => ?_) AllReadyH.nil
          go_simp
          have hB' := Below.allocS ((fun (h : _ ∧ _ ∧ _ ∧ Below w1.heap.size w1 _) => h.2.2.2) (by assumption)) (.cells #[.int .i64 ev.at', .int .i64 ev.kind, .int .i64 ev.n] 34)
          refine hK.out _ _ ?_ (fun hHeld => ?_)
          · exact HS.out _ hB'
          clear hK K
          (try simp only [Act.put, List.setIfInBounds_toArray, List.set_cons_zero, List.set_cons_succ])
          have NW1 := new_cells ((w1).alloc (.cells #[] 34)) (w1.heap.size + 1) [.int .i64 ev.at', .int .i64 ev.kind, .int .i64 ev.n] 34 (by simp)
          have OW1 := OW0.alloc (.cells #[.int .i64 ev.at', .int .i64 ev.kind, .int .i64 ev.n] 34)
          refine wpAnyH_ready (rs := [2]) (by kernel_rfl) (by simp) ?_
          refine AllReadyH.cons (o := ⟨_, _, _, _, _, _⟩) rfl (fun K hK => ?_) AllReadyH.nil
          refine step_append_none rfl (.tmp 24) (.tmp 25) 24 rfl w1.heap.size 34 i0 3 24 (by kernel_rfl) hi _ 0 [] rfl OW1 rfl ?_
          have hB' := ((fun (h : _ ∧ _ ∧ _ ∧ Below w1.heap.size w1 _) => h.2.2.2) (by assumption))
          refine hK.out _ _ ?_ (fun hHeld => ?_)
          · exact HS.out _ hB'
          clear hK K
          (try simp only [Act.put, List.setIfInBounds_toArray, List.set_cons_zero, List.set_cons_succ])
          have OX := OW1
          refine wpAnyH_ready (rs := [5]) (by kernel_rfl) (by simp) ?_
          refine AllReadyH.cons (o := ⟨_, _, _, _, _, _⟩) rfl (fun K hK => ?_) AllReadyH.nil
          refine step_append_own rfl (.tmp 26) (.tmp 28) 24 rfl w1.heap.size 34 i0 (.agg #[.int .i64 0, .int .i64 0, .int .i64 0]) 3 24 (by kernel_rfl) hi hz0 hz1 hz2 rfl (by decide) _ 0 _ rfl OX ⟨w1.heap.size + 1, 0, none⟩ 1 1 [.int .i64 ev.at', .int .i64 ev.kind, .int .i64 ev.n] rfl rfl NW1 (by simp [Value.oneCell']) (by unfold maxLen; omega) (by omega) ((fun (h : _ ∧ _ ∧ _ ∧ Below w1.heap.size w1 _) => h.2.2.2) (by assumption)).size ?_
          intro v2 wb hown2 hgrow2
          obtain ⟨g, cap', rfl⟩ := ownsRow_succ hown2
          have hB' := Below.grown ((fun (h : _ ∧ _ ∧ _ ∧ Below w1.heap.size w1 _) => h.2.2.2) (by assumption)) hgrow2 ((fun (h : _ ∧ _ ∧ _ ∧ Below w1.heap.size w1 _) => h.2.2.2) (by assumption)).size (own_from OX)
          refine hK.out _ _ ?_ (fun hHeld => ?_)
          · exact HS.out _ hB'
          clear hK K
          (try simp only [Act.put, List.setIfInBounds_toArray, List.set_cons_zero, List.set_cons_succ])
          have hcap2 := own_cap hown2
          have hown3 : wb.ownsRow w1.heap.size 34 3 (.slice (some ⟨g, 0, none⟩) 1 cap') 1 [.int .i64 ev.at', .int .i64 ev.kind, .int .i64 ev.n] := by simpa using hown2
          have RA : RdL wb wb.heap.size evE 3 (some ⟨g, 0, none⟩) ([] ++ [ev]) := RdL.of_own evE_len hown3 rfl
          (first | (refine wpAnyH_take (i := 6) (oi := ⟨_, _, _, _, _, _⟩) (v := ?_) rfl (by kernel_rfl) (by kernel_rfl) (by kernel_rfl) (fun _ _ _ h => h) (Or.inl ⟨by rfl, ?_⟩) (by assumption) ?_; rotate_left 1; (· (intro w0 hSw; (try dsimp only at hSw); go_simp; (try with_reducible rfl)))) | (refine wpAnyH_take (i := 6) (oi := ⟨_, _, _, _, _, _⟩) (v := undef) rfl (by kernel_rfl) (by kernel_rfl) (by kernel_rfl) (fun _ _ _ h => h) (Or.inr ⟨by rfl, rfl⟩) (by assumption) ?_)); (try simp only [Act.put, List.setIfInBounds_toArray, List.set_cons_zero, List.set_cons_succ])
          refine wpAnyH_done (by kernel_rfl) ?_ _
          go_wp2_with fail
          have hb9 := hHeld.2.2.2
          have q0_0 : wb.cell? ⟨w.heap.size, 0, none⟩ = some (.int .i64 x.noon) := keep_cell hb9 (by simp [go_sem, *]); have q0_1 : wb.cell? ⟨w.heap.size, 1, none⟩ = some (.int .i64 x.half) := keep_cell hb9 (by simp [go_sem, *]); have q0_2 : wb.cell? ⟨w.heap.size, 2, none⟩ = some (.int .i64 x.full) := keep_cell hb9 (by simp [go_sem, *]); have q0_3 : wb.cell? ⟨w.heap.size, 3, none⟩ = some (.int .i64 x.late) := keep_cell hb9 (by simp [go_sem, *]); have q0_4 : wb.cell? ⟨w.heap.size, 4, none⟩ = some (.int .i64 x.again) := keep_cell hb9 (by simp [go_sem, *]); have q0_5 : wb.cell? ⟨w.heap.size, 5, none⟩ = some (.int .i64 x.wind) := keep_cell hb9 (by simp [go_sem, *]); have p0 : w.heap.size < wb.heap.size := cell?_lt q0_0; have q1_0 : wb.cell? ⟨w.heap.size + 1, 0, none⟩ = some (.int .i64 ev.at') := keep_cell hb9 (by simp [go_sem, *]); have q1_1 : wb.cell? ⟨w.heap.size + 1, 1, none⟩ = some (.int .i64 ev.kind) := keep_cell hb9 (by simp [go_sem, *]); have q1_2 : wb.cell? ⟨w.heap.size + 1, 2, none⟩ = some (.int .i64 ev.n) := keep_cell hb9 (by simp [go_sem, *]); have p1 : w.heap.size + 1 < wb.heap.size := cell?_lt q1_0
          go_meet; exact ⟨⟨g, cap', by simp, by simpa using hcap2.1, hcap2.2, RA⟩, (by simp [go_sem, *]), (by simp [go_sem, *]), (by simp [go_sem, *]), (by simp [go_sem, *]), (by simp [go_sem, *]), (by simp [go_sem, *]), (by simp [go_sem, *]), (by simp [go_sem, *]), (by simp [go_sem, *]), by (repeat (first | exact Below.refl _ _ | refine Below.drew ?_ | refine Below.allocS ?_ _ | refine Below.step ?_ (by assumption) | refine Below.setCell ?_ (by simp <;> omega) _ | refine Below.drewN' ?_ _))⟩
        refine AllReadyH.cons (o := ⟨_, _, _, _, _, _⟩) rfl (fun K hK => ?_) AllReadyH.nil
        go_simp
        have hB' := Below.allocS ((fun (h : _ ∧ _ ∧ _ ∧ Below w1.heap.size w1 _) => h.2.2.2) (by assumption)) (.cells #[.int .i64 ev.at', .int .i64 ev.kind, .int .i64 ev.n] 34)
        refine hK.out _ _ ?_ (fun hHeld => ?_)
        · exact HS.out _ hB'
        clear hK K
        (try simp only [Act.put, List.setIfInBounds_toArray, List.set_cons_zero, List.set_cons_succ])
        have NW0 := new_cells (w1) (w1.heap.size) [.int .i64 ev.at', .int .i64 ev.kind, .int .i64 ev.n] 34 (by simp)
        refine wpAnyH_ready (rs := [0]) (by kernel_rfl) (by simp) ?_
        refine AllReadyH.cons (o := ⟨_, _, _, _, _, _⟩) rfl (fun K hK => ?_) AllReadyH.nil
        go_simp
        have hB' := Below.allocS ((fun (h : _ ∧ _ ∧ _ ∧ Below w1.heap.size w1 _) => h.2.2.2) (by assumption)) (.cells #[] 34)
        refine hK.out _ _ ?_ (fun hHeld => ?_)
        · exact HS.out _ hB'
        clear hK K
        (try simp only [Act.put, List.setIfInBounds_toArray, List.set_cons_zero, List.set_cons_succ])
        have OW1 := own0 ((w1).alloc (.cells #[.int .i64 ev.at', .int .i64 ev.kind, .int .i64 ev.n] 34)) w1.heap.size (w1.heap.size + 1) (by simp) (by simp)
        have NW1 := fun j u hu => keep_cell (Below.allocS (Below.refl _ ((w1).alloc (.cells #[.int .i64 ev.at', .int .i64 ev.kind, .int .i64 ev.n] 34))) (.cells #[] 34)) (NW0 j u hu)
        refine wpAnyH_ready (rs := [2]) (by kernel_rfl) (by simp) ?_
        refine AllReadyH.cons (o := ⟨_, _, _, _, _, _⟩) rfl (fun K hK => ?_) AllReadyH.nil
        refine step_append_none rfl (.tmp 24) (.tmp 25) 24 rfl w1.heap.size 34 i0 3 24 (by kernel_rfl) hi _ 0 [] rfl OW1 rfl ?_
        have hB' := ((fun (h : _ ∧ _ ∧ _ ∧ Below w1.heap.size w1 _) => h.2.2.2) (by assumption))
        refine hK.out _ _ ?_ (fun hHeld => ?_)
        · exact HS.out _ hB'
        clear hK K
        (try simp only [Act.put, List.setIfInBounds_toArray, List.set_cons_zero, List.set_cons_succ])
        have OX := OW1
        refine wpAnyH_ready (rs := [5]) (by kernel_rfl) (by simp) ?_
        refine AllReadyH.cons (o := ⟨_, _, _, _, _, _⟩) rfl (fun K hK => ?_) AllReadyH.nil
        refine step_append_own rfl (.tmp 26) (.tmp 28) 24 rfl w1.heap.size 34 i0 (.agg #[.int .i64 0, .int .i64 0, .int .i64 0]) 3 24 (by kernel_rfl) hi hz0 hz1 hz2 rfl (by decide) _ 0 _ rfl OX ⟨w1.heap.size, 0, none⟩ 1 1 [.int .i64 ev.at', .int .i64 ev.kind, .int .i64 ev.n] rfl rfl NW1 (by simp [Value.oneCell']) (by unfold maxLen; omega) (by omega) ((fun (h : _ ∧ _ ∧ _ ∧ Below w1.heap.size w1 _) => h.2.2.2) (by assumption)).size ?_
        intro v2 wb hown2 hgrow2
        obtain ⟨g, cap', rfl⟩ := ownsRow_succ hown2
        have hB' := Below.grown ((fun (h : _ ∧ _ ∧ _ ∧ Below w1.heap.size w1 _) => h.2.2.2) (by assumption)) hgrow2 ((fun (h : _ ∧ _ ∧ _ ∧ Below w1.heap.size w1 _) => h.2.2.2) (by assumption)).size (own_from OX)
        refine hK.out _ _ ?_ (fun hHeld => ?_)
        · exact HS.out _ hB'
        clear hK K
        (try simp only [Act.put, List.setIfInBounds_toArray, List.set_cons_zero, List.set_cons_succ])
        have hcap2 := own_cap hown2
        have hown3 : wb.ownsRow w1.heap.size 34 3 (.slice (some ⟨g, 0, none⟩) 1 cap') 1 [.int .i64 ev.at', .int .i64 ev.kind, .int .i64 ev.n] := by simpa using hown2
        have RA : RdL wb wb.heap.size evE 3 (some ⟨g, 0, none⟩) ([] ++ [ev]) := RdL.of_own evE_len hown3 rfl
        (first | (refine wpAnyH_take (i := 6) (oi := ⟨_, _, _, _, _, _⟩) (v := ?_) rfl (by kernel_rfl) (by kernel_rfl) (by kernel_rfl) (fun _ _ _ h => h) (Or.inl ⟨by rfl, ?_⟩) (by assumption) ?_; rotate_left 1; (· (intro w0 hSw; (try dsimp only at hSw); go_simp; (try with_reducible rfl)))) | (refine wpAnyH_take (i := 6) (oi := ⟨_, _, _, _, _, _⟩) (v := undef) rfl (by kernel_rfl) (by kernel_rfl) (by kernel_rfl) (fun _ _ _ h => h) (Or.inr ⟨by rfl, rfl⟩) (by assumption) ?_)); (try simp only [Act.put, List.setIfInBounds_toArray, List.set_cons_zero, List.set_cons_succ])
        refine wpAnyH_done (by kernel_rfl) ?_ _
        go_wp2_with fail
        have hb9 := hHeld.2.2.2
        have q0_0 : wb.cell? ⟨w.heap.size, 0, none⟩ = some (.int .i64 x.noon) := keep_cell hb9 (by simp [go_sem, *]); have q0_1 : wb.cell? ⟨w.heap.size, 1, none⟩ = some (.int .i64 x.half) := keep_cell hb9 (by simp [go_sem, *]); have q0_2 : wb.cell? ⟨w.heap.size, 2, none⟩ = some (.int .i64 x.full) := keep_cell hb9 (by simp [go_sem, *]); have q0_3 : wb.cell? ⟨w.heap.size, 3, none⟩ = some (.int .i64 x.late) := keep_cell hb9 (by simp [go_sem, *]); have q0_4 : wb.cell? ⟨w.heap.size, 4, none⟩ = some (.int .i64 x.again) := keep_cell hb9 (by simp [go_sem, *]); have q0_5 : wb.cell? ⟨w.heap.size, 5, none⟩ = some (.int .i64 x.wind) := keep_cell hb9 (by simp [go_sem, *]); have p0 : w.heap.size < wb.heap.size := cell?_lt q0_0; have q1_0 : wb.cell? ⟨w.heap.size + 1, 0, none⟩ = some (.int .i64 ev.at') := keep_cell hb9 (by simp [go_sem, *]); have q1_1 : wb.cell? ⟨w.heap.size + 1, 1, none⟩ = some (.int .i64 ev.kind) := keep_cell hb9 (by simp [go_sem, *]); have q1_2 : wb.cell? ⟨w.heap.size + 1, 2, none⟩ = some (.int .i64 ev.n) := keep_cell hb9 (by simp [go_sem, *]); have p1 : w.heap.size + 1 < wb.heap.size := cell?_lt q1_0
        go_meet; exact ⟨⟨g, cap', by simp, by simpa using hcap2.1, hcap2.2, RA⟩, (by simp [go_sem, *]), (by simp [go_sem, *]), (by simp [go_sem, *]), (by simp [go_sem, *]), (by simp [go_sem, *]), (by simp [go_sem, *]), (by simp [go_sem, *]), (by simp [go_sem, *]), (by simp [go_sem, *]), by (repeat (first | exact Below.refl _ _ | refine Below.drew ?_ | refine Below.allocS ?_ _ | refine Below.step ?_ (by assumption) | refine Below.setCell ?_ (by simp <;> omega) _ | refine Below.drewN' ?_ _))⟩
      | some ad =>
        refine wp_region_held_drew (S := (fun W => W.cell? ⟨w.heap.size + 1, 0, none⟩ = some (.int .i64 ev.at') ∧ W.cell? ⟨w.heap.size + 1, 1, none⟩ = some (.int .i64 ev.kind) ∧ W.cell? ⟨w.heap.size + 1, 2, none⟩ = some (.int .i64 ev.n) ∧ Below w1.heap.size w1 W)) (by kernel_rfl) ?_ (fun hHeld => ?_); (· exact HS.out _ (Below.drew (Below.refl _ _)))
        (first | (refine wpAnyH_take (i := 1) (oi := ⟨_, _, _, _, _, _⟩) (v := ?_) rfl (by kernel_rfl) (by kernel_rfl) (by kernel_rfl) (fun _ _ _ h => h) (Or.inl ⟨by rfl, ?_⟩) (by assumption) ?_; rotate_left 1; (· (intro w0 hSw; (try dsimp only at hSw); go_simp; (try with_reducible rfl)))) | (refine wpAnyH_take (i := 1) (oi := ⟨_, _, _, _, _, _⟩) (v := undef) rfl (by kernel_rfl) (by kernel_rfl) (by kernel_rfl) (fun _ _ _ h => h) (Or.inr ⟨by rfl, rfl⟩) (by assumption) ?_)); (try simp only [Act.put, List.setIfInBounds_toArray, List.set_cons_zero, List.set_cons_succ])
        (first | (refine wpAnyH_take (i := 3) (oi := ⟨_, _, _, _, _, _⟩) (v := ?_) rfl (by kernel_rfl) (by kernel_rfl) (by kernel_rfl) (fun _ _ _ h => h) (Or.inl ⟨by rfl, ?_⟩) (by assumption) ?_; rotate_left 1; (· (intro w0 hSw; (try dsimp only at hSw); go_simp; (try with_reducible rfl)))) | (refine wpAnyH_take (i := 3) (oi := ⟨_, _, _, _, _, _⟩) (v := undef) rfl (by kernel_rfl) (by kernel_rfl) (by kernel_rfl) (fun _ _ _ h => h) (Or.inr ⟨by rfl, rfl⟩) (by assumption) ?_)); (try simp only [Act.put, List.setIfInBounds_toArray, List.set_cons_zero, List.set_cons_succ])
        refine wpAnyH_ready (rs := [0, 4]) (by kernel_rfl) (by simp) ?_
        refine AllReadyH.cons (o := ⟨_, _, _, _, _, _⟩) rfl (fun K hK => ?_) ?_
        · go_simp
          have hB' := Below.allocS ((fun (h : _ ∧ _ ∧ _ ∧ Below w1.heap.size w1 _) => h.2.2.2) (by assumption)) (.cells #[] 34)
          refine hK.out _ _ ?_ (fun hHeld => ?_)
          · exact HS.out _ hB'
          clear hK K
          (try simp only [Act.put, List.setIfInBounds_toArray, List.set_cons_zero, List.set_cons_succ])
          have OW0 := own0 (w1) w1.heap.size (w1.heap.size) (by simp) (by simp)
          refine wpAnyH_ready (rs := [2, 4]) (by kernel_rfl) (by simp) ?_
          refine AllReadyH.cons (o := ⟨_, _, _, _, _, _⟩) rfl (fun K hK => ?_) ?_
          · refine step_append_own rfl (.tmp 24) (.tmp 25) 24 rfl w1.heap.size 34 i0 (.agg #[.int .i64 0, .int .i64 0, .int .i64 0]) 3 24 (by kernel_rfl) hi hz0 hz1 hz2 rfl (by decide) _ 0 [] rfl OW0 ad l.length cap (l.flatMap evE) rfl (flat_len evE 3 evE_len l) (fun j u hu => (HR1.out.olds evE_len (by decide) ((fun (h : _ ∧ _ ∧ _ ∧ Below w1.heap.size w1 _) => h.2.2.2) (by assumption))) ad rfl j u hu) (one_flat l) (by unfold maxLen; omega) (by omega) ((fun (h : _ ∧ _ ∧ _ ∧ Below w1.heap.size w1 _) => h.2.2.2) (by assumption)).size ?_
            intro v1 wa hown1 hgrow1
            have hB' := Below.grown ((fun (h : _ ∧ _ ∧ _ ∧ Below w1.heap.size w1 _) => h.2.2.2) (by assumption)) hgrow1 ((fun (h : _ ∧ _ ∧ _ ∧ Below w1.heap.size w1 _) => h.2.2.2) (by assumption)).size (own_from OW0)
            refine hK.out _ _ ?_ (fun hHeld => ?_)
            · exact HS.out _ hB'
            clear hK K
            (try simp only [Act.put, List.setIfInBounds_toArray, List.set_cons_zero, List.set_cons_succ])
            have OX := hown1
            refine wpAnyH_ready (rs := [4]) (by kernel_rfl) (by simp) ?_
            refine AllReadyH.cons (o := ⟨_, _, _, _, _, _⟩) rfl (fun K hK => ?_) AllReadyH.nil
            go_simp
            have hB' := Below.allocS ((fun (h : _ ∧ _ ∧ _ ∧ Below w1.heap.size w1 _) => h.2.2.2) (by assumption)) (.cells #[.int .i64 ev.at', .int .i64 ev.kind, .int .i64 ev.n] 34)
            refine hK.out _ _ ?_ (fun hHeld => ?_)
            · exact HS.out _ hB'
            clear hK K
            (try simp only [Act.put, List.setIfInBounds_toArray, List.set_cons_zero, List.set_cons_succ])
            have NW2 := new_cells (wa) (wa.heap.size) [.int .i64 ev.at', .int .i64 ev.kind, .int .i64 ev.n] 34 (by simp)
            have OW2 := OX.alloc (.cells #[.int .i64 ev.at', .int .i64 ev.kind, .int .i64 ev.n] 34)
            refine wpAnyH_ready (rs := [5]) (by kernel_rfl) (by simp) ?_
            refine AllReadyH.cons (o := ⟨_, _, _, _, _, _⟩) rfl (fun K hK => ?_) AllReadyH.nil
            refine step_append_own rfl (.tmp 26) (.tmp 28) 24 rfl w1.heap.size 34 i0 (.agg #[.int .i64 0, .int .i64 0, .int .i64 0]) 3 24 (by kernel_rfl) hi hz0 hz1 hz2 rfl (by decide) _ (0 + l.length) _ rfl OW2 ⟨wa.heap.size, 0, none⟩ 1 1 [.int .i64 ev.at', .int .i64 ev.kind, .int .i64 ev.n] rfl rfl NW2 (by simp [Value.oneCell']) (by unfold maxLen; omega) (by omega) ((fun (h : _ ∧ _ ∧ _ ∧ Below w1.heap.size w1 _) => h.2.2.2) (by assumption)).size ?_
            intro v2 wb hown2 hgrow2
            obtain ⟨g, cap', rfl⟩ := ownsRow_succ hown2
            have hB' := Below.grown ((fun (h : _ ∧ _ ∧ _ ∧ Below w1.heap.size w1 _) => h.2.2.2) (by assumption)) hgrow2 ((fun (h : _ ∧ _ ∧ _ ∧ Below w1.heap.size w1 _) => h.2.2.2) (by assumption)).size (own_from OW2)
            refine hK.out _ _ ?_ (fun hHeld => ?_)
            · exact HS.out _ hB'
            clear hK K
            (try simp only [Act.put, List.setIfInBounds_toArray, List.set_cons_zero, List.set_cons_succ])
            have hcap2 := own_cap hown2
            have hown3 : wb.ownsRow w1.heap.size 34 3 (.slice (some ⟨g, 0, none⟩) (l.length + 1) cap') (l.length + 1) (l.flatMap evE ++ [.int .i64 ev.at', .int .i64 ev.kind, .int .i64 ev.n]) := by simpa using hown2
            have RA : RdL wb wb.heap.size evE 3 (some ⟨g, 0, none⟩) (l ++ [ev]) := RdL.of_own evE_len (by rw [← flat_snoc]; exact hown3) (by simp)
            (first | (refine wpAnyH_take (i := 6) (oi := ⟨_, _, _, _, _, _⟩) (v := ?_) rfl (by kernel_rfl) (by kernel_rfl) (by kernel_rfl) (fun _ _ _ h => h) (Or.inl ⟨by rfl, ?_⟩) (by assumption) ?_; rotate_left 1; (· (intro w0 hSw; (try dsimp only at hSw); go_simp; (try with_reducible rfl)))) | (refine wpAnyH_take (i := 6) (oi := ⟨_, _, _, _, _, _⟩) (v := undef) rfl (by kernel_rfl) (by kernel_rfl) (by kernel_rfl) (fun _ _ _ h => h) (Or.inr ⟨by rfl, rfl⟩) (by assumption) ?_)); (try simp only [Act.put, List.setIfInBounds_toArray, List.set_cons_zero, List.set_cons_succ])
            refine wpAnyH_done (by kernel_rfl) ?_ _
            go_wp2_with fail
            have hb9 := hHeld.2.2.2
            have q0_0 : wb.cell? ⟨w.heap.size, 0, none⟩ = some (.int .i64 x.noon) := keep_cell hb9 (by simp [go_sem, *]); have q0_1 : wb.cell? ⟨w.heap.size, 1, none⟩ = some (.int .i64 x.half) := keep_cell hb9 (by simp [go_sem, *]); have q0_2 : wb.cell? ⟨w.heap.size, 2, none⟩ = some (.int .i64 x.full) := keep_cell hb9 (by simp [go_sem, *]); have q0_3 : wb.cell? ⟨w.heap.size, 3, none⟩ = some (.int .i64 x.late) := keep_cell hb9 (by simp [go_sem, *]); have q0_4 : wb.cell? ⟨w.heap.size, 4, none⟩ = some (.int .i64 x.again) := keep_cell hb9 (by simp [go_sem, *]); have q0_5 : wb.cell? ⟨w.heap.size, 5, none⟩ = some (.int .i64 x.wind) := keep_cell hb9 (by simp [go_sem, *]); have p0 : w.heap.size < wb.heap.size := cell?_lt q0_0; have q1_0 : wb.cell? ⟨w.heap.size + 1, 0, none⟩ = some (.int .i64 ev.at') := keep_cell hb9 (by simp [go_sem, *]); have q1_1 : wb.cell? ⟨w.heap.size + 1, 1, none⟩ = some (.int .i64 ev.kind) := keep_cell hb9 (by simp [go_sem, *]); have q1_2 : wb.cell? ⟨w.heap.size + 1, 2, none⟩ = some (.int .i64 ev.n) := keep_cell hb9 (by simp [go_sem, *]); have p1 : w.heap.size + 1 < wb.heap.size := cell?_lt q1_0
            go_meet; exact ⟨⟨g, cap', by simp, by omega, hcap2.2, RA⟩, (by simp [go_sem, *]), (by simp [go_sem, *]), (by simp [go_sem, *]), (by simp [go_sem, *]), (by simp [go_sem, *]), (by simp [go_sem, *]), (by simp [go_sem, *]), (by simp [go_sem, *]), (by simp [go_sem, *]), by (repeat (first | exact Below.refl _ _ | refine Below.drew ?_ | refine Below.allocS ?_ _ | refine Below.step ?_ (by assumption) | refine Below.setCell ?_ (by simp <;> omega) _ | refine Below.drewN' ?_ _))⟩
          refine AllReadyH.cons (o := ⟨_, _, _, _, _, _⟩) rfl (fun K hK => ?_) AllReadyH.nil
          go_simp
          have hB' := Below.allocS ((fun (h : _ ∧ _ ∧ _ ∧ Below w1.heap.size w1 _) => h.2.2.2) (by assumption)) (.cells #[.int .i64 ev.at', .int .i64 ev.kind, .int .i64 ev.n] 34)
          refine hK.out _ _ ?_ (fun hHeld => ?_)
          · exact HS.out _ hB'
          clear hK K
          (try simp only [Act.put, List.setIfInBounds_toArray, List.set_cons_zero, List.set_cons_succ])
          have NW1 := new_cells ((w1).alloc (.cells #[] 34)) (w1.heap.size + 1) [.int .i64 ev.at', .int .i64 ev.kind, .int .i64 ev.n] 34 (by simp)
          have OW1 := OW0.alloc (.cells #[.int .i64 ev.at', .int .i64 ev.kind, .int .i64 ev.n] 34)
          refine wpAnyH_ready (rs := [2]) (by kernel_rfl) (by simp) ?_
          refine AllReadyH.cons (o := ⟨_, _, _, _, _, _⟩) rfl (fun K hK => ?_) AllReadyH.nil
          refine step_append_own rfl (.tmp 24) (.tmp 25) 24 rfl w1.heap.size 34 i0 (.agg #[.int .i64 0, .int .i64 0, .int .i64 0]) 3 24 (by kernel_rfl) hi hz0 hz1 hz2 rfl (by decide) _ 0 [] rfl OW1 ad l.length cap (l.flatMap evE) rfl (flat_len evE 3 evE_len l) (fun j u hu => (HR1.out.olds evE_len (by decide) ((fun (h : _ ∧ _ ∧ _ ∧ Below w1.heap.size w1 _) => h.2.2.2) (by assumption))) ad rfl j u hu) (one_flat l) (by unfold maxLen; omega) (by omega) ((fun (h : _ ∧ _ ∧ _ ∧ Below w1.heap.size w1 _) => h.2.2.2) (by assumption)).size ?_
          intro v1 wa hown1 hgrow1
          have hB' := Below.grown ((fun (h : _ ∧ _ ∧ _ ∧ Below w1.heap.size w1 _) => h.2.2.2) (by assumption)) hgrow1 ((fun (h : _ ∧ _ ∧ _ ∧ Below w1.heap.size w1 _) => h.2.2.2) (by assumption)).size (own_from OW1)
          refine hK.out _ _ ?_ (fun hHeld => ?_)
          · exact HS.out _ hB'
          clear hK K
          (try simp only [Act.put, List.setIfInBounds_toArray, List.set_cons_zero, List.set_cons_succ])
          have OX := hown1
          have NW2 := fun j u hu => keep_grown hgrow1 (fun k hk => by have h : some (w1.heap.size) = some k := hk; injection h with h; rw [add_block, ← h]; show w1.heap.size + 1 ≠ w1.heap.size; omega) (NW1 j u hu)
          refine wpAnyH_ready (rs := [5]) (by kernel_rfl) (by simp) ?_
          refine AllReadyH.cons (o := ⟨_, _, _, _, _, _⟩) rfl (fun K hK => ?_) AllReadyH.nil
          refine step_append_own rfl (.tmp 26) (.tmp 28) 24 rfl w1.heap.size 34 i0 (.agg #[.int .i64 0, .int .i64 0, .int .i64 0]) 3 24 (by kernel_rfl) hi hz0 hz1 hz2 rfl (by decide) _ (0 + l.length) _ rfl OX ⟨w1.heap.size + 1, 0, none⟩ 1 1 [.int .i64 ev.at', .int .i64 ev.kind, .int .i64 ev.n] rfl rfl NW2 (by simp [Value.oneCell']) (by unfold maxLen; omega) (by omega) ((fun (h : _ ∧ _ ∧ _ ∧ Below w1.heap.size w1 _) => h.2.2.2) (by assumption)).size ?_
          intro v2 wb hown2 hgrow2
          obtain ⟨g, cap', rfl⟩ := ownsRow_succ hown2
          have hB' := Below.grown ((fun (h : _ ∧ _ ∧ _ ∧ Below w1.heap.size w1 _) => h.2.2.2) (by assumption)) hgrow2 ((fun (h : _ ∧ _ ∧ _ ∧ Below w1.heap.size w1 _) => h.2.2.2) (by assumption)).size (own_from OX)
          refine hK.out _ _ ?_ (fun hHeld => ?_)
          · exact HS.out _ hB'
          clear hK K
          (try simp only [Act.put, List.setIfInBounds_toArray, List.set_cons_zero, List.set_cons_succ])
          have hcap2 := own_cap hown2
          have hown3 : wb.ownsRow w1.heap.size 34 3 (.slice (some ⟨g, 0, none⟩) (l.length + 1) cap') (l.length + 1) (l.flatMap evE ++ [.int .i64 ev.at', .int .i64 ev.kind, .int .i64 ev.n]) := by simpa using hown2
          have RA : RdL wb wb.heap.size evE 3 (some ⟨g, 0, none⟩) (l ++ [ev]) := RdL.of_own evE_len (by rw [← flat_snoc]; exact hown3) (by simp)
          (first | (refine wpAnyH_take (i := 6) (oi := ⟨_, _, _, _, _, _⟩) (v := ?_) rfl (by kernel_rfl) (by kernel_rfl) (by kernel_rfl) (fun _ _ _ h => h) (Or.inl ⟨by rfl, ?_⟩) (by assumption) ?_; rotate_left 1; (· (intro w0 hSw; (try dsimp only at hSw); go_simp; (try with_reducible rfl)))) | (refine wpAnyH_take (i := 6) (oi := ⟨_, _, _, _, _, _⟩) (v := undef) rfl (by kernel_rfl) (by kernel_rfl) (by kernel_rfl) (fun _ _ _ h => h) (Or.inr ⟨by rfl, rfl⟩) (by assumption) ?_)); (try simp only [Act.put, List.setIfInBounds_toArray, List.set_cons_zero, List.set_cons_succ])
          refine wpAnyH_done (by kernel_rfl) ?_ _
          go_wp2_with fail
          have hb9 := hHeld.2.2.2
          have q0_0 : wb.cell? ⟨w.heap.size, 0, none⟩ = some (.int .i64 x.noon) := keep_cell hb9 (by simp [go_sem, *]); have q0_1 : wb.cell? ⟨w.heap.size, 1, none⟩ = some (.int .i64 x.half) := keep_cell hb9 (by simp [go_sem, *]); have q0_2 : wb.cell? ⟨w.heap.size, 2, none⟩ = some (.int .i64 x.full) := keep_cell hb9 (by simp [go_sem, *]); have q0_3 : wb.cell? ⟨w.heap.size, 3, none⟩ = some (.int .i64 x.late) := keep_cell hb9 (by simp [go_sem, *]); have q0_4 : wb.cell? ⟨w.heap.size, 4, none⟩ = some (.int .i64 x.again) := keep_cell hb9 (by simp [go_sem, *]); have q0_5 : wb.cell? ⟨w.heap.size, 5, none⟩ = some (.int .i64 x.wind) := keep_cell hb9 (by simp [go_sem, *]); have p0 : w.heap.size < wb.heap.size := cell?_lt q0_0; have q1_0 : wb.cell? ⟨w.heap.size + 1, 0, none⟩ = some (.int .i64 ev.at') := keep_cell hb9 (by simp [go_sem, *]); have q1_1 : wb.cell? ⟨w.heap.size + 1, 1, none⟩ = some (.int .i64 ev.kind) := keep_cell hb9 (by simp [go_sem, *]); have q1_2 : wb.cell? ⟨w.heap.size + 1, 2, none⟩ = some (.int .i64 ev.n) := keep_cell hb9 (by simp [go_sem, *]); have p1 : w.heap.size + 1 < wb.heap.size := cell?_lt q1_0
          go_meet; exact ⟨⟨g, cap', by simp, by omega, hcap2.2, RA⟩, (by simp [go_sem, *]), (by simp [go_sem, *]), (by simp [go_sem, *]), (by simp [go_sem, *]), (by simp [go_sem, *]), (by simp [go_sem, *]), (by simp [go_sem, *]), (by simp [go_sem, *]), (by simp [go_sem, *]), by (repeat (first | exact Below.refl _ _ | refine Below.drew ?_ | refine Below.allocS ?_ _ | refine Below.step ?_ (by assumption) | refine Below.setCell ?_ (by simp <;> omega) _ | refine Below.drewN' ?_ _))⟩
        refine AllReadyH.cons (o := ⟨_, _, _, _, _, _⟩) rfl (fun K hK => ?_) AllReadyH.nil
        go_simp
        have hB' := Below.allocS ((fun (h : _ ∧ _ ∧ _ ∧ Below w1.heap.size w1 _) => h.2.2.2) (by assumption)) (.cells #[.int .i64 ev.at', .int .i64 ev.kind, .int .i64 ev.n] 34)
        refine hK.out _ _ ?_ (fun hHeld => ?_)
        · exact HS.out _ hB'
        clear hK K
        (try simp only [Act.put, List.setIfInBounds_toArray, List.set_cons_zero, List.set_cons_succ])
        have NW0 := new_cells (w1) (w1.heap.size) [.int .i64 ev.at', .int .i64 ev.kind, .int .i64 ev.n] 34 (by simp)
        refine wpAnyH_ready (rs := [0]) (by kernel_rfl) (by simp) ?_
        refine AllReadyH.cons (o := ⟨_, _, _, _, _, _⟩) rfl (fun K hK => ?_) AllReadyH.nil
        go_simp
        have hB' := Below.allocS ((fun (h : _ ∧ _ ∧ _ ∧ Below w1.heap.size w1 _) => h.2.2.2) (by assumption)) (.cells #[] 34)
        refine hK.out _ _ ?_ (fun hHeld => ?_)
        · exact HS.out _ hB'
        clear hK K
        (try simp only [Act.put, List.setIfInBounds_toArray, List.set_cons_zero, List.set_cons_succ])
        have OW1 := own0 ((w1).alloc (.cells #[.int .i64 ev.at', .int .i64 ev.kind, .int .i64 ev.n] 34)) w1.heap.size (w1.heap.size + 1) (by simp) (by simp)
        have NW1 := fun j u hu => keep_cell (Below.allocS (Below.refl _ ((w1).alloc (.cells #[.int .i64 ev.at', .int .i64 ev.kind, .int .i64 ev.n] 34))) (.cells #[] 34)) (NW0 j u hu)
        refine wpAnyH_ready (rs := [2]) (by kernel_rfl) (by simp) ?_
        refine AllReadyH.cons (o := ⟨_, _, _, _, _, _⟩) rfl (fun K hK => ?_) AllReadyH.nil
        refine step_append_own rfl (.tmp 24) (.tmp 25) 24 rfl w1.heap.size 34 i0 (.agg #[.int .i64 0, .int .i64 0, .int .i64 0]) 3 24 (by kernel_rfl) hi hz0 hz1 hz2 rfl (by decide) _ 0 [] rfl OW1 ad l.length cap (l.flatMap evE) rfl (flat_len evE 3 evE_len l) (fun j u hu => (HR1.out.olds evE_len (by decide) ((fun (h : _ ∧ _ ∧ _ ∧ Below w1.heap.size w1 _) => h.2.2.2) (by assumption))) ad rfl j u hu) (one_flat l) (by unfold maxLen; omega) (by omega) ((fun (h : _ ∧ _ ∧ _ ∧ Below w1.heap.size w1 _) => h.2.2.2) (by assumption)).size ?_
        intro v1 wa hown1 hgrow1
        have hB' := Below.grown ((fun (h : _ ∧ _ ∧ _ ∧ Below w1.heap.size w1 _) => h.2.2.2) (by assumption)) hgrow1 ((fun (h : _ ∧ _ ∧ _ ∧ Below w1.heap.size w1 _) => h.2.2.2) (by assumption)).size (own_from OW1)
        refine hK.out _ _ ?_ (fun hHeld => ?_)
        · exact HS.out _ hB'
        clear hK K
        (try simp only [Act.put, List.setIfInBounds_toArray, List.set_cons_zero, List.set_cons_succ])
        have OX := hown1
        have NW2 := fun j u hu => keep_grown hgrow1 (fun k hk => by have h : some (w1.heap.size + 1) = some k := hk; injection h with h; rw [add_block, ← h]; show w1.heap.size ≠ w1.heap.size + 1; omega) (NW1 j u hu)
        refine wpAnyH_ready (rs := [5]) (by kernel_rfl) (by simp) ?_
        refine AllReadyH.cons (o := ⟨_, _, _, _, _, _⟩) rfl (fun K hK => ?_) AllReadyH.nil
        refine step_append_own rfl (.tmp 26) (.tmp 28) 24 rfl w1.heap.size 34 i0 (.agg #[.int .i64 0, .int .i64 0, .int .i64 0]) 3 24 (by kernel_rfl) hi hz0 hz1 hz2 rfl (by decide) _ (0 + l.length) _ rfl OX ⟨w1.heap.size, 0, none⟩ 1 1 [.int .i64 ev.at', .int .i64 ev.kind, .int .i64 ev.n] rfl rfl NW2 (by simp [Value.oneCell']) (by unfold maxLen; omega) (by omega) ((fun (h : _ ∧ _ ∧ _ ∧ Below w1.heap.size w1 _) => h.2.2.2) (by assumption)).size ?_
        intro v2 wb hown2 hgrow2
        obtain ⟨g, cap', rfl⟩ := ownsRow_succ hown2
        have hB' := Below.grown ((fun (h : _ ∧ _ ∧ _ ∧ Below w1.heap.size w1 _) => h.2.2.2) (by assumption)) hgrow2 ((fun (h : _ ∧ _ ∧ _ ∧ Below w1.heap.size w1 _) => h.2.2.2) (by assumption)).size (own_from OX)
        refine hK.out _ _ ?_ (fun hHeld => ?_)
        · exact HS.out _ hB'
        clear hK K
        (try simp only [Act.put, List.setIfInBounds_toArray, List.set_cons_zero, List.set_cons_succ])
        have hcap2 := own_cap hown2
        have hown3 : wb.ownsRow w1.heap.size 34 3 (.slice (some ⟨g, 0, none⟩) (l.length + 1) cap') (l.length + 1) (l.flatMap evE ++ [.int .i64 ev.at', .int .i64 ev.kind, .int .i64 ev.n]) := by simpa using hown2
        have RA : RdL wb wb.heap.size evE 3 (some ⟨g, 0, none⟩) (l ++ [ev]) := RdL.of_own evE_len (by rw [← flat_snoc]; exact hown3) (by simp)
        (first | (refine wpAnyH_take (i := 6) (oi := ⟨_, _, _, _, _, _⟩) (v := ?_) rfl (by kernel_rfl) (by kernel_rfl) (by kernel_rfl) (fun _ _ _ h => h) (Or.inl ⟨by rfl, ?_⟩) (by assumption) ?_; rotate_left 1; (· (intro w0 hSw; (try dsimp only at hSw); go_simp; (try with_reducible rfl)))) | (refine wpAnyH_take (i := 6) (oi := ⟨_, _, _, _, _, _⟩) (v := undef) rfl (by kernel_rfl) (by kernel_rfl) (by kernel_rfl) (fun _ _ _ h => h) (Or.inr ⟨by rfl, rfl⟩) (by assumption) ?_)); (try simp only [Act.put, List.setIfInBounds_toArray, List.set_cons_zero, List.set_cons_succ])
        refine wpAnyH_done (by kernel_rfl) ?_ _
        go_wp2_with fail
        have hb9 := hHeld.2.2.2
        have q0_0 : wb.cell? ⟨w.heap.size, 0, none⟩ = some (.int .i64 x.noon) := keep_cell hb9 (by simp [go_sem, *]); have q0_1 : wb.cell? ⟨w.heap.size, 1, none⟩ = some (.int .i64 x.half) := keep_cell hb9 (by simp [go_sem, *]); have q0_2 : wb.cell? ⟨w.heap.size, 2, none⟩ = some (.int .i64 x.full) := keep_cell hb9 (by simp [go_sem, *]); have q0_3 : wb.cell? ⟨w.heap.size, 3, none⟩ = some (.int .i64 x.late) := keep_cell hb9 (by simp [go_sem, *]); have q0_4 : wb.cell? ⟨w.heap.size, 4, none⟩ = some (.int .i64 x.again) := keep_cell hb9 (by simp [go_sem, *]); have q0_5 : wb.cell? ⟨w.heap.size, 5, none⟩ = some (.int .i64 x.wind) := keep_cell hb9 (by simp [go_sem, *]); have p0 : w.heap.size < wb.heap.size := cell?_lt q0_0; have q1_0 : wb.cell? ⟨w.heap.size + 1, 0, none⟩ = some (.int .i64 ev.at') := keep_cell hb9 (by simp [go_sem, *]); have q1_1 : wb.cell? ⟨w.heap.size + 1, 1, none⟩ = some (.int .i64 ev.kind) := keep_cell hb9 (by simp [go_sem, *]); have q1_2 : wb.cell? ⟨w.heap.size + 1, 2, none⟩ = some (.int .i64 ev.n) := keep_cell hb9 (by simp [go_sem, *]); have p1 : w.heap.size + 1 < wb.heap.size := cell?_lt q1_0
        go_meet; exact ⟨⟨g, cap', by simp, by omega, hcap2.2, RA⟩, (by simp [go_sem, *]), (by simp [go_sem, *]), (by simp [go_sem, *]), (by simp [go_sem, *]), (by simp [go_sem, *]), (by simp [go_sem, *]), (by simp [go_sem, *]), (by simp [go_sem, *]), (by simp [go_sem, *]), by (repeat (first | exact Below.refl _ _ | refine Below.drew ?_ | refine Below.allocS ?_ _ | refine Below.step ?_ (by assumption) | refine Below.setCell ?_ (by simp <;> omega) _ | refine Below.drewN' ?_ _))⟩
    case rest =>
      clear g1 x1_0_0 x1_0_1 x1_0_2 x1_0_3 x1_0_4 x1_0_5 x1_1_0 x1_1_1 x1_1_2 y1_0 y1_1
      obtain ⟨c2, x2_0_0, x2_0_1, x2_0_2, x2_0_3, x2_0_4, x2_0_5, x2_1_0, x2_1_1, x2_1_2, g2⟩ := hcut
      have y2_0 : w.heap.size < wc.heap.size := cell?_lt x2_0_0
      have y2_1 : w.heap.size + 1 < wc.heap.size := cell?_lt x2_1_0
      obtain ⟨g, cap', rfl, hc1, hc2, hRA⟩ := c2
      have HQ := Lib.hid (H2.out (some ⟨g, 0, none⟩) cap' wc hc1 hc2 hRA)
      clear hRA
      go_wp2_with fail
      refine (HQ.out).mono ?_
      rintro e w3 ⟨rfl, hb3⟩
      have x3_0_0 : w3.cell? ⟨w.heap.size, 0, none⟩ = some (.int .i64 x.noon) := keep_cell hb3 (by simp [go_sem, *])
      have x3_0_1 : w3.cell? ⟨w.heap.size, 1, none⟩ = some (.int .i64 x.half) := keep_cell hb3 (by simp [go_sem, *])
      have x3_0_2 : w3.cell? ⟨w.heap.size, 2, none⟩ = some (.int .i64 x.full) := keep_cell hb3 (by simp [go_sem, *])
      have x3_0_3 : w3.cell? ⟨w.heap.size, 3, none⟩ = some (.int .i64 x.late) := keep_cell hb3 (by simp [go_sem, *])
      have x3_0_4 : w3.cell? ⟨w.heap.size, 4, none⟩ = some (.int .i64 x.again) := keep_cell hb3 (by simp [go_sem, *])
      have x3_0_5 : w3.cell? ⟨w.heap.size, 5, none⟩ = some (.int .i64 x.wind) := keep_cell hb3 (by simp [go_sem, *])
      have y3_0 : w.heap.size < w3.heap.size := cell?_lt x3_0_0
      have x3_1_0 : w3.cell? ⟨w.heap.size + 1, 0, none⟩ = some (.int .i64 ev.at') := keep_cell hb3 (by simp [go_sem, *])
      have x3_1_1 : w3.cell? ⟨w.heap.size + 1, 1, none⟩ = some (.int .i64 ev.kind) := keep_cell hb3 (by simp [go_sem, *])
      have x3_1_2 : w3.cell? ⟨w.heap.size + 1, 2, none⟩ = some (.int .i64 ev.n) := keep_cell hb3 (by simp [go_sem, *])
      have y3_1 : w.heap.size + 1 < w3.heap.size := cell?_lt x3_1_0
      have g3 : Below w.heap.size w w3 := by (repeat (first | exact Below.refl _ _ | refine Below.drew ?_ | refine Below.allocS ?_ _ | refine Below.step ?_ (by assumption) | refine Below.setCell ?_ (by simp <;> omega) _ | refine Below.drewN' ?_ _))
      clear hb3 g2 x2_0_0 x2_0_1 x2_0_2 x2_0_3 x2_0_4 x2_0_5 x2_1_0 x2_1_1 x2_1_2 y2_0 y2_1
      by_cases hbe : be = 0
      · subst hbe
        obtain rfl : bv = b := HW.out rfl
        obtain ⟨u1, u2⟩ := HU.out
        by_cases hk6 : ev.kind = 6
        · obtain ⟨v2, v5, v3⟩ := u1 hk6
          have hk : (ev.kind == 6) = true := by simpa using hk6
          have hF1 : (bv == 2 || bv == 5) = false := by simp [v2, v5]
          by_cases hab : bv = a
          · subst hab
            have hcs : bv = 0 ∨ bv = 3 ∨ bv = 1 ∨ ((bv != 0) = true ∧ (bv != 3) = true ∧ (bv != 1) = true) := by
              by_cases q0 : bv = 0 <;> by_cases q1 : bv = 3 <;> by_cases q2 : bv = 1 <;> simp [q0, q1, q2]
            clear u1 u2 v2 v5 v3 hk6
            generalize ev.kind = kk at *
            rcases hcs with rfl | rfl | rfl | ⟨q0, q1, q2⟩
            all_goals
              go_wp2_with (first | (go_at_call 18; refine (HF.out _ _).mono ?_; rintro e w' ⟨rfl, rfl⟩; rw [hF1]) | (go_at_call 14; (with_reducible refine (awake_c _).mono ?_); rintro e w1 ⟨rfl, hb⟩; obtain ⟨hc, hf⟩ := bcell hb; have hz := hb.size; (try simp at hz); (try have hz0 : w.heap.size < w1.heap.size := by omega); (try have hz1 : w.heap.size + 1 < w1.heap.size := by omega); (try have hz2 : w.heap.size + 1 + 1 < w1.heap.size := by omega); (try have hz3 : w.heap.size + 1 + 1 + 1 < w1.heap.size := by omega); (try have hz4 : w.heap.size + 1 + 1 + 1 + 1 < w1.heap.size := by omega); (try have hz5 : w.heap.size + 1 + 1 + 1 + 1 + 1 < w1.heap.size := by omega)))
              go_ret
              exact ⟨rfl, by (repeat (first | (with_reducible exact Below.refl _ _) | (with_reducible assumption) | (with_reducible refine Below.drew ?_) | (with_reducible refine Below.allocS ?_ _) | (with_reducible refine Below.setCell ?_ ?_ _) | (with_reducible refine Below.step ?_ (by assumption)) | (with_reducible refine Below.drewN' ?_ _))); (try any_goals (first | (with_reducible assumption) | (simp; done) | (simp; omega) | omega))⟩
          · have ha25 : (a == 2 || a == 5) = true := by rcases v3 with (h | h) | h; (simp [h]); (simp [h]); exact absurd h hab
            have hc : (a != 0) = true ∧ (a != 3) = true ∧ (a != 1) = true := by rcases v3 with (h | h) | h; (subst h; decide); (subst h; decide); exact absurd h hab
            obtain ⟨q0, q1, q2⟩ := hc
            clear u1 u2 v2 v5 v3 hk6 hab
            generalize ev.kind = kk at *
            go_wp2_with (first | (go_at_call 18; refine (HF.out _ _).mono ?_; rintro e w' ⟨rfl, rfl⟩; (first | rw [hF1] | rw [ha25])) | (go_at_call 14; (with_reducible refine (awake_c _).mono ?_); rintro e w1 ⟨rfl, hb⟩; obtain ⟨hc, hf⟩ := bcell hb; have hz := hb.size; (try simp at hz); (try have hz0 : w.heap.size < w1.heap.size := by omega); (try have hz1 : w.heap.size + 1 < w1.heap.size := by omega); (try have hz2 : w.heap.size + 1 + 1 < w1.heap.size := by omega); (try have hz3 : w.heap.size + 1 + 1 + 1 < w1.heap.size := by omega); (try have hz4 : w.heap.size + 1 + 1 + 1 + 1 < w1.heap.size := by omega); (try have hz5 : w.heap.size + 1 + 1 + 1 + 1 + 1 < w1.heap.size := by omega)))
            go_ret
            exact ⟨rfl, by (repeat (first | (with_reducible exact Below.refl _ _) | (with_reducible assumption) | (with_reducible refine Below.drew ?_) | (with_reducible refine Below.allocS ?_ _) | (with_reducible refine Below.setCell ?_ ?_ _) | (with_reducible refine Below.step ?_ (by assumption)) | (with_reducible refine Below.drewN' ?_ _))); (try any_goals (first | (with_reducible assumption) | (simp; done) | (simp; omega) | omega))⟩
        · have hk : (ev.kind == 6) = false := by simpa using hk6
          have hcs : (bv = a ∧ (a = 0 ∨ a = 3 ∨ a = 1)) ∨ ((a != 0) = true ∧ (a != 3) = true ∧ (a != 1) = true) := by
            rcases u2 with ⟨q0, q1, q2⟩ | h
            · right; simp [q0, q1, q2]
            · by_cases q0 : a = 0 <;> by_cases q1 : a = 3 <;> by_cases q2 : a = 1 <;> simp [q0, q1, q2, h]
          clear u1 u2 hk6
          generalize ev.kind = kk at *
          rcases hcs with ⟨rfl, rfl | rfl | rfl⟩ | ⟨q0, q1, q2⟩
          all_goals
            go_wp2_with (go_at_call 14; (with_reducible refine (awake_c _).mono ?_); rintro e w1 ⟨rfl, hb⟩; obtain ⟨hc, hf⟩ := bcell hb; have hz := hb.size; (try simp at hz); (try have hz0 : w.heap.size < w1.heap.size := by omega); (try have hz1 : w.heap.size + 1 < w1.heap.size := by omega); (try have hz2 : w.heap.size + 1 + 1 < w1.heap.size := by omega); (try have hz3 : w.heap.size + 1 + 1 + 1 < w1.heap.size := by omega); (try have hz4 : w.heap.size + 1 + 1 + 1 + 1 < w1.heap.size := by omega); (try have hz5 : w.heap.size + 1 + 1 + 1 + 1 + 1 < w1.heap.size := by omega))
            go_ret
            exact ⟨rfl, by (repeat (first | (with_reducible exact Below.refl _ _) | (with_reducible assumption) | (with_reducible refine Below.drew ?_) | (with_reducible refine Below.allocS ?_ _) | (with_reducible refine Below.setCell ?_ ?_ _) | (with_reducible refine Below.step ?_ (by assumption)) | (with_reducible refine Below.drewN' ?_ _))); (try any_goals (first | (with_reducible assumption) | (simp; done) | (simp; omega) | omega))⟩
      · have hbb : (be != 0) = true := by simpa using hbe
        go_wp2_with (go_at_call 14; (with_reducible refine (awake_c _).mono ?_); rintro e w1 ⟨rfl, hb⟩; obtain ⟨hc, hf⟩ := bcell hb; have hz := hb.size; (try simp at hz); (try have hz0 : w.heap.size < w1.heap.size := by omega); (try have hz1 : w.heap.size + 1 < w1.heap.size := by omega); (try have hz2 : w.heap.size + 1 + 1 < w1.heap.size := by omega); (try have hz3 : w.heap.size + 1 + 1 + 1 < w1.heap.size := by omega); (try have hz4 : w.heap.size + 1 + 1 + 1 + 1 < w1.heap.size := by omega); (try have hz5 : w.heap.size + 1 + 1 + 1 + 1 + 1 < w1.heap.size := by omega))
        go_ret
        exact ⟨rfl, by (repeat (first | (with_reducible exact Below.refl _ _) | (with_reducible assumption) | (with_reducible refine Below.drew ?_) | (with_reducible refine Below.allocS ?_ _) | (with_reducible refine Below.setCell ?_ ?_ _) | (with_reducible refine Below.step ?_ (by assumption)) | (with_reducible refine Below.drewN' ?_ _))); (try any_goals (first | (with_reducible assumption) | (simp; done) | (simp; omega) | omega))⟩
  · generalize vdV x l = a at *
    generalize vdE x l = E at *
    have hb : (E != 0) = true := by simpa using he
    unfold msV evV at *
    go_enter Try.func4, Try.ntmps4
    go_wp2_with fail
    refine (long_c _ _ _ hl _).mono ?_
    rintro e w' ⟨rfl, rfl⟩
    go_wp2_with fail
    refine (H1.out _ (by (repeat (first | (with_reducible exact Below.refl _ _) | (with_reducible assumption) | (with_reducible refine Below.drew ?_) | (with_reducible refine Below.allocS ?_ _) | (with_reducible refine Below.setCell ?_ ?_ _) | (with_reducible refine Below.step ?_ (by assumption)) | (with_reducible refine Below.drewN' ?_ _))); (try any_goals (first | (with_reducible assumption) | (simp; done) | (simp; omega) | omega)))).mono ?_
    rintro e w1 ⟨rfl, hb1⟩
    have x1_0_0 : w1.cell? ⟨w.heap.size, 0, none⟩ = some (.int .i64 x.noon) := keep_cell hb1 (by simp [go_sem, *])
    have x1_0_1 : w1.cell? ⟨w.heap.size, 1, none⟩ = some (.int .i64 x.half) := keep_cell hb1 (by simp [go_sem, *])
    have x1_0_2 : w1.cell? ⟨w.heap.size, 2, none⟩ = some (.int .i64 x.full) := keep_cell hb1 (by simp [go_sem, *])
    have x1_0_3 : w1.cell? ⟨w.heap.size, 3, none⟩ = some (.int .i64 x.late) := keep_cell hb1 (by simp [go_sem, *])
    have x1_0_4 : w1.cell? ⟨w.heap.size, 4, none⟩ = some (.int .i64 x.again) := keep_cell hb1 (by simp [go_sem, *])
    have x1_0_5 : w1.cell? ⟨w.heap.size, 5, none⟩ = some (.int .i64 x.wind) := keep_cell hb1 (by simp [go_sem, *])
    have y1_0 : w.heap.size < w1.heap.size := cell?_lt x1_0_0
    have x1_1_0 : w1.cell? ⟨w.heap.size + 1, 0, none⟩ = some (.int .i64 ev.at') := keep_cell hb1 (by simp [go_sem, *])
    have x1_1_1 : w1.cell? ⟨w.heap.size + 1, 1, none⟩ = some (.int .i64 ev.kind) := keep_cell hb1 (by simp [go_sem, *])
    have x1_1_2 : w1.cell? ⟨w.heap.size + 1, 2, none⟩ = some (.int .i64 ev.n) := keep_cell hb1 (by simp [go_sem, *])
    have y1_1 : w.heap.size + 1 < w1.heap.size := cell?_lt x1_1_0
    have g1 : Below w.heap.size w w1 := by (repeat (first | exact Below.refl _ _ | refine Below.drew ?_ | refine Below.allocS ?_ _ | refine Below.step ?_ (by assumption) | refine Below.setCell ?_ (by simp <;> omega) _ | refine Below.drewN' ?_ _))
    clear hb1
    go_wp2_with (go_at_call 14; (with_reducible refine (awake_c _).mono ?_); rintro e w1 ⟨rfl, hb⟩; obtain ⟨hc, hf⟩ := bcell hb; have hz := hb.size; (try simp at hz); (try have hz0 : w.heap.size < w1.heap.size := by omega); (try have hz1 : w.heap.size + 1 < w1.heap.size := by omega); (try have hz2 : w.heap.size + 1 + 1 < w1.heap.size := by omega); (try have hz3 : w.heap.size + 1 + 1 + 1 < w1.heap.size := by omega); (try have hz4 : w.heap.size + 1 + 1 + 1 + 1 < w1.heap.size := by omega); (try have hz5 : w.heap.size + 1 + 1 + 1 + 1 + 1 < w1.heap.size := by omega))
    go_ret
    exact ⟨rfl, by (repeat (first | (with_reducible exact Below.refl _ _) | (with_reducible assumption) | (with_reducible refine Below.drew ?_) | (with_reducible refine Below.allocS ?_ _) | (with_reducible refine Below.setCell ?_ ?_ _) | (with_reducible refine Below.step ?_ (by assumption)) | (with_reducible refine Below.drewN' ?_ _))); (try any_goals (first | (with_reducible assumption) | (simp; done) | (simp; omega) | omega))⟩
theorem BallUnsays_walk (w : World) (a b c d e f : Int) (A1 : Option Addr) (c1 : Nat) (l1 : List Ev) (t k n : Int) (w0_0 : I64 a) (w0_1 : I64 b) (w0_2 : I64 c) (w0_3 : I64 d) (w0_4 : I64 e) (w0_5 : I64 f) (n1 : l1.length ≤ c1) (m1 : c1 ≤ maxLen) (r1 : RdL w w.heap.size evE 3 A1 l1) (w1 : ∀ x ∈ l1, ∃ g : Nat → Int, x = (fun g => (⟨g 0, g 1, g 2⟩ : Ev)) g ∧ ∀ j, j < 3 → I64 (g j)) (z1 : A1 = none → c1 = 0) (w2_0 : I64 t) (w2_1 : I64 k) (w2_2 : I64 n) :
    Calls Try.prog 4 #[.agg #[.int .i64 a, .int .i64 b, .int .i64 c, .int .i64 d, .int .i64 e, .int .i64 f], .slice A1 l1.length c1, .agg #[.int .i64 t, .int .i64 k, .int .i64 n]] w fun e w' => e = .returned (.bool true) ∧ Below w.heap.size w w' :=
  BallUnsays_w ⟨a, b, c, d, e, f⟩ l1 A1 c1 n1 m1 z1 (by unfold maxLen at m1; omega) ⟨t, k, n⟩ w r1
end Go.Proofs.Ytcdohibphhbllaa
