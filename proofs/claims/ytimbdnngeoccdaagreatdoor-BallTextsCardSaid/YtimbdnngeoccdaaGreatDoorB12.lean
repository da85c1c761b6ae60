/-
  The document's example of ball: Mast, Plan, and awake.
-/
import Derived.Test.YtimbdnngeoccdaaGreatDoorB9
import Derived.Test.YtimbdnngeoccdaaGreatDoorB11
import Derived.Test.YtimbdnngeoccdaaGreatDoorRow
import Derived.Deep.RegionLaw
namespace Go.Proofs.YtimbdnngeoccdaaGreatDoor
open Go.RowKit Go.Deep
set_option linter.unusedVariables false

theorem evI : (Tryz.prog.info? 44).map (fun i => (i.zero, i.size, i.bytes)) = some (some (.agg #[.int .i64 0, .int .i64 0, .int .i64 0]), 3, 24) := by kernel_rfl
theorem evE_len (x : Ev) : (evE x).length = 3 := rfl
theorem own_cap {w : World} {base : Nat} {e : TypeId} {size g n cap : Nat} {xs : List Value} (h : w.ownsRow base e size (.slice (some ⟨g, 0, none⟩) (n + 1) cap) (n + 1) xs) : n + 1 ≤ cap ∧ cap ≤ maxLen := by
  obtain ⟨-, ⟨h1, h2⟩ | ⟨g', cap', cur, hv, -, -, h1, h2, -⟩⟩ := h
  · omega
  · injection hv with _ _ h3; subst h3; exact ⟨h1, h2⟩
def m0 : Ms := ⟨43200000, 300000, 120000, 200, 3600000, 60⟩
theorem Mast_c (w : World) : Calls Tryz.prog 21 #[] w fun e w' => e = .returned (msV m0) ∧ Below w.heap.size w w' := by
  unfold msV m0
  go_enter Tryz.func21, Tryz.ntmps21
  go_wp2
  refine bodyPost_ret (v := .agg #[.int .i64 43200000, .int .i64 300000, .int .i64 120000, .int .i64 200, .int .i64 3600000, .int .i64 60]) (by simp [results, Tryz.results21, go_sem, *] <;> (repeat' apply And.intro) <;> rfl) rfl ⟨rfl, ?_⟩
  (repeat (first | exact Below.refl _ _ | refine Below.drew ?_ | refine Below.allocS ?_ _ | refine Below.step ?_ (by assumption) | refine Below.setCell ?_ (by simp <;> omega) _ | refine Below.drewN' ?_ _))
def planL (x : Ms) : List Ev := [⟨x.noon - x.half, 2, 0⟩, ⟨x.noon - x.full, 3, 0⟩, ⟨x.noon, 4, 0⟩]
/-- A new list of events is handed back. -/
def Made (w : World) (l : List Ev) (e : Ending) (w' : World) : Prop := ∃ B : Nat, e = .returned (.tuple #[.slice (some ⟨B, 0, none⟩) l.length l.length, .int .i64 0]) ∧ w'.ownsRow w.heap.size 44 3 (.slice (some ⟨B, 0, none⟩) l.length l.length) l.length (l.flatMap evE) ∧ Below w.heap.size w w'
theorem Plan_c (x : Ms) (ho : okMast x = true) (w : World) : Calls Tryz.prog 20 #[msV x] w (Made w (planL x)) := by
  have HV := Lib.hid (fun W => validMast_c x W)
  rw [ho] at HV
  obtain ⟨n0, n1, f0, fh, h1, hn', l0, l1, a0, a1, na, w0, w1⟩ := okMast_true ho
  unfold msV at *
  clear ho
  go_enter Tryz.func20, Tryz.ntmps20
  go_wp2_with fail
  refine (HV.out _).mono ?_
  rintro e w1 ⟨rfl, hb1⟩
  have x1_0_0 : w1.cell? ⟨w.heap.size, 0, none⟩ = some (.int .i64 x.noon) := keep_cell hb1 (by simp [go_sem, *])
  have x1_0_1 : w1.cell? ⟨w.heap.size, 1, none⟩ = some (.int .i64 x.half) := keep_cell hb1 (by simp [go_sem, *])
  have x1_0_2 : w1.cell? ⟨w.heap.size, 2, none⟩ = some (.int .i64 x.full) := keep_cell hb1 (by simp [go_sem, *])
  have x1_0_3 : w1.cell? ⟨w.heap.size, 3, none⟩ = some (.int .i64 x.late) := keep_cell hb1 (by simp [go_sem, *])
  have x1_0_4 : w1.cell? ⟨w.heap.size, 4, none⟩ = some (.int .i64 x.again) := keep_cell hb1 (by simp [go_sem, *])
  have x1_0_5 : w1.cell? ⟨w.heap.size, 5, none⟩ = some (.int .i64 x.wind) := keep_cell hb1 (by simp [go_sem, *])
  have y1_0 : w.heap.size < w1.heap.size := cell?_lt x1_0_0
  have g1 : Below w.heap.size w w1 := by (repeat (first | exact Below.refl _ _ | refine Below.drew ?_ | refine Below.allocS ?_ _ | refine Below.step ?_ (by assumption) | refine Below.setCell ?_ (by simp <;> omega) _ | refine Below.drewN' ?_ _))
  clear hb1
  go_wp2
  go_ret2
  have hle : w.heap.size ≤ w1.heap.size := by omega
  exact ⟨w1.heap.size, rfl, ⟨rfl, .inr ⟨_, _, _, rfl, hle, World.alloc_heap_new _ _, Nat.le_refl _, (by show 3 ≤ maxLen; unfold maxLen; omega), rfl, rfl⟩⟩, by (repeat (first | (with_reducible exact Below.refl _ _) | (with_reducible assumption) | (with_reducible refine Below.drew ?_) | (with_reducible refine Below.allocS ?_ _) | (with_reducible refine Below.setCell ?_ ?_ _) | (with_reducible refine Below.step ?_ (by assumption)) | (with_reducible refine Below.drewN' ?_ _))); (try any_goals (first | (with_reducible assumption) | (simp; done) | (simp; omega) | omega))⟩
theorem Plan_no (x : Ms) (ho : okMast x = false) (w : World) : Calls Tryz.prog 20 #[msV x] w fun e w' => e = .returned (.tuple #[.slice none 0 0, .int .i64 1]) ∧ Below w.heap.size w w' := by
  have HV := Lib.hid (fun W => validMast_c x W)
  rw [ho] at HV
  unfold msV at *
  clear ho
  go_enter Tryz.func20, Tryz.ntmps20
  go_wp2_with fail
  refine (HV.out _).mono ?_
  rintro e w1 ⟨rfl, hb1⟩
  have x1_0_0 : w1.cell? ⟨w.heap.size, 0, none⟩ = some (.int .i64 x.noon) := keep_cell hb1 (by simp [go_sem, *])
  have x1_0_1 : w1.cell? ⟨w.heap.size, 1, none⟩ = some (.int .i64 x.half) := keep_cell hb1 (by simp [go_sem, *])
  have x1_0_2 : w1.cell? ⟨w.heap.size, 2, none⟩ = some (.int .i64 x.full) := keep_cell hb1 (by simp [go_sem, *])
  have x1_0_3 : w1.cell? ⟨w.heap.size, 3, none⟩ = some (.int .i64 x.late) := keep_cell hb1 (by simp [go_sem, *])
  have x1_0_4 : w1.cell? ⟨w.heap.size, 4, none⟩ = some (.int .i64 x.again) := keep_cell hb1 (by simp [go_sem, *])
  have x1_0_5 : w1.cell? ⟨w.heap.size, 5, none⟩ = some (.int .i64 x.wind) := keep_cell hb1 (by simp [go_sem, *])
  have y1_0 : w.heap.size < w1.heap.size := cell?_lt x1_0_0
  have g1 : Below w.heap.size w w1 := by (repeat (first | exact Below.refl _ _ | refine Below.drew ?_ | refine Below.allocS ?_ _ | refine Below.step ?_ (by assumption) | refine Below.setCell ?_ (by simp <;> omega) _ | refine Below.drewN' ?_ _))
  clear hb1
  go_wp2
  go_ret2
  exact ⟨rfl, by (repeat (first | (with_reducible exact Below.refl _ _) | (with_reducible assumption) | (with_reducible refine Below.drew ?_) | (with_reducible refine Below.allocS ?_ _) | (with_reducible refine Below.setCell ?_ ?_ _) | (with_reducible refine Below.step ?_ (by assumption)) | (with_reducible refine Below.drewN' ?_ _))); (try any_goals (first | (with_reducible assumption) | (simp; done) | (simp; omega) | omega))⟩
def l1 : List Ev := [⟨42900000, 2, 0⟩, ⟨43080000, 3, 0⟩, ⟨43200201, 4, 0⟩]
def l2 : List Ev := [⟨42900000, 2, 0⟩, ⟨43080000, 3, 0⟩, ⟨43200201, 4, 0⟩, ⟨43200201, 6, 0⟩]
theorem v1_v : vdV m0 l1 = 2 ∧ vdE m0 l1 = 0 := by decide
theorem v2_v : vdV m0 l2 = 1 ∧ vdE m0 l2 = 0 := by decide
theorem V1 (A : Option Addr) (cap : Nat) (h1 : 3 ≤ cap) (h2 : cap ≤ maxLen) (w : World) (hr : RdL w w.heap.size evE 3 A l1) :
    Calls Tryz.prog 22 #[.agg #[.int .i64 43200000, .int .i64 300000, .int .i64 120000, .int .i64 200, .int .i64 3600000, .int .i64 60], .slice A 3 cap] w fun e w' => e = .returned (.tuple #[.int .i64 2, .int .i64 0]) ∧ Below w.heap.size w w' := by
  have := Verdict_c m0 l1 A cap (by decide) h1 h2 w hr
  rwa [v1_v.1, v1_v.2] at this
theorem V2 (A : Option Addr) (cap : Nat) (h1 : 4 ≤ cap) (h2 : cap ≤ maxLen) (w : World) (hr : RdL w w.heap.size evE 3 A l2) :
    Calls Tryz.prog 22 #[.agg #[.int .i64 43200000, .int .i64 300000, .int .i64 120000, .int .i64 200, .int .i64 3600000, .int .i64 60], .slice A 4 cap] w fun e w' => e = .returned (.tuple #[.int .i64 1, .int .i64 0]) ∧ Below w.heap.size w w' := by
  have := Verdict_c m0 l2 A cap (by decide) h1 h2 w hr
  rwa [v2_v.1, v2_v.2] at this

def lw : List Rl := [⟨20, 5⟩, ⟨35, 10⟩]
theorem lw_v : lagLo lw = 40 ∧ lagHi lw = 70 ∧ lagE lw = 0 := by decide
theorem L0 (A : Option Addr) (cap : Nat) (w : World) (hr : RdL w w.heap.size rlE 2 A lw) :
    Calls Tryz.prog 23 #[.slice A 2 cap] w fun e w' => e = .returned (.tuple #[.agg #[.int .i64 40, .int .i64 70], .int .i64 0]) ∧ Below w.heap.size w w' := by
  have := Lag_c lw A cap (by decide) w hr
  rwa [lw_v.1, lw_v.2.1, lw_v.2.2] at this

set_option maxHeartbeats 2000000 in
set_option maxRecDepth 100000 in
theorem awake_c (w : World) : Calls Tryz.prog 6 #[] w fun e w' => e = .returned (.bool true) ∧ Below w.heap.size w w' := by
  obtain ⟨i0, hi, hz0, hz1, hz2⟩ := info_parts evI
  go_enter Tryz.func6, Tryz.ntmps6
  go_wp2_with fail
  refine (Mast_c _).mono ?_
  rintro e w1 ⟨rfl, hb1⟩
  have g1 : Below w.heap.size w w1 := by (repeat (first | exact Below.refl _ _ | refine Below.drew ?_ | refine Below.allocS ?_ _ | refine Below.step ?_ (by assumption) | refine Below.setCell ?_ (by simp <;> omega) _ | refine Below.drewN' ?_ _))
  clear hb1
  go_wp2_with fail
  refine (Plan_c m0 (by decide) _).mono ?_
  rintro e w2 ⟨B, rfl, hown, hb2⟩
  have hB2 : Below w.heap.size w w2 := Below.step g1 hb2
  have hlen : (planL m0).length = 3 := rfl
  rw [hlen] at hown ⊢
  have c6 : w2.cell? ⟨B, 6, none⟩ = some (.int .i64 43200000) := (hown.cellAt 6 (by decide)).trans rfl
  have f6 := hown.frozenAt 6
  have hB : w.heap.size ≤ B := by
    rcases hown.2 with ⟨h, _⟩ | ⟨g, c, cur, h, h1, _⟩
    · simp at h
    · simp only [Value.slice.injEq, Option.some.injEq, Addr.mk.injEq, and_true, true_and] at h
      obtain ⟨rfl, _⟩ := h
      exact Nat.le_trans g1.size h1
  have hown2 : (w2.setCell ⟨B, 6, none⟩ (.int .i64 43200201)).ownsRow w1.heap.size 44 3 (.slice (some ⟨B, 0, none⟩) 3 3) 3 (l1.flatMap evE) := (hown.stored 6 (.int .i64 43200201)).1
  have R2 : RdL (w2.setCell ⟨B, 6, none⟩ (.int .i64 43200201)) (w2.setCell ⟨B, 6, none⟩ (.int .i64 43200201)).heap.size evE 3 (some ⟨B, 0, none⟩) l1 := RdL.of_own (fun _ => rfl) hown2 rfl
  have HR2 := Lib.hid R2
  have hB3 := Lib.hid (Below.setCell hB2 (p := ⟨B, 6, none⟩) hB (.int .i64 43200201))
  have c6' : (w2.setCell ⟨B, 6, none⟩ (.int .i64 43200201)).cell? ⟨B, 6, none⟩ = some (.int .i64 43200201) := (hown2.cellAt 6 (by decide)).trans rfl
  have C6 := Lib.hid c6'
  clear R2 c6' hown2 hown hlen
  go_wp2_with fail
  refine (Mast_c _).mono ?_
  rintro e w3' ⟨rfl, hb3⟩
  go_wp2_with fail
  refine (V1 _ _ (by decide) (by decide) _ (HR2.out.step hb3)).mono ?_
  rintro e w3 ⟨rfl, hb4⟩
  have hB4 := Lib.hid (Below.step (Below.step hB3.out hb3) hb4)
  have HR3 := Lib.hid ((HR2.out.step hb3).step hb4)
  have c63 := keep_cell hb4 (keep_cell hb3 C6.out)
  clear c6 f6 hb3 hb4 HR2 C6 hB3 hb2 hB2 g1 hB
  have c6 := c63
  clear c63
  have R3 := HR3.out
  go_wp2_with fail
  refine wp_region_held_drew (S := (fun W => W.cell? ⟨B, 6, none⟩ = some (.int .i64 43200201) ∧ Below w3.heap.size w3 W)) (by kernel_rfl) ?_ (fun hHeld => ?_); (· exact ⟨c6, Below.drew (Below.refl _ _)⟩)
  (first | (refine wpAnyH_take (i := 1) (oi := ⟨_, _, _, _, _, _⟩) (v := ?_) rfl (by kernel_rfl) (by kernel_rfl) (by kernel_rfl) (fun _ _ _ h => h) (Or.inl ⟨by rfl, ?_⟩) (by assumption) ?_; rotate_left 1; (· (intro w0 hSw; (try dsimp only at hSw); go_simp; (try with_reducible rfl)))) | (refine wpAnyH_take (i := 1) (oi := ⟨_, _, _, _, _, _⟩) (v := undef) rfl (by kernel_rfl) (by kernel_rfl) (by kernel_rfl) (fun _ _ _ h => h) (Or.inr ⟨by rfl, rfl⟩) (by assumption) ?_)); (try simp only [Act.put, List.setIfInBounds_toArray, List.set_cons_zero, List.set_cons_succ])
  (first | (refine wpAnyH_take (i := 2) (oi := ⟨_, _, _, _, _, _⟩) (v := ?_) rfl (by kernel_rfl) (by kernel_rfl) (by kernel_rfl) (fun _ _ _ h => h) (Or.inl ⟨by rfl, ?_⟩) (by assumption) ?_; rotate_left 1; (· (intro w0 hSw; (try dsimp only at hSw); go_simp; (try with_reducible rfl)))) | (refine wpAnyH_take (i := 2) (oi := ⟨_, _, _, _, _, _⟩) (v := undef) rfl (by kernel_rfl) (by kernel_rfl) (by kernel_rfl) (fun _ _ _ h => h) (Or.inr ⟨by rfl, rfl⟩) (by assumption) ?_)); (try simp only [Act.put, List.setIfInBounds_toArray, List.set_cons_zero, List.set_cons_succ])
  (first | (refine wpAnyH_take (i := 3) (oi := ⟨_, _, _, _, _, _⟩) (v := ?_) rfl (by kernel_rfl) (by kernel_rfl) (by kernel_rfl) (fun _ _ _ h => h) (Or.inl ⟨by rfl, ?_⟩) (by assumption) ?_; rotate_left 1; (· (intro w0 hSw; (try dsimp only at hSw); go_simp; (try with_reducible rfl)))) | (refine wpAnyH_take (i := 3) (oi := ⟨_, _, _, _, _, _⟩) (v := undef) rfl (by kernel_rfl) (by kernel_rfl) (by kernel_rfl) (fun _ _ _ h => h) (Or.inr ⟨by rfl, rfl⟩) (by assumption) ?_)); (try simp only [Act.put, List.setIfInBounds_toArray, List.set_cons_zero, List.set_cons_succ])
  (first | (refine wpAnyH_take (i := 4) (oi := ⟨_, _, _, _, _, _⟩) (v := ?_) rfl (by kernel_rfl) (by kernel_rfl) (by kernel_rfl) (fun _ _ _ h => h) (Or.inl ⟨by rfl, ?_⟩) (by assumption) ?_; rotate_left 1; (· (intro w0 hSw; (try dsimp only at hSw); go_simp; (try with_reducible rfl)))) | (refine wpAnyH_take (i := 4) (oi := ⟨_, _, _, _, _, _⟩) (v := undef) rfl (by kernel_rfl) (by kernel_rfl) (by kernel_rfl) (fun _ _ _ h => h) (Or.inr ⟨by rfl, rfl⟩) (by assumption) ?_)); (try simp only [Act.put, List.setIfInBounds_toArray, List.set_cons_zero, List.set_cons_succ])
  (first | (refine wpAnyH_take (i := 5) (oi := ⟨_, _, _, _, _, _⟩) (v := ?_) rfl (by kernel_rfl) (by kernel_rfl) (by kernel_rfl) (fun _ _ _ h => h) (Or.inl ⟨by rfl, ?_⟩) (by assumption) ?_; rotate_left 1; (· (intro w0 hSw; (try dsimp only at hSw); go_simp; (try with_reducible rfl)))) | (refine wpAnyH_take (i := 5) (oi := ⟨_, _, _, _, _, _⟩) (v := undef) rfl (by kernel_rfl) (by kernel_rfl) (by kernel_rfl) (fun _ _ _ h => h) (Or.inr ⟨by rfl, rfl⟩) (by assumption) ?_)); (try simp only [Act.put, List.setIfInBounds_toArray, List.set_cons_zero, List.set_cons_succ])
  (first | (refine wpAnyH_take (i := 6) (oi := ⟨_, _, _, _, _, _⟩) (v := ?_) rfl (by kernel_rfl) (by kernel_rfl) (by kernel_rfl) (fun _ _ _ h => h) (Or.inl ⟨by rfl, ?_⟩) (by assumption) ?_; rotate_left 1; (· (intro w0 hSw; (try dsimp only at hSw); go_simp; (try with_reducible rfl)))) | (refine wpAnyH_take (i := 6) (oi := ⟨_, _, _, _, _, _⟩) (v := undef) rfl (by kernel_rfl) (by kernel_rfl) (by kernel_rfl) (fun _ _ _ h => h) (Or.inr ⟨by rfl, rfl⟩) (by assumption) ?_)); (try simp only [Act.put, List.setIfInBounds_toArray, List.set_cons_zero, List.set_cons_succ])
  refine wpAnyH_ready (rs := [0, 7]) (by kernel_rfl) (by simp) ?_
  refine AllReadyH.cons (o := ⟨_, _, _, _, _, _⟩) rfl (fun K hK => ?_) ?_
  · go_simp
    go_at_call 21; refine (Mast_c _).mono ?_; rintro e wm ⟨rfl, hbm⟩
    (try go_wp2_with fail)
    refine hK.out _ _ ?_ (fun hHeld => ?_)
    · exact And.imp (keep_cell hbm) (fun h => Below.step h hbm) (by assumption)
    clear hK K
    (try simp only [Act.put, List.setIfInBounds_toArray, List.set_cons_zero, List.set_cons_succ])
    refine wpAnyH_ready (rs := [7]) (by kernel_rfl) (by simp) ?_
    refine AllReadyH.cons (o := ⟨_, _, _, _, _, _⟩) rfl (fun K hK => ?_) AllReadyH.nil
    go_simp
    have hba := fun W => Below.allocS (Below.refl _ W) (.cells #[.int .i64 43200201, .int .i64 6, .int .i64 0] 44)
    refine hK.out _ _ ?_ (fun hHeld => ?_)
    · exact And.imp (keep_cell (hba _)) (fun h => Below.step h (hba _)) (by assumption)
    clear hK K
    (try simp only [Act.put, List.setIfInBounds_toArray, List.set_cons_zero, List.set_cons_succ])
    refine wpAnyH_ready (rs := [8]) (by kernel_rfl) (by simp) ?_
    refine AllReadyH.cons (o := ⟨_, _, _, _, _, _⟩) rfl (fun K hK => ?_) AllReadyH.nil
    refine step_append_grows rfl (.tmp 36) (.tmp 42) 22 rfl 44 i0 (.agg #[.int .i64 0, .int .i64 0, .int .i64 0]) 3 24 (by kernel_rfl) hi hz0 hz1 hz2 rfl (by decide) (some ⟨B, 0, none⟩) 3 3 (l1.flatMap evE) rfl (fun h => by cases h) (by decide) (R3.olds (fun _ => rfl) (by decide) ((fun (h : _ ∧ Below w3.heap.size w3 _) => h.2) (by assumption))) ⟨wm.heap.size, 0, none⟩ 1 1 [.int .i64 43200201, .int .i64 6, .int .i64 0] rfl rfl (new_cells _ _ [.int .i64 43200201, .int .i64 6, .int .i64 0] _ rfl) (by simp [Value.oneCell']) (by omega) (by unfold maxLen; omega) (by omega) ?_
    intro v' wa hown hgrow
    obtain ⟨g', cap', rfl⟩ := ownsRow_succ hown
    have hbg := Below.of_grow0 hgrow
    have hcap := own_cap hown
    have RA : RdL wa wa.heap.size evE 3 (some ⟨g', 0, none⟩) l2 := RdL.of_own (fun _ => rfl) hown rfl
    refine hK.out _ _ ?_ (fun hHeld => ?_)
    · exact And.imp (keep_cell hbg) (fun h => Below.step h hbg) (by assumption)
    clear hK K
    (try simp only [Act.put, List.setIfInBounds_toArray, List.set_cons_zero, List.set_cons_succ])
    refine wpAnyH_ready (rs := [9]) (by kernel_rfl) (by simp) ?_
    refine AllReadyH.cons (o := ⟨_, _, _, _, _, _⟩) rfl (fun K hK => ?_) AllReadyH.nil
    go_simp
    go_at_call 22; refine (V2 _ _ hcap.1 hcap.2 _ RA).mono ?_; rintro e wv ⟨rfl, hbv⟩
    (try go_wp2_with fail)
    refine hK.out _ _ ?_ (fun hHeld => ?_)
    · exact And.imp (keep_cell hbv) (fun h => Below.step h hbv) (by assumption)
    clear hK K
    (try simp only [Act.put, List.setIfInBounds_toArray, List.set_cons_zero, List.set_cons_succ])
    (first | (refine wpAnyH_take (i := 10) (oi := ⟨_, _, _, _, _, _⟩) (v := ?_) rfl (by kernel_rfl) (by kernel_rfl) (by kernel_rfl) (fun _ _ _ h => h) (Or.inl ⟨by rfl, ?_⟩) (by assumption) ?_; rotate_left 1; (· (intro w0 hSw; (try dsimp only at hSw); go_simp; (try with_reducible rfl)))) | (refine wpAnyH_take (i := 10) (oi := ⟨_, _, _, _, _, _⟩) (v := undef) rfl (by kernel_rfl) (by kernel_rfl) (by kernel_rfl) (fun _ _ _ h => h) (Or.inr ⟨by rfl, rfl⟩) (by assumption) ?_)); (try simp only [Act.put, List.setIfInBounds_toArray, List.set_cons_zero, List.set_cons_succ])
    (first | (refine wpAnyH_take (i := 11) (oi := ⟨_, _, _, _, _, _⟩) (v := ?_) rfl (by kernel_rfl) (by kernel_rfl) (by kernel_rfl) (fun _ _ _ h => h) (Or.inl ⟨by rfl, ?_⟩) (by assumption) ?_; rotate_left 1; (· (intro w0 hSw; (try dsimp only at hSw); go_simp; (try with_reducible rfl)))) | (refine wpAnyH_take (i := 11) (oi := ⟨_, _, _, _, _, _⟩) (v := undef) rfl (by kernel_rfl) (by kernel_rfl) (by kernel_rfl) (fun _ _ _ h => h) (Or.inr ⟨by rfl, rfl⟩) (by assumption) ?_)); (try simp only [Act.put, List.setIfInBounds_toArray, List.set_cons_zero, List.set_cons_succ])
    (first | (refine wpAnyH_take (i := 12) (oi := ⟨_, _, _, _, _, _⟩) (v := ?_) rfl (by kernel_rfl) (by kernel_rfl) (by kernel_rfl) (fun _ _ _ h => h) (Or.inl ⟨by rfl, ?_⟩) (by assumption) ?_; rotate_left 1; (· (intro w0 hSw; (try dsimp only at hSw); go_simp; (try with_reducible rfl)))) | (refine wpAnyH_take (i := 12) (oi := ⟨_, _, _, _, _, _⟩) (v := undef) rfl (by kernel_rfl) (by kernel_rfl) (by kernel_rfl) (fun _ _ _ h => h) (Or.inr ⟨by rfl, rfl⟩) (by assumption) ?_)); (try simp only [Act.put, List.setIfInBounds_toArray, List.set_cons_zero, List.set_cons_succ])
    (first | (refine wpAnyH_take (i := 13) (oi := ⟨_, _, _, _, _, _⟩) (v := ?_) rfl (by kernel_rfl) (by kernel_rfl) (by kernel_rfl) (fun _ _ _ h => h) (Or.inl ⟨by rfl, ?_⟩) (by assumption) ?_; rotate_left 1; (· (intro w0 hSw; (try dsimp only at hSw); go_simp; (try with_reducible rfl)))) | (refine wpAnyH_take (i := 13) (oi := ⟨_, _, _, _, _, _⟩) (v := undef) rfl (by kernel_rfl) (by kernel_rfl) (by kernel_rfl) (fun _ _ _ h => h) (Or.inr ⟨by rfl, rfl⟩) (by assumption) ?_)); (try simp only [Act.put, List.setIfInBounds_toArray, List.set_cons_zero, List.set_cons_succ])
    (first | (refine wpAnyH_take (i := 14) (oi := ⟨_, _, _, _, _, _⟩) (v := ?_) rfl (by kernel_rfl) (by kernel_rfl) (by kernel_rfl) (fun _ _ _ h => h) (Or.inl ⟨by rfl, ?_⟩) (by assumption) ?_; rotate_left 1; (· (intro w0 hSw; (try dsimp only at hSw); go_simp; (try with_reducible rfl)))) | (refine wpAnyH_take (i := 14) (oi := ⟨_, _, _, _, _, _⟩) (v := undef) rfl (by kernel_rfl) (by kernel_rfl) (by kernel_rfl) (fun _ _ _ h => h) (Or.inr ⟨by rfl, rfl⟩) (by assumption) ?_)); (try simp only [Act.put, List.setIfInBounds_toArray, List.set_cons_zero, List.set_cons_succ])
    refine wpAnyH_done (by kernel_rfl) ?_ _
    have hBv := Below.step hB4.out hHeld.2
    clear R3 HR3 hB4 c6
    go_wp2_with fail
    refine (L0 _ _ _ (RdL.new _ _ rlE 2 lw (fun _ => rfl))).mono ?_
    rintro e wl ⟨rfl, hbl⟩
    have hBl := Below.step (Below.allocS hBv (.cells #[.int .i64 20, .int .i64 5, .int .i64 35, .int .i64 10] 52)) hbl
    go_wp2
    go_ret
    exact ⟨rfl, by (repeat (first | (with_reducible exact Below.refl _ _) | (with_reducible assumption) | (with_reducible refine Below.drew ?_) | (with_reducible refine Below.allocS ?_ _) | (with_reducible refine Below.setCell ?_ ?_ _) | (with_reducible refine Below.step ?_ (by assumption)) | (with_reducible refine Below.drewN' ?_ _))); (try any_goals (first | (with_reducible assumption) | (simp; done) | (simp; omega) | omega))⟩
  · refine AllReadyH.cons (o := ⟨_, _, _, _, _, _⟩) rfl (fun K hK => ?_) AllReadyH.nil
    go_simp
    have hba := fun W => Below.allocS (Below.refl _ W) (.cells #[.int .i64 43200201, .int .i64 6, .int .i64 0] 44)
    refine hK.out _ _ ?_ (fun hHeld => ?_)
    · exact And.imp (keep_cell (hba _)) (fun h => Below.step h (hba _)) (by assumption)
    clear hK K
    (try simp only [Act.put, List.setIfInBounds_toArray, List.set_cons_zero, List.set_cons_succ])
    have NW := new_cells w3.drew w3.heap.size [.int .i64 43200201, .int .i64 6, .int .i64 0] 44 rfl
    refine wpAnyH_ready (rs := [0]) (by kernel_rfl) (by simp) ?_
    refine AllReadyH.cons (o := ⟨_, _, _, _, _, _⟩) rfl (fun K hK => ?_) AllReadyH.nil
    go_simp
    go_at_call 21; refine (Mast_c _).mono ?_; rintro e wm ⟨rfl, hbm⟩
    (try go_wp2_with fail)
    refine hK.out _ _ ?_ (fun hHeld => ?_)
    · exact And.imp (keep_cell hbm) (fun h => Below.step h hbm) (by assumption)
    clear hK K
    (try simp only [Act.put, List.setIfInBounds_toArray, List.set_cons_zero, List.set_cons_succ])
    refine wpAnyH_ready (rs := [8]) (by kernel_rfl) (by simp) ?_
    refine AllReadyH.cons (o := ⟨_, _, _, _, _, _⟩) rfl (fun K hK => ?_) AllReadyH.nil
    refine step_append_grows rfl (.tmp 36) (.tmp 42) 22 rfl 44 i0 (.agg #[.int .i64 0, .int .i64 0, .int .i64 0]) 3 24 (by kernel_rfl) hi hz0 hz1 hz2 rfl (by decide) (some ⟨B, 0, none⟩) 3 3 (l1.flatMap evE) rfl (fun h => by cases h) (by decide) (R3.olds (fun _ => rfl) (by decide) ((fun (h : _ ∧ Below w3.heap.size w3 _) => h.2) (by assumption))) ⟨w3.heap.size, 0, none⟩ 1 1 [.int .i64 43200201, .int .i64 6, .int .i64 0] rfl rfl (fun j u hu => keep_cell hbm (NW j u hu)) (by simp [Value.oneCell']) (by omega) (by unfold maxLen; omega) (by omega) ?_
    intro v' wa hown hgrow
    obtain ⟨g', cap', rfl⟩ := ownsRow_succ hown
    have hbg := Below.of_grow0 hgrow
    have hcap := own_cap hown
    have RA : RdL wa wa.heap.size evE 3 (some ⟨g', 0, none⟩) l2 := RdL.of_own (fun _ => rfl) hown rfl
    refine hK.out _ _ ?_ (fun hHeld => ?_)
    · exact And.imp (keep_cell hbg) (fun h => Below.step h hbg) (by assumption)
    clear hK K
    (try simp only [Act.put, List.setIfInBounds_toArray, List.set_cons_zero, List.set_cons_succ])
    refine wpAnyH_ready (rs := [9]) (by kernel_rfl) (by simp) ?_
    refine AllReadyH.cons (o := ⟨_, _, _, _, _, _⟩) rfl (fun K hK => ?_) AllReadyH.nil
    go_simp
    go_at_call 22; refine (V2 _ _ hcap.1 hcap.2 _ RA).mono ?_; rintro e wv ⟨rfl, hbv⟩
    (try go_wp2_with fail)
    refine hK.out _ _ ?_ (fun hHeld => ?_)
    · exact And.imp (keep_cell hbv) (fun h => Below.step h hbv) (by assumption)
    clear hK K
    (try simp only [Act.put, List.setIfInBounds_toArray, List.set_cons_zero, List.set_cons_succ])
    (first | (refine wpAnyH_take (i := 10) (oi := ⟨_, _, _, _, _, _⟩) (v := ?_) rfl (by kernel_rfl) (by kernel_rfl) (by kernel_rfl) (fun _ _ _ h => h) (Or.inl ⟨by rfl, ?_⟩) (by assumption) ?_; rotate_left 1; (· (intro w0 hSw; (try dsimp only at hSw); go_simp; (try with_reducible rfl)))) | (refine wpAnyH_take (i := 10) (oi := ⟨_, _, _, _, _, _⟩) (v := undef) rfl (by kernel_rfl) (by kernel_rfl) (by kernel_rfl) (fun _ _ _ h => h) (Or.inr ⟨by rfl, rfl⟩) (by assumption) ?_)); (try simp only [Act.put, List.setIfInBounds_toArray, List.set_cons_zero, List.set_cons_succ])
    (first | (refine wpAnyH_take (i := 11) (oi := ⟨_, _, _, _, _, _⟩) (v := ?_) rfl (by kernel_rfl) (by kernel_rfl) (by kernel_rfl) (fun _ _ _ h => h) (Or.inl ⟨by rfl, ?_⟩) (by assumption) ?_; rotate_left 1; (· (intro w0 hSw; (try dsimp only at hSw); go_simp; (try with_reducible rfl)))) | (refine wpAnyH_take (i := 11) (oi := ⟨_, _, _, _, _, _⟩) (v := undef) rfl (by kernel_rfl) (by kernel_rfl) (by kernel_rfl) (fun _ _ _ h => h) (Or.inr ⟨by rfl, rfl⟩) (by assumption) ?_)); (try simp only [Act.put, List.setIfInBounds_toArray, List.set_cons_zero, List.set_cons_succ])
    (first | (refine wpAnyH_take (i := 12) (oi := ⟨_, _, _, _, _, _⟩) (v := ?_) rfl (by kernel_rfl) (by kernel_rfl) (by kernel_rfl) (fun _ _ _ h => h) (Or.inl ⟨by rfl, ?_⟩) (by assumption) ?_; rotate_left 1; (· (intro w0 hSw; (try dsimp only at hSw); go_simp; (try with_reducible rfl)))) | (refine wpAnyH_take (i := 12) (oi := ⟨_, _, _, _, _, _⟩) (v := undef) rfl (by kernel_rfl) (by kernel_rfl) (by kernel_rfl) (fun _ _ _ h => h) (Or.inr ⟨by rfl, rfl⟩) (by assumption) ?_)); (try simp only [Act.put, List.setIfInBounds_toArray, List.set_cons_zero, List.set_cons_succ])
    (first | (refine wpAnyH_take (i := 13) (oi := ⟨_, _, _, _, _, _⟩) (v := ?_) rfl (by kernel_rfl) (by kernel_rfl) (by kernel_rfl) (fun _ _ _ h => h) (Or.inl ⟨by rfl, ?_⟩) (by assumption) ?_; rotate_left 1; (· (intro w0 hSw; (try dsimp only at hSw); go_simp; (try with_reducible rfl)))) | (refine wpAnyH_take (i := 13) (oi := ⟨_, _, _, _, _, _⟩) (v := undef) rfl (by kernel_rfl) (by kernel_rfl) (by kernel_rfl) (fun _ _ _ h => h) (Or.inr ⟨by rfl, rfl⟩) (by assumption) ?_)); (try simp only [Act.put, List.setIfInBounds_toArray, List.set_cons_zero, List.set_cons_succ])
    (first | (refine wpAnyH_take (i := 14) (oi := ⟨_, _, _, _, _, _⟩) (v := ?_) rfl (by kernel_rfl) (by kernel_rfl) (by kernel_rfl) (fun _ _ _ h => h) (Or.inl ⟨by rfl, ?_⟩) (by assumption) ?_; rotate_left 1; (· (intro w0 hSw; (try dsimp only at hSw); go_simp; (try with_reducible rfl)))) | (refine wpAnyH_take (i := 14) (oi := ⟨_, _, _, _, _, _⟩) (v := undef) rfl (by kernel_rfl) (by kernel_rfl) (by kernel_rfl) (fun _ _ _ h => h) (Or.inr ⟨by rfl, rfl⟩) (by assumption) ?_)); (try simp only [Act.put, List.setIfInBounds_toArray, List.set_cons_zero, List.set_cons_succ])
    refine wpAnyH_done (by kernel_rfl) ?_ _
    have hBv := Below.step hB4.out hHeld.2
    clear R3 HR3 hB4 c6
    go_wp2_with fail
    refine (L0 _ _ _ (RdL.new _ _ rlE 2 lw (fun _ => rfl))).mono ?_
    rintro e wl ⟨rfl, hbl⟩
    have hBl := Below.step (Below.allocS hBv (.cells #[.int .i64 20, .int .i64 5, .int .i64 35, .int .i64 10] 52)) hbl
    go_wp2
    go_ret
    exact ⟨rfl, by (repeat (first | (with_reducible exact Below.refl _ _) | (with_reducible assumption) | (with_reducible refine Below.drew ?_) | (with_reducible refine Below.allocS ?_ _) | (with_reducible refine Below.setCell ?_ ?_ _) | (with_reducible refine Below.step ?_ (by assumption)) | (with_reducible refine Below.drewN' ?_ _))); (try any_goals (first | (with_reducible assumption) | (simp; done) | (simp; omega) | omega))⟩
end Go.Proofs.YtimbdnngeoccdaaGreatDoor
