/-
  Second of ball and of its reference, and lists of events that are the same.
-/
import Derived.Test.YtcdohibphhbllaaC0
import Derived.Test.YtcdohibphhbllaaPl
import Derived.Test.YtcdohibphhbllaaUns
import Derived.Laws.NewBlocks
namespace Go.Proofs.Ytcdohibphhbllaa
open Go.RowKit Go.Deep
set_option linter.unusedVariables false
theorem own_other {w W' : World} {base : Nat} {e : TypeId} {size g n cap : Nat} {xs : List Value} (h : w.ownsRow base e size (.slice (some ⟨g, 0, none⟩) n cap) n xs) (hb : W'.heap[g]? = w.heap[g]?) : W'.ownsRow base e size (.slice (some ⟨g, 0, none⟩) n cap) n xs := by
  refine ⟨h.1, ?_⟩
  rcases h.2 with ⟨h1, h2⟩ | ⟨g', cap', cur, hv, h1, h2, h3⟩
  · exact .inl ⟨h1, h2⟩
  · have hv' := hv
    injection hv' with ha hb' hc
    injection ha with ha
    injection ha with ha
    subst ha
    exact .inr ⟨_, _, cur, hv, h1, hb.trans h2, h3⟩
theorem own_base {w : World} {base base' : Nat} {e : TypeId} {size n : Nat} {v : Value} {xs : List Value} (h : w.ownsRow base e size v n xs) (hb : base' ≤ base) : w.ownsRow base' e size v n xs := by
  refine ⟨h.1, ?_⟩
  rcases h.2 with h1 | ⟨g', cap', cur, hv, h1, h2⟩
  · exact .inl h1
  · exact .inr ⟨g', cap', cur, hv, Nat.le_trans hb h1, h2⟩
theorem mast_block {w2 w4 : World} {m B : Nat} {v : Value} {o : Obj} (hlt : m < w2.heap.size) (hne : B ≠ m) (hg : ((w2.setCell ⟨B, 7, none⟩ v).alloc o).grownBy w4 (some B)) : w4.heap[m]? = ((w2.setCell ⟨B, 7, none⟩ v).alloc o).heap[m]? :=
  hg.block m (Nat.lt_of_lt_of_le hlt (by simp)) (fun e => hne (Option.some.inj e).symm)
def Made2 (w : World) (l : List Ev) (e : Ending) (w' : World) : Prop := ∃ B cap : Nat, e = .returned (.tuple #[.slice (some ⟨B, 0, none⟩) l.length cap, .int .i64 0]) ∧ w'.ownsRow w.heap.size 34 3 (.slice (some ⟨B, 0, none⟩) l.length cap) l.length (l.flatMap evE) ∧ Below w.heap.size w w'

theorem rPlan_c (x : Ms) (ho : okMast x = true) (w : World) : Calls Try.prog 39 #[msV x] w (Made w (planL x)) := by
  have HV := Lib.hid (fun W => rvalidMast_c x W)
  rw [ho] at HV
  obtain ⟨n0, n1, f0, fh, h1, hn', l0, l1, a0, a1, na, w0, w1⟩ := okMast_true ho
  unfold msV at *
  clear ho
  go_enter Try.func39, Try.ntmps39
  go_wp2_with fail
  refine (HV.out _).mono ?_
  rintro e w1 ⟨rfl, hb1⟩
  have x1_0_0 : w1.cell? ⟨w.heap.size, 0, none⟩ = some (.int .i64 x.noon) := keep_cell hb1 (by simp [go_sem, *])
  have x1_0_1 : w1.cell? ⟨w.heap.size, 1, none⟩ = some (.int .i64 x.half) := keep_cell hb1 (by simp [go_sem, *])
  have x1_0_2 : w1.cell? ⟨w.heap.size, 2, none⟩ = some (.int .i64 x.full) := keep_cell hb1 (by simp [go_sem, *])
  have x1_0_3 : w1.cell? ⟨w.heap.size, 3, none⟩ = some (.int .i64 x.late) := keep_cell hb1 (by simp [go_sem, *])
  have x1_0_4 : w1.cell? ⟨w.heap.size, 4, none⟩ = some (.int .i64 x.again) := keep_cell hb1 (by simp [go_sem, *])
  have x1_0_5 : w1.cell? ⟨w.heap.size, 5, none⟩ = some (.int .i64 x.wind) := keep_cell hb1 (by simp [go_sem, *])
  have y1_0 : w.heap.size < w1.heap.size := cell?_lt x1_0_0
  have g1 : Below w.heap.size w w1 := by (repeat (first | exact Below.refl _ _ | refine Below.drew ?_ | refine Below.allocS ?_ _ | refine Below.step ?_ (by assumption) | refine Below.setCell ?_ (by simp <;> omega) _ | refine Below.drewN' ?_ _))
  clear hb1
  go_wp2
  go_ret2
  have hle : w.heap.size ≤ w1.heap.size := by omega
  exact ⟨w1.heap.size, rfl, ⟨rfl, .inr ⟨_, _, _, rfl, hle, World.alloc_heap_new _ _, Nat.le_refl _, (by show 3 ≤ maxLen; unfold maxLen; omega), rfl, rfl⟩⟩, by (repeat (first | (with_reducible exact Below.refl _ _) | (with_reducible assumption) | (with_reducible refine Below.drew ?_) | (with_reducible refine Below.allocS ?_ _) | (with_reducible refine Below.setCell ?_ ?_ _) | (with_reducible refine Below.step ?_ (by assumption)) | (with_reducible refine Below.drewN' ?_ _))); (try any_goals (first | (with_reducible assumption) | (simp; done) | (simp; omega) | omega))⟩
theorem rPlan_c_no (x : Ms) (ho : okMast x = false) (w : World) : Calls Try.prog 39 #[msV x] w fun e w' => e = .returned (.tuple #[.slice none 0 0, .int .i64 1]) ∧ Below w.heap.size w w' := by
  have HV := Lib.hid (fun W => rvalidMast_c x W)
  rw [ho] at HV
  unfold msV at *
  clear ho
  go_enter Try.func39, Try.ntmps39
  go_wp2_with fail
  refine (HV.out _).mono ?_
  rintro e w1 ⟨rfl, hb1⟩
  have x1_0_0 : w1.cell? ⟨w.heap.size, 0, none⟩ = some (.int .i64 x.noon) := keep_cell hb1 (by simp [go_sem, *])
  have x1_0_1 : w1.cell? ⟨w.heap.size, 1, none⟩ = some (.int .i64 x.half) := keep_cell hb1 (by simp [go_sem, *])
  have x1_0_2 : w1.cell? ⟨w.heap.size, 2, none⟩ = some (.int .i64 x.full) := keep_cell hb1 (by simp [go_sem, *])
  have x1_0_3 : w1.cell? ⟨w.heap.size, 3, none⟩ = some (.int .i64 x.late) := keep_cell hb1 (by simp [go_sem, *])
  have x1_0_4 : w1.cell? ⟨w.heap.size, 4, none⟩ = some (.int .i64 x.again) := keep_cell hb1 (by simp [go_sem, *])
  have x1_0_5 : w1.cell? ⟨w.heap.size, 5, none⟩ = some (.int .i64 x.wind) := keep_cell hb1 (by simp [go_sem, *])
  have y1_0 : w.heap.size < w1.heap.size := cell?_lt x1_0_0
  have g1 : Below w.heap.size w w1 := by (repeat (first | exact Below.refl _ _ | refine Below.drew ?_ | refine Below.allocS ?_ _ | refine Below.step ?_ (by assumption) | refine Below.setCell ?_ (by simp <;> omega) _ | refine Below.drewN' ?_ _))
  clear hb1
  go_wp2
  go_ret2
  exact ⟨rfl, by (repeat (first | (with_reducible exact Below.refl _ _) | (with_reducible assumption) | (with_reducible refine Below.drew ?_) | (with_reducible refine Below.allocS ?_ _) | (with_reducible refine Below.setCell ?_ ?_ _) | (with_reducible refine Below.step ?_ (by assumption)) | (with_reducible refine Below.drewN' ?_ _))); (try any_goals (first | (with_reducible assumption) | (simp; done) | (simp; omega) | omega))⟩

theorem Second_c_no (x : Ms) (ho : okMast x = false) (w : World) : Calls Try.prog 40 #[msV x] w fun e w' => e = .returned (.tuple #[.slice none 0 0, .int .i64 1]) ∧ Below w.heap.size w w' := by
  have HV := Lib.hid (fun W => Plan_no x ho W)
  unfold msV at *
  clear ho
  go_enter Try.func40, Try.ntmps40
  go_wp2_with fail
  refine (HV.out _).mono ?_
  rintro e w1 ⟨rfl, hb1⟩
  have x1_0_0 : w1.cell? ⟨w.heap.size, 0, none⟩ = some (.int .i64 x.noon) := keep_cell hb1 (by simp [go_sem, *])
  have x1_0_1 : w1.cell? ⟨w.heap.size, 1, none⟩ = some (.int .i64 x.half) := keep_cell hb1 (by simp [go_sem, *])
  have x1_0_2 : w1.cell? ⟨w.heap.size, 2, none⟩ = some (.int .i64 x.full) := keep_cell hb1 (by simp [go_sem, *])
  have x1_0_3 : w1.cell? ⟨w.heap.size, 3, none⟩ = some (.int .i64 x.late) := keep_cell hb1 (by simp [go_sem, *])
  have x1_0_4 : w1.cell? ⟨w.heap.size, 4, none⟩ = some (.int .i64 x.again) := keep_cell hb1 (by simp [go_sem, *])
  have x1_0_5 : w1.cell? ⟨w.heap.size, 5, none⟩ = some (.int .i64 x.wind) := keep_cell hb1 (by simp [go_sem, *])
  have y1_0 : w.heap.size < w1.heap.size := cell?_lt x1_0_0
  have g1 : Below w.heap.size w w1 := by (repeat (first | exact Below.refl _ _ | refine Below.drew ?_ | refine Below.allocS ?_ _ | refine Below.step ?_ (by assumption) | refine Below.setCell ?_ (by simp <;> omega) _ | refine Below.drewN' ?_ _))
  clear hb1
  go_wp2
  go_ret2
  exact ⟨rfl, by (repeat (first | (with_reducible exact Below.refl _ _) | (with_reducible assumption) | (with_reducible refine Below.drew ?_) | (with_reducible refine Below.allocS ?_ _) | (with_reducible refine Below.setCell ?_ ?_ _) | (with_reducible refine Below.step ?_ (by assumption)) | (with_reducible refine Below.drewN' ?_ _))); (try any_goals (first | (with_reducible assumption) | (simp; done) | (simp; omega) | omega))⟩
set_option maxHeartbeats 2000000 in
set_option maxRecDepth 100000 in
theorem Second_c (x : Ms) (ho : okMast x = true) (w : World) : Calls Try.prog 40 #[msV x] w (Made2 w (secondL x)) := by
  obtain ⟨i0, hi, hz0, hz1, hz2⟩ := info_parts evI
  have HP := Lib.hid (fun W => Plan_c x ho W)
  obtain ⟨n0, n1, f0, fh, h1, hn', l0, l1, a0, a1, na, w0, w1⟩ := okMast_true ho
  unfold msV at *
  clear ho
  go_enter Try.func40, Try.ntmps40
  go_wp2_with fail
  refine (HP.out _).mono ?_
  rintro e w2 ⟨B, rfl, hown, hb2⟩
  have hlen : (planL x).length = 3 := rfl
  rw [hlen] at hown ⊢
  have hsz2 := hb2.size
  simp at hsz2
  have m0 : w2.cell? ⟨w.heap.size, 0, none⟩ = some (.int .i64 x.noon) := keep_cell hb2 (by simp [go_sem])
  have m1 : w2.cell? ⟨w.heap.size, 1, none⟩ = some (.int .i64 x.half) := keep_cell hb2 (by simp [go_sem])
  have m2 : w2.cell? ⟨w.heap.size, 2, none⟩ = some (.int .i64 x.full) := keep_cell hb2 (by simp [go_sem])
  have m4 : w2.cell? ⟨w.heap.size, 4, none⟩ = some (.int .i64 x.again) := keep_cell hb2 (by simp [go_sem])
  have mf : w2.frozen? ⟨w.heap.size, 0, none⟩ = false := keep_frozen hb2 (by simp) (by simp [go_sem])
  have hB : w.heap.size + 1 ≤ B := by
    have := own_from hown B rfl
    simpa using this
  have hBne : B ≠ w.heap.size := by omega
  have hBb : B < w2.heap.size := cell?_lt (hown.cellAt 7 (by decide))
  have c7 : w2.cell? ⟨B, 7, none⟩ = some (.int .i64 4) := (hown.cellAt 7 (by decide)).trans rfl
  have f7 := hown.frozenAt 7
  have b2 : Below w.heap.size w w2 := Below.step (Below.allocS (Below.refl _ _) (.cells #[.int .i64 x.noon, .int .i64 x.half, .int .i64 x.full, .int .i64 x.late, .int .i64 x.again, .int .i64 x.wind] 23)) hb2
  have hown2 : (w2.setCell ⟨B, 7, none⟩ (.int .i64 5)).ownsRow (w.heap.size + 1) 34 3 (.slice (some ⟨B, 0, none⟩) 3 3) 3 [.int .i64 (x.noon - x.half), .int .i64 2, .int .i64 0, .int .i64 (x.noon - x.full), .int .i64 3, .int .i64 0, .int .i64 x.noon, .int .i64 5, .int .i64 0] := by
    exact own_base (hown.stored 7 (.int .i64 5)).1 (by simp)
  have hltw : w.heap.size < w2.heap.size := by omega
  have HO := Lib.hid hown2
  clear hown hown2 hlen
  go_wp2_with (first | (at_builtin; refine wpList_append_own _ rfl (.tmp 17) (.tmp 21) 24 rfl (w.heap.size + 1) 34 i0 (.agg #[.int .i64 0, .int .i64 0, .int .i64 0]) 3 24 (by kernel_rfl) hi hz0 hz1 hz2 rfl (by decide) (.slice (some ⟨B, 0, none⟩) 3 3) 3 _ rfl (HO.out.alloc (.cells #[.int .i64 x.noon, .int .i64 6, .int .i64 0] 34)) ⟨w2.heap.size, 0, none⟩ 1 1 [.int .i64 x.noon, .int .i64 6, .int .i64 0] rfl rfl (new_cells _ _ _ _ (by simp)) (by simp [Value.oneCell']) (by unfold maxLen; omega) (by omega) (by first | (simp; done) | (simp; omega)) ?_; intro v4 w4 hown4 hgrow _; obtain ⟨g, cap', rfl⟩ := ownsRow_succ hown4; have hgB : w.heap.size + 1 ≤ g := own_from hown4 g rfl; have hgne : g ≠ w.heap.size := (by omega); have hbl := mast_block hltw hBne hgrow; have p0 : w4.cell? ⟨w.heap.size, 0, none⟩ = some (.int .i64 x.noon) := (World.cell?_of_block (a := ⟨w.heap.size, 0, none⟩) hbl).trans (by simp [go_sem, *]); have p1 : w4.cell? ⟨w.heap.size, 1, none⟩ = some (.int .i64 x.half) := (World.cell?_of_block (a := ⟨w.heap.size, 1, none⟩) hbl).trans (by simp [go_sem, *]); have p2 : w4.cell? ⟨w.heap.size, 2, none⟩ = some (.int .i64 x.full) := (World.cell?_of_block (a := ⟨w.heap.size, 2, none⟩) hbl).trans (by simp [go_sem, *]); have p4 : w4.cell? ⟨w.heap.size, 4, none⟩ = some (.int .i64 x.again) := (World.cell?_of_block (a := ⟨w.heap.size, 4, none⟩) hbl).trans (by simp [go_sem, *]); have pf : w4.frozen? ⟨w.heap.size, 0, none⟩ = false := (World.frozen?_of_block (a := ⟨w.heap.size, 0, none⟩) hbl).trans (by simp [go_sem, *]); have hsz4 := hgrow.size; simp at hsz4; have b3 : Below w.heap.size w ((w2.setCell ⟨B, 7, none⟩ (.int .i64 5)).alloc (.cells #[.int .i64 x.noon, .int .i64 6, .int .i64 0] 34)) := Below.allocS (Below.setCell b2 (p := ⟨B, 7, none⟩) (by show w.heap.size ≤ B; omega) _) _; have b4 : Below w.heap.size w w4 := Below.grown b3 hgrow b3.size (fun k e => by have e := Option.some.inj (show some B = some k from e); omega); have hlt4 : w.heap.size < w4.heap.size := (by omega); have HO4 := Lib.hid hown4; have B4 := Lib.hid b4; clear hbl hgrow b3 b4 b2 m0 m1 m2 m4 mf c7 f7 hown4 HO hb2) | (at_builtin; refine wpList_append_own _ rfl (.tmp 29) (.tmp 45) 24 rfl (w.heap.size + 1) 34 i0 (.agg #[.int .i64 0, .int .i64 0, .int .i64 0]) 3 24 (by kernel_rfl) hi hz0 hz1 hz2 rfl (by decide) (.slice (some ⟨g, 0, none⟩) (3 + 1) cap') 4 _ rfl ((own_other (W' := w4.setCell ⟨w.heap.size, 0, none⟩ (.int .i64 (x.noon + x.again))) HO4.out (Below.heap_setCell _ _ _ _ hgne)).alloc (.cells #[.int .i64 (x.noon + x.again - x.half), .int .i64 2, .int .i64 0, .int .i64 (x.noon + x.again - x.full), .int .i64 3, .int .i64 0, .int .i64 (x.noon + x.again), .int .i64 4, .int .i64 0] 34)) ⟨w4.heap.size, 0, none⟩ 3 3 [.int .i64 (x.noon + x.again - x.half), .int .i64 2, .int .i64 0, .int .i64 (x.noon + x.again - x.full), .int .i64 3, .int .i64 0, .int .i64 (x.noon + x.again), .int .i64 4, .int .i64 0] rfl rfl (new_cells _ _ _ _ (by simp)) (by simp [Value.oneCell']) (by unfold maxLen; omega) (by omega) (by first | (simp; done) | (simp; omega)) ?_; intro v5 w5 hown5 hgrow5 _; obtain ⟨g5, cap5, rfl⟩ := ownsRow_succ hown5; have b5 : Below w.heap.size w ((w4.setCell ⟨w.heap.size, 0, none⟩ (.int .i64 (x.noon + x.again))).alloc (.cells #[.int .i64 (x.noon + x.again - x.half), .int .i64 2, .int .i64 0, .int .i64 (x.noon + x.again - x.full), .int .i64 3, .int .i64 0, .int .i64 (x.noon + x.again), .int .i64 4, .int .i64 0] 34)) := Below.allocS (Below.setCell B4.out (p := ⟨w.heap.size, 0, none⟩) (Nat.le_refl _) _) _; have b6 : Below w.heap.size w w5 := Below.grown b5 hgrow5 b5.size (fun k e => by have e := Option.some.inj (show some g = some k from e); omega); have HO5 := Lib.hid hown5; clear hown5 hgrow5 b5))
  go_ret2
  exact ⟨g5, cap5, rfl, own_base HO5.out (by omega), b6⟩

theorem rSecond_c_no (x : Ms) (ho : okMast x = false) (w : World) : Calls Try.prog 41 #[msV x] w fun e w' => e = .returned (.tuple #[.slice none 0 0, .int .i64 1]) ∧ Below w.heap.size w w' := by
  have HV := Lib.hid (fun W => rPlan_c_no x ho W)
  unfold msV at *
  clear ho
  go_enter Try.func41, Try.ntmps41
  go_wp2_with fail
  refine (HV.out _).mono ?_
  rintro e w1 ⟨rfl, hb1⟩
  have x1_0_0 : w1.cell? ⟨w.heap.size, 0, none⟩ = some (.int .i64 x.noon) := keep_cell hb1 (by simp [go_sem, *])
  have x1_0_1 : w1.cell? ⟨w.heap.size, 1, none⟩ = some (.int .i64 x.half) := keep_cell hb1 (by simp [go_sem, *])
  have x1_0_2 : w1.cell? ⟨w.heap.size, 2, none⟩ = some (.int .i64 x.full) := keep_cell hb1 (by simp [go_sem, *])
  have x1_0_3 : w1.cell? ⟨w.heap.size, 3, none⟩ = some (.int .i64 x.late) := keep_cell hb1 (by simp [go_sem, *])
  have x1_0_4 : w1.cell? ⟨w.heap.size, 4, none⟩ = some (.int .i64 x.again) := keep_cell hb1 (by simp [go_sem, *])
  have x1_0_5 : w1.cell? ⟨w.heap.size, 5, none⟩ = some (.int .i64 x.wind) := keep_cell hb1 (by simp [go_sem, *])
  have y1_0 : w.heap.size < w1.heap.size := cell?_lt x1_0_0
  have g1 : Below w.heap.size w w1 := by (repeat (first | exact Below.refl _ _ | refine Below.drew ?_ | refine Below.allocS ?_ _ | refine Below.step ?_ (by assumption) | refine Below.setCell ?_ (by simp <;> omega) _ | refine Below.drewN' ?_ _))
  clear hb1
  go_wp2
  go_ret2
  exact ⟨rfl, by (repeat (first | (with_reducible exact Below.refl _ _) | (with_reducible assumption) | (with_reducible refine Below.drew ?_) | (with_reducible refine Below.allocS ?_ _) | (with_reducible refine Below.setCell ?_ ?_ _) | (with_reducible refine Below.step ?_ (by assumption)) | (with_reducible refine Below.drewN' ?_ _))); (try any_goals (first | (with_reducible assumption) | (simp; done) | (simp; omega) | omega))⟩
set_option maxHeartbeats 2000000 in
set_option maxRecDepth 100000 in
theorem rSecond_c (x : Ms) (ho : okMast x = true) (w : World) : Calls Try.prog 41 #[msV x] w (Made2 w (secondL x)) := by
  obtain ⟨i0, hi, hz0, hz1, hz2⟩ := info_parts evI
  have HP := Lib.hid (fun W => rPlan_c x ho W)
  obtain ⟨n0, n1, f0, fh, h1, hn', l0, l1, a0, a1, na, w0, w1⟩ := okMast_true ho
  unfold msV at *
  clear ho
  go_enter Try.func41, Try.ntmps41
  go_wp2_with fail
  refine (HP.out _).mono ?_
  rintro e w2 ⟨B, rfl, hown, hb2⟩
  have hlen : (planL x).length = 3 := rfl
  rw [hlen] at hown ⊢
  have hsz2 := hb2.size
  simp at hsz2
  have m0 : w2.cell? ⟨w.heap.size, 0, none⟩ = some (.int .i64 x.noon) := keep_cell hb2 (by simp [go_sem])
  have m1 : w2.cell? ⟨w.heap.size, 1, none⟩ = some (.int .i64 x.half) := keep_cell hb2 (by simp [go_sem])
  have m2 : w2.cell? ⟨w.heap.size, 2, none⟩ = some (.int .i64 x.full) := keep_cell hb2 (by simp [go_sem])
  have m4 : w2.cell? ⟨w.heap.size, 4, none⟩ = some (.int .i64 x.again) := keep_cell hb2 (by simp [go_sem])
  have mf : w2.frozen? ⟨w.heap.size, 0, none⟩ = false := keep_frozen hb2 (by simp) (by simp [go_sem])
  have hB : w.heap.size + 1 ≤ B := by
    have := own_from hown B rfl
    simpa using this
  have hBne : B ≠ w.heap.size := by omega
  have hBb : B < w2.heap.size := cell?_lt (hown.cellAt 7 (by decide))
  have c7 : w2.cell? ⟨B, 7, none⟩ = some (.int .i64 4) := (hown.cellAt 7 (by decide)).trans rfl
  have f7 := hown.frozenAt 7
  have b2 : Below w.heap.size w w2 := Below.step (Below.allocS (Below.refl _ _) (.cells #[.int .i64 x.noon, .int .i64 x.half, .int .i64 x.full, .int .i64 x.late, .int .i64 x.again, .int .i64 x.wind] 23)) hb2
  have hown2 : (w2.setCell ⟨B, 7, none⟩ (.int .i64 5)).ownsRow (w.heap.size + 1) 34 3 (.slice (some ⟨B, 0, none⟩) 3 3) 3 [.int .i64 (x.noon - x.half), .int .i64 2, .int .i64 0, .int .i64 (x.noon - x.full), .int .i64 3, .int .i64 0, .int .i64 x.noon, .int .i64 5, .int .i64 0] := by
    exact own_base (hown.stored 7 (.int .i64 5)).1 (by simp)
  have hltw : w.heap.size < w2.heap.size := by omega
  have HO := Lib.hid hown2
  clear hown hown2 hlen
  go_wp2_with (first | (at_builtin; refine wpList_append_own _ rfl (.tmp 17) (.tmp 21) 24 rfl (w.heap.size + 1) 34 i0 (.agg #[.int .i64 0, .int .i64 0, .int .i64 0]) 3 24 (by kernel_rfl) hi hz0 hz1 hz2 rfl (by decide) (.slice (some ⟨B, 0, none⟩) 3 3) 3 _ rfl (HO.out.alloc (.cells #[.int .i64 x.noon, .int .i64 6, .int .i64 0] 34)) ⟨w2.heap.size, 0, none⟩ 1 1 [.int .i64 x.noon, .int .i64 6, .int .i64 0] rfl rfl (new_cells _ _ _ _ (by simp)) (by simp [Value.oneCell']) (by unfold maxLen; omega) (by omega) (by first | (simp; done) | (simp; omega)) ?_; intro v4 w4 hown4 hgrow _; obtain ⟨g, cap', rfl⟩ := ownsRow_succ hown4; have hgB : w.heap.size + 1 ≤ g := own_from hown4 g rfl; have hgne : g ≠ w.heap.size := (by omega); have hbl := mast_block hltw hBne hgrow; have p0 : w4.cell? ⟨w.heap.size, 0, none⟩ = some (.int .i64 x.noon) := (World.cell?_of_block (a := ⟨w.heap.size, 0, none⟩) hbl).trans (by simp [go_sem, *]); have p1 : w4.cell? ⟨w.heap.size, 1, none⟩ = some (.int .i64 x.half) := (World.cell?_of_block (a := ⟨w.heap.size, 1, none⟩) hbl).trans (by simp [go_sem, *]); have p2 : w4.cell? ⟨w.heap.size, 2, none⟩ = some (.int .i64 x.full) := (World.cell?_of_block (a := ⟨w.heap.size, 2, none⟩) hbl).trans (by simp [go_sem, *]); have p4 : w4.cell? ⟨w.heap.size, 4, none⟩ = some (.int .i64 x.again) := (World.cell?_of_block (a := ⟨w.heap.size, 4, none⟩) hbl).trans (by simp [go_sem, *]); have pf : w4.frozen? ⟨w.heap.size, 0, none⟩ = false := (World.frozen?_of_block (a := ⟨w.heap.size, 0, none⟩) hbl).trans (by simp [go_sem, *]); have hsz4 := hgrow.size; simp at hsz4; have b3 : Below w.heap.size w ((w2.setCell ⟨B, 7, none⟩ (.int .i64 5)).alloc (.cells #[.int .i64 x.noon, .int .i64 6, .int .i64 0] 34)) := Below.allocS (Below.setCell b2 (p := ⟨B, 7, none⟩) (by show w.heap.size ≤ B; omega) _) _; have b4 : Below w.heap.size w w4 := Below.grown b3 hgrow b3.size (fun k e => by have e := Option.some.inj (show some B = some k from e); omega); have hlt4 : w.heap.size < w4.heap.size := (by omega); have HO4 := Lib.hid hown4; have B4 := Lib.hid b4; clear hbl hgrow b3 b4 b2 m0 m1 m2 m4 mf c7 f7 hown4 HO hb2) | (at_builtin; refine wpList_append_own _ rfl (.tmp 29) (.tmp 45) 24 rfl (w.heap.size + 1) 34 i0 (.agg #[.int .i64 0, .int .i64 0, .int .i64 0]) 3 24 (by kernel_rfl) hi hz0 hz1 hz2 rfl (by decide) (.slice (some ⟨g, 0, none⟩) (3 + 1) cap') 4 _ rfl ((own_other (W' := w4.setCell ⟨w.heap.size, 0, none⟩ (.int .i64 (x.noon + x.again))) HO4.out (Below.heap_setCell _ _ _ _ hgne)).alloc (.cells #[.int .i64 (x.noon + x.again - x.half), .int .i64 2, .int .i64 0, .int .i64 (x.noon + x.again - x.full), .int .i64 3, .int .i64 0, .int .i64 (x.noon + x.again), .int .i64 4, .int .i64 0] 34)) ⟨w4.heap.size, 0, none⟩ 3 3 [.int .i64 (x.noon + x.again - x.half), .int .i64 2, .int .i64 0, .int .i64 (x.noon + x.again - x.full), .int .i64 3, .int .i64 0, .int .i64 (x.noon + x.again), .int .i64 4, .int .i64 0] rfl rfl (new_cells _ _ _ _ (by simp)) (by simp [Value.oneCell']) (by unfold maxLen; omega) (by omega) (by first | (simp; done) | (simp; omega)) ?_; intro v5 w5 hown5 hgrow5 _; obtain ⟨g5, cap5, rfl⟩ := ownsRow_succ hown5; have b5 : Below w.heap.size w ((w4.setCell ⟨w.heap.size, 0, none⟩ (.int .i64 (x.noon + x.again))).alloc (.cells #[.int .i64 (x.noon + x.again - x.half), .int .i64 2, .int .i64 0, .int .i64 (x.noon + x.again - x.full), .int .i64 3, .int .i64 0, .int .i64 (x.noon + x.again), .int .i64 4, .int .i64 0] 34)) := Below.allocS (Below.setCell B4.out (p := ⟨w.heap.size, 0, none⟩) (Nat.le_refl _) _) _; have b6 : Below w.heap.size w w5 := Below.grown b5 hgrow5 b5.size (fun k e => by have e := Option.some.inj (show some g = some k from e); omega); have HO5 := Lib.hid hown5; clear hown5 hgrow5 b5))
  go_ret2
  exact ⟨g5, cap5, rfl, own_base HO5.out (by omega), b6⟩

set_option maxHeartbeats 1000000 in
theorem Same_c (l : List Ev) (n : Nat) (hn : l.length = n) (A B : Option Addr) (cap cap' : Nat) (hl : n ≤ 9223372036854775807) (w : World) (hr : RdL w w.heap.size evE 3 A l) (hs : RdL w w.heap.size evE 3 B l) :
    Calls Try.prog 43 #[.slice A n cap, .slice B n cap'] w fun e w' => e = .returned (.bool true) ∧ Below w.heap.size w w' := by
  subst hn
  have HR := Lib.hid hr
  have HS := Lib.hid hs
  clear hr hs
  go_enter Try.func43, Try.ntmps43
  go_wp2
  go_loopw [13] (fun i wr => ∃ k : Nat, k ≤ l.length ∧ i = .int .i64 k ∧ Below w.heap.size w wr) (fun i _ => l.length - (intOf i).toNat)
  case atStart => exact ⟨0, Nat.zero_le _, rfl, Below.refl _ _⟩
  case round =>
    obtain ⟨k, hk, rfl, hbw⟩ := hrel
    by_cases hlt : k < l.length
    · obtain ⟨b, off, rfl, hb0, hc⟩ := HR.out (by omega)
      obtain ⟨b', off', rfl, hb0', hc'⟩ := HS.out (by omega)
      have c0 := (hbw.cell (p := ⟨b, _, none⟩) hb0).trans (hc k hlt 0 _ rfl)
      have c1 := (hbw.cell (p := ⟨b, _, none⟩) hb0).trans (hc k hlt 1 _ rfl)
      have c2 := (hbw.cell (p := ⟨b, _, none⟩) hb0).trans (hc k hlt 2 _ rfl)
      have d0 := (hbw.cell (p := ⟨b', _, none⟩) hb0').trans (hc' k hlt 0 _ rfl)
      have d1 := (hbw.cell (p := ⟨b', _, none⟩) hb0').trans (hc' k hlt 1 _ rfl)
      have d2 := (hbw.cell (p := ⟨b', _, none⟩) hb0').trans (hc' k hlt 2 _ rfl)
      clear hc hc'
      simp at c0 d0
      have u1 : (0 : Int) ≤ (k : Int) := by omega
      have u2 : (k : Int) < (l.length : Int) := by omega
      go_wp2_with fail
      go_quiet (fail)
      go_wp2
      go_roundw
      case rel => exact ⟨k + 1, by omega, by go_num, by (repeat (first | (with_reducible exact Below.refl _ _) | (with_reducible assumption) | (with_reducible refine Below.drew ?_) | (with_reducible refine Below.allocS ?_ _) | (with_reducible refine Below.setCell ?_ ?_ _) | (with_reducible refine Below.step ?_ (by assumption)) | (with_reducible refine Below.drewN' ?_ _))); (try any_goals (first | (with_reducible assumption) | (simp; done) | (simp; omega) | omega))⟩
      case measure => simp [intOf]; omega
    · obtain rfl : k = l.length := by omega
      go_wp2
      go_ret
      exact ⟨rfl, hbw⟩
end Go.Proofs.Ytcdohibphhbllaa
