/-
  Contract of DateOf of span.
-/
import Derived.Test.YtjkcgbidceakjaaDoorD18
namespace Go.Proofs.YtjkcgbidceakjaaDoor
open Go.RowKit Go.Shelf
attribute [local go_sem] Oper.semAt_some
set_option linter.unusedVariables false
set_option linter.unusedSimpArgs false
/-- The date that is held behind some months. -/
def dStep (y day : Int) (acc : Int × Int × Int) (p : Int × Int) : Int × Int × Int := if p.1 ≤ day then (y, p.2, wrap64 (wrap64 (day - p.1) + 1)) else acc
def dHeld (y day : Int) (pre : List (Int × Int)) : Int × Int × Int := pre.foldl (dStep y day) (0, 0, 0)
theorem dHeld_snoc (y day : Int) (pre : List (Int × Int)) (p : Int × Int) : dHeld y day (pre ++ [p]) = dStep y day (dHeld y day pre) p := by simp [dHeld]
theorem dFold_gt {y day : Int} (j : Nat) (hj : day < before y + mbef y (j + 1)) : ∀ (n k : Nat) (acc : Int × Int × Int), j < k → (firstsF y k n).foldl (dStep y day) acc = acc := by
  intro n
  induction n with
  | zero => intro k acc h; rfl
  | succ n ih =>
    intro k acc h
    have hm := mbef_mono y (show j + 1 ≤ k by omega)
    rw [firstsF, List.foldl_cons]
    have : dStep y day acc (before y + mbef y k, (k : Int) + 1) = acc := by unfold dStep; rw [if_neg (by simp only; omega)]
    rw [this]
    exact ih (k + 1) acc (by omega)
theorem dFold_in {y day : Int} (j : Nat) (h0 : before y + mbef y j ≤ day) (hj : day < before y + mbef y (j + 1)) : ∀ (n k : Nat) (acc : Int × Int × Int), k ≤ j → j < k + n →
    (firstsF y k n).foldl (dStep y day) acc = (y, (j : Int) + 1, wrap64 (wrap64 (day - (before y + mbef y j)) + 1)) := by
  intro n
  induction n with
  | zero => intro k acc h1 h2; omega
  | succ n ih =>
    intro k acc h1 h2
    have hm := mbef_mono y h1
    rw [firstsF, List.foldl_cons]
    have e : dStep y day acc (before y + mbef y k, (k : Int) + 1) = (y, (k : Int) + 1, wrap64 (wrap64 (day - (before y + mbef y k)) + 1)) := by unfold dStep; rw [if_pos (by simp only; omega)]
    rw [e]
    rcases Nat.lt_or_ge k j with h | h
    · exact ih (k + 1) _ h (by omega)
    · obtain rfl : j = k := by omega
      exact dFold_gt j hj n (j + 1) _ (by omega)
theorem dHeld_all {y day : Int} (h0 : 0 ≤ day) (h1 : day ≤ 182985) (y0 : 1700 ≤ y) (y1 : y ≤ 2200) (hb : before y ≤ day) (hs : day < before (y + 1)) : dHeld y day (firstsF y 0 12) = dateOf day := by
  rw [before_succ y0 y1, ← mbef_12] at hs
  obtain ⟨j, hj, e0, e1⟩ := exists_month (y := y) (r := day - before y) (by omega) 12 (by omega)
  unfold dHeld
  rw [dFold_in j (by omega) (by omega) 12 0 _ (by omega) (by omega)]
  have s : mbef y (j + 1) = mbef y j + mlen y ((j : Int) + 1) := rfl
  have hm := mbef_nonneg y j
  have hl := before_lin y0 (show y ≤ 2201 by omega)
  rw [IntWalk.wrap64_in (day - (before y + mbef y j)) ⟨by omega, by omega⟩, IntWalk.wrap64_in _ ⟨by omega, by omega⟩]
  refine (dateOf_eq ?_ ?_).symm
  · simp [okDate]; omega
  · simp only [dayNo, show ((j : Int) + 1 - 1).toNat = j by omega]; omega
theorem DateOf_no (day : Int) (h : dayB day = false) (w : World) : Calls Tryd.prog 35 #[.int .i64 day] w fun e w' => e = .returned (dtV ((0, 0, 0), 7)) ∧ Below w.heap.size w w' := by
  have HI := Lib.hid (fun W => isDay_c day W)
  rw [h] at HI
  clear h
  go_enter Tryd.func35, Tryd.ntmps35
  go_wp2_with fail
  refine (HI.out _).mono ?_
  rintro e w' ⟨rfl, rfl⟩
  go_wp2
  refine bodyPost_ret (v := .tuple #[.agg #[.int .i64 0, .int .i64 0, .int .i64 0], .int .i64 7]) (by simp [results, Tryd.results35, go_sem, *] <;> (repeat' apply And.intro) <;> rfl) rfl ⟨rfl, ?_⟩
  (repeat (first | (with_reducible exact Below.refl _ _) | (with_reducible assumption) | (with_reducible refine Below.drew ?_) | (with_reducible refine Below.allocS ?_ _) | (with_reducible refine Below.setCell ?_ ?_ _) | (with_reducible refine Below.step ?_ (by assumption)) | (with_reducible refine Below.drewN' ?_ _))); (try any_goals (first | (with_reducible assumption) | (simp; done) | (simp; omega) | omega))
/-- The year that is held in a cell, as a measure. -/
def yrLeft (b : Nat) (W : World) : Nat := match W.cell? ⟨b, 0, none⟩ with
  | some v => (2200 - intOf v).toNat
  | none => 0
theorem yrLeft_eq {b : Nat} {W : World} {y : Int} (h : W.cell? ⟨b, 0, none⟩ = some (.int .i64 y)) : yrLeft b W = (2200 - y).toNat := by unfold yrLeft; rw [h]; rfl
/-- The cells of the call while the year is sought. -/
def YrI (w W : World) (day y : Int) : Prop :=
  W.cell? ⟨w.heap.size, 0, none⟩ = some (.int .i64 day) ∧ (W.cell? ⟨w.heap.size + 1, 0, none⟩ = some (.int .i64 0) ∧ W.cell? ⟨w.heap.size + 1, 1, none⟩ = some (.int .i64 0) ∧ W.cell? ⟨w.heap.size + 1, 2, none⟩ = some (.int .i64 0)) ∧
  (W.frozen? ⟨w.heap.size + 1, 0, none⟩ = false ∧ W.frozen? ⟨w.heap.size + 1, 1, none⟩ = false ∧ W.frozen? ⟨w.heap.size + 1, 2, none⟩ = false) ∧
  (W.cell? ⟨w.heap.size + 1 + 1, 0, none⟩ = some (.int .i64 y) ∧ W.frozen? ⟨w.heap.size + 1 + 1, 0, none⟩ = false) ∧ Below w.heap.size w W
theorem YrI.keep {w A A' : World} {day y : Int} (h : YrI w A day y) (hb : Below A.heap.size A A') : YrI w A' day y := by
  obtain ⟨c0, ⟨d0, d1, d2⟩, ⟨f0, f1, f2⟩, ⟨e0, ef⟩, hbw⟩ := h
  have hs : w.heap.size + 1 + 1 < A.heap.size := cell?_lt e0
  have hs1 : w.heap.size + 1 < A.heap.size := by omega
  exact ⟨keep_cell hb c0, ⟨keep_cell hb d0, keep_cell hb d1, keep_cell hb d2⟩, ⟨keep_frozen hb hs1 f0, keep_frozen hb hs1 f1, keep_frozen hb hs1 f2⟩, ⟨keep_cell hb e0, keep_frozen hb hs ef⟩, Below.step hbw hb⟩
theorem YrI.far {w A : World} {day y : Int} (h : YrI w A day y) {b : Nat} (hb : w.heap.size + 1 + 1 < b) (u0 u1 u2 : Value) : YrI w (((A.setCell ⟨b, 0, none⟩ u0).setCell ⟨b, 1, none⟩ u1).setCell ⟨b, 2, none⟩ u2) day y := by
  have n0 : w.heap.size ≠ b := by omega
  have n1 : w.heap.size + 1 ≠ b := by omega
  have n2 : w.heap.size + 1 + 1 ≠ b := by omega
  have hle : w.heap.size ≤ b := by omega
  obtain ⟨c0, ⟨d0, d1, d2⟩, ⟨f0, f1, f2⟩, ⟨e0, ef⟩, hbw⟩ := h
  exact ⟨by simp [go_sem, *], ⟨by simp [go_sem, *], by simp [go_sem, *], by simp [go_sem, *]⟩, ⟨by simp [go_sem, *], by simp [go_sem, *], by simp [go_sem, *]⟩, ⟨by simp [go_sem, *], by simp [go_sem, *]⟩,
    ((hbw.setCell (p := ⟨b, 0, none⟩) hle _).setCell (p := ⟨b, 1, none⟩) hle _).setCell (p := ⟨b, 2, none⟩) hle _⟩
/-- .. and while the month is. -/
def MonI (w : World) (b : Nat) (day y : Int) (pre : List (Int × Int)) (W : World) : Prop :=
  YrI w W day y ∧ (W.cell? ⟨b, 0, none⟩ = some (.int .i64 (dHeld y day pre).1) ∧ W.cell? ⟨b, 1, none⟩ = some (.int .i64 (dHeld y day pre).2.1) ∧ W.cell? ⟨b, 2, none⟩ = some (.int .i64 (dHeld y day pre).2.2)) ∧
  W.frozen? ⟨b, 0, none⟩ = false ∧ W.frozen? ⟨b, 1, none⟩ = false ∧ W.frozen? ⟨b, 2, none⟩ = false
theorem MonI.keep {w A A' : World} {b B : Nat} {day y : Int} {pre : List (Int × Int)} (h : MonI w b day y pre A) (hb : Below B A A') (h1 : b < B) (h2 : w.heap.size + 1 + 1 < B) : MonI w b day y pre A' := by
  obtain ⟨⟨c0, ⟨d0, d1, d2⟩, ⟨f0, f1, f2⟩, ⟨e0, ef⟩, hbw⟩, ⟨t0, t1, t2⟩, tf0, tf1, tf2⟩ := h
  have q0 : w.heap.size < B := by omega
  have q1 : w.heap.size + 1 < B := by omega
  exact ⟨⟨(hb.cell q0).trans c0, ⟨(hb.cell q1).trans d0, (hb.cell q1).trans d1, (hb.cell q1).trans d2⟩, ⟨(hb.frozen q1).trans f0, (hb.frozen q1).trans f1, (hb.frozen q1).trans f2⟩, ⟨(hb.cell h2).trans e0, (hb.frozen h2).trans ef⟩, hbw.trans (hb.mono (by omega))⟩,
    ⟨(hb.cell h1).trans t0, (hb.cell h1).trans t1, (hb.cell h1).trans t2⟩, (hb.frozen h1).trans tf0, (hb.frozen h1).trans tf1, (hb.frozen h1).trans tf2⟩
theorem blk_other {W : World} {D : Nat} {o : Option Obj} (h : W.heap[D]? = o) {p : Addr} (hp : p.block ≠ D) (v : Value) : (W.setCell p v).heap[D]? = o := (Below.heap_setCell _ _ _ _ hp.symm).trans h
theorem blk_drew {W : World} {D : Nat} {o : Option Obj} (h : W.heap[D]? = o) : W.drew.heap[D]? = o := h
theorem date_end {R : Ending → World → Prop} {Z : World} {Y M D' : Int} {t0 : Value} {w : World} {tl : List Value} (D : Nat) (k0 : Z.cell? ⟨w.heap.size + 1, 0, none⟩ = some (.int .i64 Y)) (k1 : Z.cell? ⟨w.heap.size + 1, 1, none⟩ = some (.int .i64 M)) (k2 : Z.cell? ⟨w.heap.size + 1, 2, none⟩ = some (.int .i64 D')) (hD : w.heap.size + 1 < D) (hK : Z.heap[D]? = some (.deferred (some []))) (hb : Below w.heap.size w Z)
    (hR : ∀ Z', Below w.heap.size w Z' → R (.returned (.tuple #[.agg #[.int .i64 Y, .int .i64 M, .int .i64 D'], .int .i64 0])) Z') :
    bodyPostM Fence.wide 5 Tryd.prog Tryd.f35 R .ret { tmps := (t0 :: .pointer (some ⟨w.heap.size, 0, none⟩) :: .pointer (some ⟨w.heap.size + 1, 0, none⟩) :: .int .i64 0 :: tl).toArray, defers := [{ target := .collected D, args := #[] }] } Z := by
  refine ⟨by simp, .inl ⟨_, _, rfl, run_takeDeferred hK, ?_⟩⟩
  have q : ∀ o, (Z.putObj D (.deferred none)).cell? ⟨w.heap.size + 1, o, none⟩ = Z.cell? ⟨w.heap.size + 1, o, none⟩ := fun o => World.cell?_of_block (a := ⟨w.heap.size + 1, o, none⟩) (World.putObj_heap_other (r := D) (o := .deferred none) (w := Z) (by show w.heap.size + 1 ≠ D; omega))
  have r0 := (q 0).trans k0
  have r1 := (q 1).trans k1
  have r2 := (q 2).trans k2
  refine ⟨_, ?_, hR _ (hb.trans (below_put Z (by omega) _))⟩
  simp [results, Tryd.results35, go_sem, *]
set_option maxHeartbeats 4000000 in
set_option maxRecDepth 100000 in
theorem DateOf_yes (day : Int) (h0 : 0 ≤ day) (h1 : day ≤ 182985) (w : World) : Calls Tryd.prog 35 #[.int .i64 day] w fun e w' => e = .returned (dtV (dateOf day, 0)) ∧ Below w.heap.size w w' := by
  have HI := Lib.hid (fun W => isDay_c day W)
  rw [show dayB day = true from by simp [dayB]; omega] at HI
  have HB := Lib.hid (fun y h1 h2 W => before_c y h1 h2 W)
  refine (callsIn_wide (n := 5)).1 ?_
  have hmo : Tryd.prog.follows Departure.mixedOrders = true := by kernel_rfl
  refine callsIn_of_wp_marks Tryd.func35 rfl trivial ?_ rfl
  simp only [Tryd.ntmps35, List.size_toArray, List.length_cons, List.length_nil, Nat.reduceAdd, Nat.reduceSub, Array.replicate_succ, Array.replicate_zero, List.push_toArray, List.append_toArray, List.nil_append, List.cons_append]
  refine wpIn_wide.2 ?_
  go_wp2_with fail
  refine (HI.out _).mono ?_
  rintro e w' ⟨rfl, rfl⟩
  go_wp2
  go_loopw [15] (fun _ wr => ∃ y : Int, 1700 ≤ y ∧ y ≤ 2200 ∧ before y ≤ day ∧ YrI w wr day y) (fun _ wr => yrLeft (w.heap.size + 1 + 1) wr)
  case atStart =>
    have hl := before_lin (y := 1700 + day / 366) (by omega) (by omega)
    exact ⟨1700 + day / 366, by omega, by omega, by omega, by simp [go_sem], ⟨by simp [go_sem], by simp [go_sem], by simp [go_sem]⟩, ⟨by simp [go_sem], by simp [go_sem], by simp [go_sem]⟩, ⟨by simp [go_sem], by simp [go_sem]⟩, by (repeat (first | (with_reducible exact Below.refl _ _) | (with_reducible assumption) | (with_reducible refine Below.drew ?_) | (with_reducible refine Below.allocS ?_ _) | (with_reducible refine Below.setCell ?_ ?_ _) | (with_reducible refine Below.step ?_ (by assumption)) | (with_reducible refine Below.drewN' ?_ _))); (try any_goals (first | (with_reducible assumption) | (simp; done) | (simp; omega) | omega))⟩
  case round =>
    obtain ⟨y, y0, y1, hby, hI⟩ := hrel
    have HY := Lib.hid hI
    obtain ⟨c0, ⟨d0, d1, d2⟩, ⟨f0, f1, f2⟩, ⟨e0, ef⟩, hbw⟩ := hI
    have hsz : w.heap.size + 1 + 1 < wr.heap.size := cell?_lt e0
    have hsz1 : w.heap.size + 1 < wr.heap.size := by omega
    have hsz2 : w.heap.size < wr.heap.size := by omega
    by_cases hgo : y < 2200 ∧ before (y + 1) ≤ day
    · obtain ⟨hy, hd⟩ := hgo
      have g0 := dec_t hy
      have g1 := dec_t hd
      have hw : IntKind.i64.wrap (y + 1) = y + 1 := IntWalk.i64_in _ (by omega)
      have HM := Lib.hid (yrLeft_eq e0)
      go_wp2_with fail
      refine region_below (by kernel_rfl) (by kernel_rfl) ?_
      (first | go_big_quiet_skip | (go_big_quiet_want; refine quiet_val (v := ?_) ?_ ?_; rotate_left 1; (· (intro Wq hWq; obtain ⟨hWc, hWf⟩ := bcell hWq; go_simp; (try with_reducible rfl))); go_big_quiet_on; (try simp only [Act.put, List.setIfInBounds_toArray, List.set_cons_zero, List.set_cons_succ])))
      (first | go_big_quiet_skip | (go_big_quiet_want; refine quiet_val (v := ?_) ?_ ?_; rotate_left 1; (· (intro Wq hWq; obtain ⟨hWc, hWf⟩ := bcell hWq; go_simp; (try with_reducible rfl))); go_big_quiet_on; (try simp only [Act.put, List.setIfInBounds_toArray, List.set_cons_zero, List.set_cons_succ])))
      (first | go_big_quiet_skip | (go_big_quiet_want; refine quiet_val (v := ?_) ?_ ?_; rotate_left 1; (· (intro Wq hWq; obtain ⟨hWc, hWf⟩ := bcell hWq; go_simp; (try with_reducible rfl))); go_big_quiet_on; (try simp only [Act.put, List.setIfInBounds_toArray, List.set_cons_zero, List.set_cons_succ])))
      (first | go_big_quiet_skip | (go_big_quiet_want; refine quiet_val (v := ?_) ?_ ?_; rotate_left 1; (· (intro Wq hWq; obtain ⟨hWc, hWf⟩ := bcell hWq; go_simp; (try with_reducible rfl))); go_big_quiet_on; (try simp only [Act.put, List.setIfInBounds_toArray, List.set_cons_zero, List.set_cons_succ])))
      (first | go_big_quiet_skip | (go_big_quiet_want; refine quiet_val (v := ?_) ?_ ?_; rotate_left 1; (· (intro Wq hWq; obtain ⟨hWc, hWf⟩ := bcell hWq; go_simp; (try with_reducible rfl))); go_big_quiet_on; (try simp only [Act.put, List.setIfInBounds_toArray, List.set_cons_zero, List.set_cons_succ])))
      go_big_quiet_want; refine quiet_callS (f := 73) (args := ?_) (v := ?_) ?_ ?_ ?_; rotate_left 2
      · (intro Wq hWq; obtain ⟨hWc, hWf⟩ := bcell hWq; go_simp; (first | with_reducible rfl | exact ⟨rfl, rfl⟩))
      · (intro Wq hWq; exact HB.out (y + 1) (by omega) (by omega) _)
      go_big_quiet_on; (try simp only [Act.put, List.setIfInBounds_toArray, List.set_cons_zero, List.set_cons_succ])
      (first | go_big_quiet_skip | (go_big_quiet_want; refine quiet_val (v := ?_) ?_ ?_; rotate_left 1; (· (intro Wq hWq; obtain ⟨hWc, hWf⟩ := bcell hWq; go_simp; (try with_reducible rfl))); go_big_quiet_on; (try simp only [Act.put, List.setIfInBounds_toArray, List.set_cons_zero, List.set_cons_succ])))
      (first | go_big_quiet_skip | (go_big_quiet_want; refine quiet_val (v := ?_) ?_ ?_; rotate_left 1; (· (intro Wq hWq; obtain ⟨hWc, hWf⟩ := bcell hWq; go_simp; (try with_reducible rfl))); go_big_quiet_on; (try simp only [Act.put, List.setIfInBounds_toArray, List.set_cons_zero, List.set_cons_succ])))
      (first | go_big_quiet_skip | (go_big_quiet_want; refine quiet_val (v := ?_) ?_ ?_; rotate_left 1; (· (intro Wq hWq; obtain ⟨hWc, hWf⟩ := bcell hWq; go_simp; (try with_reducible rfl))); go_big_quiet_on; (try simp only [Act.put, List.setIfInBounds_toArray, List.set_cons_zero, List.set_cons_succ])))
      refine wpQuiet_nil ?_; intro w1 hb1
      have hI := HY.out.keep hb1
      clear c0 d0 d1 d2 f0 f1 f2 e0 ef hbw hb1 hsz hsz1 hsz2
      obtain ⟨c0, ⟨d0, d1, d2⟩, ⟨f0, f1, f2⟩, ⟨e0, ef⟩, hbw⟩ := hI
      have hsz : w.heap.size + 1 + 1 < w1.heap.size := cell?_lt e0
      have hsz1 : w.heap.size + 1 < w1.heap.size := by omega
      have hsz2 : w.heap.size < w1.heap.size := by omega
      go_wp2
      go_roundw
      case rel =>
        exact ⟨y + 1, by omega, by omega, hd, by simp [go_sem, *], ⟨by simp [go_sem, *], by simp [go_sem, *], by simp [go_sem, *]⟩, ⟨by simp [go_sem, *], by simp [go_sem, *], by simp [go_sem, *]⟩, ⟨by simp [go_sem, *], by simp [go_sem, *]⟩, by (repeat (first | (with_reducible exact Below.refl _ _) | (with_reducible assumption) | (with_reducible refine Below.drew ?_) | (with_reducible refine Below.allocS ?_ _) | (with_reducible refine Below.setCell ?_ ?_ _) | (with_reducible refine Below.step ?_ (by assumption)) | (with_reducible refine Below.drewN' ?_ _))); (try any_goals (first | (with_reducible assumption) | (simp; done) | (simp; omega) | omega))⟩
      case measure =>
        rw [HM.out, yrLeft_eq (y := y + 1) (by simp [go_sem, *])]
        omega
    · have hs : day < before (y + 1) := by
        by_cases h : y = 2200
        · have e : before 2201 = 182986 := by decide
          rw [h]; show day < before 2201; omega
        · omega
      by_cases hy : y < 2200
      · have g0 := dec_t hy
        have g1 := dec_f (show ¬ before (y + 1) ≤ day by omega)
        have hw : IntKind.i64.wrap (y + 1) = y + 1 := IntWalk.i64_in _ (by omega)
        go_wp2_with fail
        refine region_below (by kernel_rfl) (by kernel_rfl) ?_
        (first | go_big_quiet_skip | (go_big_quiet_want; refine quiet_val (v := ?_) ?_ ?_; rotate_left 1; (· (intro Wq hWq; obtain ⟨hWc, hWf⟩ := bcell hWq; go_simp; (try with_reducible rfl))); go_big_quiet_on; (try simp only [Act.put, List.setIfInBounds_toArray, List.set_cons_zero, List.set_cons_succ])))
        (first | go_big_quiet_skip | (go_big_quiet_want; refine quiet_val (v := ?_) ?_ ?_; rotate_left 1; (· (intro Wq hWq; obtain ⟨hWc, hWf⟩ := bcell hWq; go_simp; (try with_reducible rfl))); go_big_quiet_on; (try simp only [Act.put, List.setIfInBounds_toArray, List.set_cons_zero, List.set_cons_succ])))
        (first | go_big_quiet_skip | (go_big_quiet_want; refine quiet_val (v := ?_) ?_ ?_; rotate_left 1; (· (intro Wq hWq; obtain ⟨hWc, hWf⟩ := bcell hWq; go_simp; (try with_reducible rfl))); go_big_quiet_on; (try simp only [Act.put, List.setIfInBounds_toArray, List.set_cons_zero, List.set_cons_succ])))
        (first | go_big_quiet_skip | (go_big_quiet_want; refine quiet_val (v := ?_) ?_ ?_; rotate_left 1; (· (intro Wq hWq; obtain ⟨hWc, hWf⟩ := bcell hWq; go_simp; (try with_reducible rfl))); go_big_quiet_on; (try simp only [Act.put, List.setIfInBounds_toArray, List.set_cons_zero, List.set_cons_succ])))
        (first | go_big_quiet_skip | (go_big_quiet_want; refine quiet_val (v := ?_) ?_ ?_; rotate_left 1; (· (intro Wq hWq; obtain ⟨hWc, hWf⟩ := bcell hWq; go_simp; (try with_reducible rfl))); go_big_quiet_on; (try simp only [Act.put, List.setIfInBounds_toArray, List.set_cons_zero, List.set_cons_succ])))
        go_big_quiet_want; refine quiet_callS (f := 73) (args := ?_) (v := ?_) ?_ ?_ ?_; rotate_left 2
        · (intro Wq hWq; obtain ⟨hWc, hWf⟩ := bcell hWq; go_simp; (first | with_reducible rfl | exact ⟨rfl, rfl⟩))
        · (intro Wq hWq; exact HB.out (y + 1) (by omega) (by omega) _)
        go_big_quiet_on; (try simp only [Act.put, List.setIfInBounds_toArray, List.set_cons_zero, List.set_cons_succ])
        (first | go_big_quiet_skip | (go_big_quiet_want; refine quiet_val (v := ?_) ?_ ?_; rotate_left 1; (· (intro Wq hWq; obtain ⟨hWc, hWf⟩ := bcell hWq; go_simp; (try with_reducible rfl))); go_big_quiet_on; (try simp only [Act.put, List.setIfInBounds_toArray, List.set_cons_zero, List.set_cons_succ])))
        (first | go_big_quiet_skip | (go_big_quiet_want; refine quiet_val (v := ?_) ?_ ?_; rotate_left 1; (· (intro Wq hWq; obtain ⟨hWc, hWf⟩ := bcell hWq; go_simp; (try with_reducible rfl))); go_big_quiet_on; (try simp only [Act.put, List.setIfInBounds_toArray, List.set_cons_zero, List.set_cons_succ])))
        (first | go_big_quiet_skip | (go_big_quiet_want; refine quiet_val (v := ?_) ?_ ?_; rotate_left 1; (· (intro Wq hWq; obtain ⟨hWc, hWf⟩ := bcell hWq; go_simp; (try with_reducible rfl))); go_big_quiet_on; (try simp only [Act.put, List.setIfInBounds_toArray, List.set_cons_zero, List.set_cons_succ])))
        refine wpQuiet_nil ?_; intro w1 hb1
        clear hw
        have hI := HY.out.keep hb1
        clear c0 d0 d1 d2 f0 f1 f2 e0 ef hbw hb1 hsz hsz1 hsz2
        have HI1 := Lib.hid hI
        obtain ⟨c0, ⟨d0, d1, d2⟩, ⟨f0, f1, f2⟩, ⟨e0, ef⟩, hbw⟩ := hI
        have hsz : w.heap.size + 1 + 1 < w1.heap.size := cell?_lt e0
        have hsz1 : w.heap.size + 1 < w1.heap.size := by omega
        have hsz2 : w.heap.size < w1.heap.size := by omega
        go_wp2_with fail
        refine (firsts_c y _).mono ?_
        rintro e w2 ⟨rfl, rfl⟩
        go_wp2_with fail
        obtain ⟨W0, hW0⟩ : ∃ W0, (w1.alloc (.cells #[.int .i64 0, .int .i64 0, .int .i64 0] 41)).alloc (.cells #[.int .i64 y] 3) = W0 := ⟨_, rfl⟩
        rw [hW0]
        have b0 : Below w1.heap.size w1 W0 := by rw [← hW0]; (repeat (first | (with_reducible exact Below.refl _ _) | (with_reducible assumption) | (with_reducible refine Below.drew ?_) | (with_reducible refine Below.allocS ?_ _) | (with_reducible refine Below.setCell ?_ ?_ _) | (with_reducible refine Below.step ?_ (by assumption)) | (with_reducible refine Below.drewN' ?_ _))); (try any_goals (first | (with_reducible assumption) | (simp; done) | (simp; omega) | omega))
        have sz : W0.heap.size = w1.heap.size + 1 + 1 := by rw [← hW0]; simp
        have cy : W0.cell? ⟨w1.heap.size + 1, 0, none⟩ = some (.int .i64 y) := by rw [← hW0]; simp [go_sem]
        have i0 : MonI w w1.heap.size day y [] W0 := ⟨HI1.out.keep b0, ⟨by rw [← hW0]; simp [go_sem, dHeld], by rw [← hW0]; simp [go_sem, dHeld], by rw [← hW0]; simp [go_sem, dHeld]⟩, by rw [← hW0]; simp [go_sem], by rw [← hW0]; simp [go_sem], by rw [← hW0]; simp [go_sem]⟩
        clear hW0 c0 d0 d1 d2 f0 f1 f2 e0 ef
        refine (wpIn_wide (n := 5)).1 ?_
        refine range_wide (n := 3) (gf := 84) (lb := #[.pointer (some ⟨w1.heap.size + 1, 0, none⟩)]) rfl (enters_of Tryd.func84 (by kernel_rfl) rfl)
          (firsts_stops y y0 y1 w1.heap.size (w1.heap.size + 1) (w1.heap.size + 1) W0 (by omega) cy) (Below.refl _ _) (by omega) (fun _ => rfl)
          (MonI w w1.heap.size day y) (fun _ _ _ => False) (fun s A A' h hb => h.keep hb (by omega) (by omega)) (fun c s A A' h hb => h) i0
          (fun p a' W => a' = { tmps := #[.int .i64 day, .pointer (some ⟨w.heap.size, 0, none⟩), .pointer (some ⟨w.heap.size + 1, 0, none⟩), .int .i64 0, .pointer (some ⟨w.heap.size + 1 + 1, 0, none⟩), .pointer (some ⟨w1.heap.size, 0, none⟩), .int .i64 p.1, .int .i64 p.2, .int .i64 day, .bool true, .bool false, undef, .int .i64 day, .int .i64 (day / 366), .int .i64 (1700 + day / 366), .int .i64 y, .bool true, .bool true, .int .i64 y, .int .i64 (y + 1), .int .i64 (before (y + 1)), .int .i64 day, .bool false, .bool false, u24, u25, .int .i64 y, .func (.func 84) #[] #[.pointer (some ⟨w1.heap.size + 1, 0, none⟩)], .int .i64 p.1, .int .i64 p.2, undef, undef, undef, undef, undef, undef, undef, undef, undef, undef, undef], defers := [] })
          (fun p a' W k r o h hk => h)
          ?assign ?body ?done ?stop
        case assign =>
          intro l0 pre p W K hi hs hK
          gi_wp2
          exact hK _ _ (KB.refl _ _ _) hi rfl
        case body =>
          rintro l0 pre p a' W hl ⟨r, hr⟩ ⟨hI, ⟨t0, t1, t2⟩, tf0, tf1, tf2⟩ rfl hlen
          have HI2 := Lib.hid hI
          obtain ⟨c0, ⟨d0, d1, d2⟩, ⟨f0, f1, f2⟩, ⟨e0, ef⟩, hbw⟩ := hI
          have hsw : w1.heap.size < W.heap.size := cell?_lt t0
          obtain ⟨b, m⟩ := p
          dsimp only
          have HS := Lib.hid (dHeld_snoc y day pre (b, m))
          by_cases hz : b ≤ day
          · have g := dec_t hz
            gi_wp2
            refine And.intro ?_ (And.intro (YrI.far HI2.out (by omega) _ _ _) ⟨⟨?_, ?_, ?_⟩, ?_, ?_, ?_⟩)
            · (repeat (first | (with_reducible exact KB.refl _ _ _) | (with_reducible refine KB.drew1 ?_) | (with_reducible refine KB.setCell ?_ ?_ ?_ _))); (try any_goals (first | (with_reducible assumption) | (simp; done) | (simp; omega) | omega))
            all_goals first | (rw [HS.out, dStep, if_pos (show (b, m).1 ≤ day from hz)]; simp [go_sem, *]; done) | (simp [go_sem, *]; done)
          · have g := dec_f hz
            gi_wp2
            refine And.intro ?_ (And.intro HI2.out ⟨⟨?_, ?_, ?_⟩, tf0, tf1, tf2⟩)
            · (repeat (first | (with_reducible exact KB.refl _ _ _) | (with_reducible refine KB.drew1 ?_) | (with_reducible refine KB.setCell ?_ ?_ ?_ _))); (try any_goals (first | (with_reducible assumption) | (simp; done) | (simp; omega) | omega))
            all_goals (rw [HS.out, dStep, if_neg (by show ¬ b ≤ day; omega)]; assumption)
        case done =>
          rintro D ys W hD hS ⟨hI, ⟨t0, t1, t2⟩, tf0, tf1, tf2⟩ hK
          have hd := dHeld_all h0 h1 y0 y1 hby hs
          rw [hS, hd] at t0 t1 t2
          obtain ⟨c0, ⟨d0, d1, d2⟩, ⟨f0, f1, f2⟩, ⟨e0, ef⟩, hbw⟩ := hI
          have HK := Lib.hid hK
          clear hK hd hS HI1
          obtain ⟨⟨Y, M, D'⟩, hdt⟩ : ∃ q, dateOf day = q := ⟨_, rfl⟩
          rw [hdt] at t0 t1 t2
          simp only at t0 t1 t2
          have HDT := Lib.hid hdt
          clear hdt
          go_wp2
          refine date_end (w := w) (Y := Y) (M := M) (D' := D') D ?_ ?_ ?_ (by omega) ?_ ?_ ?_
          · simp [go_sem, *]
          · simp [go_sem, *]
          · simp [go_sem, *]
          · have hK := HK.out; (repeat (first | (with_reducible assumption) | (with_reducible refine blk_drew ?_) | (with_reducible refine blk_other ?_ ?_ _))); (try any_goals (first | (with_reducible assumption) | (simp; done) | (simp; omega) | omega))
          · (repeat (first | (with_reducible assumption) | (with_reducible refine Below.drew ?_) | (with_reducible refine Below.setCell ?_ ?_ _))); (try any_goals (first | (with_reducible assumption) | (simp; done) | (simp; omega) | omega))
          · intro Z' hZ'; exact ⟨by rw [HDT.out]; rfl, hZ'⟩
        case stop =>
          rintro D c pre W hD hS h hK
          exact h.elim
      · have g0 := dec_f hy
        go_wp2_with fail
        refine region_below (by kernel_rfl) (by kernel_rfl) ?_
        (first | go_big_quiet_skip | (go_big_quiet_want; refine quiet_val (v := ?_) ?_ ?_; rotate_left 1; (· (intro Wq hWq; obtain ⟨hWc, hWf⟩ := bcell hWq; go_simp; (try with_reducible rfl))); go_big_quiet_on; (try simp only [Act.put, List.setIfInBounds_toArray, List.set_cons_zero, List.set_cons_succ])))
        (first | go_big_quiet_skip | (go_big_quiet_want; refine quiet_val (v := ?_) ?_ ?_; rotate_left 1; (· (intro Wq hWq; obtain ⟨hWc, hWf⟩ := bcell hWq; go_simp; (try with_reducible rfl))); go_big_quiet_on; (try simp only [Act.put, List.setIfInBounds_toArray, List.set_cons_zero, List.set_cons_succ])))
        (first | go_big_quiet_skip | (go_big_quiet_want; refine quiet_val (v := ?_) ?_ ?_; rotate_left 1; (· (intro Wq hWq; obtain ⟨hWc, hWf⟩ := bcell hWq; go_simp; (try with_reducible rfl))); go_big_quiet_on; (try simp only [Act.put, List.setIfInBounds_toArray, List.set_cons_zero, List.set_cons_succ])))
        (first | go_big_quiet_skip | (go_big_quiet_want; refine quiet_val (v := ?_) ?_ ?_; rotate_left 1; (· (intro Wq hWq; obtain ⟨hWc, hWf⟩ := bcell hWq; go_simp; (try with_reducible rfl))); go_big_quiet_on; (try simp only [Act.put, List.setIfInBounds_toArray, List.set_cons_zero, List.set_cons_succ])))
        (first | go_big_quiet_skip | (go_big_quiet_want; refine quiet_val (v := ?_) ?_ ?_; rotate_left 1; (· (intro Wq hWq; obtain ⟨hWc, hWf⟩ := bcell hWq; go_simp; (try with_reducible rfl))); go_big_quiet_on; (try simp only [Act.put, List.setIfInBounds_toArray, List.set_cons_zero, List.set_cons_succ])))
        (first | go_big_quiet_skip | (go_big_quiet_want; refine quiet_val (v := ?_) ?_ ?_; rotate_left 1; (· (intro Wq hWq; obtain ⟨hWc, hWf⟩ := bcell hWq; go_simp; (try with_reducible rfl))); go_big_quiet_on; (try simp only [Act.put, List.setIfInBounds_toArray, List.set_cons_zero, List.set_cons_succ])))
        (first | go_big_quiet_skip | (go_big_quiet_want; refine quiet_val (v := ?_) ?_ ?_; rotate_left 1; (· (intro Wq hWq; obtain ⟨hWc, hWf⟩ := bcell hWq; go_simp; (try with_reducible rfl))); go_big_quiet_on; (try simp only [Act.put, List.setIfInBounds_toArray, List.set_cons_zero, List.set_cons_succ])))
        (first | go_big_quiet_skip | (go_big_quiet_want; refine quiet_val (v := ?_) ?_ ?_; rotate_left 1; (· (intro Wq hWq; obtain ⟨hWc, hWf⟩ := bcell hWq; go_simp; (try with_reducible rfl))); go_big_quiet_on; (try simp only [Act.put, List.setIfInBounds_toArray, List.set_cons_zero, List.set_cons_succ])))
        (first | go_big_quiet_skip | (go_big_quiet_want; refine quiet_val (v := ?_) ?_ ?_; rotate_left 1; (· (intro Wq hWq; obtain ⟨hWc, hWf⟩ := bcell hWq; go_simp; (try with_reducible rfl))); go_big_quiet_on; (try simp only [Act.put, List.setIfInBounds_toArray, List.set_cons_zero, List.set_cons_succ])))
        refine wpQuiet_nil ?_; intro w1 hb1
        have hI := HY.out.keep hb1
        clear c0 d0 d1 d2 f0 f1 f2 e0 ef hbw hb1 hsz hsz1 hsz2
        have HI1 := Lib.hid hI
        obtain ⟨c0, ⟨d0, d1, d2⟩, ⟨f0, f1, f2⟩, ⟨e0, ef⟩, hbw⟩ := hI
        have hsz : w.heap.size + 1 + 1 < w1.heap.size := cell?_lt e0
        have hsz1 : w.heap.size + 1 < w1.heap.size := by omega
        have hsz2 : w.heap.size < w1.heap.size := by omega
        go_wp2_with fail
        refine (firsts_c y _).mono ?_
        rintro e w2 ⟨rfl, rfl⟩
        go_wp2_with fail
        obtain ⟨W0, hW0⟩ : ∃ W0, (w1.alloc (.cells #[.int .i64 0, .int .i64 0, .int .i64 0] 41)).alloc (.cells #[.int .i64 y] 3) = W0 := ⟨_, rfl⟩
        rw [hW0]
        have b0 : Below w1.heap.size w1 W0 := by rw [← hW0]; (repeat (first | (with_reducible exact Below.refl _ _) | (with_reducible assumption) | (with_reducible refine Below.drew ?_) | (with_reducible refine Below.allocS ?_ _) | (with_reducible refine Below.setCell ?_ ?_ _) | (with_reducible refine Below.step ?_ (by assumption)) | (with_reducible refine Below.drewN' ?_ _))); (try any_goals (first | (with_reducible assumption) | (simp; done) | (simp; omega) | omega))
        have sz : W0.heap.size = w1.heap.size + 1 + 1 := by rw [← hW0]; simp
        have cy : W0.cell? ⟨w1.heap.size + 1, 0, none⟩ = some (.int .i64 y) := by rw [← hW0]; simp [go_sem]
        have i0 : MonI w w1.heap.size day y [] W0 := ⟨HI1.out.keep b0, ⟨by rw [← hW0]; simp [go_sem, dHeld], by rw [← hW0]; simp [go_sem, dHeld], by rw [← hW0]; simp [go_sem, dHeld]⟩, by rw [← hW0]; simp [go_sem], by rw [← hW0]; simp [go_sem], by rw [← hW0]; simp [go_sem]⟩
        clear hW0 c0 d0 d1 d2 f0 f1 f2 e0 ef
        refine (wpIn_wide (n := 5)).1 ?_
        refine range_wide (n := 3) (gf := 84) (lb := #[.pointer (some ⟨w1.heap.size + 1, 0, none⟩)]) rfl (enters_of Tryd.func84 (by kernel_rfl) rfl)
          (firsts_stops y y0 y1 w1.heap.size (w1.heap.size + 1) (w1.heap.size + 1) W0 (by omega) cy) (Below.refl _ _) (by omega) (fun _ => rfl)
          (MonI w w1.heap.size day y) (fun _ _ _ => False) (fun s A A' h hb => h.keep hb (by omega) (by omega)) (fun c s A A' h hb => h) i0
          (fun p a' W => a' = { tmps := #[.int .i64 day, .pointer (some ⟨w.heap.size, 0, none⟩), .pointer (some ⟨w.heap.size + 1, 0, none⟩), .int .i64 0, .pointer (some ⟨w.heap.size + 1 + 1, 0, none⟩), .pointer (some ⟨w1.heap.size, 0, none⟩), .int .i64 p.1, .int .i64 p.2, .int .i64 day, .bool true, .bool false, undef, .int .i64 day, .int .i64 (day / 366), .int .i64 (1700 + day / 366), .int .i64 y, .bool false, .bool false, undef, undef, undef, undef, undef, .bool false, u24, u25, .int .i64 y, .func (.func 84) #[] #[.pointer (some ⟨w1.heap.size + 1, 0, none⟩)], .int .i64 p.1, .int .i64 p.2, undef, undef, undef, undef, undef, undef, undef, undef, undef, undef, undef], defers := [] })
          (fun p a' W k r o h hk => h)
          ?assign ?body ?done ?stop
        case assign =>
          intro l0 pre p W K hi hs hK
          gi_wp2
          exact hK _ _ (KB.refl _ _ _) hi rfl
        case body =>
          rintro l0 pre p a' W hl ⟨r, hr⟩ ⟨hI, ⟨t0, t1, t2⟩, tf0, tf1, tf2⟩ rfl hlen
          have HI2 := Lib.hid hI
          obtain ⟨c0, ⟨d0, d1, d2⟩, ⟨f0, f1, f2⟩, ⟨e0, ef⟩, hbw⟩ := hI
          have hsw : w1.heap.size < W.heap.size := cell?_lt t0
          obtain ⟨b, m⟩ := p
          dsimp only
          have HS := Lib.hid (dHeld_snoc y day pre (b, m))
          by_cases hz : b ≤ day
          · have g := dec_t hz
            gi_wp2
            refine And.intro ?_ (And.intro (YrI.far HI2.out (by omega) _ _ _) ⟨⟨?_, ?_, ?_⟩, ?_, ?_, ?_⟩)
            · (repeat (first | (with_reducible exact KB.refl _ _ _) | (with_reducible refine KB.drew1 ?_) | (with_reducible refine KB.setCell ?_ ?_ ?_ _))); (try any_goals (first | (with_reducible assumption) | (simp; done) | (simp; omega) | omega))
            all_goals first | (rw [HS.out, dStep, if_pos (show (b, m).1 ≤ day from hz)]; simp [go_sem, *]; done) | (simp [go_sem, *]; done)
          · have g := dec_f hz
            gi_wp2
            refine And.intro ?_ (And.intro HI2.out ⟨⟨?_, ?_, ?_⟩, tf0, tf1, tf2⟩)
            · (repeat (first | (with_reducible exact KB.refl _ _ _) | (with_reducible refine KB.drew1 ?_) | (with_reducible refine KB.setCell ?_ ?_ ?_ _))); (try any_goals (first | (with_reducible assumption) | (simp; done) | (simp; omega) | omega))
            all_goals (rw [HS.out, dStep, if_neg (by show ¬ b ≤ day; omega)]; assumption)
        case done =>
          rintro D ys W hD hS ⟨hI, ⟨t0, t1, t2⟩, tf0, tf1, tf2⟩ hK
          have hd := dHeld_all h0 h1 y0 y1 hby hs
          rw [hS, hd] at t0 t1 t2
          obtain ⟨c0, ⟨d0, d1, d2⟩, ⟨f0, f1, f2⟩, ⟨e0, ef⟩, hbw⟩ := hI
          have HK := Lib.hid hK
          clear hK hd hS HI1
          obtain ⟨⟨Y, M, D'⟩, hdt⟩ : ∃ q, dateOf day = q := ⟨_, rfl⟩
          rw [hdt] at t0 t1 t2
          simp only at t0 t1 t2
          have HDT := Lib.hid hdt
          clear hdt
          go_wp2
          refine date_end (w := w) (Y := Y) (M := M) (D' := D') D ?_ ?_ ?_ (by omega) ?_ ?_ ?_
          · simp [go_sem, *]
          · simp [go_sem, *]
          · simp [go_sem, *]
          · have hK := HK.out; (repeat (first | (with_reducible assumption) | (with_reducible refine blk_drew ?_) | (with_reducible refine blk_other ?_ ?_ _))); (try any_goals (first | (with_reducible assumption) | (simp; done) | (simp; omega) | omega))
          · (repeat (first | (with_reducible assumption) | (with_reducible refine Below.drew ?_) | (with_reducible refine Below.setCell ?_ ?_ _))); (try any_goals (first | (with_reducible assumption) | (simp; done) | (simp; omega) | omega))
          · intro Z' hZ'; exact ⟨by rw [HDT.out]; rfl, hZ'⟩
        case stop =>
          rintro D c pre W hD hS h hK
          exact h.elim
theorem DateOf_c (day : Int) (w : World) : Calls Tryd.prog 35 #[.int .i64 day] w fun e w' => e = .returned (dtV (dateR day)) ∧ Below w.heap.size w w' := by
  unfold dateR
  cases h : dayB day
  · exact DateOf_no day h w
  · obtain ⟨h0, h1⟩ : 0 ≤ day ∧ day ≤ 182985 := by simpa [dayB] using h
    exact DateOf_yes day h0 h1 w
end Go.Proofs.YtjkcgbidceakjaaDoor
