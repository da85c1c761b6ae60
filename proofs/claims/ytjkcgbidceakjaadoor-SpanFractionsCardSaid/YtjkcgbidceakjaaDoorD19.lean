/-
  Contracts of reduce, lowest, Make of span, and of Lowest, Make of its reference.
-/
import Derived.Test.YtjkcgbidceakjaaDoorD4
import Derived.Test.YtjkcgbidceakjaaDoorQt
import Derived.RegionTactic
import Derived.BigRegion
namespace Go.Proofs.YtjkcgbidceakjaaDoor
open Go.RowKit
set_option linter.unusedVariables false
set_option linter.unusedSimpArgs false
theorem tdiv_fit {a b : Int} (h : Fit a) : Fit (a.tdiv b) := by
  have hb : Int.natAbs (a.tdiv b) ≤ Int.natAbs a := by rw [Int.natAbs_tdiv]; exact Nat.div_le_self _ _
  unfold Fit at *
  omega
theorem fit_wrap {a : Int} (h : Fit a) : IntKind.i64.wrap a = a := IntWalk.i64_in _ (by unfold Fit at h; omega)
/-- What reduce leaves: the quotient's two cells in lowest terms. -/
def Redu (w : World) (b : Nat) (n d : Int) (e : Ending) (w' : World) : Prop :=
  (∃ v, e = .returned v) ∧ ∃ w1, Below w.heap.size w w1 ∧ w' = (w1.setCell ⟨b, 0, none⟩ (.int .i64 (redN n d))).setCell ⟨b, 1, none⟩ (.int .i64 (redD n d))
set_option maxHeartbeats 1000000 in
theorem reduce_c (n d : Int) (hn : Fit n) (hd : Fit d) (h0 : d ≠ 0) (b : Nat) (w : World) (c0 : w.cell? ⟨b, 0, none⟩ = some (.int .i64 n)) (c1 : w.cell? ⟨b, 1, none⟩ = some (.int .i64 d)) (f0 : w.frozen? ⟨b, 0, none⟩ = false) (f1 : w.frozen? ⟨b, 1, none⟩ = false) :
    Calls Tryd.prog 86 #[.pointer (some ⟨b, 0, none⟩)] w (Redu w b n d) := by
  have HD := Lib.hid (fun W => divisor_c n d hn hd W)
  have hg0 := gcdI_pos (a := n) h0
  have hgl := gcdI_le (a := n) h0
  have hbw := cell?_lt c0
  obtain ⟨G, hG⟩ : ∃ G, redG n d = G := ⟨_, rfl⟩
  have hG0 : G ≠ 0 := by rw [← hG]; exact redG_ne h0
  have HN := Lib.hid (show redN n d = n.tdiv G by unfold redN; rw [hG])
  have HE := Lib.hid (show redD n d = d.tdiv G by unfold redD; rw [hG])
  have m1 : IntKind.i64.wrap (n.tdiv G) = n.tdiv G := fit_wrap (tdiv_fit hn)
  have m2 : IntKind.i64.wrap (d.tdiv G) = d.tdiv G := fit_wrap (tdiv_fit hd)
  by_cases hneg : d < 0
  · have m3 : IntKind.i64.wrap (-gcdI n d) = G := by rw [← hG, redG, if_pos hneg]; exact fit_wrap (by unfold Fit at *; omega)
    obtain ⟨g, hg⟩ : ∃ g, gcdI n d = g := ⟨_, rfl⟩
    rw [hg] at HD hg0 hgl m3
    clear hG hg
    go_enter Tryd.func86, Tryd.ntmps86

    go_wp2_with fail
    refine region_below (by kernel_rfl) (by kernel_rfl) ?_
    (first | go_big_quiet_skip | (go_big_quiet_want; refine quiet_val (v := ?_) ?_ ?_; rotate_left 1; (· (intro Wq hWq; obtain ⟨hWc, hWf⟩ := bcell hWq; go_simp; (try with_reducible rfl))); go_big_quiet_on; (try simp only [Act.put, List.setIfInBounds_toArray, List.set_cons_zero, List.set_cons_succ])))
    (first | go_big_quiet_skip | (go_big_quiet_want; refine quiet_val (v := ?_) ?_ ?_; rotate_left 1; (· (intro Wq hWq; obtain ⟨hWc, hWf⟩ := bcell hWq; go_simp; (try with_reducible rfl))); go_big_quiet_on; (try simp only [Act.put, List.setIfInBounds_toArray, List.set_cons_zero, List.set_cons_succ])))
    (first | go_big_quiet_skip | (go_big_quiet_want; refine quiet_val (v := ?_) ?_ ?_; rotate_left 1; (· (intro Wq hWq; obtain ⟨hWc, hWf⟩ := bcell hWq; go_simp; (try with_reducible rfl))); go_big_quiet_on; (try simp only [Act.put, List.setIfInBounds_toArray, List.set_cons_zero, List.set_cons_succ])))
    (first | go_big_quiet_skip | (go_big_quiet_want; refine quiet_val (v := ?_) ?_ ?_; rotate_left 1; (· (intro Wq hWq; obtain ⟨hWc, hWf⟩ := bcell hWq; go_simp; (try with_reducible rfl))); go_big_quiet_on; (try simp only [Act.put, List.setIfInBounds_toArray, List.set_cons_zero, List.set_cons_succ])))
    (first | go_big_quiet_skip | (go_big_quiet_want; refine quiet_val (v := ?_) ?_ ?_; rotate_left 1; (· (intro Wq hWq; obtain ⟨hWc, hWf⟩ := bcell hWq; go_simp; (try with_reducible rfl))); go_big_quiet_on; (try simp only [Act.put, List.setIfInBounds_toArray, List.set_cons_zero, List.set_cons_succ])))
    (first | go_big_quiet_skip | (go_big_quiet_want; refine quiet_val (v := ?_) ?_ ?_; rotate_left 1; (· (intro Wq hWq; obtain ⟨hWc, hWf⟩ := bcell hWq; go_simp; (try with_reducible rfl))); go_big_quiet_on; (try simp only [Act.put, List.setIfInBounds_toArray, List.set_cons_zero, List.set_cons_succ])))
    (first | go_big_quiet_skip | (go_big_quiet_want; refine quiet_val (v := ?_) ?_ ?_; rotate_left 1; (· (intro Wq hWq; obtain ⟨hWc, hWf⟩ := bcell hWq; go_simp; (try with_reducible rfl))); go_big_quiet_on; (try simp only [Act.put, List.setIfInBounds_toArray, List.set_cons_zero, List.set_cons_succ])))
    (first | go_big_quiet_skip | (go_big_quiet_want; refine quiet_val (v := ?_) ?_ ?_; rotate_left 1; (· (intro Wq hWq; obtain ⟨hWc, hWf⟩ := bcell hWq; go_simp; (try with_reducible rfl))); go_big_quiet_on; (try simp only [Act.put, List.setIfInBounds_toArray, List.set_cons_zero, List.set_cons_succ])))
    go_big_quiet_want; refine quiet_callB (f := 78) (args := ?_) (v := ?_) ?_ ?_ ?_; rotate_left 2
    · (intro Wq hWq; obtain ⟨hWc, hWf⟩ := bcell hWq; go_simp; (first | with_reducible rfl | exact ⟨rfl, rfl⟩))
    · (intro Wq hWq; exact HD.out _)
    go_big_quiet_on; (try simp only [Act.put, List.setIfInBounds_toArray, List.set_cons_zero, List.set_cons_succ])
    (first | go_big_quiet_skip | (go_big_quiet_want; refine quiet_val (v := ?_) ?_ ?_; rotate_left 1; (· (intro Wq hWq; obtain ⟨hWc, hWf⟩ := bcell hWq; go_simp; (try with_reducible rfl))); go_big_quiet_on; (try simp only [Act.put, List.setIfInBounds_toArray, List.set_cons_zero, List.set_cons_succ])))
    refine wpQuiet_nil ?_; intro w1 hb1
    have x0 := keep_cell hb1 c0
    have x1 := keep_cell hb1 c1
    have z0 := keep_frozen hb1 hbw f0
    have z1 := keep_frozen hb1 hbw f1
    clear c0 c1 f0 f1
    go_wp2
    go_region
    all_goals
      go_end0
      exact ⟨⟨_, rfl⟩, w1.drew, Below.drew hb1, by rw [HN.out, HE.out]; rfl⟩
  · have hgg : gcdI n d = G := by rw [← hG, redG, if_neg hneg]
    rw [hgg] at HD hg0 hgl
    clear hgg hG
    go_enter Tryd.func86, Tryd.ntmps86
    go_wp2_with fail
    refine region_below (by kernel_rfl) (by kernel_rfl) ?_
    (first | go_big_quiet_skip | (go_big_quiet_want; refine quiet_val (v := ?_) ?_ ?_; rotate_left 1; (· (intro Wq hWq; obtain ⟨hWc, hWf⟩ := bcell hWq; go_simp; (try with_reducible rfl))); go_big_quiet_on; (try simp only [Act.put, List.setIfInBounds_toArray, List.set_cons_zero, List.set_cons_succ])))
    (first | go_big_quiet_skip | (go_big_quiet_want; refine quiet_val (v := ?_) ?_ ?_; rotate_left 1; (· (intro Wq hWq; obtain ⟨hWc, hWf⟩ := bcell hWq; go_simp; (try with_reducible rfl))); go_big_quiet_on; (try simp only [Act.put, List.setIfInBounds_toArray, List.set_cons_zero, List.set_cons_succ])))
    (first | go_big_quiet_skip | (go_big_quiet_want; refine quiet_val (v := ?_) ?_ ?_; rotate_left 1; (· (intro Wq hWq; obtain ⟨hWc, hWf⟩ := bcell hWq; go_simp; (try with_reducible rfl))); go_big_quiet_on; (try simp only [Act.put, List.setIfInBounds_toArray, List.set_cons_zero, List.set_cons_succ])))
    (first | go_big_quiet_skip | (go_big_quiet_want; refine quiet_val (v := ?_) ?_ ?_; rotate_left 1; (· (intro Wq hWq; obtain ⟨hWc, hWf⟩ := bcell hWq; go_simp; (try with_reducible rfl))); go_big_quiet_on; (try simp only [Act.put, List.setIfInBounds_toArray, List.set_cons_zero, List.set_cons_succ])))
    (first | go_big_quiet_skip | (go_big_quiet_want; refine quiet_val (v := ?_) ?_ ?_; rotate_left 1; (· (intro Wq hWq; obtain ⟨hWc, hWf⟩ := bcell hWq; go_simp; (try with_reducible rfl))); go_big_quiet_on; (try simp only [Act.put, List.setIfInBounds_toArray, List.set_cons_zero, List.set_cons_succ])))
    (first | go_big_quiet_skip | (go_big_quiet_want; refine quiet_val (v := ?_) ?_ ?_; rotate_left 1; (· (intro Wq hWq; obtain ⟨hWc, hWf⟩ := bcell hWq; go_simp; (try with_reducible rfl))); go_big_quiet_on; (try simp only [Act.put, List.setIfInBounds_toArray, List.set_cons_zero, List.set_cons_succ])))
    (first | go_big_quiet_skip | (go_big_quiet_want; refine quiet_val (v := ?_) ?_ ?_; rotate_left 1; (· (intro Wq hWq; obtain ⟨hWc, hWf⟩ := bcell hWq; go_simp; (try with_reducible rfl))); go_big_quiet_on; (try simp only [Act.put, List.setIfInBounds_toArray, List.set_cons_zero, List.set_cons_succ])))
    (first | go_big_quiet_skip | (go_big_quiet_want; refine quiet_val (v := ?_) ?_ ?_; rotate_left 1; (· (intro Wq hWq; obtain ⟨hWc, hWf⟩ := bcell hWq; go_simp; (try with_reducible rfl))); go_big_quiet_on; (try simp only [Act.put, List.setIfInBounds_toArray, List.set_cons_zero, List.set_cons_succ])))
    go_big_quiet_want; refine quiet_callB (f := 78) (args := ?_) (v := ?_) ?_ ?_ ?_; rotate_left 2
    · (intro Wq hWq; obtain ⟨hWc, hWf⟩ := bcell hWq; go_simp; (first | with_reducible rfl | exact ⟨rfl, rfl⟩))
    · (intro Wq hWq; exact HD.out _)
    go_big_quiet_on; (try simp only [Act.put, List.setIfInBounds_toArray, List.set_cons_zero, List.set_cons_succ])
    (first | go_big_quiet_skip | (go_big_quiet_want; refine quiet_val (v := ?_) ?_ ?_; rotate_left 1; (· (intro Wq hWq; obtain ⟨hWc, hWf⟩ := bcell hWq; go_simp; (try with_reducible rfl))); go_big_quiet_on; (try simp only [Act.put, List.setIfInBounds_toArray, List.set_cons_zero, List.set_cons_succ])))
    refine wpQuiet_nil ?_; intro w1 hb1
    have x0 := keep_cell hb1 c0
    have x1 := keep_cell hb1 c1
    have z0 := keep_frozen hb1 hbw f0
    have z1 := keep_frozen hb1 hbw f1
    clear c0 c1 f0 f1
    go_wp2
    go_region
    all_goals
      go_end0
      exact ⟨⟨_, rfl⟩, w1.drew, Below.drew hb1, by rw [HN.out, HE.out]; rfl⟩
/-- A quotient in lowest terms, or that it is too large. -/
def lowR (n d : Int) : Int × Int × Int := if okRat (redN n d) (redD n d) then (redN n d, redD n d, 0) else (0, 0, 4)
set_option maxHeartbeats 1000000 in
theorem lowest_c (n d : Int) (hn : Fit n) (hd : Fit d) (h0 : d ≠ 0) (w : World) : Calls Tryd.prog 74 #[.int .i64 n, .int .i64 d] w fun e w' => e = .returned (retV (lowR n d)) ∧ Below w.heap.size w w' := by
  have HR := Lib.hid (fun b W c0 c1 f0 f1 => reduce_c n d hn hd h0 b W c0 c1 f0 f1)
  have HV := Lib.hid (fun W => ValidRatio_c (redN n d) (redD n d) W)
  unfold lowR retV
  unfold Redu at HR
  generalize redN n d = p at *
  generalize redD n d = q at *
  cases h : okRat p q
  all_goals
    rw [h] at HV
    clear h
    go_enter Tryd.func74, Tryd.ntmps74
    go_wp2_with fail
    refine (HR.out (w.heap.size + 1) _ (by simp [go_sem]) (by simp [go_sem]) (by simp [go_sem]) (by simp [go_sem])).mono ?_
    rintro e w1' ⟨⟨v, rfl⟩, w1, hb1, rfl⟩
    have q0_0 : w1.cell? ⟨w.heap.size, 0, none⟩ = some (.int .i64 0) := keep_cell hb1 (by simp [go_sem, *]); have r0_0 : w1.frozen? ⟨w.heap.size, 0, none⟩ = false := keep_frozen hb1 (by first | omega | (simp <;> omega)) (by simp [go_sem, *]); have q0_1 : w1.cell? ⟨w.heap.size, 1, none⟩ = some (.int .i64 0) := keep_cell hb1 (by simp [go_sem, *]); have r0_1 : w1.frozen? ⟨w.heap.size, 1, none⟩ = false := keep_frozen hb1 (by first | omega | (simp <;> omega)) (by simp [go_sem, *]); have p0 : w.heap.size < w1.heap.size := cell?_lt q0_0
    have g1 : Below w.heap.size w w1 := by (repeat (first | (with_reducible exact Below.refl _ _) | (with_reducible assumption) | (with_reducible refine Below.drew ?_) | (with_reducible refine Below.allocS ?_ _) | (with_reducible refine Below.setCell ?_ ?_ _) | (with_reducible refine Below.step ?_ (by assumption)) | (with_reducible refine Below.drewN' ?_ _))); (try any_goals (first | (with_reducible assumption) | (simp; done) | (simp; omega) | omega))
    have hs1 : w.heap.size + 1 < w1.heap.size := by have := hb1.size; simp at this; omega
    have k0 := keep_cell hb1 (a := ⟨w.heap.size + 1, 0, none⟩) (v := .int .i64 n) (by simp [go_sem])
    have k1 := keep_cell hb1 (a := ⟨w.heap.size + 1, 1, none⟩) (v := .int .i64 d) (by simp [go_sem])
    clear hb1
    go_wp2_with fail
    refine (HV.out _).mono ?_
    rintro e w2 ⟨rfl, hb2⟩
    have x2_0_0 : w2.cell? ⟨w.heap.size, 0, none⟩ = some (.int .i64 0) := keep_cell hb2 (by simp [go_sem, *])
    have f2_0_0 : w2.frozen? ⟨w.heap.size, 0, none⟩ = false := keep_frozen hb2 (by first | omega | (simp <;> omega)) (by simp [go_sem, *])
    have x2_0_1 : w2.cell? ⟨w.heap.size, 1, none⟩ = some (.int .i64 0) := keep_cell hb2 (by simp [go_sem, *])
    have f2_0_1 : w2.frozen? ⟨w.heap.size, 1, none⟩ = false := keep_frozen hb2 (by first | omega | (simp <;> omega)) (by simp [go_sem, *])
    have y2_0 : w.heap.size < w2.heap.size := cell?_lt x2_0_0
    have x2_1_0 : w2.cell? ⟨w1.heap.size, 0, none⟩ = some (.int .i64 p) := keep_cell hb2 (by simp [go_sem, *])
    have x2_1_1 : w2.cell? ⟨w1.heap.size, 1, none⟩ = some (.int .i64 q) := keep_cell hb2 (by simp [go_sem, *])
    have y2_1 : w1.heap.size < w2.heap.size := cell?_lt x2_1_0
    have g2 : Below w.heap.size w w2 := by (repeat (first | exact Below.refl _ _ | refine Below.drew ?_ | refine Below.allocS ?_ _ | refine Below.step ?_ (by assumption) | refine Below.setCell ?_ (by simp <;> omega) _ | refine Below.drewN' ?_ _))
    clear hb2
    go_wp2
    first
      | (refine bodyPost_ret (v := .tuple #[.agg #[.int .i64 0, .int .i64 0], .int .i64 4]) (by simp [results, Tryd.results74, go_sem, *] <;> (repeat' apply And.intro) <;> rfl) rfl ⟨rfl, ?_⟩
         (repeat (first | (with_reducible exact Below.refl _ _) | (with_reducible assumption) | (with_reducible refine Below.drew ?_) | (with_reducible refine Below.allocS ?_ _) | (with_reducible refine Below.setCell ?_ ?_ _) | (with_reducible refine Below.step ?_ (by assumption)) | (with_reducible refine Below.drewN' ?_ _))); (try any_goals (first | (with_reducible assumption) | (simp; done) | (simp; omega) | omega)))
      | (refine bodyPost_ret (v := .tuple #[.agg #[.int .i64 p, .int .i64 q], .int .i64 0]) (by simp [results, Tryd.results74, go_sem, *] <;> (repeat' apply And.intro) <;> rfl) rfl ⟨rfl, ?_⟩
         (repeat (first | (with_reducible exact Below.refl _ _) | (with_reducible assumption) | (with_reducible refine Below.drew ?_) | (with_reducible refine Below.allocS ?_ _) | (with_reducible refine Below.setCell ?_ ?_ _) | (with_reducible refine Below.step ?_ (by assumption)) | (with_reducible refine Below.drewN' ?_ _))); (try any_goals (first | (with_reducible assumption) | (simp; done) | (simp; omega) | omega)))
/-- What Make takes. -/
def makeR (n d : Int) : Int × Int × Int := if decide (-1000000000000000000 ≤ n) && (decide (n ≤ 1000000000000000000) && (decide (-1000000000000000000 ≤ d) && (decide (d ≤ 1000000000000000000) && decide (d ≠ 0)))) then lowR n d else (0, 0, 7)
theorem make_cases (n d : Int) : (makeR n d = (0, 0, 7) ∧ (n < -1000000000000000000 ∨ -1000000000000000000 ≤ n ∧ (1000000000000000000 < n ∨ n ≤ 1000000000000000000 ∧ (d < -1000000000000000000 ∨ -1000000000000000000 ≤ d ∧ (1000000000000000000 < d ∨ d ≤ 1000000000000000000 ∧ d = 0))))) ∨
    (makeR n d = lowR n d ∧ -1000000000000000000 ≤ n ∧ n ≤ 1000000000000000000 ∧ -1000000000000000000 ≤ d ∧ d ≤ 1000000000000000000 ∧ d ≠ 0) := by
  unfold makeR
  by_cases h1 : -1000000000000000000 ≤ n
  · by_cases h2 : n ≤ 1000000000000000000
    · by_cases h3 : -1000000000000000000 ≤ d
      · by_cases h4 : d ≤ 1000000000000000000
        · by_cases h5 : d = 0
          · exact Or.inl ⟨by simp [h5], by omega⟩
          · exact Or.inr ⟨by simp [h1, h2, h3, h4, h5], h1, h2, h3, h4, h5⟩
        · exact Or.inl ⟨by simp [h4], by omega⟩
      · exact Or.inl ⟨by simp [h3], by omega⟩
    · exact Or.inl ⟨by simp [h2], by omega⟩
  · exact Or.inl ⟨by simp [h1], by omega⟩
theorem low_split (n d : Int) : ∃ p q z, lowR n d = (p, q, z) := ⟨_, _, _, rfl⟩
theorem Make_c (n d : Int) (w : World) : Calls Tryd.prog 41 #[.int .i64 n, .int .i64 d] w fun e w' => e = .returned (retV (makeR n d)) ∧ Below w.heap.size w w' := by
  rcases make_cases n d with ⟨h, h1 | ⟨h1, h2 | ⟨h2, h3 | ⟨h3, h4 | ⟨h4, h5⟩⟩⟩⟩⟩ | ⟨h, h1, h2, h3, h4, h5⟩
  all_goals
    rw [h]
    clear h
  · go_enter Tryd.func41, Tryd.ntmps41
    go_wp2
    refine bodyPost_ret (v := .tuple #[.agg #[.int .i64 0, .int .i64 0], .int .i64 7]) (by simp [results, Tryd.results41, go_sem, *] <;> (repeat' apply And.intro) <;> rfl) rfl ⟨rfl, ?_⟩
    (repeat (first | (with_reducible exact Below.refl _ _) | (with_reducible assumption) | (with_reducible refine Below.drew ?_) | (with_reducible refine Below.allocS ?_ _) | (with_reducible refine Below.setCell ?_ ?_ _) | (with_reducible refine Below.step ?_ (by assumption)) | (with_reducible refine Below.drewN' ?_ _))); (try any_goals (first | (with_reducible assumption) | (simp; done) | (simp; omega) | omega))
  · go_enter Tryd.func41, Tryd.ntmps41
    go_wp2
    refine bodyPost_ret (v := .tuple #[.agg #[.int .i64 0, .int .i64 0], .int .i64 7]) (by simp [results, Tryd.results41, go_sem, *] <;> (repeat' apply And.intro) <;> rfl) rfl ⟨rfl, ?_⟩
    (repeat (first | (with_reducible exact Below.refl _ _) | (with_reducible assumption) | (with_reducible refine Below.drew ?_) | (with_reducible refine Below.allocS ?_ _) | (with_reducible refine Below.setCell ?_ ?_ _) | (with_reducible refine Below.step ?_ (by assumption)) | (with_reducible refine Below.drewN' ?_ _))); (try any_goals (first | (with_reducible assumption) | (simp; done) | (simp; omega) | omega))
  · go_enter Tryd.func41, Tryd.ntmps41
    go_wp2
    refine bodyPost_ret (v := .tuple #[.agg #[.int .i64 0, .int .i64 0], .int .i64 7]) (by simp [results, Tryd.results41, go_sem, *] <;> (repeat' apply And.intro) <;> rfl) rfl ⟨rfl, ?_⟩
    (repeat (first | (with_reducible exact Below.refl _ _) | (with_reducible assumption) | (with_reducible refine Below.drew ?_) | (with_reducible refine Below.allocS ?_ _) | (with_reducible refine Below.setCell ?_ ?_ _) | (with_reducible refine Below.step ?_ (by assumption)) | (with_reducible refine Below.drewN' ?_ _))); (try any_goals (first | (with_reducible assumption) | (simp; done) | (simp; omega) | omega))
  · go_enter Tryd.func41, Tryd.ntmps41
    go_wp2
    refine bodyPost_ret (v := .tuple #[.agg #[.int .i64 0, .int .i64 0], .int .i64 7]) (by simp [results, Tryd.results41, go_sem, *] <;> (repeat' apply And.intro) <;> rfl) rfl ⟨rfl, ?_⟩
    (repeat (first | (with_reducible exact Below.refl _ _) | (with_reducible assumption) | (with_reducible refine Below.drew ?_) | (with_reducible refine Below.allocS ?_ _) | (with_reducible refine Below.setCell ?_ ?_ _) | (with_reducible refine Below.step ?_ (by assumption)) | (with_reducible refine Below.drewN' ?_ _))); (try any_goals (first | (with_reducible assumption) | (simp; done) | (simp; omega) | omega))
  · have h6 : (d == 0) = true := by simp [h5]
    clear h5
    go_enter Tryd.func41, Tryd.ntmps41
    go_wp2
    refine bodyPost_ret (v := .tuple #[.agg #[.int .i64 0, .int .i64 0], .int .i64 7]) (by simp [results, Tryd.results41, go_sem, *] <;> (repeat' apply And.intro) <;> rfl) rfl ⟨rfl, ?_⟩
    (repeat (first | (with_reducible exact Below.refl _ _) | (with_reducible assumption) | (with_reducible refine Below.drew ?_) | (with_reducible refine Below.allocS ?_ _) | (with_reducible refine Below.setCell ?_ ?_ _) | (with_reducible refine Below.step ?_ (by assumption)) | (with_reducible refine Below.drewN' ?_ _))); (try any_goals (first | (with_reducible assumption) | (simp; done) | (simp; omega) | omega))
  · have HL := Lib.hid (fun W => lowest_c n d ⟨by omega, by omega⟩ ⟨by omega, by omega⟩ h5 W)
    obtain ⟨p, q, z, hz⟩ := low_split n d
    rw [hz] at HL ⊢
    clear hz
    unfold retV at *
    have e0 := decide_eq_false (show ¬ n < -1000000000000000000 by omega)
    have e1 := decide_eq_false (show ¬ 1000000000000000000 < n by omega)
    have e2 := decide_eq_false (show ¬ d < -1000000000000000000 by omega)
    have e3 := decide_eq_false (show ¬ 1000000000000000000 < d by omega)
    have e4 : (d == 0) = false := by simpa using h5
    go_enter Tryd.func41, Tryd.ntmps41
    go_wp2_with fail
    refine (HL.out _).mono ?_
    rintro e w1 ⟨rfl, hb1⟩
    have x1_0_0 : w1.cell? ⟨w.heap.size, 0, none⟩ = some (.int .i64 0) := keep_cell hb1 (by simp [go_sem, *])
    have f1_0_0 : w1.frozen? ⟨w.heap.size, 0, none⟩ = false := keep_frozen hb1 (by first | omega | (simp <;> omega)) (by simp [go_sem, *])
    have x1_0_1 : w1.cell? ⟨w.heap.size, 1, none⟩ = some (.int .i64 0) := keep_cell hb1 (by simp [go_sem, *])
    have f1_0_1 : w1.frozen? ⟨w.heap.size, 1, none⟩ = false := keep_frozen hb1 (by first | omega | (simp <;> omega)) (by simp [go_sem, *])
    have y1_0 : w.heap.size < w1.heap.size := cell?_lt x1_0_0
    have g1 : Below w.heap.size w w1 := by (repeat (first | exact Below.refl _ _ | refine Below.drew ?_ | refine Below.allocS ?_ _ | refine Below.step ?_ (by assumption) | refine Below.setCell ?_ (by simp <;> omega) _ | refine Below.drewN' ?_ _))
    clear hb1
    go_wp2
    refine bodyPost_ret (v := .tuple #[.agg #[.int .i64 p, .int .i64 q], .int .i64 z]) (by simp [results, Tryd.results41, go_sem, *] <;> (repeat' apply And.intro) <;> rfl) rfl ⟨rfl, ?_⟩
    (repeat (first | (with_reducible exact Below.refl _ _) | (with_reducible assumption) | (with_reducible refine Below.drew ?_) | (with_reducible refine Below.allocS ?_ _) | (with_reducible refine Below.setCell ?_ ?_ _) | (with_reducible refine Below.step ?_ (by assumption)) | (with_reducible refine Below.drewN' ?_ _))); (try any_goals (first | (with_reducible assumption) | (simp; done) | (simp; omega) | omega))
set_option maxHeartbeats 1000000 in
theorem rLowest_c (n d : Int) (hn : Fit n) (hd : Fit d) (h0 : d ≠ 0) (w : World) : Calls Tryd.prog 75 #[.int .i64 n, .int .i64 d] w fun e w' => e = .returned (retV (lowR n d)) ∧ Below w.heap.size w w' := by
  have HD := Lib.hid (fun W => rdivisor_c n d hn hd W)
  have HV := Lib.hid (fun W => rValidRatio_c (redN n d) (redD n d) W)
  have hg0 := gcdI_pos (a := n) h0
  have hgl := gcdI_le (a := n) h0
  obtain ⟨G, hG⟩ : ∃ G, redG n d = G := ⟨_, rfl⟩
  have hG0 : G ≠ 0 := by rw [← hG]; exact redG_ne h0
  have hN : redN n d = n.tdiv G := by unfold redN; rw [hG]
  have hE : redD n d = d.tdiv G := by unfold redD; rw [hG]
  have m1 : IntKind.i64.wrap (n.tdiv G) = n.tdiv G := fit_wrap (tdiv_fit hn)
  have m2 : IntKind.i64.wrap (d.tdiv G) = d.tdiv G := fit_wrap (tdiv_fit hd)
  unfold lowR retV
  rw [hN, hE] at HV ⊢
  clear hN hE
  have m3 : d < 0 → IntKind.i64.wrap (-gcdI n d) = G := fun h => by rw [← hG, redG, if_pos h]; exact fit_wrap (by unfold Fit at *; omega)
  have m4 : ¬ d < 0 → gcdI n d = G := fun h => by rw [← hG, redG, if_neg h]
  by_cases hneg : d < 0
  · have m5 := m3 hneg
    obtain ⟨g, hg⟩ : ∃ g, gcdI n d = g := ⟨_, rfl⟩
    rw [hg] at HD hg0 hgl m5
    obtain ⟨p, hp⟩ : ∃ p, n.tdiv G = p := ⟨_, rfl⟩
    obtain ⟨q, hq⟩ : ∃ q, d.tdiv G = q := ⟨_, rfl⟩
    rw [hp] at m1 HV ⊢
    rw [hq] at m2 HV ⊢
    rw [← hp] at m1
    rw [← hq] at m2
    have m1' : IntKind.i64.wrap (n.tdiv G) = p := m1.trans hp
    have m2' : IntKind.i64.wrap (d.tdiv G) = q := m2.trans hq
    clear hG hg m3 m4 m1 m2 hp hq
    cases h : okRat p q
    all_goals
      rw [h] at HV
      clear h
      go_enter Tryd.func75, Tryd.ntmps75
      go_wp2_with fail
      refine (HD.out _).mono ?_
      rintro e w1 ⟨rfl, hb1⟩
      have x1_0_0 : w1.cell? ⟨w.heap.size, 0, none⟩ = some (.int .i64 0) := keep_cell hb1 (by simp [go_sem, *])
      have f1_0_0 : w1.frozen? ⟨w.heap.size, 0, none⟩ = false := keep_frozen hb1 (by first | omega | (simp <;> omega)) (by simp [go_sem, *])
      have x1_0_1 : w1.cell? ⟨w.heap.size, 1, none⟩ = some (.int .i64 0) := keep_cell hb1 (by simp [go_sem, *])
      have f1_0_1 : w1.frozen? ⟨w.heap.size, 1, none⟩ = false := keep_frozen hb1 (by first | omega | (simp <;> omega)) (by simp [go_sem, *])
      have y1_0 : w.heap.size < w1.heap.size := cell?_lt x1_0_0
      have g1 : Below w.heap.size w w1 := by (repeat (first | exact Below.refl _ _ | refine Below.drew ?_ | refine Below.allocS ?_ _ | refine Below.step ?_ (by assumption) | refine Below.setCell ?_ (by simp <;> omega) _ | refine Below.drewN' ?_ _))
      clear hb1
      go_wp2
      go_region
      go_wp2_with fail
      refine (HV.out _).mono ?_
      rintro e w2 ⟨rfl, hb2⟩
      have x2_0_0 : w2.cell? ⟨w.heap.size, 0, none⟩ = some (.int .i64 0) := keep_cell hb2 (by simp [go_sem, *])
      have f2_0_0 : w2.frozen? ⟨w.heap.size, 0, none⟩ = false := keep_frozen hb2 (by first | omega | (simp <;> omega)) (by simp [go_sem, *])
      have x2_0_1 : w2.cell? ⟨w.heap.size, 1, none⟩ = some (.int .i64 0) := keep_cell hb2 (by simp [go_sem, *])
      have f2_0_1 : w2.frozen? ⟨w.heap.size, 1, none⟩ = false := keep_frozen hb2 (by first | omega | (simp <;> omega)) (by simp [go_sem, *])
      have y2_0 : w.heap.size < w2.heap.size := cell?_lt x2_0_0
      have x2_1_0 : w2.cell? ⟨w1.heap.size, 0, none⟩ = some (.int .i64 p) := keep_cell hb2 (by simp [go_sem, *])
      have x2_1_1 : w2.cell? ⟨w1.heap.size, 1, none⟩ = some (.int .i64 q) := keep_cell hb2 (by simp [go_sem, *])
      have y2_1 : w1.heap.size < w2.heap.size := cell?_lt x2_1_0
      have g2 : Below w.heap.size w w2 := by (repeat (first | exact Below.refl _ _ | refine Below.drew ?_ | refine Below.allocS ?_ _ | refine Below.step ?_ (by assumption) | refine Below.setCell ?_ (by simp <;> omega) _ | refine Below.drewN' ?_ _))
      clear hb2 g1 x1_0_0 f1_0_0 x1_0_1 f1_0_1 y1_0
      go_wp2
      first
        | (refine bodyPost_ret (v := .tuple #[.agg #[.int .i64 0, .int .i64 0], .int .i64 4]) (by simp [results, Tryd.results75, go_sem, *] <;> (repeat' apply And.intro) <;> rfl) rfl ⟨rfl, ?_⟩
           (repeat (first | (with_reducible exact Below.refl _ _) | (with_reducible assumption) | (with_reducible refine Below.drew ?_) | (with_reducible refine Below.allocS ?_ _) | (with_reducible refine Below.setCell ?_ ?_ _) | (with_reducible refine Below.step ?_ (by assumption)) | (with_reducible refine Below.drewN' ?_ _))); (try any_goals (first | (with_reducible assumption) | (simp; done) | (simp; omega) | omega)))
        | (refine bodyPost_ret (v := .tuple #[.agg #[.int .i64 p, .int .i64 q], .int .i64 0]) (by simp [results, Tryd.results75, go_sem, *] <;> (repeat' apply And.intro) <;> rfl) rfl ⟨rfl, ?_⟩
           (repeat (first | (with_reducible exact Below.refl _ _) | (with_reducible assumption) | (with_reducible refine Below.drew ?_) | (with_reducible refine Below.allocS ?_ _) | (with_reducible refine Below.setCell ?_ ?_ _) | (with_reducible refine Below.step ?_ (by assumption)) | (with_reducible refine Below.drewN' ?_ _))); (try any_goals (first | (with_reducible assumption) | (simp; done) | (simp; omega) | omega)))
  · have m5 := m4 hneg
    rw [m5] at HD hg0 hgl
    obtain ⟨p, hp⟩ : ∃ p, n.tdiv G = p := ⟨_, rfl⟩
    obtain ⟨q, hq⟩ : ∃ q, d.tdiv G = q := ⟨_, rfl⟩
    rw [hp] at m1 HV ⊢
    rw [hq] at m2 HV ⊢
    rw [← hp] at m1
    rw [← hq] at m2
    have m1' : IntKind.i64.wrap (n.tdiv G) = p := m1.trans hp
    have m2' : IntKind.i64.wrap (d.tdiv G) = q := m2.trans hq
    clear hG m3 m4 m5 m1 m2 hp hq
    cases h : okRat p q
    all_goals
      rw [h] at HV
      clear h
      go_enter Tryd.func75, Tryd.ntmps75
      go_wp2_with fail
      refine (HD.out _).mono ?_
      rintro e w1 ⟨rfl, hb1⟩
      have x1_0_0 : w1.cell? ⟨w.heap.size, 0, none⟩ = some (.int .i64 0) := keep_cell hb1 (by simp [go_sem, *])
      have f1_0_0 : w1.frozen? ⟨w.heap.size, 0, none⟩ = false := keep_frozen hb1 (by first | omega | (simp <;> omega)) (by simp [go_sem, *])
      have x1_0_1 : w1.cell? ⟨w.heap.size, 1, none⟩ = some (.int .i64 0) := keep_cell hb1 (by simp [go_sem, *])
      have f1_0_1 : w1.frozen? ⟨w.heap.size, 1, none⟩ = false := keep_frozen hb1 (by first | omega | (simp <;> omega)) (by simp [go_sem, *])
      have y1_0 : w.heap.size < w1.heap.size := cell?_lt x1_0_0
      have g1 : Below w.heap.size w w1 := by (repeat (first | exact Below.refl _ _ | refine Below.drew ?_ | refine Below.allocS ?_ _ | refine Below.step ?_ (by assumption) | refine Below.setCell ?_ (by simp <;> omega) _ | refine Below.drewN' ?_ _))
      clear hb1
      go_wp2
      go_region
      go_wp2_with fail
      refine (HV.out _).mono ?_
      rintro e w2 ⟨rfl, hb2⟩
      have x2_0_0 : w2.cell? ⟨w.heap.size, 0, none⟩ = some (.int .i64 0) := keep_cell hb2 (by simp [go_sem, *])
      have f2_0_0 : w2.frozen? ⟨w.heap.size, 0, none⟩ = false := keep_frozen hb2 (by first | omega | (simp <;> omega)) (by simp [go_sem, *])
      have x2_0_1 : w2.cell? ⟨w.heap.size, 1, none⟩ = some (.int .i64 0) := keep_cell hb2 (by simp [go_sem, *])
      have f2_0_1 : w2.frozen? ⟨w.heap.size, 1, none⟩ = false := keep_frozen hb2 (by first | omega | (simp <;> omega)) (by simp [go_sem, *])
      have y2_0 : w.heap.size < w2.heap.size := cell?_lt x2_0_0
      have x2_1_0 : w2.cell? ⟨w1.heap.size, 0, none⟩ = some (.int .i64 p) := keep_cell hb2 (by simp [go_sem, *])
      have x2_1_1 : w2.cell? ⟨w1.heap.size, 1, none⟩ = some (.int .i64 q) := keep_cell hb2 (by simp [go_sem, *])
      have y2_1 : w1.heap.size < w2.heap.size := cell?_lt x2_1_0
      have g2 : Below w.heap.size w w2 := by (repeat (first | exact Below.refl _ _ | refine Below.drew ?_ | refine Below.allocS ?_ _ | refine Below.step ?_ (by assumption) | refine Below.setCell ?_ (by simp <;> omega) _ | refine Below.drewN' ?_ _))
      clear hb2 g1 x1_0_0 f1_0_0 x1_0_1 f1_0_1 y1_0
      go_wp2
      first
        | (refine bodyPost_ret (v := .tuple #[.agg #[.int .i64 0, .int .i64 0], .int .i64 4]) (by simp [results, Tryd.results75, go_sem, *] <;> (repeat' apply And.intro) <;> rfl) rfl ⟨rfl, ?_⟩
           (repeat (first | (with_reducible exact Below.refl _ _) | (with_reducible assumption) | (with_reducible refine Below.drew ?_) | (with_reducible refine Below.allocS ?_ _) | (with_reducible refine Below.setCell ?_ ?_ _) | (with_reducible refine Below.step ?_ (by assumption)) | (with_reducible refine Below.drewN' ?_ _))); (try any_goals (first | (with_reducible assumption) | (simp; done) | (simp; omega) | omega)))
        | (refine bodyPost_ret (v := .tuple #[.agg #[.int .i64 p, .int .i64 q], .int .i64 0]) (by simp [results, Tryd.results75, go_sem, *] <;> (repeat' apply And.intro) <;> rfl) rfl ⟨rfl, ?_⟩
           (repeat (first | (with_reducible exact Below.refl _ _) | (with_reducible assumption) | (with_reducible refine Below.drew ?_) | (with_reducible refine Below.allocS ?_ _) | (with_reducible refine Below.setCell ?_ ?_ _) | (with_reducible refine Below.step ?_ (by assumption)) | (with_reducible refine Below.drewN' ?_ _))); (try any_goals (first | (with_reducible assumption) | (simp; done) | (simp; omega) | omega)))
end Go.Proofs.YtjkcgbidceakjaaDoor
