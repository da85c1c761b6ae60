/-
  Excluded of gun.
-/
import Derived.Test.YtgiplkfdallmkaaV1
namespace Go.Proofs.Ytgiplkfdallmkaa
open Go.RowKit
set_option linter.unusedVariables false
set_option linter.unusedSimpArgs false
def nearD (a b c d : Int) (t : Shot) : Int := dd t.gx t.gy (nearN t.gx a c) (nearN t.gy b d)
def farD (a b c d : Int) (t : Shot) : Int := dd t.gx t.gy (farN t.gx a c) (farN t.gy b d)
theorem sq_far {n x lo hi : Int} (h1 : lo ≤ x) (h2 : x ≤ hi) : (n - x) * (n - x) ≤ (n - farN n lo hi) * (n - farN n lo hi) := by
  unfold farN
  split
  · have := sq_le_sq (a := n - x) (b := n - lo) (by omega) (by omega); exact this
  · have := sq_le_sq (a := n - x) (b := hi - n) (by omega) (by omega)
    rw [show (n - hi) * (n - hi) = (hi - n) * (hi - n) by rw [← Int.neg_mul_neg, Int.neg_sub]]; exact this
theorem sq_near {n x lo hi : Int} (h1 : lo ≤ x) (h2 : x ≤ hi) : (n - nearN n lo hi) * (n - nearN n lo hi) ≤ (n - x) * (n - x) := by
  have h : nearN n lo hi = if n < lo then lo else if hi < n then hi else n := by unfold nearN; split <;> (try split) <;> omega
  rw [h]
  split
  · have := sq_le_sq (a := lo - n) (b := x - n) (by omega) (by omega)
    rwa [← Int.neg_mul_neg (lo - n), Int.neg_sub, ← Int.neg_mul_neg (x - n), Int.neg_sub] at this
  · split
    · exact sq_le_sq (by omega) (by omega)
    · rw [Int.sub_self, Int.zero_mul]; exact sq_nonneg _
theorem dd_far {a b c d x y : Int} (t : Shot) (h1 : a ≤ x) (h2 : x ≤ c) (h3 : b ≤ y) (h4 : y ≤ d) : dd t.gx t.gy x y ≤ farD a b c d t := by
  have := sq_far (n := t.gx) h1 h2; have := sq_far (n := t.gy) h3 h4; unfold farD dd; omega
theorem dd_near {a b c d x y : Int} (t : Shot) (h1 : a ≤ x) (h2 : x ≤ c) (h3 : b ≤ y) (h4 : y ≤ d) : nearD a b c d t ≤ dd t.gx t.gy x y := by
  have := sq_near (n := t.gx) h1 h2; have := sq_near (n := t.gy) h3 h4; unfold nearD dd; omega
/-- Two places that are the corners of a box. -/
structure IsBox (a b c d : Int) : Prop where
  lo : place a b = true
  hi : place c d = true
  x : a ≤ c
  y : b ≤ d
theorem place_mk {x y : Int} (h1 : -50000 ≤ x) (h2 : x ≤ 50000) (h3 : -50000 ≤ y) (h4 : y ≤ 50000) : place x y = true := by
  simp [place, within]; omega
theorem IsBox.place {a b c d x y : Int} (h : IsBox a b c d) (h1 : a ≤ x) (h2 : x ≤ c) (h3 : b ≤ y) (h4 : y ≤ d) : place x y = true := by
  have := place_true h.lo; have := place_true h.hi; exact place_mk (by omega) (by omega) (by omega) (by omega)
theorem IsBox.near {a b c d : Int} (h : IsBox a b c d) (t : Shot) : Go.Proofs.Ytgiplkfdallmkaa.place (nearN t.gx a c) (nearN t.gy b d) = true :=
  h.place (near_in h.x).1 (near_in h.x).2 (near_in h.y).1 (near_in h.y).2
theorem IsBox.far {a b c d : Int} (h : IsBox a b c d) (t : Shot) : Go.Proofs.Ytgiplkfdallmkaa.place (farN t.gx a c) (farN t.gy b d) = true :=
  h.place (far_in h.x).1 (far_in h.x).2 (far_in h.y).1 (far_in h.y).2
def apart (s v a b c d : Int) (t : Shot) : Bool := !meetB (lagLo s v (nearD a b c d t)) (lagHi s v (farD a b c d t)) t.lo t.hi
theorem lagLo_mono {s v p q : Int} (ha : validAir s v = true) (h0 : 0 ≤ p) (h : p ≤ q) : lagLo s v p ≤ lagLo s v q := by
  have := validAir_true ha
  exact ovLo_mono (by omega) (dLo_mono h0 h)
theorem lagHi_mono {s v p q : Int} (ha : validAir s v = true) (h0 : 0 ≤ p) (h : p ≤ q) : lagHi s v p ≤ lagHi s v q := by
  have := validAir_true ha
  exact ovHi_mono (by omega) (dHi_mono h0 h)
theorem apart_le {s v a b c d : Int} {t : Shot} (ha : validAir s v = true) (hb : IsBox a b c d) (ht : place t.gx t.gy = true) : lagLo s v (nearD a b c d t) ≤ lagHi s v (farD a b c d t) := by
  have h1 := lag_le ha ht (hb.far t)
  have h2 := dd_near (a := a) (b := b) (c := c) (d := d) (x := farN t.gx a c) (y := farN t.gy b d) t (far_in hb.x).1 (far_in hb.x).2 (far_in hb.y).1 (far_in hb.y).2
  have h3 := lagLo_mono ha (show 0 ≤ nearD a b c d t from (dd_bd ht (hb.near t)).1) h2
  exact Int.le_trans h3 h1
/-- A box that is apart from a shot has no place that suits it. -/
theorem apart_none {s v a b c d x y : Int} {t : Shot} (ha : validAir s v = true) (hb : IsBox a b c d) (ht : place t.gx t.gy = true) (h1 : a ≤ x) (h2 : x ≤ c) (h3 : b ≤ y) (h4 : y ≤ d) (h : apart s v a b c d t = true) : suit1 s v x y t = false := by
  have n1 := dd_near (a := a) (b := b) (c := c) (d := d) t h1 h2 h3 h4
  have n2 := dd_far (a := a) (b := b) (c := c) (d := d) t h1 h2 h3 h4
  have m1 := lagLo_mono ha (show 0 ≤ nearD a b c d t from (dd_bd ht (hb.near t)).1) n1
  have m2 := lagHi_mono ha (dd_bd ht (hb.place h1 h2 h3 h4)).1 n2
  unfold apart at h
  unfold suit1
  cases hm : meetB (lagLo s v (dd t.gx t.gy x y)) (lagHi s v (dd t.gx t.gy x y)) t.lo t.hi with
  | false => rfl
  | true =>
    unfold meetB at h hm
    simp at h hm
    omega
set_option maxHeartbeats 1000000 in
theorem apart_c (s v a b c d : Int) (t : Shot) (ha : validAir s v = true) (hb : IsBox a b c d) (ht : okShot t.gx t.gy t.lo t.hi = true) (bl bh ba : Nat) (w : World)
    (c0 : w.cell? ⟨bl, 0, none⟩ = some (.int .i64 a)) (c1 : w.cell? ⟨bl, 1, none⟩ = some (.int .i64 b)) (c2 : w.cell? ⟨bh, 0, none⟩ = some (.int .i64 c)) (c3 : w.cell? ⟨bh, 1, none⟩ = some (.int .i64 d)) (c4 : w.cell? ⟨ba, 0, none⟩ = some (.int .i64 s)) (c5 : w.cell? ⟨ba, 1, none⟩ = some (.int .i64 v)) :
    Calls Try.prog 81 #[.agg #[.int .i64 t.gx, .int .i64 t.gy, .int .i64 t.lo, .int .i64 t.hi], .pointer (some ⟨bl, 0, none⟩), .pointer (some ⟨bh, 0, none⟩), .pointer (some ⟨ba, 0, none⟩)] w fun e w' => e = .returned (.bool (apart s v a b c d t)) ∧ Below w.heap.size w w' := by
  obtain ⟨t1, t2, t3, t4⟩ := okShot_true ht
  have hle := apart_le ha hb t1
  obtain ⟨⟨p1, p2⟩, p3, p4⟩ := place_true t1
  obtain ⟨⟨q1, q2⟩, q3, q4⟩ := place_true hb.lo
  obtain ⟨⟨r1, r2⟩, r3, r4⟩ := place_true hb.hi
  have HN := Lib.hid (fun W => nearest_c t.gx a c p1 p2 q1 hb.x r2 W)
  have HM := Lib.hid (fun W => nearest_c t.gy b d p3 p4 q3 hb.y r4 W)
  have HL := Lib.hid (fun W => lag_c s v _ _ _ _ ha t1 (hb.near t) W)
  have HF := Lib.hid (fun W => lag_c s v _ _ _ _ ha t1 (hb.far t) W)
  have HT := Lib.hid (fun W => meet_c _ _ _ _ hle t3 W)
  unfold apart
  unfold nearD farD at *
  have fd0 : ∀ (x y : Int) (W : World), (Instr.field 29 (.agg #[.int .i64 x, .int .i64 y]) 0).run Try.prog W = .ok (.int .i64 x) W := fun _ _ _ => by kernel_rfl
  have fd1 : ∀ (x y : Int) (W : World), (Instr.field 29 (.agg #[.int .i64 x, .int .i64 y]) 1).run Try.prog W = .ok (.int .i64 y) W := fun _ _ _ => by kernel_rfl
  have l0 : bl < w.heap.size := cell?_lt c0
  have l2 : bh < w.heap.size := cell?_lt c2
  have l4 : ba < w.heap.size := cell?_lt c4
  have l0' : bl < w.heap.size + 1 := by omega
  have l2' : bh < w.heap.size + 1 := by omega
  have l4' : ba < w.heap.size + 1 := by omega
  have l0'' : bl < w.heap.size + 1 + 1 := by omega
  have l2'' : bh < w.heap.size + 1 + 1 := by omega
  have l4'' : ba < w.heap.size + 1 + 1 := by omega
  clear ha hb ht t1 t2 t3 t4 hle p1 p2 p3 p4 q1 q2 q3 q4 r1 r2 r3 r4
  generalize nearN t.gx a c = n1 at *
  generalize nearN t.gy b d = n2 at *
  generalize farN t.gx a c = f1 at *
  generalize farN t.gy b d = f2 at *
  go_enter Try.func81, Try.ntmps81
  go_wp2_with fail
  refine (HN.out _).mono ?_
  rintro e w1 ⟨rfl, hb1⟩
  have x1_0_0 : w1.cell? ⟨bl, 0, none⟩ = some (.int .i64 a) := keep_cell hb1 (by simp [go_sem, *])
  have x1_0_1 : w1.cell? ⟨bl, 1, none⟩ = some (.int .i64 b) := keep_cell hb1 (by simp [go_sem, *])
  have y1_0 : bl < w1.heap.size := cell?_lt x1_0_0
  have x1_1_0 : w1.cell? ⟨bh, 0, none⟩ = some (.int .i64 c) := keep_cell hb1 (by simp [go_sem, *])
  have x1_1_1 : w1.cell? ⟨bh, 1, none⟩ = some (.int .i64 d) := keep_cell hb1 (by simp [go_sem, *])
  have y1_1 : bh < w1.heap.size := cell?_lt x1_1_0
  have x1_2_0 : w1.cell? ⟨ba, 0, none⟩ = some (.int .i64 s) := keep_cell hb1 (by simp [go_sem, *])
  have x1_2_1 : w1.cell? ⟨ba, 1, none⟩ = some (.int .i64 v) := keep_cell hb1 (by simp [go_sem, *])
  have y1_2 : ba < w1.heap.size := cell?_lt x1_2_0
  have x1_3_0 : w1.cell? ⟨w.heap.size, 0, none⟩ = some (.int .i64 t.gx) := keep_cell hb1 (by simp [go_sem, *])
  have x1_3_1 : w1.cell? ⟨w.heap.size, 1, none⟩ = some (.int .i64 t.gy) := keep_cell hb1 (by simp [go_sem, *])
  have x1_3_2 : w1.cell? ⟨w.heap.size, 2, none⟩ = some (.int .i64 t.lo) := keep_cell hb1 (by simp [go_sem, *])
  have x1_3_3 : w1.cell? ⟨w.heap.size, 3, none⟩ = some (.int .i64 t.hi) := keep_cell hb1 (by simp [go_sem, *])
  have y1_3 : w.heap.size < w1.heap.size := cell?_lt x1_3_0
  have x1_4_0 : w1.cell? ⟨w.heap.size + 1, 0, none⟩ = some (.int .i64 0) := keep_cell hb1 (by simp [go_sem, *])
  have f1_4_0 : w1.frozen? ⟨w.heap.size + 1, 0, none⟩ = false := keep_frozen hb1 (by first | omega | (simp <;> omega)) (by simp [go_sem, *])
  have x1_4_1 : w1.cell? ⟨w.heap.size + 1, 1, none⟩ = some (.int .i64 0) := keep_cell hb1 (by simp [go_sem, *])
  have f1_4_1 : w1.frozen? ⟨w.heap.size + 1, 1, none⟩ = false := keep_frozen hb1 (by first | omega | (simp <;> omega)) (by simp [go_sem, *])
  have y1_4 : w.heap.size + 1 < w1.heap.size := cell?_lt x1_4_0
  have x1_5_0 : w1.cell? ⟨w.heap.size + 1 + 1, 0, none⟩ = some (.int .i64 0) := keep_cell hb1 (by simp [go_sem, *])
  have f1_5_0 : w1.frozen? ⟨w.heap.size + 1 + 1, 0, none⟩ = false := keep_frozen hb1 (by first | omega | (simp <;> omega)) (by simp [go_sem, *])
  have x1_5_1 : w1.cell? ⟨w.heap.size + 1 + 1, 1, none⟩ = some (.int .i64 0) := keep_cell hb1 (by simp [go_sem, *])
  have f1_5_1 : w1.frozen? ⟨w.heap.size + 1 + 1, 1, none⟩ = false := keep_frozen hb1 (by first | omega | (simp <;> omega)) (by simp [go_sem, *])
  have y1_5 : w.heap.size + 1 + 1 < w1.heap.size := cell?_lt x1_5_0
  have g1 : Below w.heap.size w w1 := by (repeat (first | exact Below.refl _ _ | refine Below.drew ?_ | refine Below.allocS ?_ _ | refine Below.step ?_ (by assumption) | refine Below.setCell ?_ (by simp <;> omega) _ | refine Below.drewN' ?_ _))
  clear hb1
  go_wp2_with fail
  refine (HM.out _).mono ?_
  rintro e w2 ⟨rfl, hb2⟩
  have x2_0_0 : w2.cell? ⟨bl, 0, none⟩ = some (.int .i64 a) := keep_cell hb2 (by simp [go_sem, *])
  have x2_0_1 : w2.cell? ⟨bl, 1, none⟩ = some (.int .i64 b) := keep_cell hb2 (by simp [go_sem, *])
  have y2_0 : bl < w2.heap.size := cell?_lt x2_0_0
  have x2_1_0 : w2.cell? ⟨bh, 0, none⟩ = some (.int .i64 c) := keep_cell hb2 (by simp [go_sem, *])
  have x2_1_1 : w2.cell? ⟨bh, 1, none⟩ = some (.int .i64 d) := keep_cell hb2 (by simp [go_sem, *])
  have y2_1 : bh < w2.heap.size := cell?_lt x2_1_0
  have x2_2_0 : w2.cell? ⟨ba, 0, none⟩ = some (.int .i64 s) := keep_cell hb2 (by simp [go_sem, *])
  have x2_2_1 : w2.cell? ⟨ba, 1, none⟩ = some (.int .i64 v) := keep_cell hb2 (by simp [go_sem, *])
  have y2_2 : ba < w2.heap.size := cell?_lt x2_2_0
  have x2_3_0 : w2.cell? ⟨w.heap.size, 0, none⟩ = some (.int .i64 t.gx) := keep_cell hb2 (by simp [go_sem, *])
  have x2_3_1 : w2.cell? ⟨w.heap.size, 1, none⟩ = some (.int .i64 t.gy) := keep_cell hb2 (by simp [go_sem, *])
  have x2_3_2 : w2.cell? ⟨w.heap.size, 2, none⟩ = some (.int .i64 t.lo) := keep_cell hb2 (by simp [go_sem, *])
  have x2_3_3 : w2.cell? ⟨w.heap.size, 3, none⟩ = some (.int .i64 t.hi) := keep_cell hb2 (by simp [go_sem, *])
  have y2_3 : w.heap.size < w2.heap.size := cell?_lt x2_3_0
  have x2_4_0 : w2.cell? ⟨w.heap.size + 1, 0, none⟩ = some (.int .i64 n1) := keep_cell hb2 (by simp [go_sem, *])
  have f2_4_0 : w2.frozen? ⟨w.heap.size + 1, 0, none⟩ = false := keep_frozen hb2 (by first | omega | (simp <;> omega)) (by simp [go_sem, *])
  have x2_4_1 : w2.cell? ⟨w.heap.size + 1, 1, none⟩ = some (.int .i64 0) := keep_cell hb2 (by simp [go_sem, *])
  have f2_4_1 : w2.frozen? ⟨w.heap.size + 1, 1, none⟩ = false := keep_frozen hb2 (by first | omega | (simp <;> omega)) (by simp [go_sem, *])
  have y2_4 : w.heap.size + 1 < w2.heap.size := cell?_lt x2_4_0
  have x2_5_0 : w2.cell? ⟨w.heap.size + 1 + 1, 0, none⟩ = some (.int .i64 f1) := keep_cell hb2 (by simp [go_sem, *])
  have f2_5_0 : w2.frozen? ⟨w.heap.size + 1 + 1, 0, none⟩ = false := keep_frozen hb2 (by first | omega | (simp <;> omega)) (by simp [go_sem, *])
  have x2_5_1 : w2.cell? ⟨w.heap.size + 1 + 1, 1, none⟩ = some (.int .i64 0) := keep_cell hb2 (by simp [go_sem, *])
  have f2_5_1 : w2.frozen? ⟨w.heap.size + 1 + 1, 1, none⟩ = false := keep_frozen hb2 (by first | omega | (simp <;> omega)) (by simp [go_sem, *])
  have y2_5 : w.heap.size + 1 + 1 < w2.heap.size := cell?_lt x2_5_0
  have g2 : Below w.heap.size w w2 := by (repeat (first | exact Below.refl _ _ | refine Below.drew ?_ | refine Below.allocS ?_ _ | refine Below.step ?_ (by assumption) | refine Below.setCell ?_ (by simp <;> omega) _ | refine Below.drewN' ?_ _))
  clear hb2 g1 x1_0_0 x1_0_1 x1_1_0 x1_1_1 x1_2_0 x1_2_1 x1_3_0 x1_3_1 x1_3_2 x1_3_3 x1_4_0 f1_4_0 x1_4_1 f1_4_1 x1_5_0 f1_5_0 x1_5_1 f1_5_1 y1_0 y1_1 y1_2 y1_3 y1_4 y1_5
  go_wp2_with fail
  refine region_below (by kernel_rfl) (by kernel_rfl) ?_
  (first | go_big_quiet_skip | (go_big_quiet_want; refine quiet_val (v := ?_) ?_ ?_; rotate_left 1; (· (intro Wq hWq; obtain ⟨hWc, hWf⟩ := bcell hWq; go_simp; (try with_reducible rfl))); go_big_quiet_on; (try simp only [Act.put, List.setIfInBounds_toArray, List.set_cons_zero, List.set_cons_succ])))
  (first | go_big_quiet_skip | (go_big_quiet_want; refine quiet_val (v := ?_) ?_ ?_; rotate_left 1; (· (intro Wq hWq; obtain ⟨hWc, hWf⟩ := bcell hWq; go_simp; (try with_reducible rfl))); go_big_quiet_on; (try simp only [Act.put, List.setIfInBounds_toArray, List.set_cons_zero, List.set_cons_succ])))
  (first | go_big_quiet_skip | (go_big_quiet_want; refine quiet_val (v := ?_) ?_ ?_; rotate_left 1; (· (intro Wq hWq; obtain ⟨hWc, hWf⟩ := bcell hWq; go_simp; (try with_reducible rfl))); go_big_quiet_on; (try simp only [Act.put, List.setIfInBounds_toArray, List.set_cons_zero, List.set_cons_succ])))
  (first | go_big_quiet_skip | (go_big_quiet_want; refine quiet_val (v := ?_) ?_ ?_; rotate_left 1; (· (intro Wq hWq; obtain ⟨hWc, hWf⟩ := bcell hWq; go_simp; (try with_reducible rfl))); go_big_quiet_on; (try simp only [Act.put, List.setIfInBounds_toArray, List.set_cons_zero, List.set_cons_succ])))
  go_big_quiet_want; refine quiet_callB (f := 52) (args := ?_) (v := ?_) ?_ ?_ ?_; rotate_left 2
  · (intro Wq hWq; obtain ⟨hWc, hWf⟩ := bcell hWq; go_simp; (first | with_reducible rfl | exact ⟨rfl, rfl⟩))
  · (intro Wq hWq; exact HL.out _)
  go_big_quiet_on; (try simp only [Act.put, List.setIfInBounds_toArray, List.set_cons_zero, List.set_cons_succ])
  (first | go_big_quiet_skip | (go_big_quiet_want; refine quiet_val (v := ?_) ?_ ?_; rotate_left 1; (· (intro Wq hWq; obtain ⟨hWc, hWf⟩ := bcell hWq; go_simp; (try with_reducible rfl))); go_big_quiet_on; (try simp only [Act.put, List.setIfInBounds_toArray, List.set_cons_zero, List.set_cons_succ])))
  (first | go_big_quiet_skip | (go_big_quiet_want; refine quiet_val (v := ?_) ?_ ?_; rotate_left 1; (· (intro Wq hWq; obtain ⟨hWc, hWf⟩ := bcell hWq; go_simp; (try with_reducible rfl))); go_big_quiet_on; (try simp only [Act.put, List.setIfInBounds_toArray, List.set_cons_zero, List.set_cons_succ])))
  (first | go_big_quiet_skip | (go_big_quiet_want; refine quiet_val (v := ?_) ?_ ?_; rotate_left 1; (· (intro Wq hWq; obtain ⟨hWc, hWf⟩ := bcell hWq; go_simp; (try with_reducible rfl))); go_big_quiet_on; (try simp only [Act.put, List.setIfInBounds_toArray, List.set_cons_zero, List.set_cons_succ])))
  (first | go_big_quiet_skip | (go_big_quiet_want; refine quiet_val (v := ?_) ?_ ?_; rotate_left 1; (· (intro Wq hWq; obtain ⟨hWc, hWf⟩ := bcell hWq; go_simp; (try with_reducible rfl))); go_big_quiet_on; (try simp only [Act.put, List.setIfInBounds_toArray, List.set_cons_zero, List.set_cons_succ])))
  (first | go_big_quiet_skip | (go_big_quiet_want; refine quiet_val (v := ?_) ?_ ?_; rotate_left 1; (· (intro Wq hWq; obtain ⟨hWc, hWf⟩ := bcell hWq; go_simp; (try with_reducible rfl))); go_big_quiet_on; (try simp only [Act.put, List.setIfInBounds_toArray, List.set_cons_zero, List.set_cons_succ])))
  go_big_quiet_want; refine quiet_callB (f := 52) (args := ?_) (v := ?_) ?_ ?_ ?_; rotate_left 2
  · (intro Wq hWq; obtain ⟨hWc, hWf⟩ := bcell hWq; go_simp; (first | with_reducible rfl | exact ⟨rfl, rfl⟩))
  · (intro Wq hWq; exact HF.out _)
  go_big_quiet_on; (try simp only [Act.put, List.setIfInBounds_toArray, List.set_cons_zero, List.set_cons_succ])
  (first | go_big_quiet_skip | (go_big_quiet_want; refine quiet_val (v := ?_) ?_ ?_; rotate_left 1; (· (intro Wq hWq; obtain ⟨hWc, hWf⟩ := bcell hWq; go_simp; (try with_reducible rfl))); go_big_quiet_on; (try simp only [Act.put, List.setIfInBounds_toArray, List.set_cons_zero, List.set_cons_succ])))
  (first | go_big_quiet_skip | (go_big_quiet_want; refine quiet_val (v := ?_) ?_ ?_; rotate_left 1; (· (intro Wq hWq; obtain ⟨hWc, hWf⟩ := bcell hWq; go_simp; (try with_reducible rfl))); go_big_quiet_on; (try simp only [Act.put, List.setIfInBounds_toArray, List.set_cons_zero, List.set_cons_succ])))
  (first | go_big_quiet_skip | (go_big_quiet_want; refine quiet_val (v := ?_) ?_ ?_; rotate_left 1; (· (intro Wq hWq; obtain ⟨hWc, hWf⟩ := bcell hWq; go_simp; (try with_reducible rfl))); go_big_quiet_on; (try simp only [Act.put, List.setIfInBounds_toArray, List.set_cons_zero, List.set_cons_succ])))
  (first | go_big_quiet_skip | (go_big_quiet_want; refine quiet_val (v := ?_) ?_ ?_; rotate_left 1; (· (intro Wq hWq; obtain ⟨hWc, hWf⟩ := bcell hWq; go_simp; (try with_reducible rfl))); go_big_quiet_on; (try simp only [Act.put, List.setIfInBounds_toArray, List.set_cons_zero, List.set_cons_succ])))
  go_big_quiet_want; refine quiet_callB (f := 83) (args := ?_) (v := ?_) ?_ ?_ ?_; rotate_left 2
  · (intro Wq hWq; obtain ⟨hWc, hWf⟩ := bcell hWq; go_simp; (first | with_reducible rfl | exact ⟨rfl, rfl⟩))
  · (intro Wq hWq; exact HT.out _)
  go_big_quiet_on; (try simp only [Act.put, List.setIfInBounds_toArray, List.set_cons_zero, List.set_cons_succ])
  (first | go_big_quiet_skip | (go_big_quiet_want; refine quiet_val (v := ?_) ?_ ?_; rotate_left 1; (· (intro Wq hWq; obtain ⟨hWc, hWf⟩ := bcell hWq; go_simp; (try with_reducible rfl))); go_big_quiet_on; (try simp only [Act.put, List.setIfInBounds_toArray, List.set_cons_zero, List.set_cons_succ])))
  (first | go_big_quiet_skip | (go_big_quiet_want; refine quiet_val (v := ?_) ?_ ?_; rotate_left 1; (· (intro Wq hWq; obtain ⟨hWc, hWf⟩ := bcell hWq; go_simp; (try with_reducible rfl))); go_big_quiet_on; (try simp only [Act.put, List.setIfInBounds_toArray, List.set_cons_zero, List.set_cons_succ])))
  refine wpQuiet_nil ?_; intro w3 hb3
  go_wp2
  go_ret
  exact ⟨rfl, by (repeat (first | exact Below.refl _ _ | refine Below.drew ?_ | refine Below.allocS ?_ _ | refine Below.step ?_ (by assumption) | refine Below.setCell ?_ (by simp <;> omega) _ | refine Below.drewN' ?_ _))⟩
theorem call_apart (args : Array Value) (W : World) : (callFunc 81 args).run Try.prog W = .ok (.enter 81 args) W := by kernel_rfl
end Go.Proofs.Ytgiplkfdallmkaa
