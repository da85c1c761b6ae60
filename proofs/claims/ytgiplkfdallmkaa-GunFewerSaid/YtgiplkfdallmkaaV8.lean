/-
  Where of gun: the places.
-/
import Derived.Test.YtgiplkfdallmkaaV7
import Derived.OwnWalkIn
import Derived.Test.YtgiplkfdallmkaaT1
namespace Go.Proofs.Ytgiplkfdallmkaa
open Go.RowKit Go.Shelf
attribute [local go_sem] Oper.semAt_some
set_option linter.unusedVariables false
set_option linter.unusedSimpArgs false
/-- What holds between two rounds. -/
structure WhI (w : World) (ob base : Nat) (s v : Int) (l : List Shot) (A : Option Addr) (cap : Nat) (pre : List (Int × Int)) (W : World) : Prop where
  c0 : W.cell? ⟨w.heap.size, 0, none⟩ = some (.int .i64 s)
  c1 : W.cell? ⟨w.heap.size, 1, none⟩ = some (.int .i64 v)
  c2 : W.cell? ⟨w.heap.size + 1, 0, none⟩ = some (.slice A l.length cap)
  out : ∃ u, W.cell? ⟨ob, 0, none⟩ = some u ∧ W.ownsRow base 25 2 u (fitL s v l pre).length ((fitL s v l pre).flatMap ptE)
  fr : W.frozen? ⟨ob, 0, none⟩ = false
  below : Below w.heap.size w W
theorem frozen_lt {W : World} {b o : Nat} {u : Value} (h : W.cell? ⟨b, o, none⟩ = some u) : b < W.heap.size := cell?_lt h
theorem WhI.keep {w : World} {ob base : Nat} {s v : Int} {l : List Shot} {A : Option Addr} {cap : Nat} {pre : List (Int × Int)} {W W' : World} (h : WhI w ob base s v l A cap pre W) (hb : Below W.heap.size W W') : WhI w ob base s v l A cap pre W' := by
  obtain ⟨c0, c1, c2, ⟨u, c3, ho⟩, hf, hB⟩ := h
  exact ⟨keep_cell hb c0, keep_cell hb c1, keep_cell hb c2, ⟨u, keep_cell hb c3, ownsRow_keep ho hb⟩, keep_frozen hb (cell?_lt c3) hf, Below.step hB hb⟩
theorem WhI.put {w : World} {ob base : Nat} {s v : Int} {l : List Shot} {A : Option Addr} {cap : Nat} {pre : List (Int × Int)} {W : World} (h : WhI w ob base s v l A cap pre W) {D : Nat} (hD : D < base) (h1 : w.heap.size + 1 < D) (h2 : ob < D) (o : Obj) : WhI w ob base s v l A cap pre (W.putObj D o) := by
  obtain ⟨c0, c1, c2, ⟨u, c3, ho⟩, hf, hB⟩ := h
  have k : ∀ g, g ≠ D → (W.putObj D o).heap[g]? = W.heap[g]? := fun g hg => World.putObj_heap_other hg
  exact ⟨(World.cell?_of_block (a := ⟨w.heap.size, 0, none⟩) (k _ (by show w.heap.size ≠ D; omega))).trans c0, (World.cell?_of_block (a := ⟨w.heap.size, 1, none⟩) (k _ (by show w.heap.size ≠ D; omega))).trans c1, (World.cell?_of_block (a := ⟨w.heap.size + 1, 0, none⟩) (k _ (by show w.heap.size + 1 ≠ D; omega))).trans c2,
    ⟨u, (World.cell?_of_block (a := ⟨ob, 0, none⟩) (k _ (by show ob ≠ D; omega))).trans c3, own_blocks ho (fun g hg => k g (by omega))⟩, (World.frozen?_of_block (a := ⟨ob, 0, none⟩) (k _ (by show ob ≠ D; omega))).trans hf, hB.trans (below_put W (by omega) _)⟩
theorem own_base {w : World} {base base' : Nat} {e : TypeId} {size n : Nat} {v : Value} {xs : List Value} (h : w.ownsRow base e size v n xs) (hb : base' ≤ base) : w.ownsRow base' e size v n xs := by
  refine ⟨h.1, ?_⟩
  rcases h.2 with h0 | ⟨g, cap, cur, hv, hg0, hr⟩
  · exact Or.inl h0
  · exact Or.inr ⟨g, cap, cur, hv, Nat.le_trans hb hg0, hr⟩
/-- A block below the row's is behind an append as it was. -/
theorem after_grow {W w1 w2 : World} {o : Obj} {base : Nat} {e : TypeId} {sz n : Nat} {u : Value} {xs : List Value} (hown : W.ownsRow base e sz u n xs) (hg : (w1.alloc o).grownBy w2 u.ownBlock) (k : Nat) (hk : k < base) (hl : k < w1.heap.size + 1) (hb : Below W.heap.size W w1) (hW : k < W.heap.size := by omega) : w2.heap[k]? = W.heap[k]? := by
  rw [hg.block k (by simpa using hl) (fun e => by have := (hown.lt k e.symm).1; omega), Below.heap_alloc _ _ _ (by have := hb.size; omega), hb.block k hW]
theorem cell_set_other {W : World} {b b' o o' : Nat} {u : Value} (h : b ≠ b') : (W.setCell ⟨b', o', none⟩ u).cell? ⟨b, o, none⟩ = W.cell? ⟨b, o, none⟩ :=
  World.cell?_of_block (a := ⟨b, o, none⟩) (Below.heap_setCell _ _ _ _ h)
theorem own_put {W : World} {base : Nat} {e : TypeId} {size n : Nat} {v : Value} {xs : List Value} {D : Nat} {q : Option (List Deferred)} {o : Obj} (h : W.ownsRow base e size v n xs) (hK : W.heap[D]? = some (.deferred q)) : (W.putObj D o).ownsRow base e size v n xs := by
  refine ⟨h.1, ?_⟩
  rcases h.2 with h0 | ⟨g, cap, cur, hv, hg0, hg, hr⟩
  · exact Or.inl h0
  · exact Or.inr ⟨g, cap, cur, hv, hg0, (World.putObj_heap_other (by rintro rfl; rw [hK] at hg; cases hg)).trans hg, hr⟩
theorem where_end {R : Ending → World → Prop} {Z : World} {t0 t1 t2 t3 t4 t5 t6 t7 t8 t9 u : Value} {tl : List Value} (D : Nat) (hK : Z.heap[D]? = some (.deferred (some []))) (hR : R (.returned (.tuple #[u, .int .i64 0])) (Z.putObj D (.deferred none))) :
    bodyPostM Fence.wide 5 Try.prog Try.f46 R .ret { tmps := (t0 :: t1 :: t2 :: t3 :: t4 :: t5 :: t6 :: t7 :: t8 :: t9 :: u :: .int .i64 0 :: tl).toArray, defers := [{ target := .collected D, args := #[] }] } Z := by
  refine ⟨by simp, .inl ⟨_, _, rfl, run_takeDeferred hK, ?_⟩⟩
  refine ⟨_, ?_, hR⟩
  simp [results, Try.results46, go_sem, *]
set_option maxHeartbeats 4000000 in
set_option maxRecDepth 100000 in
theorem Where_yes (s v a b c d st : Int) (l : List Shot) (A : Option Addr) (cap : Nat) (hl : l.length ≤ 9223372036854775807) (hn : whE s v l a b c d st = 0) (w : World) (hr : RdL w w.heap.size shE 4 A l) :
    Calls Try.prog 46 #[.agg #[.int .i64 s, .int .i64 v], .slice A l.length cap, .agg #[.int .i64 a, .int .i64 b], .agg #[.int .i64 c, .int .i64 d], .int .i64 st] w fun e w' => ∃ u, e = .returned (.tuple #[u, .int .i64 0]) ∧ IsSl w' ptE 2 u (fitL s v l (gridPts a b st (nX a c st) (nX b d st))) ∧ Below w.heap.size w w' := by
  have HR := Lib.hid hr
  clear hr
  have HW := Lib.hid (fun W => within_c st 1 10000 W)
  have HB := Lib.hid (fun W => box_c a b c d W)
  obtain ⟨h0, hs, hlt⟩ : bxE s v l a b c d = 0 ∧ within st 1 10000 = true ∧ ¬ 10000 < ((nX a c st * nX b d st : Nat) : Int) := by
    unfold whE at hn
    by_cases h1 : bxE s v l a b c d = 0
    · rw [if_pos h1] at hn
      by_cases h2 : within st 1 10000 = true
      · rw [if_pos h2] at hn
        by_cases h3 : 10000 < ((nX a c st * nX b d st : Nat) : Int)
        · rw [if_pos h3] at hn; cases hn
        · exact ⟨h1, h2, h3⟩
      · rw [if_neg h2] at hn; cases hn
    · rw [if_neg h1] at hn; exact absurd hn h1
  obtain ⟨h, hb⟩ := bxE_zero h0
  have hbox := bxE_ok h hb
  obtain ⟨ho, ha, -, -⟩ := heardE_ok h
  rw [hb] at HB
  rw [hs] at HW
  obtain ⟨s1, s2⟩ := within_true hs
  obtain ⟨⟨a1, a2⟩, b1, b2⟩ := place_true hbox.lo
  obtain ⟨⟨c1, c2⟩, d1, d2⟩ := place_true hbox.hi
  obtain ⟨p, hp⟩ := Steps.mk' (a := a) (c := c) s1 a1 c2 hbox.x
  obtain ⟨q, hq⟩ := Steps.mk' (a := b) (c := d) s1 b1 d2 hbox.y
  obtain ⟨m1, m2⟩ := hp.prod hq
  have m3 : decide ((p + 1) * (q + 1) > 10000) = false := decide_eq_false (by rw [← m2]; exact hlt)
  obtain ⟨y1, y2, y3, y4, -, -, -⟩ := hp
  obtain ⟨z1, z2, z3, z4, -, -, -⟩ := hq
  have hst : st ≠ 0 := by omega
  have HN := Lib.hid (show nX a c st * nX b d st ≤ 10000 by have := Int.not_lt.1 hlt; omega)
  have HO := Lib.hid hbox
  have HS := Lib.hid (fun x y (hxy : place x y = true) W hr => suits_c s v x y l A cap ha hxy ho W hr)
  clear m2 hlt hbox a1 a2 b1 b2 c1 c2 d1 d2 hn hb h0 hs
  refine (callsIn_wide (n := 5)).1 ?_
  have hmo : Try.prog.follows Departure.mixedOrders = true := by kernel_rfl
  refine callsIn_of_wp_marks Try.func46 rfl trivial ?_ rfl
  simp only [Try.ntmps46, List.size_toArray, List.length_cons, List.length_nil, Nat.reduceAdd, Nat.reduceSub, Array.replicate_succ, Array.replicate_zero, List.push_toArray, List.append_toArray, List.nil_append, List.cons_append]
  refine wpIn_wide.2 ?_
  go_wp2_with fail
  refine (heard_two s v l _ _ hl a b c d _ _ (HR.out.step (by (repeat (first | exact Below.refl _ _ | refine Below.drew ?_ | refine Below.allocS ?_ _ | refine Below.step ?_ (by assumption) | refine Below.setCell ?_ (by simp <;> omega) _ | refine Below.drewN' ?_ _)))) (by simp) (by simp [go_sem]) (by simp [go_sem]) (by simp [go_sem]) (by simp [go_sem])).mono ?_
  rintro e w1 ⟨rfl, hb1⟩
  have x1_0_0 : w1.cell? ⟨w.heap.size, 0, none⟩ = some (.int .i64 s) := keep_cell hb1 (by simp [go_sem, *])
  have x1_0_1 : w1.cell? ⟨w.heap.size, 1, none⟩ = some (.int .i64 v) := keep_cell hb1 (by simp [go_sem, *])
  have y1_0 : w.heap.size < w1.heap.size := cell?_lt x1_0_0
  have x1_1_0 : w1.cell? ⟨w.heap.size + 1, 0, none⟩ = some (.slice A l.length cap) := keep_cell hb1 (by simp [go_sem, *])
  have y1_1 : w.heap.size + 1 < w1.heap.size := cell?_lt x1_1_0
  have x1_2_0 : w1.cell? ⟨w.heap.size + 1 + 1, 0, none⟩ = some (.int .i64 a) := keep_cell hb1 (by simp [go_sem, *])
  have x1_2_1 : w1.cell? ⟨w.heap.size + 1 + 1, 1, none⟩ = some (.int .i64 b) := keep_cell hb1 (by simp [go_sem, *])
  have y1_2 : w.heap.size + 1 + 1 < w1.heap.size := cell?_lt x1_2_0
  have x1_3_0 : w1.cell? ⟨w.heap.size + 1 + 1 + 1, 0, none⟩ = some (.int .i64 c) := keep_cell hb1 (by simp [go_sem, *])
  have x1_3_1 : w1.cell? ⟨w.heap.size + 1 + 1 + 1, 1, none⟩ = some (.int .i64 d) := keep_cell hb1 (by simp [go_sem, *])
  have y1_3 : w.heap.size + 1 + 1 + 1 < w1.heap.size := cell?_lt x1_3_0
  have g1 : Below w.heap.size w w1 := by (repeat (first | exact Below.refl _ _ | refine Below.drew ?_ | refine Below.allocS ?_ _ | refine Below.step ?_ (by assumption) | refine Below.setCell ?_ (by simp <;> omega) _ | refine Below.drewN' ?_ _))
  clear hb1
  rw [h]
  go_wp2_with fail
  refine (HB.out _).mono ?_
  rintro e w2 ⟨rfl, hb2⟩
  have x2_0_0 : w2.cell? ⟨w.heap.size, 0, none⟩ = some (.int .i64 s) := keep_cell hb2 (by simp [go_sem, *])
  have x2_0_1 : w2.cell? ⟨w.heap.size, 1, none⟩ = some (.int .i64 v) := keep_cell hb2 (by simp [go_sem, *])
  have y2_0 : w.heap.size < w2.heap.size := cell?_lt x2_0_0
  have x2_1_0 : w2.cell? ⟨w.heap.size + 1, 0, none⟩ = some (.slice A l.length cap) := keep_cell hb2 (by simp [go_sem, *])
  have y2_1 : w.heap.size + 1 < w2.heap.size := cell?_lt x2_1_0
  have x2_2_0 : w2.cell? ⟨w.heap.size + 1 + 1, 0, none⟩ = some (.int .i64 a) := keep_cell hb2 (by simp [go_sem, *])
  have x2_2_1 : w2.cell? ⟨w.heap.size + 1 + 1, 1, none⟩ = some (.int .i64 b) := keep_cell hb2 (by simp [go_sem, *])
  have y2_2 : w.heap.size + 1 + 1 < w2.heap.size := cell?_lt x2_2_0
  have x2_3_0 : w2.cell? ⟨w.heap.size + 1 + 1 + 1, 0, none⟩ = some (.int .i64 c) := keep_cell hb2 (by simp [go_sem, *])
  have x2_3_1 : w2.cell? ⟨w.heap.size + 1 + 1 + 1, 1, none⟩ = some (.int .i64 d) := keep_cell hb2 (by simp [go_sem, *])
  have y2_3 : w.heap.size + 1 + 1 + 1 < w2.heap.size := cell?_lt x2_3_0
  have g2 : Below w.heap.size w w2 := by (repeat (first | exact Below.refl _ _ | refine Below.drew ?_ | refine Below.allocS ?_ _ | refine Below.step ?_ (by assumption) | refine Below.setCell ?_ (by simp <;> omega) _ | refine Below.drewN' ?_ _))
  clear hb2 g1 x1_0_0 x1_0_1 x1_1_0 x1_2_0 x1_2_1 x1_3_0 x1_3_1 y1_0 y1_1 y1_2 y1_3
  go_wp2_with fail
  refine (HW.out _).mono ?_
  rintro e w' ⟨rfl, hw'⟩; replace hw' := hw'.symm; subst hw'
  go_wp2_with fail
  refine region_below (by kernel_rfl) (by kernel_rfl) ?_
  (first | go_big_quiet_skip | (go_big_quiet_want; refine quiet_val (v := ?_) ?_ ?_; rotate_left 1; (· (intro Wq hWq; obtain ⟨hWc, hWf⟩ := bcell hWq; go_simp; (try with_reducible rfl))); go_big_quiet_on; (try simp only [Act.put, List.setIfInBounds_toArray, List.set_cons_zero, List.set_cons_succ])))
  (first | go_big_quiet_skip | (go_big_quiet_want; refine quiet_val (v := ?_) ?_ ?_; rotate_left 1; (· (intro Wq hWq; obtain ⟨hWc, hWf⟩ := bcell hWq; go_simp; (try with_reducible rfl))); go_big_quiet_on; (try simp only [Act.put, List.setIfInBounds_toArray, List.set_cons_zero, List.set_cons_succ])))
  (first | go_big_quiet_skip | (go_big_quiet_want; refine quiet_val (v := ?_) ?_ ?_; rotate_left 1; (· (intro Wq hWq; obtain ⟨hWc, hWf⟩ := bcell hWq; go_simp; (try with_reducible rfl))); go_big_quiet_on; (try simp only [Act.put, List.setIfInBounds_toArray, List.set_cons_zero, List.set_cons_succ])))
  (first | go_big_quiet_skip | (go_big_quiet_want; refine quiet_val (v := ?_) ?_ ?_; rotate_left 1; (· (intro Wq hWq; obtain ⟨hWc, hWf⟩ := bcell hWq; go_simp; (try with_reducible rfl))); go_big_quiet_on; (try simp only [Act.put, List.setIfInBounds_toArray, List.set_cons_zero, List.set_cons_succ])))
  (first | go_big_quiet_skip | (go_big_quiet_want; refine quiet_val (v := ?_) ?_ ?_; rotate_left 1; (· (intro Wq hWq; obtain ⟨hWc, hWf⟩ := bcell hWq; go_simp; (try with_reducible rfl))); go_big_quiet_on; (try simp only [Act.put, List.setIfInBounds_toArray, List.set_cons_zero, List.set_cons_succ])))
  (first | go_big_quiet_skip | (go_big_quiet_want; refine quiet_val (v := ?_) ?_ ?_; rotate_left 1; (· (intro Wq hWq; obtain ⟨hWc, hWf⟩ := bcell hWq; go_simp; (try with_reducible rfl))); go_big_quiet_on; (try simp only [Act.put, List.setIfInBounds_toArray, List.set_cons_zero, List.set_cons_succ])))
  (first | go_big_quiet_skip | (go_big_quiet_want; refine quiet_val (v := ?_) ?_ ?_; rotate_left 1; (· (intro Wq hWq; obtain ⟨hWc, hWf⟩ := bcell hWq; go_simp; (try with_reducible rfl))); go_big_quiet_on; (try simp only [Act.put, List.setIfInBounds_toArray, List.set_cons_zero, List.set_cons_succ])))
  (first | go_big_quiet_skip | (go_big_quiet_want; refine quiet_val (v := ?_) ?_ ?_; rotate_left 1; (· (intro Wq hWq; obtain ⟨hWc, hWf⟩ := bcell hWq; go_simp; (try with_reducible rfl))); go_big_quiet_on; (try simp only [Act.put, List.setIfInBounds_toArray, List.set_cons_zero, List.set_cons_succ])))
  (first | go_big_quiet_skip | (go_big_quiet_want; refine quiet_val (v := ?_) ?_ ?_; rotate_left 1; (· (intro Wq hWq; obtain ⟨hWc, hWf⟩ := bcell hWq; go_simp; (try with_reducible rfl))); go_big_quiet_on; (try simp only [Act.put, List.setIfInBounds_toArray, List.set_cons_zero, List.set_cons_succ])))
  (first | go_big_quiet_skip | (go_big_quiet_want; refine quiet_val (v := ?_) ?_ ?_; rotate_left 1; (· (intro Wq hWq; obtain ⟨hWc, hWf⟩ := bcell hWq; go_simp; (try with_reducible rfl))); go_big_quiet_on; (try simp only [Act.put, List.setIfInBounds_toArray, List.set_cons_zero, List.set_cons_succ])))
  (first | go_big_quiet_skip | (go_big_quiet_want; refine quiet_val (v := ?_) ?_ ?_; rotate_left 1; (· (intro Wq hWq; obtain ⟨hWc, hWf⟩ := bcell hWq; go_simp; (try with_reducible rfl))); go_big_quiet_on; (try simp only [Act.put, List.setIfInBounds_toArray, List.set_cons_zero, List.set_cons_succ])))
  (first | go_big_quiet_skip | (go_big_quiet_want; refine quiet_val (v := ?_) ?_ ?_; rotate_left 1; (· (intro Wq hWq; obtain ⟨hWc, hWf⟩ := bcell hWq; go_simp; (try with_reducible rfl))); go_big_quiet_on; (try simp only [Act.put, List.setIfInBounds_toArray, List.set_cons_zero, List.set_cons_succ])))
  (first | go_big_quiet_skip | (go_big_quiet_want; refine quiet_val (v := ?_) ?_ ?_; rotate_left 1; (· (intro Wq hWq; obtain ⟨hWc, hWf⟩ := bcell hWq; go_simp; (try with_reducible rfl))); go_big_quiet_on; (try simp only [Act.put, List.setIfInBounds_toArray, List.set_cons_zero, List.set_cons_succ])))
  (first | go_big_quiet_skip | (go_big_quiet_want; refine quiet_val (v := ?_) ?_ ?_; rotate_left 1; (· (intro Wq hWq; obtain ⟨hWc, hWf⟩ := bcell hWq; go_simp; (try with_reducible rfl))); go_big_quiet_on; (try simp only [Act.put, List.setIfInBounds_toArray, List.set_cons_zero, List.set_cons_succ])))
  (first | go_big_quiet_skip | (go_big_quiet_want; refine quiet_val (v := ?_) ?_ ?_; rotate_left 1; (· (intro Wq hWq; obtain ⟨hWc, hWf⟩ := bcell hWq; go_simp; (try with_reducible rfl))); go_big_quiet_on; (try simp only [Act.put, List.setIfInBounds_toArray, List.set_cons_zero, List.set_cons_succ])))
  (first | go_big_quiet_skip | (go_big_quiet_want; refine quiet_val (v := ?_) ?_ ?_; rotate_left 1; (· (intro Wq hWq; obtain ⟨hWc, hWf⟩ := bcell hWq; go_simp; (try with_reducible rfl))); go_big_quiet_on; (try simp only [Act.put, List.setIfInBounds_toArray, List.set_cons_zero, List.set_cons_succ])))
  (first | go_big_quiet_skip | (go_big_quiet_want; refine quiet_val (v := ?_) ?_ ?_; rotate_left 1; (· (intro Wq hWq; obtain ⟨hWc, hWf⟩ := bcell hWq; go_simp; (try with_reducible rfl))); go_big_quiet_on; (try simp only [Act.put, List.setIfInBounds_toArray, List.set_cons_zero, List.set_cons_succ])))
  (first | go_big_quiet_skip | (go_big_quiet_want; refine quiet_val (v := ?_) ?_ ?_; rotate_left 1; (· (intro Wq hWq; obtain ⟨hWc, hWf⟩ := bcell hWq; go_simp; (try with_reducible rfl))); go_big_quiet_on; (try simp only [Act.put, List.setIfInBounds_toArray, List.set_cons_zero, List.set_cons_succ])))
  refine wpQuiet_nil ?_; intro w4 hb4
  have x4_0_0 : w4.cell? ⟨w.heap.size, 0, none⟩ = some (.int .i64 s) := keep_cell hb4 (by simp [go_sem, *])
  have x4_0_1 : w4.cell? ⟨w.heap.size, 1, none⟩ = some (.int .i64 v) := keep_cell hb4 (by simp [go_sem, *])
  have y4_0 : w.heap.size < w4.heap.size := cell?_lt x4_0_0
  have x4_1_0 : w4.cell? ⟨w.heap.size + 1, 0, none⟩ = some (.slice A l.length cap) := keep_cell hb4 (by simp [go_sem, *])
  have y4_1 : w.heap.size + 1 < w4.heap.size := cell?_lt x4_1_0
  have x4_2_0 : w4.cell? ⟨w.heap.size + 1 + 1, 0, none⟩ = some (.int .i64 a) := keep_cell hb4 (by simp [go_sem, *])
  have x4_2_1 : w4.cell? ⟨w.heap.size + 1 + 1, 1, none⟩ = some (.int .i64 b) := keep_cell hb4 (by simp [go_sem, *])
  have y4_2 : w.heap.size + 1 + 1 < w4.heap.size := cell?_lt x4_2_0
  have x4_3_0 : w4.cell? ⟨w.heap.size + 1 + 1 + 1, 0, none⟩ = some (.int .i64 c) := keep_cell hb4 (by simp [go_sem, *])
  have x4_3_1 : w4.cell? ⟨w.heap.size + 1 + 1 + 1, 1, none⟩ = some (.int .i64 d) := keep_cell hb4 (by simp [go_sem, *])
  have y4_3 : w.heap.size + 1 + 1 + 1 < w4.heap.size := cell?_lt x4_3_0
  have g4 : Below w.heap.size w w4 := by (repeat (first | exact Below.refl _ _ | refine Below.drew ?_ | refine Below.allocS ?_ _ | refine Below.step ?_ (by assumption) | refine Below.setCell ?_ (by simp <;> omega) _ | refine Below.drewN' ?_ _))
  clear hb4 g2 x2_0_0 x2_0_1 x2_1_0 x2_2_0 x2_2_1 x2_3_0 x2_3_1 y2_0 y2_1 y2_2 y2_3
  go_wp2_with fail
  refine (grid_c a b c d st _).mono ?_
  rintro e w' ⟨rfl, rfl⟩
  go_wp2_with fail
  obtain ⟨W0, hW0⟩ : ∃ W0, (((w4.alloc (.cells #[.slice none 0 0] 51)).alloc (.cells #[.int .i64 a, .int .i64 b] 25)).alloc (.cells #[.int .i64 c, .int .i64 d] 25)).alloc (.cells #[.int .i64 st] 3) = W0 := ⟨_, rfl⟩
  rw [hW0]
  have hs4 : w.heap.size + 1 < w4.heap.size := y4_1
  have sz : W0.heap.size = w4.heap.size + 4 := by rw [← hW0]; simp
  have k0 : W0.cell? ⟨w4.heap.size + 1, 0, none⟩ = some (.int .i64 a) := by rw [← hW0]; simp [go_sem]
  have k1 : W0.cell? ⟨w4.heap.size + 1, 1, none⟩ = some (.int .i64 b) := by rw [← hW0]; simp [go_sem]
  have k2 : W0.cell? ⟨w4.heap.size + 1 + 1, 0, none⟩ = some (.int .i64 c) := by rw [← hW0]; simp [go_sem]
  have k3 : W0.cell? ⟨w4.heap.size + 1 + 1, 1, none⟩ = some (.int .i64 d) := by rw [← hW0]; simp [go_sem]
  have k4 : W0.cell? ⟨w4.heap.size + 1 + 1 + 1, 0, none⟩ = some (.int .i64 st) := by rw [← hW0]; simp [go_sem]
  have b0 : Below w4.heap.size w4 W0 := by rw [← hW0]; (repeat (first | (with_reducible exact Below.refl _ _) | (with_reducible assumption) | (with_reducible refine Below.drew ?_) | (with_reducible refine Below.allocS ?_ _) | (with_reducible refine Below.setCell ?_ ?_ _) | (with_reducible refine Below.step ?_ (by assumption)) | (with_reducible refine Below.drewN' ?_ _))); (try any_goals (first | (with_reducible assumption) | (simp; done) | (simp; omega) | omega))
  have i0 : WhI w w4.heap.size (w4.heap.size + 6) s v l A cap [] W0 := by
    refine ⟨keep_cell b0 x4_0_0, keep_cell b0 x4_0_1, keep_cell b0 x4_1_0, ⟨.slice none 0 0, by rw [← hW0]; simp [go_sem], World.ownsRow_nil _ _ _ _⟩, by rw [← hW0]; simp [go_sem], Below.step g4 b0⟩
  obtain ⟨j0, hj, hz0, hz1, hz2⟩ := info_parts ptI
  have ptU : Try.prog.underlying 51 = some (.slice 25) := by kernel_rfl
  clear hW0 x4_0_0 x4_0_1 x4_1_0 x4_2_0 x4_2_1 x4_3_0 x4_3_1 y4_0 y4_1 y4_2 y4_3 g4 b0
  refine (wpIn_wide (n := 5)).1 ?_
  refine range_set (n := 3) (gf := 92) (lb := #[.pointer (some ⟨w4.heap.size + 1, 0, none⟩), .pointer (some ⟨w4.heap.size + 1 + 1, 0, none⟩), .pointer (some ⟨w4.heap.size + 1 + 1 + 1, 0, none⟩)]) rfl (enters_of Try.func92 (by kernel_rfl) rfl)
    (grid_stops a b c d st HO.out s1 s2 (fun k => k ≠ w4.heap.size ∧ k < w4.heap.size + 6) (w4.heap.size + 1) (w4.heap.size + 1 + 1) (w4.heap.size + 1 + 1 + 1) ⟨by omega, by omega⟩ ⟨by omega, by omega⟩ ⟨by omega, by omega⟩ W0 (by omega) (by omega) (by omega) k0 k1 k2 k3 k4) (Below.refl _ _) ⟨by omega, by omega⟩ ⟨by omega, by omega⟩ (fun _ => rfl)
    (WhI w w4.heap.size (w4.heap.size + 6) s v l A cap) (fun _ _ _ => False) (fun _ A A' h hb => h.keep hb) (fun _ _ _ _ h _ => h) (fun _ A o h => h.put (by omega) (by omega) (by omega) o) (fun _ _ _ _ h => h) i0
    (fun x a' W => ∃ Bx, W.heap[Bx]? = some (.cells #[.int .i64 x.1, .int .i64 x.2] 25 (0, 0)) ∧ a' = { tmps := #[.agg #[.int .i64 s, .int .i64 v], .slice A l.length cap, .agg #[.int .i64 a, .int .i64 b], .agg #[.int .i64 c, .int .i64 d], .int .i64 st, .pointer (some ⟨w.heap.size, 0, none⟩), .pointer (some ⟨w.heap.size + 1, 0, none⟩), .pointer (some ⟨w.heap.size + 1 + 1, 0, none⟩), .pointer (some ⟨w.heap.size + 1 + 1 + 1, 0, none⟩), undef, .slice none 0 0, .int .i64 0, .int .i64 0, .int .i64 0, .pointer (some ⟨w4.heap.size, 0, none⟩), .pointer (some ⟨Bx, 0, none⟩), .agg #[.int .i64 s, .int .i64 v], .slice A l.length cap, .agg #[.int .i64 a, .int .i64 b], .agg #[.int .i64 c, .int .i64 d], .slice (some ⟨w.heap.size + 1 + 1 + 1 + 1, 0, none⟩) 2 2, .int .i64 0, .int .i64 0, .bool false, undef, .agg #[.int .i64 a, .int .i64 b], .agg #[.int .i64 c, .int .i64 d], .int .i64 0, .int .i64 0, .bool false, .bool false, .int .i64 st, .bool true, .bool false, .bool false, .pointer (some ⟨w.heap.size + 1 + 1 + 1, 0, none⟩), .int .i64 c, .pointer (some ⟨w.heap.size + 1 + 1, 0, none⟩), .int .i64 a, .int .i64 (c - a), .int .i64 st, .int .i64 p, .int .i64 (p + 1), .pointer (some ⟨w.heap.size + 1 + 1 + 1, 1, none⟩), .int .i64 d, .pointer (some ⟨w.heap.size + 1 + 1, 1, none⟩), .int .i64 b, .int .i64 (d - b), .int .i64 st, .int .i64 q, .int .i64 (q + 1), .int .i64 ((p + 1) * (q + 1)), .bool false, .agg #[.int .i64 a, .int .i64 b], .agg #[.int .i64 c, .int .i64 d], .int .i64 st, .func (.func 92) #[] #[.pointer (some ⟨w4.heap.size + 1, 0, none⟩), .pointer (some ⟨w4.heap.size + 1 + 1, 0, none⟩), .pointer (some ⟨w4.heap.size + 1 + 1 + 1, 0, none⟩)], .agg #[.int .i64 x.1, .int .i64 x.2], undef, undef, undef, undef, undef, undef, undef, undef, undef], defers := [] })
    (fun x a' W k r o h hk => by
      obtain ⟨Bx, h1, h2⟩ := h
      refine ⟨Bx, ?_, h2⟩
      rw [World.putObj_heap_other (by rintro rfl; rw [h1] at hk; cases hk)]; exact h1)
    ?assign ?body ?done ?stop
  case assign =>
    intro l0 pre x W K hi hs hK
    gi_wp2
    exact hK _ _ ((KT.refl _ _).alloc _) (hi.keep ((Below.refl W.heap.size W).alloc (Nat.le_refl _) _)) ⟨W.heap.size, World.alloc_heap_new _ _, rfl⟩
  case body =>
    rintro l0 pre x a' W hl ⟨r, hr⟩ ⟨c0, c1, c2, ⟨u, c3, hown⟩, hf, hB⟩ ⟨Bx, hBx, rfl⟩ hlen ⟨⟨o1, o2⟩, o3, o4⟩
    obtain ⟨px, py⟩ := x
    dsimp only at o1 o2 o3 o4 hBx ⊢
    have d0 : W.cell? ⟨Bx, 0, none⟩ = some (.int .i64 px) := by simp [World.cell?, hBx]
    have d1 : W.cell? ⟨Bx, 1, none⟩ = some (.int .i64 py) := by simp [World.cell?, hBx]
    have hpl := HO.out.place o1 o2 o3 o4
    have hWs : w4.heap.size + 6 ≤ W.heap.size := by
      have := (Array.getElem?_eq_some_iff.1 hr).1
      omega
    have hfl : (fitL s v l pre).length + 1 ≤ 10001 := by
      have := fitL_le s v l pre
      have := HN.out
      omega
    clear hr hBx o1 o2 o3 o4 hl
    have HC := Lib.hid (fun Z h => HS.out px py hpl Z h)
    have HOwn := Lib.hid hown
    have HI := Lib.hid (show WhI w w4.heap.size (w4.heap.size + 6) s v l A cap pre W from ⟨c0, c1, c2, ⟨u, c3, hown⟩, hf, hB⟩)
    have HI3 := Lib.hid c3
    clear hown hpl
    cases hfit : suitAll s v px py l
    · rw [hfit] at HC
      gi_wp2
      refine ⟨trivial, (callsIn_wide.2 (HC.out _ (HR.out.step hB))).mono ?_⟩
      rintro e w1 ⟨rfl, hb⟩
      clear c0 c1 c2 c3 d0 d1
      gi_wp2
      have h2 := HI.out.keep hb
      refine And.intro (KT.of_below hb) ?_
      obtain ⟨e0, e1, e2, e3, e4, e5⟩ := h2
      exact ⟨e0, e1, e2, by rw [fitL_snoc_f (p := (px, py)) hfit]; exact e3, e4, e5⟩
    · rw [hfit] at HC
      gi_wp2
      refine ⟨trivial, (callsIn_wide.2 (HC.out _ (HR.out.step hB))).mono ?_⟩
      rintro e w1 ⟨rfl, hb⟩
      have t0 := keep_cell hb c3
      have t1 := keep_cell hb d0
      have t2 := keep_cell hb d1
      have hw1 := hb.size
      have r0 : w4.heap.size < w1.heap.size := by omega
      have r1 : Bx < w1.heap.size := cell?_lt t1
      clear c0 c1 c2 c3 d0 d1 hf
      gi_wp2_with (gi_at_builtin; go_loud (refine wpListIn_append_own _ rfl (.tmp 62) (.tmp 64) 51 rfl (w4.heap.size + 6) 25 j0 (.agg #[.int .i64 0, .int .i64 0]) 2 16 ptU hj hz0 hz1 hz2 rfl (by decide) u _ _ rfl (ownsRow_keep HOwn.out (by (repeat (first | exact Below.refl _ _ | refine Below.drew ?_ | refine Below.allocS ?_ _ | refine Below.step ?_ (by assumption) | refine Below.setCell ?_ (by simp <;> omega) _ | refine Below.drewN' ?_ _)))) ⟨w1.heap.size, 0, none⟩ 1 1 [.int .i64 px, .int .i64 py] rfl rfl (new_cells _ _ [.int .i64 px, .int .i64 py] _ rfl) (by simp [Value.oneCell']) (by unfold maxLen; omega) (by omega) (by simp; omega) ?_); intro v2 w2 hown2 hgrow2 hnil2; obtain ⟨g2, cap2, rfl⟩ := ownsRow_succ hown2; have hob := after_grow HOwn.out hgrow2 w4.heap.size (by omega) (by omega) hb; have f2 : w2.frozen? ⟨w4.heap.size, 0, none⟩ = false := (World.frozen?_of_block (a := ⟨w4.heap.size, 0, none⟩) hob).trans HI.out.fr; have l2 : w4.heap.size < w2.heap.size := (by have := hgrow2.size; simp at this; omega); obtain ⟨q2, hq2⟩ : ∃ q, w2.cell? ⟨w4.heap.size, 0, none⟩ = some q := ⟨u, (World.cell?_of_block (a := ⟨w4.heap.size, 0, none⟩) hob).trans HI3.out⟩)
      have hk2 : ∀ k, k < w4.heap.size + 6 → w2.heap[k]? = W.heap[k]? := fun k hk => after_grow HOwn.out hgrow2 k hk (by omega) hb
      refine And.intro ?_ ?_
      · exact (((KT.of_below hb).alloc _).grown hgrow2 (fun k hk => by
          have := (HOwn.out.lt k hk).1
          rintro ⟨_, h2⟩
          omega)).setCell (fun h => h.1 rfl) _
      · obtain ⟨e0, e1, e2, e3, e4, e5⟩ := HI.out
        refine ⟨?_, ?_, ?_, ⟨.slice (some ⟨g2, 0, none⟩) ((fitL s v l pre).length + 1) cap2, ?_, ?_⟩, ?_, ?_⟩
        · rw [cell_set_other (by omega)]; exact (World.cell?_of_block (a := ⟨w.heap.size, 0, none⟩) (hk2 w.heap.size (by omega))).trans e0
        · rw [cell_set_other (by omega)]; exact (World.cell?_of_block (a := ⟨w.heap.size, 1, none⟩) (hk2 w.heap.size (by omega))).trans e1
        · rw [cell_set_other (by omega)]; exact (World.cell?_of_block (a := ⟨w.heap.size + 1, 0, none⟩) (hk2 (w.heap.size + 1) (by omega))).trans e2
        · simp [go_sem, *]
        · rw [fitL_snoc_t (p := (px, py)) hfit]
          exact own_blocks (row_snoc (enc := ptE) (y := (px, py)) hown2 (by simp)) (fun g hg => Below.heap_setCell _ _ _ _ (by show g ≠ w4.heap.size; omega))
        · simp [go_sem, *]
        · have hO1 := ownsRow_keep HOwn.out (Below.allocS hb (.cells #[.int .i64 px, .int .i64 py] 25))
          exact Below.setCell (Below.grow (B := w.heap.size) (Below.allocS (Below.step e5 hb) _) (own_base hO1 (by omega)) hgrow2 rfl (by simp; have := e5.size; omega)) (by show w.heap.size ≤ w4.heap.size; omega) _
  case done =>
    rintro D ys W hD rfl ⟨e0, e1, e2, ⟨u, e3, e4⟩, e5, e6⟩ hK
    have HE := Lib.hid e4
    clear e4
    have HK := Lib.hid hK
    clear hK
    go_wp2
    refine where_end D HK.out ?_
    exact ⟨u, rfl, IsSl.of_row ptE_len (own_put HE.out HK.out) rfl, e6.trans (below_put W (by omega) _)⟩
  case stop => rintro D c pre W hD hS hF hK; exact hF.elim
end Go.Proofs.Ytgiplkfdallmkaa
