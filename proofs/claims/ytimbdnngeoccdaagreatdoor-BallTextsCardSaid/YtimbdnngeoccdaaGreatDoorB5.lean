/-
  Run of ball.
-/
import Derived.Test.YtimbdnngeoccdaaGreatDoorB4
import Derived.Outline
namespace Go.Proofs.YtimbdnngeoccdaaGreatDoor
open Go.RowKit Go.Shelf
attribute [local go_sem] Oper.semAt_some
set_option linter.unusedVariables false

def NextIs (x : Ms) : Prop := ∀ s e W, Calls Tryz.prog 101 #[msV x, blV s, evV e] W fun r w' => r = .returned (.tuple #[blV (nextS x s e), .int .i64 (nextE x s e)]) ∧ Below W.heap.size W w'

theorem states_c (x : Ms) (A : Option Addr) (n cap : Nat) (w : World) :
    Calls Tryz.prog 69 #[.agg #[.int .i64 x.noon, .int .i64 x.half, .int .i64 x.full, .int .i64 x.late, .int .i64 x.again, .int .i64 x.wind], .slice A n cap] w fun e w' => e = .returned (.func (.func 100) #[] #[.pointer (some ⟨w.heap.size + 1, 0, none⟩), .pointer (some ⟨w.heap.size, 0, none⟩)]) ∧ w' = (w.alloc (.cells #[.int .i64 x.noon, .int .i64 x.half, .int .i64 x.full, .int .i64 x.late, .int .i64 x.again, .int .i64 x.wind] 41)).alloc (.cells #[.slice A n cap] 22) := by
  go_enter Tryz.func69, Tryz.ntmps69
  go_wp2
  go_ret
  exact ⟨rfl, rfl⟩

/-- The run from a state. -/
def runFrom (x : Ms) : Bl → Nat → List Ev → Bl × Nat × Int
  | s, k, [] => (s, k, 0)
  | s, k, e :: l => if nextE x s e = 0 then runFrom x (nextS x s e) (k + 1) l else (bl0, k, nextE x s e)
def runG (x : Ms) (l : List Ev) : Bl × Nat × Int := if okMast x then (if l.length ≤ 100 then runFrom x bl0 0 l else (bl0, 0, 7)) else (bl0, 0, 1)
def lastS (s : Bl) (pre : List (Bl × Int)) : Bl := (pre.getLast?.map (·.1)).getD s
theorem lastS_snoc (s : Bl) (pre : List (Bl × Int)) (p : Bl × Int) : lastS s (pre ++ [p]) = p.1 := by simp [lastS]
theorem lastS_cons (s : Bl) (p : Bl × Int) (l : List (Bl × Int)) : lastS s (p :: l) = lastS p.1 l := by
  cases l with
  | nil => simp [lastS]
  | cons q l => simp only [lastS, List.getLast?_cons]; simp
theorem run_ok (x : Ms) : ∀ (l : List Ev) (s : Bl) (k : Nat), (∀ p ∈ stepsB x s l, p.2 = 0) → runFrom x s k l = (lastS s (stepsB x s l), k + (stepsB x s l).length, 0)
  | [], s, k, _ => by simp [runFrom, stepsB, lastS]
  | e :: l, s, k, h => by
    have h0 : nextE x s e = 0 := h (nextS x s e, nextE x s e) (by simp [stepsB])
    unfold stepsB at h ⊢
    rw [if_pos h0] at h ⊢
    unfold runFrom
    rw [if_pos h0, run_ok x l _ _ (fun p hp => h p (by simp [hp])), lastS_cons]
    simp; omega
theorem run_no (x : Ms) : ∀ (l : List Ev) (s : Bl) (k : Nat) (q : List (Bl × Int)) (t : Bl) (r : Int), (q ++ [(t, r)]) <+: stepsB x s l → r ≠ 0 → (∀ p ∈ q, p.2 = 0) → runFrom x s k l = (bl0, k + q.length, r)
  | [], s, k, q, t, r, h, _, _ => by obtain ⟨y, hy⟩ := h; simp [stepsB] at hy
  | e :: l, s, k, q, t, r, h, hr, hq => by
    unfold stepsB at h
    unfold runFrom
    cases q with
    | nil =>
      obtain ⟨y, hy⟩ := h
      simp at hy
      obtain ⟨⟨_, h2⟩, _⟩ := hy
      subst h2
      rw [if_neg hr]; simp
    | cons p q =>
      obtain ⟨y, hy⟩ := h
      simp at hy
      obtain ⟨h1, h2⟩ := hy
      have hp := hq p (by simp)
      rw [h1] at hp
      simp only at hp
      rw [if_pos hp] at h2 ⊢
      rw [run_no x l _ (k + 1) q t r ⟨y, by simpa using h2⟩ hr (fun a ha => hq a (by simp [ha]))]
      simp; omega

def Own1 (W : World) (b : Nat) (v : Value) : Prop := W.cell? ⟨b, 0, none⟩ = some v ∧ W.frozen? ⟨b, 0, none⟩ = false
theorem Own1.of_block {W W' : World} {b : Nat} {v : Value} (h : Own1 W b v) (hb : W'.heap[b]? = W.heap[b]?) : Own1 W' b v :=
  ⟨(World.cell?_of_block (a := ⟨b, 0, none⟩) hb).trans h.1, (World.frozen?_of_block (a := ⟨b, 0, none⟩) hb).trans h.2⟩
theorem RdL.keep {α : Type} {w W : World} {B sz : Nat} {enc : α → List Value} {A : Option Addr} {l : List α} (h : RdL w B enc sz A l) (hb : Below B w W) : RdL W B enc sz A l := by
  intro hl
  obtain ⟨b, off, e, hlt, hc⟩ := h hl
  exact ⟨b, off, e, hlt, fun i hi j v hv => (hb.cell (p := ⟨b, _, none⟩) hlt).trans (hc i hi j v hv)⟩
theorem Own4.other {W : World} {b : Nat} {s : Bl} (h : Own4 W b s) {p : Addr} (hp : p.block ≠ b) (v : Value) : Own4 (W.setCell p v) b s := h.of_block (Below.heap_setCell _ _ _ _ hp.symm)
theorem Own1.other {W : World} {b : Nat} {u : Value} (h : Own1 W b u) {p : Addr} (hp : p.block ≠ b) (v : Value) : Own1 (W.setCell p v) b u := h.of_block (Below.heap_setCell _ _ _ _ hp.symm)
theorem Own4.drew {W : World} {b : Nat} {s : Bl} (h : Own4 W b s) : Own4 W.drew b s := h
theorem Own1.drew {W : World} {b : Nat} {u : Value} (h : Own1 W b u) : Own1 W.drew b u := h
theorem Own4.put {W : World} {b : Nat} {s : Bl} (h : Own4 W b s) (x y : Int) (f : Bool) (z : Int) : Own4 ((((W.setCell ⟨b, 0, none⟩ (.int .i64 x)).setCell ⟨b, 1, none⟩ (.int .i64 y)).setCell ⟨b, 2, none⟩ (.bool f)).setCell ⟨b, 3, none⟩ (.int .i64 z)) b ⟨x, y, f, z⟩ := by
  obtain ⟨⟨c0, c1, c2, c3⟩, f0, f1, f2, f3⟩ := h
  exact ⟨⟨by simp [go_sem, *], by simp [go_sem, *], by simp [go_sem, *], by simp [go_sem, *]⟩, by simp [go_sem, *], by simp [go_sem, *], by simp [go_sem, *], by simp [go_sem, *]⟩
theorem Own1.put {W : World} {b : Nat} {u : Value} (h : Own1 W b u) (v : Value) : Own1 (W.setCell ⟨b, 0, none⟩ v) b v := by
  obtain ⟨c0, f0⟩ := h
  exact ⟨by simp [go_sem, *], by simp [go_sem, *]⟩
theorem blk_other {W : World} {D : Nat} {o : Option Obj} (h : W.heap[D]? = o) {p : Addr} (hp : p.block ≠ D) (v : Value) : (W.setCell p v).heap[D]? = o := (Below.heap_setCell _ _ _ _ hp.symm).trans h
theorem blk_drew {W : World} {D : Nat} {o : Option Obj} (h : W.heap[D]? = o) : W.drew.heap[D]? = o := h
theorem Own4.putObj {W : World} {b : Nat} {s : Bl} (h : Own4 W b s) {D : Nat} (hD : b < D) (o : Obj) : Own4 (W.putObj D o) b s := h.of_block (World.putObj_heap_other (by omega))
theorem Own1.putObj {W : World} {b : Nat} {u : Value} (h : Own1 W b u) {D : Nat} (hD : b < D) (o : Obj) : Own1 (W.putObj D o) b u := h.of_block (World.putObj_heap_other (by omega))
/-- What holds between two rounds: e the end, n the count, r the results' first block. -/
def RunI (w : World) (e r : Nat) (pre : List (Bl × Int)) (W : World) : Prop :=
  (Own4 W e (lastS bl0 pre) ∧ Own1 W (e + 1) (.int .i64 (pre.length : Int)) ∧ Own4 W (r + 1) bl0 ∧ Own1 W (r + 1 + 1) (.int .i64 0) ∧ Own1 W (r + 1 + 1 + 1) (.int .i64 0)) ∧ (∀ p ∈ pre, p.2 = 0) ∧ Below w.heap.size w W
def RunX (w : World) (r : Nat) (c : Code) (pre : List (Bl × Int)) (W : World) : Prop :=
  c = .ret ∧ ∃ q t y, pre = q ++ [(t, y)] ∧ y ≠ 0 ∧ (∀ p ∈ q, p.2 = 0) ∧ (Own4 W (r + 1) bl0 ∧ Own1 W (r + 1 + 1) (.int .i64 (q.length : Int)) ∧ Own1 W (r + 1 + 1 + 1) (.int .i64 y)) ∧ Below w.heap.size w W
theorem RunI.keep {w A A' : World} {e r B : Nat} {pre : List (Bl × Int)} (h : RunI w e r pre A) (hb : Below B A A') (h1 : e + 1 < B) (h2 : r + 3 < B) (hB : w.heap.size ≤ B) : RunI w e r pre A' := by
  obtain ⟨⟨a, b, c, d, f⟩, g, i⟩ := h
  exact ⟨⟨a.of_block (hb.block _ (by omega)), b.of_block (hb.block _ (by omega)), c.of_block (hb.block _ (by omega)), d.of_block (hb.block _ (by omega)), f.of_block (hb.block _ (by omega))⟩, g, i.trans (hb.mono hB)⟩
theorem RunX.keep {w A A' : World} {r B : Nat} {c : Code} {pre : List (Bl × Int)} (h : RunX w r c pre A) (hb : Below B A A') (h2 : r + 3 < B) (hB : w.heap.size ≤ B) : RunX w r c pre A' := by
  obtain ⟨rfl, q, t, y, h1, h3, h4, ⟨a, b, c⟩, i⟩ := h
  exact ⟨rfl, q, t, y, h1, h3, h4, ⟨a.of_block (hb.block _ (by omega)), b.of_block (hb.block _ (by omega)), c.of_block (hb.block _ (by omega))⟩, i.trans (hb.mono hB)⟩


theorem run_end {R : Ending → World → Prop} {s : Bl} {k y : Int} {Z : World} {t0 t1 t2 t3 : Value} {tl : List Value} (D r : Nat) (w : World) (o4 : Own4 Z (r + 1) s) (o1 : Own1 Z (r + 1 + 1) (.int .i64 k)) (o2 : Own1 Z (r + 1 + 1 + 1) (.int .i64 y)) (hD : r + 3 < D ∧ w.heap.size ≤ D) (hK : Z.heap[D]? = some (.deferred (some []))) (hb : Below w.heap.size w Z)
    (hR : ∀ Z', Below w.heap.size w Z' → R (.returned (.tuple #[blV s, .int .i64 k, .int .i64 y])) Z') :
    bodyPostM Fence.wide 5 Tryz.prog Tryz.f44 R .ret { tmps := (t0 :: t1 :: t2 :: t3 :: .pointer (some ⟨r + 1, 0, none⟩) :: .pointer (some ⟨r + 1 + 1, 0, none⟩) :: .pointer (some ⟨r + 1 + 1 + 1, 0, none⟩) :: tl).toArray, defers := [{ target := .collected D, args := #[] }] } Z := by
  refine ⟨by simp, .inl ⟨_, _, rfl, run_takeDeferred hK, ?_⟩⟩
  obtain ⟨⟨c0, c1, c2, c3⟩, -⟩ := o4.putObj (D := D) (by omega) (.deferred none)
  obtain ⟨d0, -⟩ := o1.putObj (D := D) (by omega) (.deferred none)
  obtain ⟨e0, -⟩ := o2.putObj (D := D) (by omega) (.deferred none)
  refine ⟨_, ?_, hR _ (hb.trans (below_put Z hD.2 _))⟩
  simp [results, Tryz.results44, go_sem, *, blV]
  trace_state

set_option maxHeartbeats 4000000 in
set_option maxRecDepth 100000 in
theorem run_main (x : Ms) (hx : OkMast x) (ho : okMast x = true) (HN : NextIs x) (l : List Ev) (A : Option Addr) (cap : Nat) (hl : l.length ≤ 100) (w : World) (hr : RdL w w.heap.size evE 3 A l) :
    Calls Tryz.prog 44 #[msV x, .slice A l.length cap] w fun e w' => e = .returned (.tuple #[blV (runFrom x bl0 0 l).1, .int .i64 ((runFrom x bl0 0 l).2.1 : Nat), .int .i64 (runFrom x bl0 0 l).2.2]) ∧ Below w.heap.size w w' := by
  refine (callsIn_wide (n := 5)).1 ?_
  have hmo : Tryz.prog.follows Departure.mixedOrders = true := by kernel_rfl
  have HV := Lib.hid (fun W => validMast_c x W)
  rw [ho] at HV
  unfold msV at *
  refine callsIn_of_wp_marks Tryz.func44 rfl trivial ?_ rfl
  simp only [Tryz.ntmps44, List.size_toArray, List.length_cons, List.length_nil, Nat.reduceAdd, Nat.reduceSub, Array.replicate_succ, Array.replicate_zero, List.push_toArray, List.append_toArray, List.nil_append, List.cons_append]
  gi_wp2
  refine ⟨trivial, (callsIn_wide.2 (HV.out _)).mono ?_⟩
  rintro e w1 ⟨rfl, hb⟩
  have q0_0 : w1.cell? ⟨w.heap.size, 0, none⟩ = some (.int .i64 x.noon) := keep_cell hb (by simp [go_sem, *]); have q0_1 : w1.cell? ⟨w.heap.size, 1, none⟩ = some (.int .i64 x.half) := keep_cell hb (by simp [go_sem, *]); have q0_2 : w1.cell? ⟨w.heap.size, 2, none⟩ = some (.int .i64 x.full) := keep_cell hb (by simp [go_sem, *]); have q0_3 : w1.cell? ⟨w.heap.size, 3, none⟩ = some (.int .i64 x.late) := keep_cell hb (by simp [go_sem, *]); have q0_4 : w1.cell? ⟨w.heap.size, 4, none⟩ = some (.int .i64 x.again) := keep_cell hb (by simp [go_sem, *]); have q0_5 : w1.cell? ⟨w.heap.size, 5, none⟩ = some (.int .i64 x.wind) := keep_cell hb (by simp [go_sem, *]); have p0 : w.heap.size < w1.heap.size := cell?_lt q0_0; have q1_0 : w1.cell? ⟨w.heap.size + 1, 0, none⟩ = some (.int .i64 0) := keep_cell hb (by simp [go_sem, *]); have r1_0 : w1.frozen? ⟨w.heap.size + 1, 0, none⟩ = false := keep_frozen hb (by first | omega | (simp <;> omega)) (by simp [go_sem, *]); have q1_1 : w1.cell? ⟨w.heap.size + 1, 1, none⟩ = some (.int .i64 0) := keep_cell hb (by simp [go_sem, *]); have r1_1 : w1.frozen? ⟨w.heap.size + 1, 1, none⟩ = false := keep_frozen hb (by first | omega | (simp <;> omega)) (by simp [go_sem, *]); have q1_2 : w1.cell? ⟨w.heap.size + 1, 2, none⟩ = some (.bool false) := keep_cell hb (by simp [go_sem, *]); have r1_2 : w1.frozen? ⟨w.heap.size + 1, 2, none⟩ = false := keep_frozen hb (by first | omega | (simp <;> omega)) (by simp [go_sem, *]); have q1_3 : w1.cell? ⟨w.heap.size + 1, 3, none⟩ = some (.int .i64 0) := keep_cell hb (by simp [go_sem, *]); have r1_3 : w1.frozen? ⟨w.heap.size + 1, 3, none⟩ = false := keep_frozen hb (by first | omega | (simp <;> omega)) (by simp [go_sem, *]); have p1 : w.heap.size + 1 < w1.heap.size := cell?_lt q1_0; have q2_0 : w1.cell? ⟨w.heap.size + 1 + 1, 0, none⟩ = some (.int .i64 0) := keep_cell hb (by simp [go_sem, *]); have r2_0 : w1.frozen? ⟨w.heap.size + 1 + 1, 0, none⟩ = false := keep_frozen hb (by first | omega | (simp <;> omega)) (by simp [go_sem, *]); have p2 : w.heap.size + 1 + 1 < w1.heap.size := cell?_lt q2_0; have q3_0 : w1.cell? ⟨w.heap.size + 1 + 1 + 1, 0, none⟩ = some (.int .i64 0) := keep_cell hb (by simp [go_sem, *]); have r3_0 : w1.frozen? ⟨w.heap.size + 1 + 1 + 1, 0, none⟩ = false := keep_frozen hb (by first | omega | (simp <;> omega)) (by simp [go_sem, *]); have p3 : w.heap.size + 1 + 1 + 1 < w1.heap.size := cell?_lt q3_0
  have g1 : Below w.heap.size w w1 := by (repeat (first | exact Below.refl _ _ | refine Below.drew ?_ | refine Below.allocS ?_ _ | refine Below.step ?_ (by assumption) | refine Below.setCell ?_ (by simp <;> omega) _ | refine Below.drewN' ?_ _))
  have s1 := hb.size
  simp at s1
  clear hb
  gi_wp2
  refine ⟨trivial, (callsIn_wide.2 (states_c x A _ cap _)).mono ?_⟩
  rintro e w2 ⟨rfl, rfl⟩
  gi_wp2
  obtain ⟨W0, hW0⟩ : ∃ W0, (((w1.alloc (.cells #[.int .i64 0, .int .i64 0, .bool false, .int .i64 0] 89)).alloc (.cells #[.int .i64 0] 3)).alloc (.cells #[.int .i64 x.noon, .int .i64 x.half, .int .i64 x.full, .int .i64 x.late, .int .i64 x.again, .int .i64 x.wind] 41)).alloc (.cells #[.slice A l.length cap] 22) = W0 := ⟨_, rfl⟩
  rw [hW0]
  have b0 : Below w1.heap.size w1 W0 := by rw [← hW0]; (repeat (first | exact Below.refl _ _ | refine Below.drew ?_ | refine Below.allocS ?_ _ | refine Below.step ?_ (by assumption) | refine Below.setCell ?_ (by simp <;> omega) _ | refine Below.drewN' ?_ _))
  have sz : W0.heap.size = w1.heap.size + 4 := by rw [← hW0]; simp
  have i0 : RunI w w1.heap.size w.heap.size [] W0 := by
    refine ⟨⟨?_, ?_, ?_, ?_, ?_⟩, by simp, g1.trans (b0.mono (by omega))⟩
    · rw [← hW0]; exact ⟨⟨by simp [go_sem, lastS, bl0], by simp [go_sem, lastS, bl0], by simp [go_sem, lastS, bl0], by simp [go_sem, lastS, bl0]⟩, by simp [go_sem], by simp [go_sem], by simp [go_sem], by simp [go_sem]⟩
    · rw [← hW0]; exact ⟨by simp [go_sem], by simp [go_sem]⟩
    · exact Own4.of_block ⟨⟨q1_0, q1_1, q1_2, q1_3⟩, r1_0, r1_1, r1_2, r1_3⟩ (b0.block _ (by omega))
    · exact Own1.of_block ⟨q2_0, r2_0⟩ (b0.block _ (by omega))
    · exact Own1.of_block ⟨q3_0, r3_0⟩ (b0.block _ (by omega))
  have kl : W0.cell? ⟨w1.heap.size + 1 + 1 + 1, 0, none⟩ = some (.slice A l.length cap) := by rw [← hW0]; simp [go_sem]
  have kx : W0.cell? ⟨w1.heap.size + 1 + 1, 0, none⟩ = some (.int .i64 x.noon) ∧ W0.cell? ⟨w1.heap.size + 1 + 1, 1, none⟩ = some (.int .i64 x.half) ∧ W0.cell? ⟨w1.heap.size + 1 + 1, 2, none⟩ = some (.int .i64 x.full) ∧ W0.cell? ⟨w1.heap.size + 1 + 1, 3, none⟩ = some (.int .i64 x.late) ∧ W0.cell? ⟨w1.heap.size + 1 + 1, 4, none⟩ = some (.int .i64 x.again) ∧ W0.cell? ⟨w1.heap.size + 1 + 1, 5, none⟩ = some (.int .i64 x.wind) := by
    rw [← hW0]; exact ⟨by simp [go_sem], by simp [go_sem], by simp [go_sem], by simp [go_sem], by simp [go_sem], by simp [go_sem]⟩
  clear hW0 q0_0 q0_1 q0_2 q0_3 q0_4 q0_5 q1_0 q1_1 q1_2 q1_3 r1_0 r1_1 r1_2 r1_3 q2_0 r2_0 q3_0 r3_0
  refine range_wide (n := 3) (gf := 100) (lb := #[.pointer (some ⟨w1.heap.size + 1 + 1 + 1, 0, none⟩), .pointer (some ⟨w1.heap.size + 1 + 1, 0, none⟩)]) rfl (enters_of Tryz.func100 (by kernel_rfl) rfl)
    (states_stops x HN l A cap w.heap.size (w1.heap.size + 2) (w1.heap.size + 1 + 1 + 1) (w1.heap.size + 1 + 1) (by omega) W0 (by omega) (by omega) (by omega) (by omega) (by omega) kl kx (hr.keep i0.2.2)) (Below.refl _ _) (by omega) (fun _ => rfl)
    (RunI w w1.heap.size w.heap.size) (RunX w w.heap.size) (fun s A A' h hb => h.keep hb (by omega) (by omega) (by omega)) (fun c s A A' h hb => h.keep hb (by omega) (by omega)) i0
    (fun p a' W => ∃ Bx, W.heap[Bx]? = some (.cells #[.int .i64 p.1.place, .int .i64 p.1.wind, .bool p.1.flag, .int .i64 p.1.at'] 89 (0, 0)) ∧ a' = { tmps := #[.agg #[.int .i64 x.noon, .int .i64 x.half, .int .i64 x.full, .int .i64 x.late, .int .i64 x.again, .int .i64 x.wind], .slice A l.length cap, .pointer (some ⟨w.heap.size, 0, none⟩), undef, .pointer (some ⟨w.heap.size + 1, 0, none⟩), .pointer (some ⟨w.heap.size + 1 + 1, 0, none⟩), .pointer (some ⟨w.heap.size + 1 + 1 + 1, 0, none⟩), .pointer (some ⟨w1.heap.size, 0, none⟩), .pointer (some ⟨w1.heap.size + 1, 0, none⟩), .pointer (some ⟨Bx, 0, none⟩), .int .i64 p.2, .bool false, .agg #[.int .i64 x.noon, .int .i64 x.half, .int .i64 x.full, .int .i64 x.late, .int .i64 x.again, .int .i64 x.wind], .bool true, .bool false, undef, .bool (decide (100 < (l.length : Int))), .slice A l.length cap, .int .i64 (l.length : Int), .bool (decide (100 < (l.length : Int))), undef, .agg #[.int .i64 x.noon, .int .i64 x.half, .int .i64 x.full, .int .i64 x.late, .int .i64 x.again, .int .i64 x.wind], .slice A l.length cap, .func (.func 100) #[] #[.pointer (some ⟨w1.heap.size + 1 + 1 + 1, 0, none⟩), .pointer (some ⟨w1.heap.size + 1 + 1, 0, none⟩)], .agg #[.int .i64 p.1.place, .int .i64 p.1.wind, .bool p.1.flag, .int .i64 p.1.at'], .int .i64 p.2, undef, undef, undef, undef, undef, undef, undef, undef, undef, undef], defers := [] })
    (fun p a' W k r o h hk => by
      obtain ⟨Bx, h1, h2⟩ := h
      refine ⟨Bx, ?_, h2⟩
      rw [World.putObj_heap_other (by rintro rfl; rw [h1] at hk; cases hk)]; exact h1)
    ?assign ?body ?done ?stop
  case assign =>
    intro l0 pre p W K hi hs hK
    unfold encS
    gi_wp2
    exact hK _ _ ((KB.refl _ _ _).alloc _) (hi.keep ((Below.refl W0.heap.size W).alloc hs _) (by omega) (by omega) (by omega)) ⟨W.heap.size, World.alloc_heap_new _ _, rfl⟩
  case body =>
    rintro l0 pre p a' W hl ⟨r, hr⟩ ⟨⟨hE, hn, hR4, hR1, hR2⟩, hall, hB⟩ ⟨Bx, hBx, rfl⟩ hlen
    have z0 : w1.heap.size ≠ w.heap.size + 1 := by omega
    have z1 : w1.heap.size ≠ w.heap.size + 1 + 1 := by omega
    have z2 : w1.heap.size ≠ w.heap.size + 1 + 1 + 1 := by omega
    have hlo1 : w.heap.size ≤ w1.heap.size := by omega
    by_cases hz : p.2 = 0
    · have d0 : W.cell? ⟨Bx, 0, none⟩ = some (.int .i64 p.1.place) := by simp [World.cell?, hBx]
      have d1 : W.cell? ⟨Bx, 1, none⟩ = some (.int .i64 p.1.wind) := by simp [World.cell?, hBx]
      have d2 : W.cell? ⟨Bx, 2, none⟩ = some (.bool p.1.flag) := by simp [World.cell?, hBx]
      have d3 : W.cell? ⟨Bx, 3, none⟩ = some (.int .i64 p.1.at') := by simp [World.cell?, hBx]
      have HE := Lib.hid hE
      have HN1 := Lib.hid hn
      have H4 := Lib.hid hR4
      have H1 := Lib.hid hR1
      have H2 := Lib.hid hR2
      clear hR4 hR1 hR2
      obtain ⟨⟨e0, e1, e2, e3⟩, ef0, ef1, ef2, ef3⟩ := hE
      obtain ⟨n0, nf⟩ := hn
      gi_wp2
      clear e0 e1 e2 e3 ef0 ef1 ef2 ef3 n0 nf d0 d1 d2 d3
      have hE := HE.out
      have hn := HN1.out
      have hR4 := H4.out
      have hR1 := H1.out
      have hR2 := H2.out
      refine And.intro ?_ (And.intro (And.intro ?_ (And.intro ?_ (And.intro ?_ (And.intro ?_ ?_)))) (And.intro ?_ ?_))
      · (repeat (first | (with_reducible exact KB.refl _ _ _) | (with_reducible refine KB.drew1 ?_) | (with_reducible refine KB.setCell ?_ ?_ ?_ _))); (try any_goals (first | (with_reducible assumption) | (simp; done) | (simp; omega) | omega))
      · rw [lastS_snoc]; (repeat (first | (with_reducible assumption) | (with_reducible apply Own4.put) | (with_reducible apply Own1.put) | (with_reducible apply Own4.drew) | (with_reducible apply Own1.drew) | (with_reducible apply Own4.other) | (with_reducible apply Own1.other))); (try any_goals (first | (with_reducible assumption) | (simp; done) | (simp; omega) | omega))
      · rw [show ((pre ++ [p]).length : Int) = (pre.length : Int) + 1 by simp]; (repeat (first | (with_reducible assumption) | (with_reducible apply Own4.put) | (with_reducible apply Own1.put) | (with_reducible apply Own4.drew) | (with_reducible apply Own1.drew) | (with_reducible apply Own4.other) | (with_reducible apply Own1.other))); (try any_goals (first | (with_reducible assumption) | (simp; done) | (simp; omega) | omega))
      · (repeat (first | (with_reducible assumption) | (with_reducible apply Own4.put) | (with_reducible apply Own1.put) | (with_reducible apply Own4.drew) | (with_reducible apply Own1.drew) | (with_reducible apply Own4.other) | (with_reducible apply Own1.other))); (try any_goals (first | (with_reducible assumption) | (simp; done) | (simp; omega) | omega))
      · (repeat (first | (with_reducible assumption) | (with_reducible apply Own4.put) | (with_reducible apply Own1.put) | (with_reducible apply Own4.drew) | (with_reducible apply Own1.drew) | (with_reducible apply Own4.other) | (with_reducible apply Own1.other))); (try any_goals (first | (with_reducible assumption) | (simp; done) | (simp; omega) | omega))
      · (repeat (first | (with_reducible assumption) | (with_reducible apply Own4.put) | (with_reducible apply Own1.put) | (with_reducible apply Own4.drew) | (with_reducible apply Own1.drew) | (with_reducible apply Own4.other) | (with_reducible apply Own1.other))); (try any_goals (first | (with_reducible assumption) | (simp; done) | (simp; omega) | omega))
      · intro a ha; rcases List.mem_append.1 ha with h | h; (exact hall a h); (simp at h; subst h; exact hz)
      · (repeat (first | (with_reducible assumption) | (with_reducible refine Below.drew ?_) | (with_reducible refine Below.setCell ?_ ?_ _))); (try any_goals (first | (with_reducible assumption) | (simp; done) | (simp; omega) | omega))
    · have hzb : (p.2 != 0) = true := by simpa using hz
      have HN1 := Lib.hid hn
      have H4 := Lib.hid hR4
      have H1 := Lib.hid hR1
      have H2 := Lib.hid hR2
      clear hE
      obtain ⟨n0, nf⟩ := hn
      obtain ⟨⟨t0, t1, t2, t3⟩, tf0, tf1, tf2, tf3⟩ := hR4
      obtain ⟨u0, uf⟩ := hR1
      obtain ⟨v0, vf⟩ := hR2
      gi_wp2
      gi_region_with_o (fail)
      all_goals gi_wp2
      all_goals
        clear n0 nf t0 t1 t2 t3 tf0 tf1 tf2 tf3 u0 uf v0 vf
        have hR4 := H4.out
        have hR1 := H1.out
        have hR2 := H2.out
        refine And.intro ?_ (And.intro rfl ⟨pre, p.1, p.2, rfl, hz, hall, And.intro ?_ (And.intro ?_ ?_), ?_⟩)
        · (repeat (first | (with_reducible exact KB.refl _ _ _) | (with_reducible refine KB.drew1 ?_) | (with_reducible refine KB.setCell ?_ ?_ ?_ _))); (try any_goals (first | (with_reducible assumption) | (simp; done) | (simp; omega) | omega))
        · show Own4 _ _ ⟨0, 0, false, 0⟩
          (repeat (first | (with_reducible assumption) | (with_reducible apply Own4.put) | (with_reducible apply Own1.put) | (with_reducible apply Own4.drew) | (with_reducible apply Own1.drew) | (with_reducible apply Own4.other) | (with_reducible apply Own1.other))); (try any_goals (first | (with_reducible assumption) | (simp; done) | (simp; omega) | omega))
        · (repeat (first | (with_reducible assumption) | (with_reducible apply Own4.put) | (with_reducible apply Own1.put) | (with_reducible apply Own4.drew) | (with_reducible apply Own1.drew) | (with_reducible apply Own4.other) | (with_reducible apply Own1.other))); (try any_goals (first | (with_reducible assumption) | (simp; done) | (simp; omega) | omega))
        · (repeat (first | (with_reducible assumption) | (with_reducible apply Own4.put) | (with_reducible apply Own1.put) | (with_reducible apply Own4.drew) | (with_reducible apply Own1.drew) | (with_reducible apply Own4.other) | (with_reducible apply Own1.other))); (try any_goals (first | (with_reducible assumption) | (simp; done) | (simp; omega) | omega))
        · (repeat (first | (with_reducible assumption) | (with_reducible refine Below.drew ?_) | (with_reducible refine Below.setCell ?_ ?_ _))); (try any_goals (first | (with_reducible assumption) | (simp; done) | (simp; omega) | omega))
  case done =>
    rintro D ys W hD hS ⟨⟨hE, hn, hR4, hR1, hR2⟩, hall, hB⟩ hK
    have hL := run_ok x l bl0 0 (by rw [← hS]; exact hall)
    rw [← hS] at hL
    have HL := Lib.hid hL
    clear hL hS
    have z0 : w1.heap.size ≠ w.heap.size + 1 := by omega
    have z1 : w1.heap.size ≠ w.heap.size + 1 + 1 := by omega
    have z2 : w1.heap.size ≠ w.heap.size + 1 + 1 + 1 := by omega
    have H4 := Lib.hid hR4
    have H1 := Lib.hid hR1
    have H2 := Lib.hid hR2
    have HK := Lib.hid hK
    clear hK
    obtain ⟨⟨e0, e1, e2, e3⟩, ef0, ef1, ef2, ef3⟩ := hE
    obtain ⟨n0, nf⟩ := hn
    obtain ⟨⟨t0, t1, t2, t3⟩, tf0, tf1, tf2, tf3⟩ := hR4
    obtain ⟨u0, uf⟩ := hR1
    obtain ⟨v0, vf⟩ := hR2
    generalize lastS bl0 ys = s at *
    gi_wp2
    gi_region_with_o (fail)
    all_goals gi_wp2
    all_goals
      clear e0 e1 e2 e3 ef0 ef1 ef2 ef3 n0 nf t0 t1 t2 t3 tf0 tf1 tf2 tf3 u0 uf v0 vf
      have hR4 := H4.out
      have hR1 := H1.out
      have hR2 := H2.out
      have hK := HK.out
      refine run_end (s := s) (k := (ys.length : Int)) (y := 0) D w.heap.size w ?_ ?_ ?_ (by omega) ?_ ?_ ?_
      · (repeat (first | (with_reducible assumption) | (with_reducible apply Own4.put) | (with_reducible apply Own1.put) | (with_reducible apply Own4.drew) | (with_reducible apply Own1.drew) | (with_reducible apply Own4.other) | (with_reducible apply Own1.other))); (try any_goals (first | (with_reducible assumption) | (simp; done) | (simp; omega) | omega))
      · (repeat (first | (with_reducible assumption) | (with_reducible apply Own4.put) | (with_reducible apply Own1.put) | (with_reducible apply Own4.drew) | (with_reducible apply Own1.drew) | (with_reducible apply Own4.other) | (with_reducible apply Own1.other))); (try any_goals (first | (with_reducible assumption) | (simp; done) | (simp; omega) | omega))
      · (repeat (first | (with_reducible assumption) | (with_reducible apply Own4.put) | (with_reducible apply Own1.put) | (with_reducible apply Own4.drew) | (with_reducible apply Own1.drew) | (with_reducible apply Own4.other) | (with_reducible apply Own1.other))); (try any_goals (first | (with_reducible assumption) | (simp; done) | (simp; omega) | omega))
      · (repeat (first | (with_reducible assumption) | (with_reducible refine blk_drew ?_) | (with_reducible refine blk_other ?_ ?_ _))); (try any_goals (first | (with_reducible assumption) | (simp; done) | (simp; omega) | omega))
      · (repeat (first | (with_reducible assumption) | (with_reducible refine Below.drew ?_) | (with_reducible refine Below.setCell ?_ ?_ _))); (try any_goals (first | (with_reducible assumption) | (simp; done) | (simp; omega) | omega))
      · intro Z' hZ'
        refine And.intro ?_ hZ'
        rw [HL.out]; simp [blV]
  case stop =>
    rintro D c pre W hD hS ⟨rfl, q, t, y, hp, hy, hq, ⟨hR4, hR1, hR2⟩, hB⟩ hK
    have hL := run_no x l bl0 0 q t y (by rw [← hp]; exact hS) hy hq
    have HL := Lib.hid hL
    clear hL hS
    gi_wp2
    refine run_end (s := bl0) (k := (q.length : Int)) (y := y) D w.heap.size w hR4 hR1 hR2 (by omega) hK hB ?_
    intro Z' hZ'
    refine And.intro ?_ hZ'
    rw [HL.out]; simp [blV]
end Go.Proofs.YtimbdnngeoccdaaGreatDoor
