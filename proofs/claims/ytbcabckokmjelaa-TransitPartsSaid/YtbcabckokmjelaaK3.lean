/-
  Bundle K3: Q1, Q2, Q3, Q4, Q5. Printed by bundle.py.
-/
import Derived.Test.YtbcabckokmjelaaK2
import Derived.Test.YtbcabckokmjelaaQt
import Derived.Test.YtbcabckokmjelaaPre2
import Derived.Laws.ResultCell
import Derived.Test.YtbcabckokmjelaaApp
namespace Go.Proofs.Ytbcabckokmjelaa
open Go.RowKit
set_option linter.unusedVariables false
set_option linter.unusedSimpArgs false
/-- Everything that was there but block P is as it was. -/
structure Exc (P : Nat) (w w' : World) : Prop where
  os : w'.os = w.os
  tape : w'.tape = w.tape
  output : w'.output = w.output
  size : w.heap.size ≤ w'.heap.size
  block : ∀ k, k < w.heap.size → k ≠ P → w'.heap[k]? = w.heap[k]?
theorem Exc.refl (P : Nat) (w : World) : Exc P w w := ⟨rfl, rfl, rfl, Nat.le_refl _, fun _ _ _ => rfl⟩
theorem Exc.trans {P : Nat} {a b c : World} (h : Exc P a b) (k : Exc P b c) : Exc P a c :=
  ⟨k.os.trans h.os, k.tape.trans h.tape, k.output.trans h.output, Nat.le_trans h.size k.size, fun i hi hp => (k.block i (Nat.lt_of_lt_of_le hi h.size) hp).trans (h.block i hi hp)⟩
theorem Exc.of_below {P : Nat} {a b : World} (h : Below a.heap.size a b) : Exc P a b := ⟨h.os, h.tape, h.output, h.size, fun k hk _ => h.block k hk⟩
theorem Exc.step {P : Nat} {w a b : World} (h : Exc P w a) (k : Below a.heap.size a b) : Exc P w b := h.trans (Exc.of_below k)
theorem Exc.alloc {P : Nat} {w a : World} (h : Exc P w a) (o : Obj) : Exc P w (a.alloc o) := h.step (Below.allocS (Below.refl _ _) o)
theorem Exc.drew {P : Nat} {w a : World} (h : Exc P w a) : Exc P w a.drew := h.step (Below.drew (Below.refl _ _))
theorem Exc.set {P : Nat} {w a : World} (h : Exc P w a) (o : Nat) (v : Value) : Exc P w (a.setCell ⟨P, o, none⟩ v) :=
  h.trans ⟨rfl, rfl, rfl, by simp [World.setCell], fun k _ hk => Below.heap_setCell _ _ _ _ (by simpa using hk)⟩
theorem Exc.cell {P : Nat} {w a : World} (h : Exc P w a) {b o : Nat} {v : Value} (hc : w.cell? ⟨b, o, none⟩ = some v) (hb : b ≠ P) : a.cell? ⟨b, o, none⟩ = some v :=
  (World.cell?_of_block (w := w) (a := ⟨b, o, none⟩) (h.block b (cell?_lt hc) hb)).trans hc
theorem Exc.frozen {P : Nat} {w a : World} (h : Exc P w a) {b o : Nat} {v : Bool} (hl : b < w.heap.size) (hc : w.frozen? ⟨b, o, none⟩ = v) (hb : b ≠ P) : a.frozen? ⟨b, o, none⟩ = v :=
  (World.frozen?_of_block (w := w) (a := ⟨b, o, none⟩) (h.block b hl hb)).trans hc
theorem Exc.below {P B : Nat} {w a : World} (h : Exc P w a) (hP : B ≤ P) (hB : B ≤ w.heap.size) : Below B w a :=
  ⟨h.os, h.tape, h.output, h.size, fun k hk => h.block k (by omega) (by omega)⟩
/-- What is read out of a block of two cells. -/
theorem res_two {fn : Func} {p : Tmp} {ty : TypeId} (h : fn.results = #[.cell p ty]) (tmps : Array Value) (w : World) (b : Nat) (v0 v1 : Value) (hp : tmps.getD p undef = .pointer (some ⟨b, 0, none⟩))
    (hl : (loadVar ty ⟨b, 0, none⟩).run Try.prog w = .ok (.agg #[v0, v1]) w) :
    (results fn tmps).run Try.prog w = .ok (.agg #[v0, v1]) w := by
  have e : (results fn tmps).run Try.prog w = ((asAddr (tmps.getD p undef)).run Try.prog w).andThen fun a w₁ => (loadVar ty a).run Try.prog w₁ := by
    simp only [results, h]
    simp [Sem.run_bind, Result.andThen]
  rw [e, hp]
  simp only [asAddr, Sem.run_pure, Result.andThen_ok]
  rw [hl]
theorem load_fr (w : World) (b : Nat) (v0 v1 : Value) (c0 : w.cell? ⟨b, 0, none⟩ = some v0) (c1 : w.cell? ⟨b, 1, none⟩ = some v1) : (loadVar 88 ⟨b, 0, none⟩).run Try.prog w = .ok (.agg #[v0, v1]) w := by
  simp [go_sem, *]
/-- A fraction; d is 0 if there is none. -/
structure Fr where
  n : Int
  d : Int
def frV (f : Fr) : Value := .agg #[.int .i64 f.n, .int .i64 f.d]
def FrB (f : Fr) : Prop := (-10000000000000 ≤ f.n ∧ f.n ≤ 10000000000000) ∧ 0 ≤ f.d ∧ f.d ≤ 100000
theorem mulB {n d : Int} (h1 : -10000000000000 ≤ n ∧ n ≤ 10000000000000) (h2 : 0 ≤ d ∧ d ≤ 100000) : -1000000000000000000 ≤ n * d ∧ n * d ≤ 1000000000000000000 := by
  have a1 : n * d ≤ 10000000000000 * d := Int.mul_le_mul_of_nonneg_right h1.2 h2.1
  have a2 : (-10000000000000) * d ≤ n * d := Int.mul_le_mul_of_nonneg_right h1.1 h2.1
  omega
def frLess (a b : Fr) : Bool := decide (a.n * b.d < b.n * a.d)
theorem less_c (a b : Fr) (ha : FrB a) (hb : FrB b) (w : World) : Calls Try.prog 89 #[frV a, frV b] w fun e w' => e = .returned (.bool (frLess a b)) ∧ Below w.heap.size w w' := by
  have v1 : IntKind.i64.wrap (a.n * b.d) = a.n * b.d := IntWalk.i64_in _ (by have := mulB ha.1 hb.2; omega)
  have v2 : IntKind.i64.wrap (b.n * a.d) = b.n * a.d := IntWalk.i64_in _ (by have := mulB hb.1 ha.2; omega)
  clear ha hb
  unfold frLess frV
  go_enter Try.func89, Try.ntmps89
  go_wp2
  go_ret
  exact ⟨rfl, by (repeat (first | exact Below.refl _ _ | refine Below.drew ?_ | refine Below.allocS ?_ _ | refine Below.step ?_ (by assumption) | refine Below.setCell ?_ (by simp <;> omega) _ | refine Below.drewN' ?_ _))⟩
theorem rless_c (a b : Fr) (ha : FrB a) (hb : FrB b) (w : World) : Calls Try.prog 113 #[frV a, frV b] w fun e w' => e = .returned (.bool (frLess a b)) ∧ Below w.heap.size w w' := by
  have v1 : IntKind.i64.wrap (a.n * b.d) = a.n * b.d := IntWalk.i64_in _ (by have := mulB ha.1 hb.2; omega)
  have v2 : IntKind.i64.wrap (b.n * a.d) = b.n * a.d := IntWalk.i64_in _ (by have := mulB hb.1 ha.2; omega)
  clear ha hb
  unfold frLess frV
  go_enter Try.func113, Try.ntmps113
  go_wp2
  go_ret
  exact ⟨rfl, by (repeat (first | exact Below.refl _ _ | refine Below.drew ?_ | refine Below.allocS ?_ _ | refine Below.step ?_ (by assumption) | refine Below.setCell ?_ (by simp <;> omega) _ | refine Below.drewN' ?_ _))⟩
theorem greater_c (a b : Fr) (ha : FrB a) (hb : FrB b) (w : World) : Calls Try.prog 116 #[frV a, frV b] w fun e w' => e = .returned (.bool (frLess b a)) ∧ Below w.heap.size w w' := by
  have H := Lib.hid (fun W => less_c b a hb ha W)
  clear ha hb
  unfold frV at *
  generalize frLess b a = L at *
  go_enter Try.func116, Try.ntmps116
  go_wp2_with fail
  refine (H.out _).mono ?_
  rintro e w1 ⟨rfl, hb1⟩
  have x1_0_0 : w1.cell? ⟨w.heap.size, 0, none⟩ = some (.int .i64 a.n) := keep_cell hb1 (by simp [go_sem, *])
  have x1_0_1 : w1.cell? ⟨w.heap.size, 1, none⟩ = some (.int .i64 a.d) := keep_cell hb1 (by simp [go_sem, *])
  have y1_0 : w.heap.size < w1.heap.size := cell?_lt x1_0_0
  have x1_1_0 : w1.cell? ⟨w.heap.size + 1, 0, none⟩ = some (.int .i64 b.n) := keep_cell hb1 (by simp [go_sem, *])
  have x1_1_1 : w1.cell? ⟨w.heap.size + 1, 1, none⟩ = some (.int .i64 b.d) := keep_cell hb1 (by simp [go_sem, *])
  have y1_1 : w.heap.size + 1 < w1.heap.size := cell?_lt x1_1_0
  have g1 : Below w.heap.size w w1 := by (repeat (first | exact Below.refl _ _ | refine Below.drew ?_ | refine Below.allocS ?_ _ | refine Below.step ?_ (by assumption) | refine Below.setCell ?_ (by simp <;> omega) _ | refine Below.drewN' ?_ _))
  clear hb1
  go_wp2
  go_ret
  exact ⟨rfl, by (repeat (first | exact Below.refl _ _ | refine Below.drew ?_ | refine Below.allocS ?_ _ | refine Below.step ?_ (by assumption) | refine Below.setCell ?_ (by simp <;> omega) _ | refine Below.drewN' ?_ _))⟩
def overF (n d : Int) : Fr := if d < 0 then ⟨-n, -d⟩ else ⟨n, d⟩
theorem over_c (n d : Int) (hn : -10000000000000 ≤ n ∧ n ≤ 10000000000000) (hd : -100000 ≤ d ∧ d ≤ 100000) (w : World) : Calls Try.prog 115 #[.int .i64 n, .int .i64 d] w fun e w' => e = .returned (frV (overF n d)) ∧ Below w.heap.size w w' := by
  have v1 : IntKind.i64.wrap (-n) = -n := IntWalk.i64_in _ (by omega)
  have v2 : IntKind.i64.wrap (-d) = -d := IntWalk.i64_in _ (by omega)
  clear hn hd
  unfold overF frV
  by_cases h : d < 0
  · rw [if_pos h]
    go_enter Try.func115, Try.ntmps115
    go_wp2
    (try simp only [Exit.inBlock, Exit.then])
    refine bodyPost_ret (res_two rfl _ _ w.heap.size _ _ rfl (load_fr _ _ (.int .i64 (-n)) (.int .i64 (-d)) (by simp [go_sem]) (by simp [go_sem]))) rfl ?_
    exact ⟨rfl, by (repeat (first | (with_reducible exact Below.refl _ _) | (with_reducible assumption) | (with_reducible refine Below.drew ?_) | (with_reducible refine Below.allocS ?_ _) | (with_reducible refine Below.setCell ?_ ?_ _) | (with_reducible refine Below.step ?_ (by assumption)) | (with_reducible refine Below.drewN' ?_ _))); (try any_goals (first | (with_reducible assumption) | (simp; done) | (simp; omega) | omega))⟩
  · rw [if_neg h]
    go_enter Try.func115, Try.ntmps115
    go_wp2
    (try simp only [Exit.inBlock, Exit.then])
    refine bodyPost_ret (res_two rfl _ _ w.heap.size _ _ rfl (load_fr _ _ (.int .i64 n) (.int .i64 d) (by simp [go_sem]) (by simp [go_sem]))) rfl ?_
    exact ⟨rfl, by (repeat (first | (with_reducible exact Below.refl _ _) | (with_reducible assumption) | (with_reducible refine Below.drew ?_) | (with_reducible refine Below.allocS ?_ _) | (with_reducible refine Below.setCell ?_ ?_ _) | (with_reducible refine Below.step ?_ (by assumption)) | (with_reducible refine Below.drewN' ?_ _))); (try any_goals (first | (with_reducible assumption) | (simp; done) | (simp; omega) | omega))⟩
end Go.Proofs.Ytbcabckokmjelaa
namespace Go.Proofs.Ytbcabckokmjelaa
open Go.RowKit
set_option linter.unusedVariables false
set_option linter.unusedSimpArgs false
structure FrOk (f : Fr) : Prop where
  b : FrB f
  z : f.d = 0 → f.n = 0
theorem eqFr (x : Fr) (W : World) : (binOp .eql 88 (.agg #[.int .i64 x.n, .int .i64 x.d]) (.agg #[.int .i64 0, .int .i64 0])).run Try.prog W = .ok (.bool (decide (x.n = 0) && decide (x.d = 0))) W := by
  by_cases h1 : x.n = 0 <;> by_cases h2 : x.d = 0 <;> simp [go_sem, h1, h2]
theorem call_less (args : Array Value) (W : World) : (callFunc 89 args).run Try.prog W = .ok (.enter 89 args) W := by kernel_rfl
theorem call_greater (args : Array Value) (W : World) : (callFunc 116 args).run Try.prog W = .ok (.enter 116 args) W := by kernel_rfl
/-- The greater of two, or the lesser. -/
def keepG (x y : Fr) : Fr := if (decide (x.d = 0) || frLess x y) = true then y else x
def keepL (x y : Fr) : Fr := if (decide (x.d = 0) || frLess y x) = true then y else x
theorem keepG_c (x y : Fr) (hx : FrOk x) (hy : FrB y) (w : World) : Calls Try.prog 114 #[frV x, frV y, .func (.func 116) #[] #[]] w fun e w' => e = .returned (frV (keepG x y)) ∧ Below w.heap.size w w' := by
  have H := Lib.hid (fun W => greater_c y x hy hx.b W)
  have hz := hx.z
  clear hx hy
  unfold keepG frV at *
  by_cases h0 : x.d = 0
  · have hn := hz h0
    rw [h0, hn] at *
    rw [decide_eq_true rfl, Bool.true_or, if_pos rfl]
    have hq := eqFr ⟨0, 0⟩
    simp only [decide_eq_true_eq, decide_true, Bool.and_true] at hq
    go_enter Try.func114, Try.ntmps114
    go_wp2
    (try simp only [Exit.inBlock, Exit.then])
    refine bodyPost_ret (res_two rfl _ _ (w.heap.size + 1 + 1) _ _ rfl (load_fr _ _ (.int .i64 y.n) (.int .i64 y.d) (by simp [go_sem]) (by simp [go_sem]))) rfl ?_
    exact ⟨rfl, by (repeat (first | (with_reducible exact Below.refl _ _) | (with_reducible assumption) | (with_reducible refine Below.drew ?_) | (with_reducible refine Below.allocS ?_ _) | (with_reducible refine Below.setCell ?_ ?_ _) | (with_reducible refine Below.step ?_ (by assumption)) | (with_reducible refine Below.drewN' ?_ _))); (try any_goals (first | (with_reducible assumption) | (simp; done) | (simp; omega) | omega))⟩
  · have hq := eqFr x
    rw [decide_eq_false h0, Bool.and_false] at hq
    rw [decide_eq_false h0, Bool.false_or]
    clear hz
    have hcl := call_greater
    cases ht : frLess x y
    · rw [ht] at H
      rw [if_neg (by simp)]
      clear ht
      go_enter Try.func114, Try.ntmps114
      go_wp2_with fail
      refine (H.out _).mono ?_
      rintro e w1 ⟨rfl, hb1⟩
      have x1_0_0 : w1.cell? ⟨w.heap.size, 0, none⟩ = some (.int .i64 x.n) := keep_cell hb1 (by simp [go_sem, *])
      have x1_0_1 : w1.cell? ⟨w.heap.size, 1, none⟩ = some (.int .i64 x.d) := keep_cell hb1 (by simp [go_sem, *])
      have y1_0 : w.heap.size < w1.heap.size := cell?_lt x1_0_0
      have x1_1_0 : w1.cell? ⟨w.heap.size + 1, 0, none⟩ = some (.int .i64 y.n) := keep_cell hb1 (by simp [go_sem, *])
      have x1_1_1 : w1.cell? ⟨w.heap.size + 1, 1, none⟩ = some (.int .i64 y.d) := keep_cell hb1 (by simp [go_sem, *])
      have y1_1 : w.heap.size + 1 < w1.heap.size := cell?_lt x1_1_0
      have x1_2_0 : w1.cell? ⟨w.heap.size + 1 + 1, 0, none⟩ = some (.int .i64 0) := keep_cell hb1 (by simp [go_sem, *])
      have f1_2_0 : w1.frozen? ⟨w.heap.size + 1 + 1, 0, none⟩ = false := keep_frozen hb1 (by first | omega | (simp <;> omega)) (by simp [go_sem, *])
      have x1_2_1 : w1.cell? ⟨w.heap.size + 1 + 1, 1, none⟩ = some (.int .i64 0) := keep_cell hb1 (by simp [go_sem, *])
      have f1_2_1 : w1.frozen? ⟨w.heap.size + 1 + 1, 1, none⟩ = false := keep_frozen hb1 (by first | omega | (simp <;> omega)) (by simp [go_sem, *])
      have y1_2 : w.heap.size + 1 + 1 < w1.heap.size := cell?_lt x1_2_0
      have g1 : Below w.heap.size w w1 := by (repeat (first | exact Below.refl _ _ | refine Below.drew ?_ | refine Below.allocS ?_ _ | refine Below.step ?_ (by assumption) | refine Below.setCell ?_ (by simp <;> omega) _ | refine Below.drewN' ?_ _))
      clear hb1
      go_wp2
      (try simp only [Exit.inBlock, Exit.then])
      refine bodyPost_ret (res_two rfl _ _ (w.heap.size + 1 + 1) _ _ rfl (load_fr _ _ (.int .i64 x.n) (.int .i64 x.d) (by simp [go_sem, *]) (by simp [go_sem, *]))) rfl ?_
      exact ⟨rfl, by (repeat (first | (with_reducible exact Below.refl _ _) | (with_reducible assumption) | (with_reducible refine Below.drew ?_) | (with_reducible refine Below.allocS ?_ _) | (with_reducible refine Below.setCell ?_ ?_ _) | (with_reducible refine Below.step ?_ (by assumption)) | (with_reducible refine Below.drewN' ?_ _))); (try any_goals (first | (with_reducible assumption) | (simp; done) | (simp; omega) | omega))⟩
    · rw [ht] at H
      rw [if_pos rfl]
      clear ht
      go_enter Try.func114, Try.ntmps114
      go_wp2_with fail
      refine (H.out _).mono ?_
      rintro e w1 ⟨rfl, hb1⟩
      have x1_0_0 : w1.cell? ⟨w.heap.size, 0, none⟩ = some (.int .i64 x.n) := keep_cell hb1 (by simp [go_sem, *])
      have x1_0_1 : w1.cell? ⟨w.heap.size, 1, none⟩ = some (.int .i64 x.d) := keep_cell hb1 (by simp [go_sem, *])
      have y1_0 : w.heap.size < w1.heap.size := cell?_lt x1_0_0
      have x1_1_0 : w1.cell? ⟨w.heap.size + 1, 0, none⟩ = some (.int .i64 y.n) := keep_cell hb1 (by simp [go_sem, *])
      have x1_1_1 : w1.cell? ⟨w.heap.size + 1, 1, none⟩ = some (.int .i64 y.d) := keep_cell hb1 (by simp [go_sem, *])
      have y1_1 : w.heap.size + 1 < w1.heap.size := cell?_lt x1_1_0
      have x1_2_0 : w1.cell? ⟨w.heap.size + 1 + 1, 0, none⟩ = some (.int .i64 0) := keep_cell hb1 (by simp [go_sem, *])
      have f1_2_0 : w1.frozen? ⟨w.heap.size + 1 + 1, 0, none⟩ = false := keep_frozen hb1 (by first | omega | (simp <;> omega)) (by simp [go_sem, *])
      have x1_2_1 : w1.cell? ⟨w.heap.size + 1 + 1, 1, none⟩ = some (.int .i64 0) := keep_cell hb1 (by simp [go_sem, *])
      have f1_2_1 : w1.frozen? ⟨w.heap.size + 1 + 1, 1, none⟩ = false := keep_frozen hb1 (by first | omega | (simp <;> omega)) (by simp [go_sem, *])
      have y1_2 : w.heap.size + 1 + 1 < w1.heap.size := cell?_lt x1_2_0
      have g1 : Below w.heap.size w w1 := by (repeat (first | exact Below.refl _ _ | refine Below.drew ?_ | refine Below.allocS ?_ _ | refine Below.step ?_ (by assumption) | refine Below.setCell ?_ (by simp <;> omega) _ | refine Below.drewN' ?_ _))
      clear hb1
      go_wp2
      (try simp only [Exit.inBlock, Exit.then])
      refine bodyPost_ret (res_two rfl _ _ (w.heap.size + 1 + 1) _ _ rfl (load_fr _ _ (.int .i64 y.n) (.int .i64 y.d) (by simp [go_sem, *]) (by simp [go_sem, *]))) rfl ?_
      exact ⟨rfl, by (repeat (first | (with_reducible exact Below.refl _ _) | (with_reducible assumption) | (with_reducible refine Below.drew ?_) | (with_reducible refine Below.allocS ?_ _) | (with_reducible refine Below.setCell ?_ ?_ _) | (with_reducible refine Below.step ?_ (by assumption)) | (with_reducible refine Below.drewN' ?_ _))); (try any_goals (first | (with_reducible assumption) | (simp; done) | (simp; omega) | omega))⟩
theorem keepL_c (x y : Fr) (hx : FrOk x) (hy : FrB y) (w : World) : Calls Try.prog 114 #[frV x, frV y, .func (.func 89) #[] #[]] w fun e w' => e = .returned (frV (keepL x y)) ∧ Below w.heap.size w w' := by
  have H := Lib.hid (fun W => less_c y x hy hx.b W)
  have hz := hx.z
  clear hx hy
  unfold keepL frV at *
  by_cases h0 : x.d = 0
  · have hn := hz h0
    rw [h0, hn] at *
    rw [decide_eq_true rfl, Bool.true_or, if_pos rfl]
    have hq := eqFr ⟨0, 0⟩
    simp only [decide_eq_true_eq, decide_true, Bool.and_true] at hq
    go_enter Try.func114, Try.ntmps114
    go_wp2
    (try simp only [Exit.inBlock, Exit.then])
    refine bodyPost_ret (res_two rfl _ _ (w.heap.size + 1 + 1) _ _ rfl (load_fr _ _ (.int .i64 y.n) (.int .i64 y.d) (by simp [go_sem]) (by simp [go_sem]))) rfl ?_
    exact ⟨rfl, by (repeat (first | (with_reducible exact Below.refl _ _) | (with_reducible assumption) | (with_reducible refine Below.drew ?_) | (with_reducible refine Below.allocS ?_ _) | (with_reducible refine Below.setCell ?_ ?_ _) | (with_reducible refine Below.step ?_ (by assumption)) | (with_reducible refine Below.drewN' ?_ _))); (try any_goals (first | (with_reducible assumption) | (simp; done) | (simp; omega) | omega))⟩
  · have hq := eqFr x
    rw [decide_eq_false h0, Bool.and_false] at hq
    rw [decide_eq_false h0, Bool.false_or]
    clear hz
    have hcl := call_less
    cases ht : frLess y x
    · rw [ht] at H
      rw [if_neg (by simp)]
      clear ht
      go_enter Try.func114, Try.ntmps114
      go_wp2_with fail
      refine (H.out _).mono ?_
      rintro e w1 ⟨rfl, hb1⟩
      have x1_0_0 : w1.cell? ⟨w.heap.size, 0, none⟩ = some (.int .i64 x.n) := keep_cell hb1 (by simp [go_sem, *])
      have x1_0_1 : w1.cell? ⟨w.heap.size, 1, none⟩ = some (.int .i64 x.d) := keep_cell hb1 (by simp [go_sem, *])
      have y1_0 : w.heap.size < w1.heap.size := cell?_lt x1_0_0
      have x1_1_0 : w1.cell? ⟨w.heap.size + 1, 0, none⟩ = some (.int .i64 y.n) := keep_cell hb1 (by simp [go_sem, *])
      have x1_1_1 : w1.cell? ⟨w.heap.size + 1, 1, none⟩ = some (.int .i64 y.d) := keep_cell hb1 (by simp [go_sem, *])
      have y1_1 : w.heap.size + 1 < w1.heap.size := cell?_lt x1_1_0
      have x1_2_0 : w1.cell? ⟨w.heap.size + 1 + 1, 0, none⟩ = some (.int .i64 0) := keep_cell hb1 (by simp [go_sem, *])
      have f1_2_0 : w1.frozen? ⟨w.heap.size + 1 + 1, 0, none⟩ = false := keep_frozen hb1 (by first | omega | (simp <;> omega)) (by simp [go_sem, *])
      have x1_2_1 : w1.cell? ⟨w.heap.size + 1 + 1, 1, none⟩ = some (.int .i64 0) := keep_cell hb1 (by simp [go_sem, *])
      have f1_2_1 : w1.frozen? ⟨w.heap.size + 1 + 1, 1, none⟩ = false := keep_frozen hb1 (by first | omega | (simp <;> omega)) (by simp [go_sem, *])
      have y1_2 : w.heap.size + 1 + 1 < w1.heap.size := cell?_lt x1_2_0
      have g1 : Below w.heap.size w w1 := by (repeat (first | exact Below.refl _ _ | refine Below.drew ?_ | refine Below.allocS ?_ _ | refine Below.step ?_ (by assumption) | refine Below.setCell ?_ (by simp <;> omega) _ | refine Below.drewN' ?_ _))
      clear hb1
      go_wp2
      (try simp only [Exit.inBlock, Exit.then])
      refine bodyPost_ret (res_two rfl _ _ (w.heap.size + 1 + 1) _ _ rfl (load_fr _ _ (.int .i64 x.n) (.int .i64 x.d) (by simp [go_sem, *]) (by simp [go_sem, *]))) rfl ?_
      exact ⟨rfl, by (repeat (first | (with_reducible exact Below.refl _ _) | (with_reducible assumption) | (with_reducible refine Below.drew ?_) | (with_reducible refine Below.allocS ?_ _) | (with_reducible refine Below.setCell ?_ ?_ _) | (with_reducible refine Below.step ?_ (by assumption)) | (with_reducible refine Below.drewN' ?_ _))); (try any_goals (first | (with_reducible assumption) | (simp; done) | (simp; omega) | omega))⟩
    · rw [ht] at H
      rw [if_pos rfl]
      clear ht
      go_enter Try.func114, Try.ntmps114
      go_wp2_with fail
      refine (H.out _).mono ?_
      rintro e w1 ⟨rfl, hb1⟩
      have x1_0_0 : w1.cell? ⟨w.heap.size, 0, none⟩ = some (.int .i64 x.n) := keep_cell hb1 (by simp [go_sem, *])
      have x1_0_1 : w1.cell? ⟨w.heap.size, 1, none⟩ = some (.int .i64 x.d) := keep_cell hb1 (by simp [go_sem, *])
      have y1_0 : w.heap.size < w1.heap.size := cell?_lt x1_0_0
      have x1_1_0 : w1.cell? ⟨w.heap.size + 1, 0, none⟩ = some (.int .i64 y.n) := keep_cell hb1 (by simp [go_sem, *])
      have x1_1_1 : w1.cell? ⟨w.heap.size + 1, 1, none⟩ = some (.int .i64 y.d) := keep_cell hb1 (by simp [go_sem, *])
      have y1_1 : w.heap.size + 1 < w1.heap.size := cell?_lt x1_1_0
      have x1_2_0 : w1.cell? ⟨w.heap.size + 1 + 1, 0, none⟩ = some (.int .i64 0) := keep_cell hb1 (by simp [go_sem, *])
      have f1_2_0 : w1.frozen? ⟨w.heap.size + 1 + 1, 0, none⟩ = false := keep_frozen hb1 (by first | omega | (simp <;> omega)) (by simp [go_sem, *])
      have x1_2_1 : w1.cell? ⟨w.heap.size + 1 + 1, 1, none⟩ = some (.int .i64 0) := keep_cell hb1 (by simp [go_sem, *])
      have f1_2_1 : w1.frozen? ⟨w.heap.size + 1 + 1, 1, none⟩ = false := keep_frozen hb1 (by first | omega | (simp <;> omega)) (by simp [go_sem, *])
      have y1_2 : w.heap.size + 1 + 1 < w1.heap.size := cell?_lt x1_2_0
      have g1 : Below w.heap.size w w1 := by (repeat (first | exact Below.refl _ _ | refine Below.drew ?_ | refine Below.allocS ?_ _ | refine Below.step ?_ (by assumption) | refine Below.setCell ?_ (by simp <;> omega) _ | refine Below.drewN' ?_ _))
      clear hb1
      go_wp2
      (try simp only [Exit.inBlock, Exit.then])
      refine bodyPost_ret (res_two rfl _ _ (w.heap.size + 1 + 1) _ _ rfl (load_fr _ _ (.int .i64 y.n) (.int .i64 y.d) (by simp [go_sem, *]) (by simp [go_sem, *]))) rfl ?_
      exact ⟨rfl, by (repeat (first | (with_reducible exact Below.refl _ _) | (with_reducible assumption) | (with_reducible refine Below.drew ?_) | (with_reducible refine Below.allocS ?_ _) | (with_reducible refine Below.setCell ?_ ?_ _) | (with_reducible refine Below.step ?_ (by assumption)) | (with_reducible refine Below.drewN' ?_ _))); (try any_goals (first | (with_reducible assumption) | (simp; done) | (simp; omega) | omega))⟩
end Go.Proofs.Ytbcabckokmjelaa
namespace Go.Proofs.Ytbcabckokmjelaa
open Go.RowKit
set_option linter.unusedVariables false
set_option linter.unusedSimpArgs false
structure Rc where
  lo : Fr
  hi : Fr
  ok : Bool
structure RcOk (r : Rc) : Prop where
  lo : FrOk r.lo
  hi : FrOk r.hi
structure RcAt (W : World) (P : Nat) (r : Rc) : Prop where
  c0 : W.cell? ⟨P, 0, none⟩ = some (.int .i64 r.lo.n)
  c1 : W.cell? ⟨P, 1, none⟩ = some (.int .i64 r.lo.d)
  c2 : W.cell? ⟨P, 2, none⟩ = some (.int .i64 r.hi.n)
  c3 : W.cell? ⟨P, 3, none⟩ = some (.int .i64 r.hi.d)
  c4 : W.cell? ⟨P, 4, none⟩ = some (.bool r.ok)
  f0 : W.frozen? ⟨P, 0, none⟩ = false
  f1 : W.frozen? ⟨P, 1, none⟩ = false
  f2 : W.frozen? ⟨P, 2, none⟩ = false
  f3 : W.frozen? ⟨P, 3, none⟩ = false
  f4 : W.frozen? ⟨P, 4, none⟩ = false
theorem RcAt.lt {W : World} {P : Nat} {r : Rc} (h : RcAt W P r) : P < W.heap.size := cell?_lt h.c0
theorem RcAt.step {W W' : World} {P : Nat} {r : Rc} (h : RcAt W P r) (hb : Below W.heap.size W W') : RcAt W' P r :=
  ⟨keep_cell hb h.c0, keep_cell hb h.c1, keep_cell hb h.c2, keep_cell hb h.c3, keep_cell hb h.c4, keep_frozen hb h.lt h.f0, keep_frozen hb h.lt h.f1, keep_frozen hb h.lt h.f2, keep_frozen hb h.lt h.f3, keep_frozen hb h.lt h.f4⟩
theorem RcAt.setLo {W : World} {P : Nat} {r : Rc} (h : RcAt W P r) (y : Fr) : RcAt ((W.setCell ⟨P, 0, none⟩ (.int .i64 y.n)).setCell ⟨P, 1, none⟩ (.int .i64 y.d)) P ⟨y, r.hi, r.ok⟩ := by
  obtain ⟨c0, c1, c2, c3, c4, f0, f1, f2, f3, f4⟩ := h
  refine ⟨?_, ?_, ?_, ?_, ?_, ?_, ?_, ?_, ?_, ?_⟩ <;> simp [go_sem, *]
theorem RcAt.setHi {W : World} {P : Nat} {r : Rc} (h : RcAt W P r) (y : Fr) : RcAt ((W.setCell ⟨P, 2, none⟩ (.int .i64 y.n)).setCell ⟨P, 3, none⟩ (.int .i64 y.d)) P ⟨r.lo, y, r.ok⟩ := by
  obtain ⟨c0, c1, c2, c3, c4, f0, f1, f2, f3, f4⟩ := h
  refine ⟨?_, ?_, ?_, ?_, ?_, ?_, ?_, ?_, ?_, ?_⟩ <;> simp [go_sem, *]
theorem RcAt.setOk {W : World} {P : Nat} {r : Rc} (h : RcAt W P r) (y : Bool) : RcAt (W.setCell ⟨P, 4, none⟩ (.bool y)) P ⟨r.lo, r.hi, y⟩ := by
  obtain ⟨c0, c1, c2, c3, c4, f0, f1, f2, f3, f4⟩ := h
  refine ⟨?_, ?_, ?_, ?_, ?_, ?_, ?_, ?_, ?_, ?_⟩ <;> simp [go_sem, *]
/-- n is at most d times what the reach is of. -/
def askR (r : Rc) (n d : Int) : Rc :=
  if 0 < d then ⟨keepG r.lo (overF n d), r.hi, r.ok⟩ else if d < 0 then ⟨r.lo, keepL r.hi (overF n d), r.ok⟩ else if 0 < n then ⟨r.lo, r.hi, false⟩ else r
theorem overB {n d : Int} (hn : -10000000000000 ≤ n ∧ n ≤ 10000000000000) (hd : -100000 ≤ d ∧ d ≤ 100000) : FrB (overF n d) := by
  unfold overF FrB
  split <;> simp only <;> omega
theorem overOk {n d : Int} (hn : -10000000000000 ≤ n ∧ n ≤ 10000000000000) (hd : -100000 ≤ d ∧ d ≤ 100000) (h0 : d ≠ 0) : FrOk (overF n d) :=
  ⟨overB hn hd, by unfold overF; split <;> simp only <;> omega⟩
theorem keepOk {x y : Fr} {c : Bool} (hx : FrOk x) (hy : FrOk y) : FrOk (if c = true then y else x) := by split <;> assumption
theorem askOk {r : Rc} (h : RcOk r) {n d : Int} (hn : -10000000000000 ≤ n ∧ n ≤ 10000000000000) (hd : -100000 ≤ d ∧ d ≤ 100000) : RcOk (askR r n d) := by
  unfold askR
  split
  · exact ⟨keepOk h.lo (overOk hn hd (by omega)), h.hi⟩
  · split
    · exact ⟨h.lo, keepOk h.hi (overOk hn hd (by omega))⟩
    · split
      · exact ⟨h.lo, h.hi⟩
      · exact h
set_option maxHeartbeats 1000000 in
theorem asks_c (r : Rc) (P : Nat) (n d : Int) (W : World) (h : RcAt W P r) (hr : RcOk r) (hn : -10000000000000 ≤ n ∧ n ≤ 10000000000000) (hd : -100000 ≤ d ∧ d ≤ 100000) :
    Calls Try.prog 97 #[.pointer (some ⟨P, 0, none⟩), .int .i64 n, .int .i64 d] W fun e w' => (∃ u, e = .returned u) ∧ RcAt w' P (askR r n d) ∧ Exc P W w' := by
  have HR := Lib.hid h
  have y0 : P < W.heap.size := h.lt
  have HO := Lib.hid (fun W => over_c n d hn hd W)
  have HG := Lib.hid (fun W => keepG_c r.lo (overF n d) hr.lo (overB hn hd) W)
  have HL := Lib.hid (fun W => keepL_c r.hi (overF n d) hr.hi (overB hn hd) W)
  clear hn hd hr
  obtain ⟨c0, c1, c2, c3, c4, f0, f1, f2, f3, f4⟩ := h
  unfold askR
  by_cases h1 : 0 < d
  · rw [if_pos h1]
    unfold frV at *
    generalize overF n d = y at *
    generalize keepG r.lo y = z at *
    clear HL
    go_enter Try.func97, Try.ntmps97
    go_wp2_with fail
    refine region_below_tail 9 (by kernel_rfl) (by kernel_rfl) ?_; simp only [List.take_succ_cons, List.take_zero, List.drop_succ_cons, List.drop_zero]
    (first | go_big_quiet_skip | (go_big_quiet_want; refine quiet_val (v := ?_) ?_ ?_; rotate_left 1; (· (intro Wq hWq; obtain ⟨hWc, hWf⟩ := bcell hWq; go_simp; (try with_reducible rfl))); go_big_quiet_on; (try simp only [Act.put, List.setIfInBounds_toArray, List.set_cons_zero, List.set_cons_succ])))
    (first | go_big_quiet_skip | (go_big_quiet_want; refine quiet_val (v := ?_) ?_ ?_; rotate_left 1; (· (intro Wq hWq; obtain ⟨hWc, hWf⟩ := bcell hWq; go_simp; (try with_reducible rfl))); go_big_quiet_on; (try simp only [Act.put, List.setIfInBounds_toArray, List.set_cons_zero, List.set_cons_succ])))
    (first | go_big_quiet_skip | (go_big_quiet_want; refine quiet_val (v := ?_) ?_ ?_; rotate_left 1; (· (intro Wq hWq; obtain ⟨hWc, hWf⟩ := bcell hWq; go_simp; (try with_reducible rfl))); go_big_quiet_on; (try simp only [Act.put, List.setIfInBounds_toArray, List.set_cons_zero, List.set_cons_succ])))
    (first | go_big_quiet_skip | (go_big_quiet_want; refine quiet_val (v := ?_) ?_ ?_; rotate_left 1; (· (intro Wq hWq; obtain ⟨hWc, hWf⟩ := bcell hWq; go_simp; (try with_reducible rfl))); go_big_quiet_on; (try simp only [Act.put, List.setIfInBounds_toArray, List.set_cons_zero, List.set_cons_succ])))
    (first | go_big_quiet_skip | (go_big_quiet_want; refine quiet_val (v := ?_) ?_ ?_; rotate_left 1; (· (intro Wq hWq; obtain ⟨hWc, hWf⟩ := bcell hWq; go_simp; (try with_reducible rfl))); go_big_quiet_on; (try simp only [Act.put, List.setIfInBounds_toArray, List.set_cons_zero, List.set_cons_succ])))
    (first | go_big_quiet_skip | (go_big_quiet_want; refine quiet_val (v := ?_) ?_ ?_; rotate_left 1; (· (intro Wq hWq; obtain ⟨hWc, hWf⟩ := bcell hWq; go_simp; (try with_reducible rfl))); go_big_quiet_on; (try simp only [Act.put, List.setIfInBounds_toArray, List.set_cons_zero, List.set_cons_succ])))
    (first | go_big_quiet_skip | (go_big_quiet_want; refine quiet_val (v := ?_) ?_ ?_; rotate_left 1; (· (intro Wq hWq; obtain ⟨hWc, hWf⟩ := bcell hWq; go_simp; (try with_reducible rfl))); go_big_quiet_on; (try simp only [Act.put, List.setIfInBounds_toArray, List.set_cons_zero, List.set_cons_succ])))
    go_big_quiet_want; refine quiet_callB (f := 115) (args := ?_) (v := ?_) ?_ ?_ ?_; rotate_left 2
    · (intro Wq hWq; obtain ⟨hWc, hWf⟩ := bcell hWq; go_simp; (first | with_reducible rfl | exact ⟨rfl, rfl⟩))
    · (intro Wq hWq; exact HO.out Wq)
    go_big_quiet_on; (try simp only [Act.put, List.setIfInBounds_toArray, List.set_cons_zero, List.set_cons_succ])
    go_big_quiet_want; refine quiet_callB (f := 114) (args := ?_) (v := ?_) ?_ ?_ ?_; rotate_left 2
    · (intro Wq hWq; obtain ⟨hWc, hWf⟩ := bcell hWq; go_simp; (first | with_reducible rfl | exact ⟨rfl, rfl⟩))
    · (intro Wq hWq; exact HG.out Wq)
    go_big_quiet_on; (try simp only [Act.put, List.setIfInBounds_toArray, List.set_cons_zero, List.set_cons_succ])
    refine wpQuiet_nil ?_; intro w4 hb4
    have R4 := HR.out.step hb4
    obtain ⟨d0, d1, d2, d3, d4, e0, e1, e2, e3, e4⟩ := R4
    have R4 := HR.out.step hb4
    go_wp2
    go_end0
    exact ⟨⟨_, rfl⟩, R4.setLo z, (Exc.set (Exc.set (Exc.of_below hb4) 0 _) 1 _)⟩
  rw [if_neg h1]
  by_cases h2 : d < 0
  · rw [if_pos h2]
    unfold frV at *
    generalize overF n d = y at *
    generalize keepL r.hi y = z at *
    clear HG
    go_enter Try.func97, Try.ntmps97
    go_wp2_with fail
    refine region_below_tail 9 (by kernel_rfl) (by kernel_rfl) ?_; simp only [List.take_succ_cons, List.take_zero, List.drop_succ_cons, List.drop_zero]
    (first | go_big_quiet_skip | (go_big_quiet_want; refine quiet_val (v := ?_) ?_ ?_; rotate_left 1; (· (intro Wq hWq; obtain ⟨hWc, hWf⟩ := bcell hWq; go_simp; (try with_reducible rfl))); go_big_quiet_on; (try simp only [Act.put, List.setIfInBounds_toArray, List.set_cons_zero, List.set_cons_succ])))
    (first | go_big_quiet_skip | (go_big_quiet_want; refine quiet_val (v := ?_) ?_ ?_; rotate_left 1; (· (intro Wq hWq; obtain ⟨hWc, hWf⟩ := bcell hWq; go_simp; (try with_reducible rfl))); go_big_quiet_on; (try simp only [Act.put, List.setIfInBounds_toArray, List.set_cons_zero, List.set_cons_succ])))
    (first | go_big_quiet_skip | (go_big_quiet_want; refine quiet_val (v := ?_) ?_ ?_; rotate_left 1; (· (intro Wq hWq; obtain ⟨hWc, hWf⟩ := bcell hWq; go_simp; (try with_reducible rfl))); go_big_quiet_on; (try simp only [Act.put, List.setIfInBounds_toArray, List.set_cons_zero, List.set_cons_succ])))
    (first | go_big_quiet_skip | (go_big_quiet_want; refine quiet_val (v := ?_) ?_ ?_; rotate_left 1; (· (intro Wq hWq; obtain ⟨hWc, hWf⟩ := bcell hWq; go_simp; (try with_reducible rfl))); go_big_quiet_on; (try simp only [Act.put, List.setIfInBounds_toArray, List.set_cons_zero, List.set_cons_succ])))
    (first | go_big_quiet_skip | (go_big_quiet_want; refine quiet_val (v := ?_) ?_ ?_; rotate_left 1; (· (intro Wq hWq; obtain ⟨hWc, hWf⟩ := bcell hWq; go_simp; (try with_reducible rfl))); go_big_quiet_on; (try simp only [Act.put, List.setIfInBounds_toArray, List.set_cons_zero, List.set_cons_succ])))
    (first | go_big_quiet_skip | (go_big_quiet_want; refine quiet_val (v := ?_) ?_ ?_; rotate_left 1; (· (intro Wq hWq; obtain ⟨hWc, hWf⟩ := bcell hWq; go_simp; (try with_reducible rfl))); go_big_quiet_on; (try simp only [Act.put, List.setIfInBounds_toArray, List.set_cons_zero, List.set_cons_succ])))
    (first | go_big_quiet_skip | (go_big_quiet_want; refine quiet_val (v := ?_) ?_ ?_; rotate_left 1; (· (intro Wq hWq; obtain ⟨hWc, hWf⟩ := bcell hWq; go_simp; (try with_reducible rfl))); go_big_quiet_on; (try simp only [Act.put, List.setIfInBounds_toArray, List.set_cons_zero, List.set_cons_succ])))
    go_big_quiet_want; refine quiet_callB (f := 115) (args := ?_) (v := ?_) ?_ ?_ ?_; rotate_left 2
    · (intro Wq hWq; obtain ⟨hWc, hWf⟩ := bcell hWq; go_simp; (first | with_reducible rfl | exact ⟨rfl, rfl⟩))
    · (intro Wq hWq; exact HO.out Wq)
    go_big_quiet_on; (try simp only [Act.put, List.setIfInBounds_toArray, List.set_cons_zero, List.set_cons_succ])
    go_big_quiet_want; refine quiet_callB (f := 114) (args := ?_) (v := ?_) ?_ ?_ ?_; rotate_left 2
    · (intro Wq hWq; obtain ⟨hWc, hWf⟩ := bcell hWq; go_simp; (first | with_reducible rfl | exact ⟨rfl, rfl⟩))
    · (intro Wq hWq; exact HL.out Wq)
    go_big_quiet_on; (try simp only [Act.put, List.setIfInBounds_toArray, List.set_cons_zero, List.set_cons_succ])
    refine wpQuiet_nil ?_; intro w4 hb4
    have R4 := HR.out.step hb4
    obtain ⟨d0, d1, d2, d3, d4, e0, e1, e2, e3, e4⟩ := R4
    have R4 := HR.out.step hb4
    go_wp2
    go_end0
    exact ⟨⟨_, rfl⟩, R4.setHi z, (Exc.set (Exc.set (Exc.of_below hb4) 2 _) 3 _)⟩
  rw [if_neg h2]
  obtain rfl : d = 0 := by omega
  clear HO HG HL h1 h2
  by_cases h3 : 0 < n
  · rw [if_pos h3]
    go_enter Try.func97, Try.ntmps97
    go_wp2
    go_end0
    exact ⟨⟨_, rfl⟩, HR.out.setOk false, Exc.set (Exc.refl _ _) 4 _⟩
  · rw [if_neg h3]
    go_enter Try.func97, Try.ntmps97
    go_wp2
    go_end0
    exact ⟨⟨_, rfl⟩, HR.out, Exc.refl _ _⟩
end Go.Proofs.Ytbcabckokmjelaa
namespace Go.Proofs.Ytbcabckokmjelaa
open Go.RowKit
set_option linter.unusedVariables false
set_option linter.unusedSimpArgs false
structure Sp where
  s : Int
  lo : Int
  hi : Int
def stE (x : Sp) : List Value := [.int .i64 x.s, .int .i64 x.lo, .int .i64 x.hi]
structure SpOk (x : Sp) : Prop where
  s : -10000 ≤ x.s ∧ x.s ≤ 10000
  lo : -100000000 ≤ x.lo ∧ x.lo ≤ 100000000
  hi : -100000000 ≤ x.hi ∧ x.hi ≤ 100000000
theorem appS : AppE 75 99 stE 3 where
  ht := Try.underlying75
  info := app_info (z := .agg #[.int .i64 0, .int .i64 0, .int .i64 0]) (bytes := 24) (by kernel_rfl) rfl (by decide)
  pos := by decide
  len := fun x => rfl
  one := fun x u hu => by simp [stE] at hu; rcases hu with rfl | rfl | rfl <;> rfl
theorem three_cells {W : World} {g : Nat} {a b c : Value} (h0 : W.cell? ⟨g, 0, none⟩ = some a) (h1 : W.cell? ⟨g, 1, none⟩ = some b) (h2 : W.cell? ⟨g, 2, none⟩ = some c) : ∀ j u, ([a, b, c] : List Value)[j]? = some u → W.cell? ⟨g, j, none⟩ = some u := by
  intro j u hu
  have hj : j < 3 := (List.getElem?_eq_some_iff.1 hu).1
  match j, hj with
  | 0, _ => simp at hu; subst hu; exact h0
  | 1, _ => simp at hu; subst hu; exact h1
  | 2, _ => simp at hu; subst hu; exact h2
def widen (by' : Int) (x : Sp) : Sp := ⟨x.s, x.lo - by', x.hi + by'⟩
set_option maxRecDepth 100000 in
set_option maxHeartbeats 1000000 in
theorem wider_c (l : List Sp) (n : Nat) (hln : l.length = n) (hn : n ≤ 100000) (hl : ∀ x ∈ l, SpOk x) (by' : Int) (hb : 0 ≤ by' ∧ by' ≤ 1000000) (A : Option Addr) (cap : Nat) (w : World) (hr : RdL w w.heap.size stE 3 A l) :
    Calls Try.prog 65 #[.slice A n cap, .int .i64 by'] w fun e w' => ∃ A' c', e = .returned (.slice A' n c') ∧ RdL w' w'.heap.size stE 3 A' (l.map (widen by')) ∧ Below w.heap.size w w' := by
  have HR := Lib.hid hr
  have HL := Lib.hid hl
  have HN := Lib.hid hln
  clear hr hl hln
  go_enter Try.func65, Try.ntmps65
  go_wp2
  go_loopw [5, 10] (fun u i wr => ∃ (k : Nat) (v8 : Value), v8 = u ∧ k ≤ n ∧ i = .int .i64 k ∧ wr.ownsRow w.heap.size 99 3 v8 k (((l.map (widen by')).take k).flatMap stE) ∧ Below w.heap.size w wr) (fun _ i _ => n - (intOf i).toNat)
  case atStart => exact ⟨0, _, rfl, Nat.zero_le _, rfl, World.ownsRow_nil _ _ _ _, Below.refl _ _⟩
  case round =>
    obtain ⟨k, v8, rfl, hk, rfl, hown, hbw⟩ := hrel
    obtain ⟨A8, c8, rfl, -, -⟩ := row_form hown
    have HO := Lib.hid hown
    clear hown
    have hsz := hbw.size
    by_cases hlt : k < n
    · have hltl : k < l.length := by rw [HN.out]; exact hlt
      obtain ⟨b, off, rfl, hb0, hc⟩ := HR.out (by omega)
      have c0 := (hbw.cell (p := ⟨b, _, none⟩) hb0).trans (hc k hltl 0 _ rfl)
      have c1 := (hbw.cell (p := ⟨b, _, none⟩) hb0).trans (hc k hltl 1 _ rfl)
      have c2 := (hbw.cell (p := ⟨b, _, none⟩) hb0).trans (hc k hltl 2 _ rfl)
      clear hc
      simp at c0
      have y0 : b < wr.heap.size := cell?_lt c0
      have hm := HL.out _ (List.getElem_mem hltl)
      have HT := Lib.hid (show (l.map (widen by')).take (k + 1) = (l.map (widen by')).take k ++ [⟨l[k].s, l[k].lo - by', l[k].hi + by'⟩] by
        rw [List.take_succ_eq_append_getElem (by rw [List.length_map]; exact hltl), List.getElem_map]; rfl)
      have hln : ((l.map (widen by')).take k).length = k := by rw [List.length_take, List.length_map, HN.out]; omega
      have hlo := hm.lo
      have hhi := hm.hi
      clear hm
      generalize l[k].s = s at *
      generalize l[k].lo = lo at *
      generalize l[k].hi = hi at *
      have v1 : IntKind.i64.wrap (lo - by') = lo - by' := IntWalk.i64_in _ (by omega)
      have v2 : IntKind.i64.wrap (hi + by') = hi + by' := IntWalk.i64_in _ (by omega)
      have HAPP := Lib.hid (app_run appS _ (⟨s, lo - by', hi + by'⟩ : Sp) k hln (by omega) ((wr.alloc (.cells #[.int .i64 s, .int .i64 lo, .int .i64 hi] 99)).alloc (.cells #[.int .i64 s, .int .i64 (lo - by'), .int .i64 (hi + by')] 99)) w.heap.size (wr.heap.size + 1) _ ((HO.out.alloc _).alloc _) (by simp; omega) (three_cells (by simp [go_sem]) (by simp [go_sem]) (by simp [go_sem])))
      go_wp2_with (at_builtin; refine wpList_app rfl (.tmp 14) (.tmp 26) 75 rfl _ _ rfl rfl HAPP.out ?_; rintro v5 w5 ⟨hown5, hbel5⟩; obtain ⟨A5, c5, rfl, -, -⟩ := row_form hown5; have HO5 := Lib.hid hown5; clear hown5; have hB5 : Below w.heap.size w w5 := Below.low (Below.allocS (Below.allocS hbw _) _) hbel5 (Nat.le_refl _); clear hbel5)
      go_roundw
      case rel => exact ⟨k + 1, _, rfl, by omega, by go_num, by rw [HT.out]; exact HO5.out, by first | exact hB5 | (repeat (first | (with_reducible exact Below.refl _ _) | (with_reducible assumption) | (with_reducible refine Below.drew ?_) | (with_reducible refine Below.allocS ?_ _) | (with_reducible refine Below.setCell ?_ ?_ _) | (with_reducible refine Below.step ?_ (by assumption)) | (with_reducible refine Below.drewN' ?_ _))); (try any_goals (first | (with_reducible assumption) | (simp; done) | (simp; omega) | omega))⟩
      case measure => simp [intOf]; omega
    · obtain rfl : k = n := by omega
      rw [List.take_of_length_le (by rw [List.length_map, HN.out]; exact Nat.le_refl _)] at HO
      go_wp2
      go_ret
      exact ⟨A8, c8, rfl, RdL.of_own (fun _ => rfl) HO.out (by rw [List.length_map]; exact HN.out), hbw⟩
end Go.Proofs.Ytbcabckokmjelaa
namespace Go.Proofs.Ytbcabckokmjelaa
open Go.RowKit
set_option linter.unusedVariables false
set_option linter.unusedSimpArgs false
def r00 : Rc := ⟨⟨0, 0⟩, ⟨0, 0⟩, true⟩
/-- One pair of strips. -/
def azStep (s : Sp) (r : Rc) (t : Sp) : Rc := askR r (1000 * (s.lo - t.hi)) (s.s - t.s)
def azRow (l : List Sp) (r : Rc) (s : Sp) : Rc := l.foldl (azStep s) r
def azR (l : List Sp) : Rc := l.foldl (azRow l) r00
theorem r00Ok : RcOk r00 := ⟨⟨by unfold FrB r00; simp, fun _ => rfl⟩, ⟨by unfold FrB r00; simp, fun _ => rfl⟩⟩
theorem az_bd {s t : Sp} (hs : SpOk s) (ht : SpOk t) : (-10000000000000 ≤ 1000 * (s.lo - t.hi) ∧ 1000 * (s.lo - t.hi) ≤ 10000000000000) ∧ -100000 ≤ s.s - t.s ∧ s.s - t.s ≤ 100000 := by
  have := hs.s; have := hs.lo; have := ht.s; have := ht.hi; omega
theorem azStepOk {s t : Sp} {r : Rc} (hs : SpOk s) (ht : SpOk t) (hr : RcOk r) : RcOk (azStep s r t) := askOk hr (az_bd hs ht).1 (az_bd hs ht).2
theorem foldOk {l : List Sp} {f : Rc → Sp → Rc} (hf : ∀ r t, t ∈ l → RcOk r → RcOk (f r t)) {r : Rc} (hr : RcOk r) : RcOk (l.foldl f r) := by
  induction l generalizing r with
  | nil => exact hr
  | cons x l ih => exact ih (fun r t ht => hf r t (List.mem_cons_of_mem _ ht)) (hf r x (by simp) hr)
theorem take_fold {α β : Type} (f : β → α → β) (l : List α) (r : β) (k : Nat) (h : k < l.length) : (l.take (k + 1)).foldl f r = f ((l.take k).foldl f r) l[k] := by
  rw [List.take_succ_eq_append_getElem h, List.foldl_append]; rfl
def rcV (r : Rc) : Value := .agg #[.int .i64 r.lo.n, .int .i64 r.lo.d, .int .i64 r.hi.n, .int .i64 r.hi.d, .bool r.ok]
theorem res_rc {fn : Func} {p : Tmp} (h : fn.results = #[.cell p 90]) (tmps : Array Value) (w : World) (b : Nat) (v0 v1 v2 v3 v4 : Value) (hp : tmps.getD p undef = .pointer (some ⟨b, 0, none⟩))
    (c0 : w.cell? ⟨b, 0, none⟩ = some v0) (c1 : w.cell? ⟨b, 1, none⟩ = some v1) (c2 : w.cell? ⟨b, 2, none⟩ = some v2) (c3 : w.cell? ⟨b, 3, none⟩ = some v3) (c4 : w.cell? ⟨b, 4, none⟩ = some v4) :
    (results fn tmps).run Try.prog w = .ok (.agg #[v0, v1, v2, v3, v4]) w := by
  have e : (results fn tmps).run Try.prog w = ((asAddr (tmps.getD p undef)).run Try.prog w).andThen fun a w₁ => (loadVar 90 a).run Try.prog w₁ := by
    simp only [results, h]
    simp [Sem.run_bind, Result.andThen]
  rw [e, hp]
  simp only [asAddr, Sem.run_pure, Result.andThen_ok]
  simp [go_sem, *]
/-- .. and that was laid there just before. -/
theorem res_rc5 {fn : Func} {p : Tmp} (h : fn.results = #[.cell p 90]) (tmps : Array Value) (w : World) (b : Nat) (v0 v1 v2 v3 v4 : Value) (hp : tmps.getD p undef = .pointer (some ⟨b, 0, none⟩)) {o0 o1 o2 o3 o4 : Value}
    (c0 : w.cell? ⟨b, 0, none⟩ = some o0) (c1 : w.cell? ⟨b, 1, none⟩ = some o1) (c2 : w.cell? ⟨b, 2, none⟩ = some o2) (c3 : w.cell? ⟨b, 3, none⟩ = some o3) (c4 : w.cell? ⟨b, 4, none⟩ = some o4) :
    (results fn tmps).run Try.prog (((((w.setCell ⟨b, 0, none⟩ v0).setCell ⟨b, 1, none⟩ v1).setCell ⟨b, 2, none⟩ v2).setCell ⟨b, 3, none⟩ v3).setCell ⟨b, 4, none⟩ v4) =
      .ok (.agg #[v0, v1, v2, v3, v4]) (((((w.setCell ⟨b, 0, none⟩ v0).setCell ⟨b, 1, none⟩ v1).setCell ⟨b, 2, none⟩ v2).setCell ⟨b, 3, none⟩ v3).setCell ⟨b, 4, none⟩ v4) :=
  res_rc h tmps _ b v0 v1 v2 v3 v4 hp (by simp [go_sem, *]) (by simp [go_sem, *]) (by simp [go_sem, *]) (by simp [go_sem, *]) (by simp [go_sem, *])
set_option maxRecDepth 100000 in
set_option maxHeartbeats 2000000 in
theorem azimuths_c (l : List Sp) (n : Nat) (hln : l.length = n) (hn : n ≤ 100000) (hl : ∀ x ∈ l, SpOk x) (A : Option Addr) (cap : Nat) (w : World) (hr : RdL w w.heap.size stE 3 A l) :
    Calls Try.prog 72 #[.slice A n cap] w fun e w' => e = .returned (rcV (azR l)) ∧ Below w.heap.size w w' := by
  have HR := Lib.hid hr
  have HL := Lib.hid hl
  have HN := Lib.hid hln
  clear hr hl hln
  obtain ⟨Z, hZ⟩ : ∃ Z, Z = azR l := ⟨_, rfl⟩
  rw [← hZ]
  have HZ := Lib.hid (show l.foldl (azRow l) r00 = Z from hZ.symm)
  clear hZ
  unfold rcV
  go_enter Try.func72, Try.ntmps72
  go_wp2
  obtain ⟨W0, hW0⟩ : ∃ W, W = (w.alloc (.cells #[.int .i64 0, .int .i64 0, .int .i64 0, .int .i64 0, .bool false] 90)).alloc (.cells #[.int .i64 0, .int .i64 0, .int .i64 0, .int .i64 0, .bool true] 90) := ⟨_, rfl⟩
  have z0 : W0.cell? ⟨w.heap.size, 0, none⟩ = some (.int .i64 0) := by rw [hW0]; simp [go_sem]
  have z1 : W0.cell? ⟨w.heap.size, 1, none⟩ = some (.int .i64 0) := by rw [hW0]; simp [go_sem]
  have z2 : W0.cell? ⟨w.heap.size, 2, none⟩ = some (.int .i64 0) := by rw [hW0]; simp [go_sem]
  have z3 : W0.cell? ⟨w.heap.size, 3, none⟩ = some (.int .i64 0) := by rw [hW0]; simp [go_sem]
  have z4 : W0.cell? ⟨w.heap.size, 4, none⟩ = some (.bool false) := by rw [hW0]; simp [go_sem]
  have f0 : W0.frozen? ⟨w.heap.size, 0, none⟩ = false := by rw [hW0]; simp [go_sem]
  have f1 : W0.frozen? ⟨w.heap.size, 1, none⟩ = false := by rw [hW0]; simp [go_sem]
  have f2 : W0.frozen? ⟨w.heap.size, 2, none⟩ = false := by rw [hW0]; simp [go_sem]
  have f3 : W0.frozen? ⟨w.heap.size, 3, none⟩ = false := by rw [hW0]; simp [go_sem]
  have f4 : W0.frozen? ⟨w.heap.size, 4, none⟩ = false := by rw [hW0]; simp [go_sem]
  have hP : RcAt W0 (w.heap.size + 1) r00 := by
    rw [hW0]
    unfold r00
    refine ⟨?_, ?_, ?_, ?_, ?_, ?_, ?_, ?_, ?_, ?_⟩ <;> simp [go_sem]
  have g0 : Below w.heap.size w W0 := by rw [hW0]; (repeat (first | exact Below.refl _ _ | refine Below.drew ?_ | refine Below.allocS ?_ _ | refine Below.step ?_ (by assumption) | refine Below.setCell ?_ (by simp <;> omega) _ | refine Below.drewN' ?_ _))
  have hs0 : W0.heap.size = w.heap.size + 2 := by rw [hW0]; simp
  rw [← hW0]
  clear hW0
  have HP := Lib.hid hP
  clear hP
  go_loopw [11] (fun i wr => ∃ (k : Nat), k ≤ n ∧ i = .int .i64 k ∧ RcAt wr (w.heap.size + 1) ((l.take k).foldl (azRow l) r00) ∧ Exc (w.heap.size + 1) W0 wr) (fun i _ => n - (intOf i).toNat)
  case atStart => exact ⟨0, Nat.zero_le _, rfl, HP.out, Exc.refl _ _⟩
  case round =>
    rename World => V
    obtain ⟨k, hk, rfl, hrc, hex⟩ := hrel
    have hbw : Below w.heap.size w V := g0.trans (hex.below (by omega) (by omega))
    have hsw := hex.size
    have HRC := Lib.hid hrc
    clear hrc
    by_cases hlt : k < n
    · have hltl : k < l.length := by rw [HN.out]; exact hlt
      obtain ⟨b, off, rfl, hb0, hc⟩ := HR.out (by omega)
      have c0 := (hbw.cell (p := ⟨b, _, none⟩) hb0).trans (hc k hltl 0 _ rfl)
      have c1 := (hbw.cell (p := ⟨b, _, none⟩) hb0).trans (hc k hltl 1 _ rfl)
      have c2 := (hbw.cell (p := ⟨b, _, none⟩) hb0).trans (hc k hltl 2 _ rfl)
      have HC := Lib.hid hc
      clear hc
      simp at c0
      have y0 : b < V.heap.size := cell?_lt c0
      have hm := HL.out _ (List.getElem_mem hltl)
      have HT := Lib.hid (take_fold (azRow l) l r00 k hltl)
      have hOk : RcOk ((l.take k).foldl (azRow l) r00) := foldOk (fun r t ht hr => foldOk (fun r' t' ht' hr' => azStepOk (HL.out _ (List.mem_of_mem_take ht)) (HL.out _ ht') hr') hr) r00Ok
      have HOK := Lib.hid hOk
      clear hOk
      generalize (l.take k).foldl (azRow l) r00 = r at *
      generalize l[k] = s at *
      have HM := Lib.hid hm
      clear hm
      go_wp2
      obtain ⟨W1, hW1⟩ : ∃ W, W = V.alloc (.cells #[.int .i64 s.s, .int .i64 s.lo, .int .i64 s.hi] 99) := ⟨_, rfl⟩
      have t0 : W1.cell? ⟨V.heap.size, 0, none⟩ = some (.int .i64 s.s) := by rw [hW1]; simp [go_sem]
      have t1 : W1.cell? ⟨V.heap.size, 1, none⟩ = some (.int .i64 s.lo) := by rw [hW1]; simp [go_sem]
      have g1 : Below V.heap.size V W1 := by rw [hW1]; (repeat (first | exact Below.refl _ _ | refine Below.drew ?_ | refine Below.allocS ?_ _ | refine Below.step ?_ (by assumption) | refine Below.setCell ?_ (by simp <;> omega) _ | refine Below.drewN' ?_ _))
      have hs1 : W1.heap.size = V.heap.size + 1 := by rw [hW1]; simp
      rw [← hW1]
      clear hW1 c0 c1 c2
      go_loopw [17] (fun i wi => ∃ (j : Nat), j ≤ n ∧ i = .int .i64 j ∧ RcAt wi (w.heap.size + 1) ((l.take j).foldl (azStep s) r) ∧ Exc (w.heap.size + 1) W1 wi) (fun i _ => n - (intOf i).toNat)
      case atStart => exact ⟨0, Nat.zero_le _, rfl, HRC.out.step g1, Exc.refl _ _⟩
      case round =>
        obtain ⟨j, hj, rfl, hrci, hexi⟩ := hrel
        have hsi := hexi.size
        have hbi : Below w.heap.size w wr := (hbw.trans (g1.mono (by omega))).trans (hexi.below (by omega) (by omega))
        have HRI := Lib.hid hrci
        have q0 := hexi.cell t0 (by omega)
        have q1 := hexi.cell t1 (by omega)
        clear hrci
        by_cases hltj : j < n
        · have hltl' : j < l.length := by rw [HN.out]; exact hltj
          have d0 := (hbi.cell (p := ⟨b, _, none⟩) hb0).trans (HC.out j hltl' 0 _ rfl)
          have d1 := (hbi.cell (p := ⟨b, _, none⟩) hb0).trans (HC.out j hltl' 1 _ rfl)
          have d2 := (hbi.cell (p := ⟨b, _, none⟩) hb0).trans (HC.out j hltl' 2 _ rfl)
          simp at d0
          have HT2 := Lib.hid (take_fold (azStep s) l r j hltl')
          have hOk2 : RcOk ((l.take j).foldl (azStep s) r) := foldOk (fun r' t' ht' hr' => azStepOk HM.out (HL.out _ (List.mem_of_mem_take ht')) hr') HOK.out
          have hbd := az_bd HM.out (HL.out _ (List.getElem_mem hltl'))
          have HOK2 := Lib.hid hOk2
          clear hOk2
          generalize (l.take j).foldl (azStep s) r = r2 at *
          generalize l[j] = t at *
          have hs := HM.out.s
          have hslo := HM.out.lo
          have v1 : IntKind.i64.wrap (s.lo - t.hi) = s.lo - t.hi := IntWalk.i64_in _ (by omega)
          have v2 : IntKind.i64.wrap (1000 * (s.lo - t.hi)) = 1000 * (s.lo - t.hi) := IntWalk.i64_in _ (by omega)
          have v3 : IntKind.i64.wrap (s.s - t.s) = s.s - t.s := IntWalk.i64_in _ (by omega)
          have y1 : b < wr.heap.size := cell?_lt d0
          have y2 : V.heap.size < wr.heap.size := cell?_lt q0
          have HAS := Lib.hid (fun W h => asks_c r2 (w.heap.size + 1) (1000 * (s.lo - t.hi)) (s.s - t.s) W h HOK2.out hbd.1 hbd.2)
          clear hbd
          have hba := fun o => Below.allocS (Below.refl wr.heap.size wr) o
          go_wp2_with fail
          refine (HAS.out _ (HRI.out.step (hba _))).mono ?_
          rintro e w4 ⟨⟨u, rfl⟩, hr4, he4⟩
          go_wp2
          go_roundw
          case rel => exact ⟨j + 1, by omega, by go_num, by rw [HT2.out]; exact hr4, (hexi.step (hba _)).trans he4⟩
          case measure => simp [intOf]; omega
        · obtain rfl : j = n := by omega
          rw [List.take_of_length_le (by rw [HN.out]; exact Nat.le_refl _)] at HRI
          go_wp2
          go_roundw
          case rel => exact ⟨k + 1, by omega, by go_num, by rw [HT.out]; exact HRI.out, (hex.step g1).trans hexi⟩
          case measure => simp [intOf]; omega
    · obtain rfl : k = n := by omega
      rw [List.take_of_length_le (by rw [HN.out]; exact Nat.le_refl _), HZ.out] at HRC
      obtain ⟨p0, p1, p2, p3, p4, -, -, -, -, -⟩ := HRC.out
      have hw0 : w.heap.size < W0.heap.size := by omega
      have hne : w.heap.size ≠ w.heap.size + 1 := by omega
      have a0 := hex.cell z0 hne
      have a1 := hex.cell z1 hne
      have a2 := hex.cell z2 hne
      have a3 := hex.cell z3 hne
      have a4 := hex.cell z4 hne
      have e0 := hex.frozen hw0 f0 hne
      have e1 := hex.frozen hw0 f1 hne
      have e2 := hex.frozen hw0 f2 hne
      have e3 := hex.frozen hw0 f3 hne
      have e4 := hex.frozen hw0 f4 hne
      go_wp2
      (try simp only [Exit.inBlock, Exit.then])
      refine bodyPost_ret (res_rc5 rfl _ _ w.heap.size _ _ _ _ _ rfl a0 a1 a2 a3 a4) rfl ?_
      exact ⟨rfl, by (repeat (first | (with_reducible exact Below.refl _ _) | (with_reducible assumption) | (with_reducible refine Below.drew ?_) | (with_reducible refine Below.allocS ?_ _) | (with_reducible refine Below.setCell ?_ ?_ _) | (with_reducible refine Below.step ?_ (by assumption)) | (with_reducible refine Below.drewN' ?_ _))); (try any_goals (first | (with_reducible assumption) | (simp; done) | (simp; omega) | omega))⟩
def agB (r : Rc) : Bool := r.ok && (decide (r.lo.d = 0) || (decide (r.hi.d = 0) || !frLess r.hi r.lo))
theorem azOk {l : List Sp} (hl : ∀ x ∈ l, SpOk x) : RcOk (azR l) := foldOk (fun r t ht hr => foldOk (fun r' t' ht' hr' => azStepOk (hl _ ht) (hl _ ht') hr') hr) r00Ok
set_option maxHeartbeats 1000000 in
theorem agree_c (l : List Sp) (n : Nat) (hln : l.length = n) (hn : n ≤ 100000) (hl : ∀ x ∈ l, SpOk x) (A : Option Addr) (cap : Nat) (w : World) (hr : RdL w w.heap.size stE 3 A l) :
    Calls Try.prog 61 #[.slice A n cap] w fun e w' => e = .returned (.bool (agB (azR l))) ∧ Below w.heap.size w w' := by
  have H1 := Lib.hid (azimuths_c l n hln hn hl A cap w hr)
  have hOk := azOk hl
  have HL := Lib.hid (fun W => less_c (azR l).hi (azR l).lo hOk.hi.b hOk.lo.b W)
  clear hOk hr hl hln
  generalize azR l = r at *
  unfold rcV frV at *
  unfold agB
  generalize frLess r.hi r.lo = X at *
  cases ho : r.ok
  · rw [ho] at H1
    clear ho
    go_enter Try.func61, Try.ntmps61
    go_wp2_with fail
    refine H1.out.mono ?_
    rintro e w1 ⟨rfl, hb1⟩
    go_wp2
    go_ret
    exact ⟨rfl, by (repeat (first | exact Below.refl _ _ | refine Below.drew ?_ | refine Below.allocS ?_ _ | refine Below.step ?_ (by assumption) | refine Below.setCell ?_ (by simp <;> omega) _ | refine Below.drewN' ?_ _))⟩
  rw [ho] at H1
  clear ho
  by_cases h1 : r.lo.d = 0
  · rw [h1] at H1
    rw [decide_eq_true h1]
    clear h1
    go_enter Try.func61, Try.ntmps61
    go_wp2_with fail
    refine H1.out.mono ?_
    rintro e w1 ⟨rfl, hb1⟩
    go_wp2
    go_ret
    exact ⟨rfl, by (repeat (first | exact Below.refl _ _ | refine Below.drew ?_ | refine Below.allocS ?_ _ | refine Below.step ?_ (by assumption) | refine Below.setCell ?_ (by simp <;> omega) _ | refine Below.drewN' ?_ _))⟩
  rw [decide_eq_false h1]
  by_cases h2 : r.hi.d = 0
  · rw [h2] at H1
    rw [decide_eq_true h2]
    clear h2
    go_enter Try.func61, Try.ntmps61
    go_wp2_with fail
    refine H1.out.mono ?_
    rintro e w1 ⟨rfl, hb1⟩
    go_wp2
    go_ret
    exact ⟨rfl, by (repeat (first | exact Below.refl _ _ | refine Below.drew ?_ | refine Below.allocS ?_ _ | refine Below.step ?_ (by assumption) | refine Below.setCell ?_ (by simp <;> omega) _ | refine Below.drewN' ?_ _))⟩
  rw [decide_eq_false h2]
  go_enter Try.func61, Try.ntmps61
  go_wp2_with fail
  refine H1.out.mono ?_
  rintro e w1 ⟨rfl, hb1⟩
  go_wp2_with fail
  refine (HL.out _).mono ?_
  rintro e w2 ⟨rfl, hb2⟩
  go_wp2
  go_ret
  exact ⟨by first | rfl | simp [h1, h2], by (repeat (first | exact Below.refl _ _ | refine Below.drew ?_ | refine Below.allocS ?_ _ | refine Below.step ?_ (by assumption) | refine Below.setCell ?_ (by simp <;> omega) _ | refine Below.drewN' ?_ _))⟩
end Go.Proofs.Ytbcabckokmjelaa
