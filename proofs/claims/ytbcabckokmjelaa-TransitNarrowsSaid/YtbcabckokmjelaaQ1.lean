/-
  Fractions of transit and of its reference: less, greater, over, keep; what changes but one block.
-/
import Derived.Test.YtbcabckokmjelaaA15
import Derived.Test.YtbcabckokmjelaaQt
import Derived.Test.YtbcabckokmjelaaPre2
import Derived.Laws.ResultCell
namespace Go.Proofs.Ytbcabckokmjelaa
open Go.RowKit
set_option linter.unusedVariables false
set_option linter.unusedSimpArgs false
/-- Everything that was there but block P is as it was. -/
structure Exc (P : Nat) (w w' : World) : Prop where
  os : w'.os = w.os
  tape : w'.tape = w.tape
  output : w'.output = w.output
  size : w.heap.size ≤ w'.heap.size
  block : ∀ k, k < w.heap.size → k ≠ P → w'.heap[k]? = w.heap[k]?
theorem Exc.refl (P : Nat) (w : World) : Exc P w w := ⟨rfl, rfl, rfl, Nat.le_refl _, fun _ _ _ => rfl⟩
theorem Exc.trans {P : Nat} {a b c : World} (h : Exc P a b) (k : Exc P b c) : Exc P a c :=
  ⟨k.os.trans h.os, k.tape.trans h.tape, k.output.trans h.output, Nat.le_trans h.size k.size, fun i hi hp => (k.block i (Nat.lt_of_lt_of_le hi h.size) hp).trans (h.block i hi hp)⟩
theorem Exc.of_below {P : Nat} {a b : World} (h : Below a.heap.size a b) : Exc P a b := ⟨h.os, h.tape, h.output, h.size, fun k hk _ => h.block k hk⟩
theorem Exc.step {P : Nat} {w a b : World} (h : Exc P w a) (k : Below a.heap.size a b) : Exc P w b := h.trans (Exc.of_below k)
theorem Exc.alloc {P : Nat} {w a : World} (h : Exc P w a) (o : Obj) : Exc P w (a.alloc o) := h.step (Below.allocS (Below.refl _ _) o)
theorem Exc.drew {P : Nat} {w a : World} (h : Exc P w a) : Exc P w a.drew := h.step (Below.drew (Below.refl _ _))
theorem Exc.set {P : Nat} {w a : World} (h : Exc P w a) (o : Nat) (v : Value) : Exc P w (a.setCell ⟨P, o, none⟩ v) :=
  h.trans ⟨rfl, rfl, rfl, by simp [World.setCell], fun k _ hk => Below.heap_setCell _ _ _ _ (by simpa using hk)⟩
theorem Exc.cell {P : Nat} {w a : World} (h : Exc P w a) {b o : Nat} {v : Value} (hc : w.cell? ⟨b, o, none⟩ = some v) (hb : b ≠ P) : a.cell? ⟨b, o, none⟩ = some v :=
  (World.cell?_of_block (w := w) (a := ⟨b, o, none⟩) (h.block b (cell?_lt hc) hb)).trans hc
theorem Exc.frozen {P : Nat} {w a : World} (h : Exc P w a) {b o : Nat} {v : Bool} (hl : b < w.heap.size) (hc : w.frozen? ⟨b, o, none⟩ = v) (hb : b ≠ P) : a.frozen? ⟨b, o, none⟩ = v :=
  (World.frozen?_of_block (w := w) (a := ⟨b, o, none⟩) (h.block b hl hb)).trans hc
theorem Exc.below {P B : Nat} {w a : World} (h : Exc P w a) (hP : B ≤ P) (hB : B ≤ w.heap.size) : Below B w a :=
  ⟨h.os, h.tape, h.output, h.size, fun k hk => h.block k (by omega) (by omega)⟩
/-- What is read out of a block of two cells. -/
theorem res_two {fn : Func} {p : Tmp} {ty : TypeId} (h : fn.results = #[.cell p ty]) (tmps : Array Value) (w : World) (b : Nat) (v0 v1 : Value) (hp : tmps.getD p undef = .pointer (some ⟨b, 0, none⟩))
    (hl : (loadVar ty ⟨b, 0, none⟩).run Try.prog w = .ok (.agg #[v0, v1]) w) :
    (results fn tmps).run Try.prog w = .ok (.agg #[v0, v1]) w := by
  have e : (results fn tmps).run Try.prog w = ((asAddr (tmps.getD p undef)).run Try.prog w).andThen fun a w₁ => (loadVar ty a).run Try.prog w₁ := by
    simp only [results, h]
    simp [Sem.run_bind, Result.andThen]
  rw [e, hp]
  simp only [asAddr, Sem.run_pure, Result.andThen_ok]
  rw [hl]
theorem load_fr (w : World) (b : Nat) (v0 v1 : Value) (c0 : w.cell? ⟨b, 0, none⟩ = some v0) (c1 : w.cell? ⟨b, 1, none⟩ = some v1) : (loadVar 88 ⟨b, 0, none⟩).run Try.prog w = .ok (.agg #[v0, v1]) w := by
  simp [go_sem, *]
/-- A fraction; d is 0 if there is none. -/
structure Fr where
  n : Int
  d : Int
def frV (f : Fr) : Value := .agg #[.int .i64 f.n, .int .i64 f.d]
def FrB (f : Fr) : Prop := (-10000000000000 ≤ f.n ∧ f.n ≤ 10000000000000) ∧ 0 ≤ f.d ∧ f.d ≤ 100000
theorem mulB {n d : Int} (h1 : -10000000000000 ≤ n ∧ n ≤ 10000000000000) (h2 : 0 ≤ d ∧ d ≤ 100000) : -1000000000000000000 ≤ n * d ∧ n * d ≤ 1000000000000000000 := by
  have a1 : n * d ≤ 10000000000000 * d := Int.mul_le_mul_of_nonneg_right h1.2 h2.1
  have a2 : (-10000000000000) * d ≤ n * d := Int.mul_le_mul_of_nonneg_right h1.1 h2.1
  omega
def frLess (a b : Fr) : Bool := decide (a.n * b.d < b.n * a.d)
theorem less_c (a b : Fr) (ha : FrB a) (hb : FrB b) (w : World) : Calls Try.prog 89 #[frV a, frV b] w fun e w' => e = .returned (.bool (frLess a b)) ∧ Below w.heap.size w w' := by
  have v1 : IntKind.i64.wrap (a.n * b.d) = a.n * b.d := IntWalk.i64_in _ (by have := mulB ha.1 hb.2; omega)
  have v2 : IntKind.i64.wrap (b.n * a.d) = b.n * a.d := IntWalk.i64_in _ (by have := mulB hb.1 ha.2; omega)
  clear ha hb
  unfold frLess frV
  go_enter Try.func89, Try.ntmps89
  go_wp2
  go_ret
  exact ⟨rfl, by (repeat (first | exact Below.refl _ _ | refine Below.drew ?_ | refine Below.allocS ?_ _ | refine Below.step ?_ (by assumption) | refine Below.setCell ?_ (by simp <;> omega) _ | refine Below.drewN' ?_ _))⟩
theorem rless_c (a b : Fr) (ha : FrB a) (hb : FrB b) (w : World) : Calls Try.prog 113 #[frV a, frV b] w fun e w' => e = .returned (.bool (frLess a b)) ∧ Below w.heap.size w w' := by
  have v1 : IntKind.i64.wrap (a.n * b.d) = a.n * b.d := IntWalk.i64_in _ (by have := mulB ha.1 hb.2; omega)
  have v2 : IntKind.i64.wrap (b.n * a.d) = b.n * a.d := IntWalk.i64_in _ (by have := mulB hb.1 ha.2; omega)
  clear ha hb
  unfold frLess frV
  go_enter Try.func113, Try.ntmps113
  go_wp2
  go_ret
  exact ⟨rfl, by (repeat (first | exact Below.refl _ _ | refine Below.drew ?_ | refine Below.allocS ?_ _ | refine Below.step ?_ (by assumption) | refine Below.setCell ?_ (by simp <;> omega) _ | refine Below.drewN' ?_ _))⟩
theorem greater_c (a b : Fr) (ha : FrB a) (hb : FrB b) (w : World) : Calls Try.prog 116 #[frV a, frV b] w fun e w' => e = .returned (.bool (frLess b a)) ∧ Below w.heap.size w w' := by
  have H := Lib.hid (fun W => less_c b a hb ha W)
  clear ha hb
  unfold frV at *
  generalize frLess b a = L at *
  go_enter Try.func116, Try.ntmps116
  go_wp2_with fail
  refine (H.out _).mono ?_
  rintro e w1 ⟨rfl, hb1⟩
  have x1_0_0 : w1.cell? ⟨w.heap.size, 0, none⟩ = some (.int .i64 a.n) := keep_cell hb1 (by simp [go_sem, *])
  have x1_0_1 : w1.cell? ⟨w.heap.size, 1, none⟩ = some (.int .i64 a.d) := keep_cell hb1 (by simp [go_sem, *])
  have y1_0 : w.heap.size < w1.heap.size := cell?_lt x1_0_0
  have x1_1_0 : w1.cell? ⟨w.heap.size + 1, 0, none⟩ = some (.int .i64 b.n) := keep_cell hb1 (by simp [go_sem, *])
  have x1_1_1 : w1.cell? ⟨w.heap.size + 1, 1, none⟩ = some (.int .i64 b.d) := keep_cell hb1 (by simp [go_sem, *])
  have y1_1 : w.heap.size + 1 < w1.heap.size := cell?_lt x1_1_0
  have g1 : Below w.heap.size w w1 := by (repeat (first | exact Below.refl _ _ | refine Below.drew ?_ | refine Below.allocS ?_ _ | refine Below.step ?_ (by assumption) | refine Below.setCell ?_ (by simp <;> omega) _ | refine Below.drewN' ?_ _))
  clear hb1
  go_wp2
  go_ret
  exact ⟨rfl, by (repeat (first | exact Below.refl _ _ | refine Below.drew ?_ | refine Below.allocS ?_ _ | refine Below.step ?_ (by assumption) | refine Below.setCell ?_ (by simp <;> omega) _ | refine Below.drewN' ?_ _))⟩
def overF (n d : Int) : Fr := if d < 0 then ⟨-n, -d⟩ else ⟨n, d⟩
theorem over_c (n d : Int) (hn : -10000000000000 ≤ n ∧ n ≤ 10000000000000) (hd : -100000 ≤ d ∧ d ≤ 100000) (w : World) : Calls Try.prog 115 #[.int .i64 n, .int .i64 d] w fun e w' => e = .returned (frV (overF n d)) ∧ Below w.heap.size w w' := by
  have v1 : IntKind.i64.wrap (-n) = -n := IntWalk.i64_in _ (by omega)
  have v2 : IntKind.i64.wrap (-d) = -d := IntWalk.i64_in _ (by omega)
  clear hn hd
  unfold overF frV
  by_cases h : d < 0
  · rw [if_pos h]
    go_enter Try.func115, Try.ntmps115
    go_wp2
    (try simp only [Exit.inBlock, Exit.then])
    refine bodyPost_ret (res_two rfl _ _ w.heap.size _ _ rfl (load_fr _ _ (.int .i64 (-n)) (.int .i64 (-d)) (by simp [go_sem]) (by simp [go_sem]))) rfl ?_
    exact ⟨rfl, by (repeat (first | (with_reducible exact Below.refl _ _) | (with_reducible assumption) | (with_reducible refine Below.drew ?_) | (with_reducible refine Below.allocS ?_ _) | (with_reducible refine Below.setCell ?_ ?_ _) | (with_reducible refine Below.step ?_ (by assumption)) | (with_reducible refine Below.drewN' ?_ _))); (try any_goals (first | (with_reducible assumption) | (simp; done) | (simp; omega) | omega))⟩
  · rw [if_neg h]
    go_enter Try.func115, Try.ntmps115
    go_wp2
    (try simp only [Exit.inBlock, Exit.then])
    refine bodyPost_ret (res_two rfl _ _ w.heap.size _ _ rfl (load_fr _ _ (.int .i64 n) (.int .i64 d) (by simp [go_sem]) (by simp [go_sem]))) rfl ?_
    exact ⟨rfl, by (repeat (first | (with_reducible exact Below.refl _ _) | (with_reducible assumption) | (with_reducible refine Below.drew ?_) | (with_reducible refine Below.allocS ?_ _) | (with_reducible refine Below.setCell ?_ ?_ _) | (with_reducible refine Below.step ?_ (by assumption)) | (with_reducible refine Below.drewN' ?_ _))); (try any_goals (first | (with_reducible assumption) | (simp; done) | (simp; omega) | omega))⟩
end Go.Proofs.Ytbcabckokmjelaa
