/-
  The better of two fractions.
-/
import Derived.Test.YtbcabckokmjelaaQ1
namespace Go.Proofs.Ytbcabckokmjelaa
open Go.RowKit
set_option linter.unusedVariables false
set_option linter.unusedSimpArgs false
structure FrOk (f : Fr) : Prop where
  b : FrB f
  z : f.d = 0 → f.n = 0
theorem eqFr (x : Fr) (W : World) : (binOp .eql 88 (.agg #[.int .i64 x.n, .int .i64 x.d]) (.agg #[.int .i64 0, .int .i64 0])).run Try.prog W = .ok (.bool (decide (x.n = 0) && decide (x.d = 0))) W := by
  by_cases h1 : x.n = 0 <;> by_cases h2 : x.d = 0 <;> simp [go_sem, h1, h2]
theorem call_less (args : Array Value) (W : World) : (callFunc 89 args).run Try.prog W = .ok (.enter 89 args) W := by kernel_rfl
theorem call_greater (args : Array Value) (W : World) : (callFunc 116 args).run Try.prog W = .ok (.enter 116 args) W := by kernel_rfl
/-- The greater of two, or the lesser. -/
def keepG (x y : Fr) : Fr := if (decide (x.d = 0) || frLess x y) = true then y else x
def keepL (x y : Fr) : Fr := if (decide (x.d = 0) || frLess y x) = true then y else x
theorem keepG_c (x y : Fr) (hx : FrOk x) (hy : FrB y) (w : World) : Calls Try.prog 114 #[frV x, frV y, .func (.func 116) #[] #[]] w fun e w' => e = .returned (frV (keepG x y)) ∧ Below w.heap.size w w' := by
  have H := Lib.hid (fun W => greater_c y x hy hx.b W)
  have hz := hx.z
  clear hx hy
  unfold keepG frV at *
  by_cases h0 : x.d = 0
  · have hn := hz h0
    rw [h0, hn] at *
    rw [decide_eq_true rfl, Bool.true_or, if_pos rfl]
    have hq := eqFr ⟨0, 0⟩
    simp only [decide_eq_true_eq, decide_true, Bool.and_true] at hq
    go_enter Try.func114, Try.ntmps114
    go_wp2
    (try simp only [Exit.inBlock, Exit.then])
    refine bodyPost_ret (res_two rfl _ _ (w.heap.size + 1 + 1) _ _ rfl (load_fr _ _ (.int .i64 y.n) (.int .i64 y.d) (by simp [go_sem]) (by simp [go_sem]))) rfl ?_
    exact ⟨rfl, by (repeat (first | (with_reducible exact Below.refl _ _) | (with_reducible assumption) | (with_reducible refine Below.drew ?_) | (with_reducible refine Below.allocS ?_ _) | (with_reducible refine Below.setCell ?_ ?_ _) | (with_reducible refine Below.step ?_ (by assumption)) | (with_reducible refine Below.drewN' ?_ _))); (try any_goals (first | (with_reducible assumption) | (simp; done) | (simp; omega) | omega))⟩
  · have hq := eqFr x
    rw [decide_eq_false h0, Bool.and_false] at hq
    rw [decide_eq_false h0, Bool.false_or]
    clear hz
    have hcl := call_greater
    cases ht : frLess x y
    · rw [ht] at H
      rw [if_neg (by simp)]
      clear ht
      go_enter Try.func114, Try.ntmps114
      go_wp2_with fail
      refine (H.out _).mono ?_
      rintro e w1 ⟨rfl, hb1⟩
      have x1_0_0 : w1.cell? ⟨w.heap.size, 0, none⟩ = some (.int .i64 x.n) := keep_cell hb1 (by simp [go_sem, *])
      have x1_0_1 : w1.cell? ⟨w.heap.size, 1, none⟩ = some (.int .i64 x.d) := keep_cell hb1 (by simp [go_sem, *])
      have y1_0 : w.heap.size < w1.heap.size := cell?_lt x1_0_0
      have x1_1_0 : w1.cell? ⟨w.heap.size + 1, 0, none⟩ = some (.int .i64 y.n) := keep_cell hb1 (by simp [go_sem, *])
      have x1_1_1 : w1.cell? ⟨w.heap.size + 1, 1, none⟩ = some (.int .i64 y.d) := keep_cell hb1 (by simp [go_sem, *])
      have y1_1 : w.heap.size + 1 < w1.heap.size := cell?_lt x1_1_0
      have x1_2_0 : w1.cell? ⟨w.heap.size + 1 + 1, 0, none⟩ = some (.int .i64 0) := keep_cell hb1 (by simp [go_sem, *])
      have f1_2_0 : w1.frozen? ⟨w.heap.size + 1 + 1, 0, none⟩ = false := keep_frozen hb1 (by first | omega | (simp <;> omega)) (by simp [go_sem, *])
      have x1_2_1 : w1.cell? ⟨w.heap.size + 1 + 1, 1, none⟩ = some (.int .i64 0) := keep_cell hb1 (by simp [go_sem, *])
      have f1_2_1 : w1.frozen? ⟨w.heap.size + 1 + 1, 1, none⟩ = false := keep_frozen hb1 (by first | omega | (simp <;> omega)) (by simp [go_sem, *])
      have y1_2 : w.heap.size + 1 + 1 < w1.heap.size := cell?_lt x1_2_0
      have g1 : Below w.heap.size w w1 := by (repeat (first | exact Below.refl _ _ | refine Below.drew ?_ | refine Below.allocS ?_ _ | refine Below.step ?_ (by assumption) | refine Below.setCell ?_ (by simp <;> omega) _ | refine Below.drewN' ?_ _))
      clear hb1
      go_wp2
      (try simp only [Exit.inBlock, Exit.then])
      refine bodyPost_ret (res_two rfl _ _ (w.heap.size + 1 + 1) _ _ rfl (load_fr _ _ (.int .i64 x.n) (.int .i64 x.d) (by simp [go_sem, *]) (by simp [go_sem, *]))) rfl ?_
      exact ⟨rfl, by (repeat (first | (with_reducible exact Below.refl _ _) | (with_reducible assumption) | (with_reducible refine Below.drew ?_) | (with_reducible refine Below.allocS ?_ _) | (with_reducible refine Below.setCell ?_ ?_ _) | (with_reducible refine Below.step ?_ (by assumption)) | (with_reducible refine Below.drewN' ?_ _))); (try any_goals (first | (with_reducible assumption) | (simp; done) | (simp; omega) | omega))⟩
    · rw [ht] at H
      rw [if_pos rfl]
      clear ht
      go_enter Try.func114, Try.ntmps114
      go_wp2_with fail
      refine (H.out _).mono ?_
      rintro e w1 ⟨rfl, hb1⟩
      have x1_0_0 : w1.cell? ⟨w.heap.size, 0, none⟩ = some (.int .i64 x.n) := keep_cell hb1 (by simp [go_sem, *])
      have x1_0_1 : w1.cell? ⟨w.heap.size, 1, none⟩ = some (.int .i64 x.d) := keep_cell hb1 (by simp [go_sem, *])
      have y1_0 : w.heap.size < w1.heap.size := cell?_lt x1_0_0
      have x1_1_0 : w1.cell? ⟨w.heap.size + 1, 0, none⟩ = some (.int .i64 y.n) := keep_cell hb1 (by simp [go_sem, *])
      have x1_1_1 : w1.cell? ⟨w.heap.size + 1, 1, none⟩ = some (.int .i64 y.d) := keep_cell hb1 (by simp [go_sem, *])
      have y1_1 : w.heap.size + 1 < w1.heap.size := cell?_lt x1_1_0
      have x1_2_0 : w1.cell? ⟨w.heap.size + 1 + 1, 0, none⟩ = some (.int .i64 0) := keep_cell hb1 (by simp [go_sem, *])
      have f1_2_0 : w1.frozen? ⟨w.heap.size + 1 + 1, 0, none⟩ = false := keep_frozen hb1 (by first | omega | (simp <;> omega)) (by simp [go_sem, *])
      have x1_2_1 : w1.cell? ⟨w.heap.size + 1 + 1, 1, none⟩ = some (.int .i64 0) := keep_cell hb1 (by simp [go_sem, *])
      have f1_2_1 : w1.frozen? ⟨w.heap.size + 1 + 1, 1, none⟩ = false := keep_frozen hb1 (by first | omega | (simp <;> omega)) (by simp [go_sem, *])
      have y1_2 : w.heap.size + 1 + 1 < w1.heap.size := cell?_lt x1_2_0
      have g1 : Below w.heap.size w w1 := by (repeat (first | exact Below.refl _ _ | refine Below.drew ?_ | refine Below.allocS ?_ _ | refine Below.step ?_ (by assumption) | refine Below.setCell ?_ (by simp <;> omega) _ | refine Below.drewN' ?_ _))
      clear hb1
      go_wp2
      (try simp only [Exit.inBlock, Exit.then])
      refine bodyPost_ret (res_two rfl _ _ (w.heap.size + 1 + 1) _ _ rfl (load_fr _ _ (.int .i64 y.n) (.int .i64 y.d) (by simp [go_sem, *]) (by simp [go_sem, *]))) rfl ?_
      exact ⟨rfl, by (repeat (first | (with_reducible exact Below.refl _ _) | (with_reducible assumption) | (with_reducible refine Below.drew ?_) | (with_reducible refine Below.allocS ?_ _) | (with_reducible refine Below.setCell ?_ ?_ _) | (with_reducible refine Below.step ?_ (by assumption)) | (with_reducible refine Below.drewN' ?_ _))); (try any_goals (first | (with_reducible assumption) | (simp; done) | (simp; omega) | omega))⟩
theorem keepL_c (x y : Fr) (hx : FrOk x) (hy : FrB y) (w : World) : Calls Try.prog 114 #[frV x, frV y, .func (.func 89) #[] #[]] w fun e w' => e = .returned (frV (keepL x y)) ∧ Below w.heap.size w w' := by
  have H := Lib.hid (fun W => less_c y x hy hx.b W)
  have hz := hx.z
  clear hx hy
  unfold keepL frV at *
  by_cases h0 : x.d = 0
  · have hn := hz h0
    rw [h0, hn] at *
    rw [decide_eq_true rfl, Bool.true_or, if_pos rfl]
    have hq := eqFr ⟨0, 0⟩
    simp only [decide_eq_true_eq, decide_true, Bool.and_true] at hq
    go_enter Try.func114, Try.ntmps114
    go_wp2
    (try simp only [Exit.inBlock, Exit.then])
    refine bodyPost_ret (res_two rfl _ _ (w.heap.size + 1 + 1) _ _ rfl (load_fr _ _ (.int .i64 y.n) (.int .i64 y.d) (by simp [go_sem]) (by simp [go_sem]))) rfl ?_
    exact ⟨rfl, by (repeat (first | (with_reducible exact Below.refl _ _) | (with_reducible assumption) | (with_reducible refine Below.drew ?_) | (with_reducible refine Below.allocS ?_ _) | (with_reducible refine Below.setCell ?_ ?_ _) | (with_reducible refine Below.step ?_ (by assumption)) | (with_reducible refine Below.drewN' ?_ _))); (try any_goals (first | (with_reducible assumption) | (simp; done) | (simp; omega) | omega))⟩
  · have hq := eqFr x
    rw [decide_eq_false h0, Bool.and_false] at hq
    rw [decide_eq_false h0, Bool.false_or]
    clear hz
    have hcl := call_less
    cases ht : frLess y x
    · rw [ht] at H
      rw [if_neg (by simp)]
      clear ht
      go_enter Try.func114, Try.ntmps114
      go_wp2_with fail
      refine (H.out _).mono ?_
      rintro e w1 ⟨rfl, hb1⟩
      have x1_0_0 : w1.cell? ⟨w.heap.size, 0, none⟩ = some (.int .i64 x.n) := keep_cell hb1 (by simp [go_sem, *])
      have x1_0_1 : w1.cell? ⟨w.heap.size, 1, none⟩ = some (.int .i64 x.d) := keep_cell hb1 (by simp [go_sem, *])
      have y1_0 : w.heap.size < w1.heap.size := cell?_lt x1_0_0
      have x1_1_0 : w1.cell? ⟨w.heap.size + 1, 0, none⟩ = some (.int .i64 y.n) := keep_cell hb1 (by simp [go_sem, *])
      have x1_1_1 : w1.cell? ⟨w.heap.size + 1, 1, none⟩ = some (.int .i64 y.d) := keep_cell hb1 (by simp [go_sem, *])
      have y1_1 : w.heap.size + 1 < w1.heap.size := cell?_lt x1_1_0
      have x1_2_0 : w1.cell? ⟨w.heap.size + 1 + 1, 0, none⟩ = some (.int .i64 0) := keep_cell hb1 (by simp [go_sem, *])
      have f1_2_0 : w1.frozen? ⟨w.heap.size + 1 + 1, 0, none⟩ = false := keep_frozen hb1 (by first | omega | (simp <;> omega)) (by simp [go_sem, *])
      have x1_2_1 : w1.cell? ⟨w.heap.size + 1 + 1, 1, none⟩ = some (.int .i64 0) := keep_cell hb1 (by simp [go_sem, *])
      have f1_2_1 : w1.frozen? ⟨w.heap.size + 1 + 1, 1, none⟩ = false := keep_frozen hb1 (by first | omega | (simp <;> omega)) (by simp [go_sem, *])
      have y1_2 : w.heap.size + 1 + 1 < w1.heap.size := cell?_lt x1_2_0
      have g1 : Below w.heap.size w w1 := by (repeat (first | exact Below.refl _ _ | refine Below.drew ?_ | refine Below.allocS ?_ _ | refine Below.step ?_ (by assumption) | refine Below.setCell ?_ (by simp <;> omega) _ | refine Below.drewN' ?_ _))
      clear hb1
      go_wp2
      (try simp only [Exit.inBlock, Exit.then])
      refine bodyPost_ret (res_two rfl _ _ (w.heap.size + 1 + 1) _ _ rfl (load_fr _ _ (.int .i64 x.n) (.int .i64 x.d) (by simp [go_sem, *]) (by simp [go_sem, *]))) rfl ?_
      exact ⟨rfl, by (repeat (first | (with_reducible exact Below.refl _ _) | (with_reducible assumption) | (with_reducible refine Below.drew ?_) | (with_reducible refine Below.allocS ?_ _) | (with_reducible refine Below.setCell ?_ ?_ _) | (with_reducible refine Below.step ?_ (by assumption)) | (with_reducible refine Below.drewN' ?_ _))); (try any_goals (first | (with_reducible assumption) | (simp; done) | (simp; omega) | omega))⟩
    · rw [ht] at H
      rw [if_pos rfl]
      clear ht
      go_enter Try.func114, Try.ntmps114
      go_wp2_with fail
      refine (H.out _).mono ?_
      rintro e w1 ⟨rfl, hb1⟩
      have x1_0_0 : w1.cell? ⟨w.heap.size, 0, none⟩ = some (.int .i64 x.n) := keep_cell hb1 (by simp [go_sem, *])
      have x1_0_1 : w1.cell? ⟨w.heap.size, 1, none⟩ = some (.int .i64 x.d) := keep_cell hb1 (by simp [go_sem, *])
      have y1_0 : w.heap.size < w1.heap.size := cell?_lt x1_0_0
      have x1_1_0 : w1.cell? ⟨w.heap.size + 1, 0, none⟩ = some (.int .i64 y.n) := keep_cell hb1 (by simp [go_sem, *])
      have x1_1_1 : w1.cell? ⟨w.heap.size + 1, 1, none⟩ = some (.int .i64 y.d) := keep_cell hb1 (by simp [go_sem, *])
      have y1_1 : w.heap.size + 1 < w1.heap.size := cell?_lt x1_1_0
      have x1_2_0 : w1.cell? ⟨w.heap.size + 1 + 1, 0, none⟩ = some (.int .i64 0) := keep_cell hb1 (by simp [go_sem, *])
      have f1_2_0 : w1.frozen? ⟨w.heap.size + 1 + 1, 0, none⟩ = false := keep_frozen hb1 (by first | omega | (simp <;> omega)) (by simp [go_sem, *])
      have x1_2_1 : w1.cell? ⟨w.heap.size + 1 + 1, 1, none⟩ = some (.int .i64 0) := keep_cell hb1 (by simp [go_sem, *])
      have f1_2_1 : w1.frozen? ⟨w.heap.size + 1 + 1, 1, none⟩ = false := keep_frozen hb1 (by first | omega | (simp <;> omega)) (by simp [go_sem, *])
      have y1_2 : w.heap.size + 1 + 1 < w1.heap.size := cell?_lt x1_2_0
      have g1 : Below w.heap.size w w1 := by (repeat (first | exact Below.refl _ _ | refine Below.drew ?_ | refine Below.allocS ?_ _ | refine Below.step ?_ (by assumption) | refine Below.setCell ?_ (by simp <;> omega) _ | refine Below.drewN' ?_ _))
      clear hb1
      go_wp2
      (try simp only [Exit.inBlock, Exit.then])
      refine bodyPost_ret (res_two rfl _ _ (w.heap.size + 1 + 1) _ _ rfl (load_fr _ _ (.int .i64 y.n) (.int .i64 y.d) (by simp [go_sem, *]) (by simp [go_sem, *]))) rfl ?_
      exact ⟨rfl, by (repeat (first | (with_reducible exact Below.refl _ _) | (with_reducible assumption) | (with_reducible refine Below.drew ?_) | (with_reducible refine Below.allocS ?_ _) | (with_reducible refine Below.setCell ?_ ?_ _) | (with_reducible refine Below.step ?_ (by assumption)) | (with_reducible refine Below.drewN' ?_ _))); (try any_goals (first | (with_reducible assumption) | (simp; done) | (simp; omega) | omega))⟩
end Go.Proofs.Ytbcabckokmjelaa
