/-
  What is remembered of rotas: keys that are states. No conditions.
-/
import Derived.Test.YtomgaiokmdcjmaaRo4
import Derived.Test.YtomgaiokmdcjmaaMf
import Derived.Test.YtomgaiokmdcjmaaNt16
import Derived.DeepKeys4
namespace Go.Proofs.Ytomgaiokmdcjmaa
open Go.RowKit Go.Deep Go.Shelf
set_option linter.unusedVariables false
set_option linter.unusedSimpArgs false
theorem laid_out : laidOutB Try.prog = true := by kernel_rfl
theorem st_row : (84 : TypeId) < Try.prog.types.size := of_decide_eq_true (by kernel_rfl)
theorem st_wide : (match Try.prog.underlying 84 with | some (.array _ _) | some (.struct _) => true | _ => false) = true := by kernel_rfl
set_option maxRecDepth 100000 in
theorem st_law : WideMaps.KeyLaw Try.prog 84 := deep_law_laid laid_out (m := 3) (by omega) st_row (by kernel_rfl) st_wide
theorem st_keyed : Maps.Keyed Try.prog 84 := Maps.Keyed.of_law st_law
theorem st_type : Try.prog.keyType 84 = true := by kernel_rfl
theorem st_size : ∃ d, Try.prog.types.size = d + 2 := by
  have h : 2 ≤ Try.prog.types.size := of_decide_eq_true (by kernel_rfl)
  exact ⟨Try.prog.types.size - 2, (Nat.sub_add_cancel h).symm⟩
theorem st_cells : Try.prog.cellsOf 84 = 10 ∧ Try.prog.cellsOf 82 = 8 ∧ Try.prog.cellsOf 3 = 1 := ⟨by kernel_rfl, by kernel_rfl, by kernel_rfl⟩
theorem k_int (d : Nat) (x : Nat) (h : x ≤ 1000) : Try.prog.keyLits (d + 1) 3 [.int .i64 x] = some [.int .i64 x] := by
  have := wf_small h
  simp [Program.keyLits, Try.underlying3, this]
theorem k_arr (d : Nat) (f : Nat → Nat) (h : ∀ j, j < 8 → f j ≤ 1000) : ∃ l, Try.prog.keyLits (d + 2) 82 [.int .i64 (f 0), .int .i64 (f 1), .int .i64 (f 2), .int .i64 (f 3), .int .i64 (f 4), .int .i64 (f 5), .int .i64 (f 6), .int .i64 (f 7)] = some l := by
  obtain ⟨c1, c2, c3⟩ := st_cells
  refine Option.isSome_iff_exists.1 ?_
  unfold Program.keyLits
  simp only [Try.underlying82]
  simp [c2, c3, List.range_succ, k_int d _ (h 0 (by omega)), k_int d _ (h 1 (by omega)), k_int d _ (h 2 (by omega)), k_int d _ (h 3 (by omega)), k_int d _ (h 4 (by omega)), k_int d _ (h 5 (by omega)), k_int d _ (h 6 (by omega)), k_int d _ (h 7 (by omega))]
theorem st_key (n l : Nat) (f : Nat → Nat) (hn : n ≤ 1000) (hl : l ≤ 1000) (hf : ∀ j, j < 8 → f j ≤ 1000) :
    ∃ kl, keyOf Try.prog 84 (.agg #[.int .i64 n, .int .i64 l, .int .i64 (f 0), .int .i64 (f 1), .int .i64 (f 2), .int .i64 (f 3), .int .i64 (f 4), .int .i64 (f 5), .int .i64 (f 6), .int .i64 (f 7)]) = some kl := by
  obtain ⟨d, hd⟩ := st_size
  obtain ⟨c1, c2, c3⟩ := st_cells
  obtain ⟨la, hla⟩ := k_arr d f hf
  refine Option.isSome_iff_exists.1 ?_
  unfold keyOf
  rw [st_type, hd]
  simp only [Try.underlying84]
  unfold Program.keyLits
  simp only [Try.underlying84]
  simp [Value.formed, Value.cells, Try.underlying84, c1, c2, c3, k_int (d + 1) _ hn, k_int (d + 1) _ hl, hla]
/-- All that is remembered is so. -/
def MemoF (K : Crw) (F : Lit → Option Value) : Prop := ∀ kl v, F kl = some v → ∃ n l f, keyOf Try.prog 84 (stV n l f) = some kl ∧ n ≤ K.can.length ∧ v = .int .i64 (K.cnt (K.can.length - n) l f : Nat)
theorem MemoF.look {K : Crw} {F : Lit → Option Value} (h : MemoF K F) (ho : K.obs ≤ 8) {n l : Nat} {f : Nat → Nat} {kl : Lit} {v : Value} (hk : keyOf Try.prog 84 (stV n l f) = some kl) (hv : F kl = some v) : v = .int .i64 (K.cnt (K.can.length - n) l f : Nat) := by
  obtain ⟨n', l', f', hk', hn', rfl⟩ := h kl v hv
  have e := st_keyed.inj hk hk'
  unfold stV at e
  simp only [Value.agg.injEq, Array.mk.injEq, List.cons.injEq, Value.int.injEq, true_and, and_true, Int.natCast_inj] at e
  obtain ⟨rfl, rfl, e0, e1, e2, e3, e4, e5, e6, e7⟩ := e
  rw [cnt_congr ho (K.can.length - n) l (f := f') (g := f) (fun j hj => by
    have hj' : j = 0 ∨ j = 1 ∨ j = 2 ∨ j = 3 ∨ j = 4 ∨ j = 5 ∨ j = 6 ∨ j = 7 := by omega
    rcases hj' with rfl | rfl | rfl | rfl | rfl | rfl | rfl | rfl <;> (first | exact e0.symm | exact e1.symm | exact e2.symm | exact e3.symm | exact e4.symm | exact e5.symm | exact e6.symm | exact e7.symm))]
theorem MemoF.put {K : Crw} {F : Lit → Option Value} (h : MemoF K F) {n l : Nat} {f : Nat → Nat} {kl : Lit} (hk : keyOf Try.prog 84 (stV n l f) = some kl) (hn : n ≤ K.can.length) : MemoF K (putF F kl (.int .i64 (K.cnt (K.can.length - n) l f : Nat))) := by
  intro kl' v hv
  unfold putF at hv
  by_cases e : kl' = kl
  · rw [if_pos e] at hv
    injection hv with hv
    subst e
    exact ⟨n, l, f, hk, hn, hv.symm⟩
  · rw [if_neg e] at hv; exact h kl' v hv
/-- A map in memory that remembers. -/
def MemoAt (K : Crw) (W : World) (B c : Nat) : Prop := ∃ F, MapF Try.prog 84 W B c F ∧ MemoF K F
theorem MemoAt.step {K : Crw} {W W' : World} {B c : Nat} (h : MemoAt K W B c) (hb : Below W.heap.size W W') : MemoAt K W' B c := let ⟨F, h1, h2⟩ := h; ⟨F, h1.step hb, h2⟩
theorem MemoAt.kept {K : Crw} {W W' : World} {B c : Nat} {row : Option Nat} (h : MemoAt K W B c) (hg : W.grownBy W' row) (hne : some B ≠ row) : MemoAt K W' B c := let ⟨F, h1, h2⟩ := h; ⟨F, h1.kept hg hne, h2⟩
theorem MemoAt.mono {K : Crw} {W : World} {B c d : Nat} (h : MemoAt K W B c) (hc : c ≤ d) : MemoAt K W B d := let ⟨F, h1, h2⟩ := h; ⟨F, h1.mono hc, h2⟩
theorem MemoAt.lt {K : Crw} {W : World} {B c : Nat} (h : MemoAt K W B c) : B < W.heap.size := let ⟨F, h1, h2⟩ := h; h1.lt
theorem MemoAt.made (K : Crw) (W : World) : MemoAt K (W.alloc (.map #[] 0)) W.heap.size 0 := ⟨_, MapF.made W Try.prog 84, fun kl v hv => by cases hv⟩
/-- How many states a count may remember. -/
def ndN : Nat → Nat
  | 0 => 0
  | r + 1 => 1 + 8 * ndN r
theorem ndN_le : ∀ {r : Nat}, r ≤ 12 → ndN r ≤ 10000000000 := by
  intro r hr
  have h : r = 0 ∨ r = 1 ∨ r = 2 ∨ r = 3 ∨ r = 4 ∨ r = 5 ∨ r = 6 ∨ r = 7 ∨ r = 8 ∨ r = 9 ∨ r = 10 ∨ r = 11 ∨ r = 12 := by omega
  rcases h with rfl | rfl | rfl | rfl | rfl | rfl | rfl | rfl | rfl | rfl | rfl | rfl | rfl <;> simp [ndN]
theorem sum_filter (p : Nat → Bool) (g : Nat → Nat) (l : List Nat) : ((l.filter p).map g).sum = (l.map fun o => if p o then g o else 0).sum := by
  induction l with
  | nil => rfl
  | cons x t ih =>
    rw [List.map_cons, List.sum_cons, ← ih]
    by_cases h : p x = true
    · rw [List.filter_cons_of_pos h, if_pos h, List.map_cons, List.sum_cons]
    · rw [List.filter_cons_of_neg h, if_neg h, Nat.zero_add]
theorem cnt_succ (K : Crw) (r n l : Nat) (f : Nat → Nat) (h : r + 1 + n = K.can.length) : K.cnt (r + 1) l f = ((nxL K n l f K.obs).map fun o => K.cnt r o (K.nx n f o)).sum := by
  have e : K.can.length - (r + 1) = n := by omega
  unfold nxL
  rw [sum_filter]
  show ((List.range K.obs).map fun o => if K.may (K.can.length - (r + 1)) l f o then K.cnt r o (K.nx (K.can.length - (r + 1)) f o) else 0).sum = _
  rw [e]
theorem nx_le {K : Crw} {n : Nat} {f : Nat → Nat} (hf : ∀ j, j < 8 → f j ≤ n) (o : Nat) : ∀ j, j < 8 → K.nx n f o j ≤ n + 1 := by
  intro j hj
  have := hf j hj
  unfold Crw.nx freeF incF
  split <;> split <;> omega
theorem pow8_le {r : Nat} (h : r ≤ 12) : 8 ^ r ≤ 68719476736 := Nat.le_trans (Nat.pow_le_pow_right (by omega) h) (by decide)
end Go.Proofs.Ytomgaiokmdcjmaa
