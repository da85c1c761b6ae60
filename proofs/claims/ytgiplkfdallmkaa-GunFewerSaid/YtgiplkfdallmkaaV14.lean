/-
  An append in a region that draws its order, into a list of the call's own; the further shot.
-/
import Derived.Test.YtgiplkfdallmkaaV13
import Derived.Test.YtgiplkfdallmkaaL1
import Derived.Deep.DeepCutAuto
import Derived.Deep.RegionLawGrows
import Derived.Laws.OwnMore
namespace Go.Proofs.Ytgiplkfdallmkaa
open Go.RowKit Go.Deep
set_option linter.unusedVariables false
set_option linter.unusedSimpArgs false
theorem step_append_ok {P : Program} {ops : Array Oper} {o : Oper} {a : Act} {w : World} {K : Act → World → Prop} {Q : Exit → Act → World → Prop} {E : Prop}
    (hg : o.guard = none) (s x : Operand) (t : TypeId) (hop : o.op = Op.call { callee := Callee.builtin Builtin.append, args := #[s, x], argTypes := #[t, t] })
    (v X : Value) (hs : a.eval s = v) (hx : a.eval x = X) {R : Value → World → Prop} (hrun : ∃ v' w', (Builtin.append_ #[t, t] o.type #[v, X]).run P w = .ok v' w' ∧ R v' w')
    (hK : ∀ v' w', R v' w' → K (a.put o.dst v') w') :
    if Region.wanted o (yielded ops a.tmps) = true then Oper.wp P o a w K Q else E := by
  have hw : Region.wanted o (yielded ops a.tmps) = true := by simp [Region.wanted, hg]
  rw [if_pos hw]
  obtain ⟨v', w', hr, h⟩ := hrun
  unfold Oper.wp
  simp [execOp, hop, resolve, invoke, builtin, hs, hx, hr, Result.andThen]
  exact hK v' w' h
theorem app1 (l : List Shot) (A : Option Addr) (cap : Nat) (hz : A = none → l.length = 0 ∧ cap = 0) (hl : l.length ≤ 1000) (W : World) (base g : Nat) (hrow : W.ownsRow base 65 4 (.slice (some ⟨g, 0, none⟩) 0 0) 0 []) (hb : base ≤ W.heap.size)
    (holds : ∀ b, A = some b → ∀ j u, (l.flatMap shE)[j]? = some u → W.cell? (b.add j) = some u) :
    ∃ v' w', (Builtin.append_ #[45, 45] 45 #[.slice (some ⟨g, 0, none⟩) 0 0, .slice A l.length cap]).run Try.prog W = .ok v' w' ∧ (w'.ownsRow base 65 4 v' l.length (l.flatMap shE) ∧ W.grownBy w' (some g)) := by
  obtain ⟨i1, hj, hy0, hy1, hy2⟩ := info_parts shI
  cases A with
  | none =>
    obtain ⟨h1, rfl⟩ := hz rfl
    have : l = [] := List.eq_nil_of_length_eq_zero h1
    subst this
    exact ⟨.slice (some ⟨g, 0, none⟩) 0 0, W, by kernel_rfl, hrow, World.grownBy.refl _ _⟩
  | some b =>
    obtain ⟨v', w', hrun, r1, r2, -⟩ := run_append_own (P := Try.prog) W base 45 45 65 i1 (.agg #[.int .i64 0, .int .i64 0, .int .i64 0, .int .i64 0]) 4 32 shU hj hy0 hy1 hy2 rfl (by decide) _ 0 [] hrow b l.length cap (l.flatMap shE) (flat_len shE 4 shE_len l) (holds b rfl) (shE_one l) (by unfold maxLen; omega) (by omega) hb
    exact ⟨v', w', hrun, by simpa using r1, r2⟩
theorem app2 (l : List Shot) (t : Shot) (hl : l.length ≤ 1000) (W : World) (base g : Nat) (v : Value) (hrow : W.ownsRow base 65 4 v l.length (l.flatMap shE)) (hb : base ≤ W.heap.size)
    (c0 : W.cell? ⟨g, 0, none⟩ = some (.int .i64 t.gx)) (c1 : W.cell? ⟨g, 1, none⟩ = some (.int .i64 t.gy)) (c2 : W.cell? ⟨g, 2, none⟩ = some (.int .i64 t.lo)) (c3 : W.cell? ⟨g, 3, none⟩ = some (.int .i64 t.hi)) :
    ∃ v' w', (Builtin.append_ #[45, 45] 45 #[v, .slice (some ⟨g, 0, none⟩) 1 1]).run Try.prog W = .ok v' w' ∧ (w'.ownsRow base 65 4 v' (l.length + 1) ((l ++ [t]).flatMap shE) ∧ W.grownBy w' v.ownBlock) := by
  obtain ⟨i1, hj, hy0, hy1, hy2⟩ := info_parts shI
  obtain ⟨v', w', hrun, r1, r2, -⟩ := run_append_own (P := Try.prog) W base 45 45 65 i1 (.agg #[.int .i64 0, .int .i64 0, .int .i64 0, .int .i64 0]) 4 32 shU hj hy0 hy1 hy2 rfl (by decide) v l.length (l.flatMap shE) hrow ⟨g, 0, none⟩ 1 1 (shE t) rfl (fun j u hu => by
    rw [add_none]
    have hj' : j = 0 ∨ j = 1 ∨ j = 2 ∨ j = 3 := by have := (List.getElem?_eq_some_iff.1 hu).1; simp [shE] at this; omega
    rcases hj' with rfl | rfl | rfl | rfl <;> simp only [shE, List.getElem?_cons_zero, List.getElem?_cons_succ, Option.some.injEq] at hu <;> subst hu <;> first | exact c0 | exact c1 | exact c2 | exact c3) (by simp [shE, Value.oneCell']) (by unfold maxLen; omega) (by omega) hb
  exact ⟨v', w', hrun, row_snoc (enc := shE) (y := t) r1 rfl, r2⟩
theorem grown_cell {W W' : World} {row : Option Nat} (hg : W.grownBy W' row) {b o : Nat} {u : Value} (h : W.cell? ⟨b, o, none⟩ = some u) (hne : some b ≠ row) : W'.cell? ⟨b, o, none⟩ = some u :=
  (World.cell?_of_block (a := ⟨b, o, none⟩) (hg.block b (cell?_lt h) hne)).trans h
theorem own_ne {W : World} {base : Nat} {e : TypeId} {sz n : Nat} {v : Value} {xs : List Value} (h : W.ownsRow base e sz v n xs) {b : Nat} (hb : b < base) : some b ≠ v.ownBlock := fun e => by
  have := (h.lt b e.symm).1
  omega
theorem empty_row' (W : World) (t : TypeId) (sz g : Nat) (h : g = W.heap.size) : (W.alloc (.cells #[] t)).ownsRow g t sz (.slice (some ⟨g, 0, none⟩) 0 0) 0 [] := by subst h; exact empty_row _ _ _
end Go.Proofs.Ytgiplkfdallmkaa
