/-
  Appending one element to a list of the call's own: the row that is left, and that nothing below it is changed.
-/
import Derived.Test.YtagbokhmcidokaaRow2
import Derived.Laws.OwnMore
namespace Go.Proofs.Ytagbokhmcidokaa
open Go.RowKit Go.Deep
set_option linter.unusedVariables false
/-- A type of elements that can be appended. -/
structure AppE {α : Type} (t e : TypeId) (enc : α → List Value) (sz : Nat) : Prop where
  ht : Try.prog.underlying t = some (.slice e)
  info : ∃ (i : TypeInfo) (z : Value) (bytes : Nat), Try.prog.info? e = some i ∧ i.zero = some z ∧ i.size = sz ∧ i.bytes = bytes ∧ z.cells.size = sz ∧ bytes ≤ 1000
  pos : 0 < sz
  len : ∀ x, (enc x).length = sz
  one : ∀ x, ∀ u ∈ enc x, u.oneCell' = true
theorem app_run {α : Type} {t e : TypeId} {enc : α → List Value} {sz : Nat} (H : AppE t e enc sz) (l : List α) (x : α) (n : Nat) (hn : l.length = n) (hl : n ≤ 100000) (W : World) (base g : Nat) (v : Value)
    (hrow : W.ownsRow base e sz v n (l.flatMap enc)) (hb : base ≤ W.heap.size) (hc : ∀ j u, (enc x)[j]? = some u → W.cell? ⟨g, j, none⟩ = some u) :
    ∃ v' w', (Builtin.append_ #[t, t] t #[v, .slice (some ⟨g, 0, none⟩) 1 1]).run Try.prog W = .ok v' w' ∧ (w'.ownsRow base e sz v' (n + 1) ((l ++ [x]).flatMap enc) ∧ Below base W w') := by
  obtain ⟨i, z, bytes, h1, h2, h3, h4, h5, h6⟩ := H.info
  obtain ⟨v', w', hrun, r1, r2, -⟩ := run_append_own (P := Try.prog) W base t t e i z sz bytes H.ht h1 h2 h3 h4 h5 H.pos v n (l.flatMap enc) hrow ⟨g, 0, none⟩ 1 1 (enc x) (by rw [H.len]; omega) (fun j u hu => by rw [add_none]; exact hc j u hu) (H.one x) (by unfold maxLen; omega)
    (by have := Nat.mul_le_mul (show n + 1 ≤ 100001 by omega) h6; omega) hb
  refine ⟨v', w', hrun, row_snoc (enc := enc) (y := x) r1 rfl, ?_⟩
  exact Below.grow (Below.refl base W) hrow r2 rfl hb
theorem wpList_app {ops : Array Oper} {rest : List Oper} {o : Oper} {a : Act} {w : World} {Q : Exit → Act → World → Prop} (hgd : o.guard = none) (s x : Operand) (t : TypeId)
    (ho : o.op = .call { callee := .builtin .append, args := #[s, x], argTypes := #[t, t] }) (v X : Value) (hs : a.eval s = v) (hx : a.eval x = X) {R : Value → World → Prop}
    (hrun : ∃ v' w', (Builtin.append_ #[t, t] o.type #[v, X]).run Try.prog w = .ok v' w' ∧ R v' w') (h : ∀ v' w', R v' w' → wpList Try.prog ops Q rest (a.put o.dst v') w') :
    wpList Try.prog ops Q (o :: rest) a w := by
  refine wpList_plain hgd fun K hK => ?_
  obtain ⟨v', w', hr, h2⟩ := hrun
  unfold Oper.wp execOp
  simp only [ho, resolve, invoke, builtin, Sem.run_bind, Sem.run_pure, Result.andThen_ok, List.map_toArray, List.map_cons, List.map_nil, hs, hx, hr]
  exact hK _ _ (h v' w' h2)
theorem app_info {e : TypeId} {z : Value} {sz bytes : Nat} (h : (Try.prog.info? e).map (fun i => (i.zero, i.size, i.bytes)) = some (some z, sz, bytes)) (hz : z.cells.size = sz) (hb : bytes ≤ 1000) :
    ∃ (i : TypeInfo) (z : Value) (bytes : Nat), Try.prog.info? e = some i ∧ i.zero = some z ∧ i.size = sz ∧ i.bytes = bytes ∧ z.cells.size = sz ∧ bytes ≤ 1000 := by
  cases hi : Try.prog.info? e with
  | none => rw [hi] at h; cases h
  | some i =>
    rw [hi] at h
    simp at h
    exact ⟨i, z, bytes, rfl, h.1, h.2.1, h.2.2, hz, hb⟩
/-- A cell of one element that was just laid. -/
theorem one_cell {α : Type} {enc : α → List Value} {W : World} {g : Nat} {x : α} {v : Value} (he : enc x = [v]) (h : W.cell? ⟨g, 0, none⟩ = some v) : ∀ j u, (enc x)[j]? = some u → W.cell? ⟨g, j, none⟩ = some u := by
  intro j u hu
  rw [he] at hu
  have hj : j < 1 := (List.getElem?_eq_some_iff.1 hu).1
  obtain rfl : j = 0 := by omega
  simp at hu
  subst hu
  exact h
theorem Below.low {B C : Nat} {w a b : World} (h : Below B w a) (k : Below C a b) (hC : B ≤ C) : Below B w b := h.trans (k.mono hC)
theorem low_cell {C : Nat} {a b : World} {p : Addr} {v : Value} (k : Below C a b) (hp : p.block < C) (h : a.cell? p = some v) : b.cell? p = some v := (k.cell hp).trans h
theorem low_at {C : Nat} {a b : World} {g o : Nat} {v : Value} (k : Below C a b) (hp : g < C) (h : a.cell? ⟨g, o, none⟩ = some v) : b.cell? ⟨g, o, none⟩ = some v := (k.cell (p := ⟨g, o, none⟩) hp).trans h
theorem low_frozen {C : Nat} {a b : World} {g o : Nat} {v : Bool} (k : Below C a b) (hp : g < C) (h : a.frozen? ⟨g, o, none⟩ = v) : b.frozen? ⟨g, o, none⟩ = v := (k.frozen (p := ⟨g, o, none⟩) hp).trans h
end Go.Proofs.Ytagbokhmcidokaa
