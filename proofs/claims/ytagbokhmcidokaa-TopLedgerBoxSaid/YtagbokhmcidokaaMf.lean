/-
  A map that the call makes, as a function from keys to values. No conditions.
-/
import Derived.Test.YtagbokhmcidokaaPre
import Derived.Maps.OwnSet
import Derived.Maps.Views
import Derived.OwnWalk
import Derived.StringKeys
namespace Go.Proofs.Ytagbokhmcidokaa
open Go.RowKit
set_option linter.unusedVariables false
set_option linter.unusedSimpArgs false
/-- How an element is read: as itself. -/
def rV (v : Value) : Option (DataW Value × List MemPlace) := some (.held v, [])
/-- Block B is a map of at most n entries that holds f. -/
def MapF (P : Program) (k : TypeId) (W : World) (B n : Nat) (f : Lit → Option Value) : Prop :=
  ∃ D : DataW Value, W.ownsMap P k rV B n D ∧ Maps.IsMap D ∧ (∀ kl z, WideAt.IsKeyLit kl → D.atKey kl (.held z) = .held ((f kl).getD z)) ∧ ∀ kl, WideAt.IsKeyLit kl → Maps.has D kl = (f kl).isSome
open Classical in
noncomputable def putF (f : Lit → Option Value) (kl : Lit) (v : Value) : Lit → Option Value := fun k' => if k' = kl then some v else f k'
theorem MapF.made (w : World) (P : Program) (k : TypeId) : MapF P k (w.alloc (.map #[] 0)) w.heap.size 0 (fun _ => none) :=
  ⟨.map [], World.ownsMap_made w P k rV, Maps.isMap_empty, fun kl z _ => rfl, fun kl _ => rfl⟩
section
variable {P : Program} {k : TypeId} {W : World} {B n : Nat} {f : Lit → Option Value}
theorem MapF.lt (h : MapF P k W B n f) : B < W.heap.size := let ⟨_, h, _⟩ := h; h.lt
theorem MapF.kept {W' : World} {row : Option Nat} (h : MapF P k W B n f) (hg : W.grownBy W' row) (hne : some B ≠ row) : MapF P k W' B n f :=
  let ⟨D, h1, h2⟩ := h; ⟨D, h1.kept hg hne, h2⟩
theorem MapF.alloc (h : MapF P k W B n f) (o : Obj) : MapF P k (W.alloc o) B n f := let ⟨D, h1, h2⟩ := h; ⟨D, h1.alloc o, h2⟩
theorem MapF.drew (h : MapF P k W B n f) : MapF P k W.drew B n f := h
theorem MapF.mono (h : MapF P k W B n f) {m : Nat} (hm : n ≤ m) : MapF P k W B m f := let ⟨D, h1, h2⟩ := h; ⟨D, h1.mono hm, h2⟩
theorem MapF.step {W' : World} (h : MapF P k W B n f) (hb : Below W.heap.size W W') : MapF P k W' B n f :=
  h.kept (row := none) ⟨hb.os, hb.tape, hb.output, hb.size, fun i hi _ => hb.block i hi⟩ (by simp)
theorem MapF.look {t e : TypeId} (h : MapF P k W B n f) (K : Maps.Keyed P k) (ht : P.underlying t = some (.map k e)) {z : Value} (hz : (zeroValue e).run P W = .ok z W) {key : Value} {kl : Lit} (hkey : keyOf P k key = some kl) :
    (Instr.lookup t (.map (some B)) key false).run P W = .ok ((f kl).getD z) W := by
  obtain ⟨D, h1, h2, h3, h4⟩ := h
  obtain ⟨v, ps, hrun, hv⟩ := h1.lookup K ht hz (zd := .held z) (zp := []) rfl hkey
  rw [h3 kl z (K.key hkey)] at hv
  unfold rV at hv
  simp only [Option.some.injEq, Prod.mk.injEq, DataW.held.injEq] at hv
  rw [hrun, hv.1]
theorem MapF.look_ok {t e : TypeId} (h : MapF P k W B n f) (K : Maps.Keyed P k) (ht : P.underlying t = some (.map k e)) {z : Value} (hz : (zeroValue e).run P W = .ok z W) {key : Value} {kl : Lit} (hkey : keyOf P k key = some kl) :
    (Instr.lookup t (.map (some B)) key true).run P W = .ok (.tuple #[(f kl).getD z, .bool (f kl).isSome]) W := by
  obtain ⟨D, h1, h2, h3, h4⟩ := h
  obtain ⟨v, ps, hrun, hv⟩ := h1.look_ok K ht hz (zd := .held z) (zp := []) rfl hkey
  rw [h3 kl z (K.key hkey)] at hv
  unfold rV at hv
  simp only [Option.some.injEq, Prod.mk.injEq, DataW.held.injEq] at hv
  rw [hrun, hv.1, h4 kl (K.key hkey)]
theorem MapF.store {t e : TypeId} (h : MapF P k W B n f) (K : Maps.Keyed P k) (ht : P.underlying t = some (.map k e)) (hn : n < maxLen) {key val : Value} {kl : Lit} (hkey : keyOf P k key = some kl) :
    ∃ W', (Instr.mapUpdate t (.map (some B)) key val).run P W = .ok () W' ∧ MapF P k W' B (n + 1) (putF f kl val) ∧ W.grownBy W' (some B) := by
  obtain ⟨D, h1, h2, h3, h4⟩ := h
  obtain ⟨W', hrun, hown, hg⟩ := h1.update K ht hn (val := val) (d := .held val) (ps := []) hkey rfl
  refine ⟨W', hrun, ⟨_, hown, h2.put _ _, fun kl' z hk => ?_, fun kl' hk => ?_⟩, hg⟩
  · unfold putF
    by_cases e1 : kl' = kl
    · subst e1
      rw [if_pos rfl, Maps.atKey_put_same h2 hk]; rfl
    · rw [if_neg e1, Maps.atKey_put_other e1]; exact h3 kl' z hk
  · unfold putF
    by_cases e1 : kl' = kl
    · subst e1
      rw [if_pos rfl, Maps.has_put_same h2 hk]; rfl
    · rw [if_neg e1, Maps.has_put_other e1]; exact h4 kl' hk
end
section
variable {ops : Array Oper} {rest : List Oper} {o : Oper} {a : Act} {Q : Exit → Act → World → Prop}
/-- m[k], at the operation. -/
theorem wpList_lookF (hg : o.guard = none) (m x : Operand) (t : TypeId) (hop : o.op = Op.lookup t m x false) (W : World) (k e : TypeId) (K : Maps.Keyed Try.prog k) (ht : Try.prog.underlying t = some (.map k e)) (z : Value) (hz : (zeroValue e).run Try.prog W = .ok z W)
    (B n : Nat) (f : Lit → Option Value) (hm : a.eval m = .map (some B)) (h : MapF Try.prog k W B n f) (key : Value) (kl : Lit) (hx : a.eval x = key) (hkey : keyOf Try.prog k key = some kl)
    (hK : wpList Try.prog ops Q rest (a.put o.dst ((f kl).getD z)) W) : wpList Try.prog ops Q (o :: rest) a W := by
  refine wpList_plain hg fun K' hK' => ?_
  have hrun := h.look K ht hz hkey
  unfold Oper.wp
  simp [execOp, hop, hm, hx, hrun, Result.andThen]
  exact hK' _ _ hK
/-- v, ok := m[k], at the operation. -/
theorem wpList_lookF_ok (hg : o.guard = none) (m x : Operand) (t : TypeId) (hop : o.op = Op.lookup t m x true) (W : World) (k e : TypeId) (K : Maps.Keyed Try.prog k) (ht : Try.prog.underlying t = some (.map k e)) (z : Value) (hz : (zeroValue e).run Try.prog W = .ok z W)
    (B n : Nat) (f : Lit → Option Value) (hm : a.eval m = .map (some B)) (h : MapF Try.prog k W B n f) (key : Value) (kl : Lit) (hx : a.eval x = key) (hkey : keyOf Try.prog k key = some kl)
    (hK : wpList Try.prog ops Q rest (a.put o.dst (.tuple #[(f kl).getD z, .bool (f kl).isSome])) W) : wpList Try.prog ops Q (o :: rest) a W := by
  refine wpList_plain hg fun K' hK' => ?_
  have hrun := h.look_ok K ht hz hkey
  unfold Oper.wp
  simp [execOp, hop, hm, hx, hrun, Result.andThen]
  exact hK' _ _ hK
/-- m[k] = v, at the operation. -/
theorem wpList_storeF (hg : o.guard = none) (m x v : Operand) (t : TypeId) (hop : o.op = Op.mapUpdate t m x v) (W : World) (k e : TypeId) (K : Maps.Keyed Try.prog k) (ht : Try.prog.underlying t = some (.map k e))
    (B n : Nat) (f : Lit → Option Value) (hm : a.eval m = .map (some B)) (h : MapF Try.prog k W B n f) (hn : n < maxLen) (key val : Value) (kl : Lit) (hx : a.eval x = key) (hv : a.eval v = val) (hkey : keyOf Try.prog k key = some kl)
    (hK : ∀ W', MapF Try.prog k W' B (n + 1) (putF f kl val) → W.grownBy W' (some B) → wpList Try.prog ops Q rest (a.put o.dst undef) W') : wpList Try.prog ops Q (o :: rest) a W := by
  refine wpList_plain hg fun K' hK' => ?_
  obtain ⟨W', hrun, r1, r2⟩ := h.store K ht hn (val := val) hkey
  unfold Oper.wp
  simp [execOp, hop, hm, hx, hv, hrun, Result.andThen]
  exact hK' _ _ (hK W' r1 r2)
end
end Go.Proofs.Ytagbokhmcidokaa
