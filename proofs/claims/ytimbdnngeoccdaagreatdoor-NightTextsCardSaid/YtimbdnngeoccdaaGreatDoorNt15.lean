/-
  A row of lists that grows while the lists stay. No conditions.
-/
import Derived.Test.YtimbdnngeoccdaaGreatDoorNt14
import Derived.Maps.AppendAt
namespace Go.Proofs.YtimbdnngeoccdaaGreatDoor
open Go.RowKit Go.Deep
set_option linter.unusedVariables false
set_option linter.unusedSimpArgs false
theorem RdL.grown {α : Type} {W W' : World} {row : Option Nat} {sz b off : Nat} {enc : α → List Value} {l : List α} (h : RdL W W.heap.size enc sz (some ⟨b, off, none⟩) l) (hg : W.grownBy W' row) (hne : some b ≠ row) : RdL W' W'.heap.size enc sz (some ⟨b, off, none⟩) l := by
  intro hl
  obtain ⟨b', off', e, hlt, hc⟩ := h hl
  injection e with e
  injection e with e1 e2
  subst e1; subst e2
  have hs := hg.size
  exact ⟨b, off, rfl, by omega, fun i hi j v hv => (World.cell?_of_block (a := ⟨b, _, none⟩) (hg.block b hlt hne)).trans (hc i hi j v hv)⟩
/-- A row of lists in block g, each in another block. -/
structure CandAt (W : World) (base g : Nat) (v : Value) (n : Nat) (ls : List SlL) : Prop where
  own : W.ownsRow base 75 1 v ls.length (ls.flatMap slE)
  vb : v.ownBlock = some g
  lt : g < W.heap.size
  ge : base ≤ g
  at' : ∀ s ∈ ls, SlAt W n s ∧ ∃ b off, s.A = some ⟨b, off, none⟩ ∧ b < W.heap.size ∧ b ≠ g
theorem CandAt.step {W W' : World} {base g : Nat} {v : Value} {n : Nat} {ls : List SlL} (h : CandAt W base g v n ls) (hb : Below W.heap.size W W') : CandAt W' base g v n ls :=
  ⟨h.own.kept (row := none) ⟨hb.os, hb.tape, hb.output, hb.size, fun i hi _ => hb.block i hi⟩ (.inr (by rw [h.vb]; simp)), h.vb, by have := hb.size; have := h.lt; omega, h.ge, fun s hs => by
    obtain ⟨h1, b, off, e, h2, h3⟩ := h.at' s hs
    exact ⟨h1.step hb, b, off, e, by have := hb.size; omega, h3⟩⟩
theorem CandAt.one (W : World) (base n : Nat) (x : SlL) (hx : SlAt W n x) (b off : Nat) (e : x.A = some ⟨b, off, none⟩) (hb : b < W.heap.size) (hbase : base ≤ W.heap.size) :
    CandAt (W.alloc (.cells #[slV x] 75)) base W.heap.size (.slice (some ⟨W.heap.size, 0, none⟩) 1 1) n [x] :=
  ⟨World.ownsRow_lit (base := base) W #[slV x] 1 hbase (by unfold maxLen; omega) (by simp), rfl, by simp, hbase, fun s hs => by
    simp at hs
    subst hs
    exact ⟨hx.step (Below.allocS (Below.refl _ _) _), b, off, e, by simp; omega, by omega⟩⟩
theorem cand_app {W : World} {base g : Nat} {v : Value} {n : Nat} {ls : List SlL} (h : CandAt W base g v n ls) (hl : ls.length ≤ 1000) (x : SlL) (hx : SlAt W n x) (b off : Nat) (e : x.A = some ⟨b, off, none⟩) (hb : b < W.heap.size) (hne : b ≠ g) :
    ∃ v' w', (Builtin.append_ #[130, 130] 130 #[v, .slice (some ⟨W.heap.size, 0, none⟩) 1 1]).run Tryz.prog (W.alloc (.cells #[slV x] 75)) = .ok v' w' ∧
      ((∃ g', CandAt w' base g' v' n (ls ++ [x])) ∧ Below base (W.alloc (.cells #[slV x] 75)) w') := by
  obtain ⟨i, z, bytes, h1, h2, h3, h4, h5, h6⟩ := appSl.info
  have hbl : Below W.heap.size W (W.alloc (.cells #[slV x] 75)) := Below.allocS (Below.refl _ _) _
  have h0 := h.step hbl
  have hge := h.ge
  have hlt := h.lt
  obtain ⟨v', w', hrun, r1, r2, r3, r4⟩ := run_append_own_at (P := Tryz.prog) (w := W.alloc (.cells #[slV x] 75)) base 130 130 75 i z 1 bytes appSl.ht h1 h2 h3 h4 h5 appSl.pos v ls.length (ls.flatMap slE) h0.own ⟨W.heap.size, 0, none⟩ 1 1 (slE x) rfl
    (cell_one_new W (slV x) _) (appSl.one x) (by unfold maxLen; omega) (by have := Nat.mul_le_mul (show ls.length + 1 ≤ 1001 by omega) h6; omega) (by simp; omega)
  have hown : w'.ownsRow base 75 1 v' (ls ++ [x]).length ((ls ++ [x]).flatMap slE) := by
    rw [List.length_append, List.length_singleton]
    exact row_snoc (enc := slE) (y := x) r1 rfl
  rw [h.vb] at r2 r4
  have hsz : W.heap.size + 1 ≤ w'.heap.size := by have := r2.size; simpa using this
  have helem : ∀ s ∈ ls ++ [x], ∃ b off, s.A = some ⟨b, off, none⟩ ∧ b < W.heap.size ∧ b ≠ g ∧ SlAt W n s := fun s hs => by
    rcases List.mem_append.1 hs with hs | hs
    · obtain ⟨k1, b, off, k2, k3, k4⟩ := h.at' s hs
      exact ⟨b, off, k2, k3, k4, k1⟩
    · simp at hs; subst hs
      exact ⟨b, off, e, hb, hne, hx⟩
  have hat : ∀ s ∈ ls ++ [x], SlAt w' n s := fun s hs => by
    obtain ⟨b, off, k2, k3, k4, k1⟩ := helem s hs
    have k5 := k1.step hbl
    refine ⟨?_, k5.i, k5.l, k5.c⟩
    have := k5.r
    rw [k2] at this ⊢
    exact this.grown r2 (by simp [k4])
  refine ⟨v', w', hrun, ?_, ?_⟩
  · rcases r4 with r4 | r4
    · exact ⟨g, hown, r4, by omega, hge, fun s hs => by
        obtain ⟨b, off, k2, k3, k4, k1⟩ := helem s hs
        exact ⟨hat s hs, b, off, k2, by omega, k4⟩⟩
    · have hnew := (hown.lt _ r4)
      exact ⟨_, hown, r4, hnew.2, hnew.1, fun s hs => by
        obtain ⟨b, off, k2, k3, k4, k1⟩ := helem s hs
        exact ⟨hat s hs, b, off, k2, by omega, by simp; omega⟩⟩
  · exact Below.grown (Below.refl base _) r2 (by simp; omega) (fun k ek => by cases ek; omega)
end Go.Proofs.YtimbdnngeoccdaaGreatDoor
