/-
  Circle of night. No conditions.
-/
import Derived.Test.YtomgaiokmdcjmaaKN2
import Derived.Test.YtomgaiokmdcjmaaNt51
import Derived.Test.YtomgaiokmdcjmaaNt52
namespace Go.Proofs.Ytomgaiokmdcjmaa
open Go.RowKit Go.Deep Go.Shelf
attribute [local go_sem] Oper.semAt_some
set_option linter.unusedVariables false
set_option linter.unusedSimpArgs false
theorem flat_in (Q : List Nat) : (Q.map Int.ofNat).flatMap inE = Q.map (fun q : Nat => (.int .i64 q : Value)) := by
  induction Q with
  | nil => rfl
  | cons x t ih => rw [List.map_cons, List.flatMap_cons, ih, List.map_cons]; rfl
theorem row_q {W : World} {base n c : Nat} {A : Option Addr} {Q : List Nat} (h : W.ownsRow base 3 1 (.slice A n c) n ((Q.map Int.ofNat).flatMap inE)) (hn : 1 ≤ n) (hQ : Q.length = n) : ∃ g, A = some ⟨g, 0, none⟩ ∧ QAt W base g 0 Q c := by
  have hfl : ∀ j : Nat, ((Q.map Int.ofNat).flatMap inE)[j]? = (Q[j]?).map (fun q : Nat => (.int .i64 q : Value)) := by
    intro j
    rw [flat_in, List.getElem?_map]
  have h0 := h
  rcases h.2 with ⟨h', hn0⟩ | ⟨g, cap, cur, h', hb, hg, hnc, hcm, hcs, htake⟩
  · simp only [Value.slice.injEq] at h'
    omega
  · simp only [Value.slice.injEq] at h'
    obtain ⟨rfl, -, rfl⟩ := h'
    refine ⟨g, rfl, hb, by
      have := (Array.getElem?_eq_some_iff.1 hg).1
      exact this, fun j hj => ?_, fun j hj => ⟨?_, h0.frozenAt _⟩, by omega, hcm⟩
    · rw [Nat.zero_add, h0.cellAt j (by omega), hfl, List.getElem?_eq_getElem hj]
      unfold atN
      rw [List.getD_eq_getElem?_getD, List.getElem?_eq_getElem hj]; rfl
    · rw [Nat.zero_add, cell_of_row W g j cur _ (0, 0) hg, Array.getElem?_eq_getElem (by omega)]; rfl
set_option maxRecDepth 100000 in
theorem xor_bk (k : Nat) (hk : k < 64) : bits .xor .i64 (k : Int) 1 = (bk k : Int) := by
  have h : ∀ k : Fin 64, bits .xor .i64 ((k.val : Nat) : Int) 1 = (bk k.val : Int) := by decide
  exact h ⟨k, hk⟩
end Go.Proofs.Ytomgaiokmdcjmaa
