/-
  In a round of a range over a function a region that draws its order is walked as anywhere. No conditions.
-/
import Derived.Test.YtagbokhmcidokaaQi
namespace Go.Proofs.Ytagbokhmcidokaa
open Go.RowKit
set_option linter.unusedVariables false
section
variable {n l0 : Nat} {P : Program} {ops : Array Oper} {Q : Exit → Act → World → Prop} {md : Region.Mode}
theorem wpOpIn_to_round {l : List Oper} (hops : ops = l.toArray) (hd : noDefer l = true) {i : Nat} {K : Act → World → Prop} {a : Act} {w : World} (h : wpOpIn Fence.wide n P ops Q i K a w) : wpOpIn (Fence.wide.inRound l0) n P ops Q i K a w := by
  unfold wpOpIn at *
  split
  · rename_i ho; simp only [ho] at h; exact h
  · rename_i o ho
    simp only [ho] at h
    have ho' : l[i]? = some o := by rw [hops] at ho; simpa using ho
    split
    · rename_i hw
      simp only [hw, if_true] at h
      unfold Oper.wpIn at *
      refine ⟨h.1, ?_⟩
      have h2 := h.2
      rw [show Fence.wide.round = none from rfl, Oper.semAt_none] at h2
      rw [Oper.semAt_eq _ _ _ (noDefer_get hd ho')]
      exact h2
    · rename_i hw; simp only [hw] at h; exact h
theorem wpAnyIn_to_round {l : List Oper} (hops : ops = l.toArray) (hd : noDefer l = true) : ∀ (f : Nat) (listed : Array Bool) (a : Act) (w : World), wpAnyIn Fence.wide n P md ops Q f listed a w → wpAnyIn (Fence.wide.inRound l0) n P md ops Q f listed a w := by
  intro f
  induction f with
  | zero => exact fun _ _ _ h => h
  | succ f ih => exact fun listed a w h => ⟨h.1, fun i hi => wpOpIn_mono (fun a' w' h' => ih _ a' w' h') (wpOpIn_to_round hops hd (h.2 i hi))⟩
theorem round_any {id : Nat} {a : Act} {w : World} {l : List Oper} (hm : P.follows .mixedOrders = true) (hd : noDefer l = true)
    (h : wpAnyIn Fence.wide n P .any l.toArray Q l.toArray.size (Array.replicate l.toArray.size false) a w.drew) : (Code.region id l.toArray true).wpIn (Fence.wide.inRound l0) n P Q a w :=
  wpIn_region_any hm (wpAnyIn_to_round rfl hd _ _ _ _ h)
end
end Go.Proofs.Ytagbokhmcidokaa
