/-
  A region that draws its order, inside a round: one allocation that waits for nothing, quiet operations, and a forced tail behind all. No conditions.
-/
import Derived.Test.YtimbdnngeoccdaaDoorQa2
import Derived.Test.YtimbdnngeoccdaaDoorQi
namespace Go.Proofs.YtimbdnngeoccdaaDoor
open Go.RowKit
set_option linter.unusedVariables false
section
variable {P : Program} {ops : Array Oper} {md : Region.Mode} {C : World → Prop} {l0 : Nat} {k0 : Nat}
theorem wpIn_of_YR {o : Oper} (hd : ∀ c, o.op ≠ .defer c) {v : Value} {a : Act} {W : World} {K' : Act → World → Prop} {Q' : Exit → Act → World → Prop} (hy : YR P C o v a) (hCs : ∀ W W', C W → Below W.heap.size W W' → C W') (hW : C W)
    (hK : ∀ W', Below W.heap.size W W' → K' (a.put o.dst v) W') : o.wpIn (Fence.wide.inRound l0) k0 P a W K' Q' := by
  refine Oper.wpIn_of_quiet hd (C := fun W' => Below W.heap.size W W') (K := fun a' => a' = a.put o.dst v) (Below.refl _ _) (fun a' w' hw' he => by rw [he]; exact hK w' hw') ⟨v, fun W2 h2 => ?_, rfl⟩
  have := hy W2 (hCs _ _ hW h2)
  unfold Oper.quietAt Oper.quietUpon at *
  split at this
  · exact this
  · exact this
  · exact ⟨this.1, this.2.mono fun e w'' he => ⟨he.1, Below.step h2 he.2⟩⟩
  · exact this
theorem anyIn_after {lo : List Oper} (hops : ops = lo.toArray) (hnd : noDefer lo = true) {n m g : Nat} {om : Oper} {p : Value} {L : Array Bool → Act → Prop} {Q' : Exit → Act → World → Prop} {D : World → Prop} (hsel : Region.noSelect ops = true) (hm : ops[m]? = some om)
    (hap : ∀ j oj, j < n → j ≠ m → ops[j]? = some oj → om.apart ops oj = true) (hCs : ∀ W W', C W → Below W.heap.size W W' → C W') (hDs : ∀ W W', D W → Below W.heap.size W W' → D W')
    (hL : ∀ listed a w, C w → D w → L listed a → wpAnyIn (Fence.wide.inRound l0) k0 P md ops Q' g listed (a.put om.dst p) w) :
    ∀ (f : Nat) (listed : Array Bool) (a : Act) (w : World), C w → D w → listed.getD m false = true → headR P md ops C n L f listed a → wpAnyIn (Fence.wide.inRound l0) k0 P md ops Q' (f + g) listed (a.put om.dst p) w := by
  intro f
  induction f with
  | zero => intro listed a w hw hd _ h; rw [Nat.zero_add]; exact hL _ _ _ hw hd h
  | succ f ih =>
    intro listed a w hw hd hlm h
    rw [show f + 1 + g = (f + g) + 1 by omega]
    refine ⟨fun h0 => absurd h0 h.1, fun i hi => ?_⟩
    obtain ⟨hin, o, v, k1, k2, k3, k4⟩ := h.2 i hi
    have him : i ≠ m := fun e => by
      have := (mem_ready.1 hi).1
      rw [e] at this
      have := getD_both this
      rw [hlm] at this; cases this
    obtain ⟨h1, h2, h3⟩ := Oper.apart_spec (hap i o hin him k1)
    have hy : YR P C o v (a.put om.dst p) := k3.of_same (execOp_put o (Region.noSelect_spec hsel i o · · k1) a om.dst p h1)
    have hdo := noDefer_get hnd (show lo[i]? = some o by rw [hops] at k1; simpa using k1)
    unfold wpOpIn
    simp only [k1]
    rw [if_pos (by simp [Region.wanted, k2])]
    refine wpIn_of_YR hdo hy hCs hw fun W' hb => ?_
    rw [Act.put_comm a p v h2]
    exact ih _ _ _ (hCs _ _ hw hb) (hDs _ _ hd hb) (getD_set_true hlm) k4
theorem anyIn_before {lo : List Oper} (hops : ops = lo.toArray) (hnd : noDefer lo = true) {n m g : Nat} {om : Oper} {ob : Obj} {L : Array Bool → Act → Prop} {Q' : Exit → Act → World → Prop} (hsel : Region.noSelect ops = true) (hs : Region.sinkB md ops n = true) (hc : Region.chainB md ops n = true) (hn : n < ops.size)
    (hm : ops[m]? = some om) (hmn : m < n) (hmg : om.guard = none)
    (hall : ∀ (a : Act) W, (execOp a.eval om).run P W = .ok (.value (.pointer (some ⟨W.heap.size, 0, none⟩))) (W.alloc ob))
    (hap : ∀ j oj, j < n → j ≠ m → ops[j]? = some oj → om.apart ops oj = true) (hCs : ∀ W W', C W → Below W.heap.size W W' → C W')
    (hdone : ∀ listed a, L listed a → ∀ j ∈ Region.ready md ops listed, n ≤ j)
    (hL : ∀ W1, C W1 → ∀ listed a w, C w → Below (W1.alloc ob).heap.size (W1.alloc ob) w → L listed a → wpAnyIn (Fence.wide.inRound l0) k0 P md ops Q' g listed (a.put om.dst (.pointer (some ⟨W1.heap.size, 0, none⟩))) w) :
    ∀ (f : Nat) (listed : Array Bool) (a : Act) (w : World), C w → HeadInv md ops n listed → m ∈ Region.ready md ops listed → headR P md ops C n L f (listed.setIfInBounds m true) a → wpAnyIn (Fence.wide.inRound l0) k0 P md ops Q' (f + g + 1) listed a w := by
  have hdm := noDefer_get hnd (show lo[m]? = some om by rw [hops] at hm; simpa using hm)
  intro f
  induction f with
  | zero =>
    intro listed a w hw inv hr h
    refine ⟨fun h0 => (by rw [h0] at hr; cases hr), fun i hi => ?_⟩
    by_cases him : i = m
    · subst him
      unfold wpOpIn
      simp only [hm]
      rw [if_pos (by simp [Region.wanted, hmg])]
      refine ⟨fun _ _ => trivial, ?_⟩
      rw [Oper.semAt_eq _ _ _ hdm, hall, Oper.uponIn_value]
      have hb : Below w.heap.size w (w.alloc ob) := Below.allocS (Below.refl _ _) ob
      rw [Nat.zero_add]
      exact hL w hw _ _ _ (hCs _ _ hw hb) (Below.refl _ _) h
    · have h1 := hdone _ _ h i (ready_mono hi him)
      exact absurd hi (tail_waits hs hc hn inv _ m rfl hmn (mem_ready.1 hr).1 i h1)
  | succ f ih =>
    intro listed a w hw inv hr h
    refine ⟨fun h0 => (by rw [h0] at hr; cases hr), fun i hi => ?_⟩
    by_cases him : i = m
    · subst him
      unfold wpOpIn
      simp only [hm]
      rw [if_pos (by simp [Region.wanted, hmg])]
      refine ⟨fun _ _ => trivial, ?_⟩
      rw [Oper.semAt_eq _ _ _ hdm, hall, Oper.uponIn_value]
      have hb : Below w.heap.size w (w.alloc ob) := Below.allocS (Below.refl _ _) ob
      refine anyIn_after hops hnd (D := fun W => Below (w.alloc ob).heap.size (w.alloc ob) W) hsel hm hap hCs (fun W W' h1 h2 => Below.step h1 h2) (fun listed a W hC hD h => hL w hw _ _ _ hC hD h) (f + 1) _ _ _ (hCs _ _ hw hb) (Below.refl _ _) ?_ h
      have hun := (mem_ready.1 hr).1
      rcases Nat.lt_or_ge i listed.size with hlt | hge
      · simp [hlt]
      · simp [Array.getElem?_eq_none hge] at hun
    · obtain ⟨hin, o, v, k1, k2, k3, k4⟩ := h.2 i (ready_mono hi him)
      have hdo := noDefer_get hnd (show lo[i]? = some o by rw [hops] at k1; simpa using k1)
      unfold wpOpIn
      simp only [k1]
      rw [if_pos (by simp [Region.wanted, k2])]
      refine wpIn_of_YR hdo k3 hCs hw fun W' hb => ?_
      have := ih (listed.setIfInBounds i true) _ W' (hCs _ _ hw hb) (inv.set hi hin) (ready_mono hr (Ne.symm him)) (by rw [Array.setIfInBounds_comm _ _ him]; exact k4)
      rwa [show f + 1 + g = f + g + 1 by omega]
/-- The law: operation n allocates, those before it are quiet, those behind it are forced. -/
theorem round_new {id : Nat} {Q : Exit → Act → World → Prop} {a : Act} {w : World} {l : List Oper} (n : Nat) {om : Oper} {ob : Obj} (hm : P.follows .mixedOrders = true) (hB : newB .any l.toArray n = true) (hnd : noDefer l = true) (hom : l[n]? = some om) (hmg : om.guard = none)
    (hall : ∀ (a : Act) W, (execOp a.eval om).run P W = .ok (.value (.pointer (some ⟨W.heap.size, 0, none⟩))) (W.alloc ob))
    (h : wpQR P (fun W => Below w.heap.size w W) (fun a' => ∀ W1 W, Below w.heap.size w W1 → Below (W1.alloc ob).heap.size (W1.alloc ob) W → wpListIn (Fence.wide.inRound l0) k0 P l.toArray Q (l.drop (n + 1)) (a'.put om.dst (.pointer (some ⟨W1.heap.size, 0, none⟩))) W) (l.take n) a) :
    (Code.region id l.toArray true).wpIn (Fence.wide.inRound l0) k0 P Q a w := by
  simp only [newB, Bool.and_eq_true, decide_eq_true_eq] at hB
  obtain ⟨⟨⟨⟨⟨⟨hsel, hn⟩, hs⟩, hc⟩, hrd⟩, hapB⟩, hlex⟩ := hB
  have hnl : n + 1 < l.length := by simpa using hn
  have htl : (l.take n).length = n := by rw [List.length_take]; omega
  have hdl : (l.drop (n + 1)).length = l.toArray.size - (n + 1) := by simp
  have hrd' : n ∈ Region.ready .any l.toArray (Array.replicate l.toArray.size false) := by simpa using hrd
  have hom' : l.toArray[n]? = some om := by simpa using hom
  have inv0 : HeadInv .any l.toArray (n + 1) (Array.replicate l.toArray.size false) :=
    ⟨by simp, fun j oj _ hl => (by rw [getD_replicate_false] at hl; cases hl), fun t _ ht => getD_in (by simpa using ht) (getD_replicate_false _ _)⟩
  have hap : ∀ j oj, j < n + 1 → j ≠ n → l.toArray[j]? = some oj → om.apart l.toArray oj = true := by
    intro j oj h1 h2 h3
    have := List.all_eq_true.1 hapB j (List.mem_range.2 (by omega))
    rw [hom', h3] at this
    exact this
  have H := headR_lex (md := .any) (C := fun W => Below w.heap.size w W) (g := l.toArray.size - (n + 1)) hsel hs hc hn (l.take n) 0 _ a (fun j hj => by rw [htl] at hj; simp [hj]) (by rw [htl]; omega) (inv0.set hrd' (by omega)) (by rw [htl]; exact hlex) h
  refine wpIn_region_any hm ?_
  have := anyIn_before (l0 := l0) (k0 := k0) rfl hnd (Q' := Q) (g := l.toArray.size - (n + 1)) (ob := ob) hsel hs hc hn hom' (by omega) hmg hall hap (fun W W' h1 h2 => Below.step h1 h2) (fun listed' a' hL => seqB_ready hL.1) (fun W1 hW1 listed' a' w' hw' hD hL => by
    have := wpAnyIn_of_seq (F := Fence.wide.inRound l0) (m := k0) (md := .any) (Q' := Q) (l.drop (n + 1)) (n + 1) listed' _ w' (fun j => by simp [List.getElem?_drop]) (by rw [hdl]; exact hL.1) (hL.2 W1 w' hW1 hD)
    rwa [hdl] at this) _ _ a w.drew (Below.drew (Below.refl _ w)) inv0 hrd' H
  rw [htl, show n + (l.toArray.size - (n + 1)) + 1 = l.toArray.size by have : n + 1 < l.toArray.size := hn; omega] at this
  exact this
end
end Go.Proofs.YtimbdnngeoccdaaDoor
