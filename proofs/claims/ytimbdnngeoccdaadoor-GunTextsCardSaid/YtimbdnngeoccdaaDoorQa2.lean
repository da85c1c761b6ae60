/-
  A region that draws its order: operations that only make memory, one of them an allocation that waits for nothing, and a forced tail behind all. One walk, with the block that the allocation made. No conditions.
-/
import Derived.Test.YtimbdnngeoccdaaDoorQt
namespace Go.Proofs.YtimbdnngeoccdaaDoor
open Go.RowKit
set_option linter.unusedVariables false
section
variable {P : Program} {ops : Array Oper} {md : Region.Mode} {C : World → Prop}
/-- In every world of the class the operation yields this one value, and only makes memory. -/
def YR (P : Program) (C : World → Prop) (o : Oper) (v : Value) (a : Act) : Prop := ∀ W, C W → o.quietAt P a (fun W' => Below W.heap.size W W') W v
def rOp (P : Program) (ops : Array Oper) (C : World → Prop) (i : Nat) (K : Act → Prop) (a : Act) : Prop :=
  ∃ o v, ops[i]? = some o ∧ o.guard = none ∧ YR P C o v a ∧ K (a.put o.dst v)
def wpQR (P : Program) (C : World → Prop) (Q : Act → Prop) : List Oper → Act → Prop
  | [], a => Q a
  | o :: rest, a => o.guard = none ∧ ∃ v, YR P C o v a ∧ wpQR P C Q rest (a.put o.dst v)
theorem rOp_mono {i : Nat} {a : Act} {K K' : Act → Prop} (h : ∀ a, K a → K' a) (hh : rOp P ops C i K a) : rOp P ops C i K' a := by
  obtain ⟨o, v, h1, h2, h3, h4⟩ := hh
  exact ⟨o, v, h1, h2, h3, h _ h4⟩
theorem YR.of_same {o : Oper} {v : Value} {a a' : Act} (hy : YR P C o v a) (he : execOp a'.eval o = execOp a.eval o) : YR P C o v a' := by
  intro W hW
  have := hy W hW
  unfold Oper.quietAt at *
  rwa [he]
theorem rOp_put {j : Nat} {oi oj : Oper} {v : Value} (hj : ops[j]? = some oj) (hap : oi.apart ops oj = true)
    (hsi : ∀ cs b, oi.op ≠ .select cs b) (hsj : ∀ cs b, oj.op ≠ .select cs b) {K : Act → Prop} {a : Act}
    (hy : YR P C oi v a) (h : rOp P ops C j K (a.put oi.dst v)) : rOp P ops C j (fun a' => YR P C oi v a' ∧ K (a'.put oi.dst v)) a := by
  obtain ⟨h1, h2, h3⟩ := Oper.apart_spec hap
  obtain ⟨o, u, k1, k2, k3, k4⟩ := h
  obtain rfl : o = oj := Option.some.inj (k1.symm.trans hj)
  exact ⟨o, u, k1, k2, k3.of_same (execOp_put o hsj a oi.dst v h1).symm, hy.of_same (execOp_put oi hsi a o.dst u h3), by rw [← Act.put_comm a v u h2]; exact k4⟩
def headR (P : Program) (md : Region.Mode) (ops : Array Oper) (C : World → Prop) (n : Nat) (L : Array Bool → Act → Prop) : Nat → Array Bool → Act → Prop
  | 0, listed, a => L listed a
  | f + 1, listed, a => Region.ready md ops listed ≠ [] ∧ ∀ i ∈ Region.ready md ops listed, i < n ∧ rOp P ops C i (headR P md ops C n L f (listed.setIfInBounds i true)) a
theorem headR_first {n i : Nat} {oi : Oper} {v : Value} {L : Array Bool → Act → Prop} (hi : ops[i]? = some oi) (hgi : oi.guard = none) (hsel : ∀ (j : Nat) (o : Oper) cs b, ops[j]? = some o → o.op ≠ .select cs b)
    (hs : Region.sinkB md ops n = true) (hc : Region.chainB md ops n = true) (hn : n < ops.size) (hin : i < n) (hdone : ∀ listed a, L listed a → ∀ j ∈ Region.ready md ops listed, n ≤ j) (f : Nat) :
    ∀ (listed : Array Bool) (a : Act), HeadInv md ops n listed →
      (∀ j oj, ops[j]? = some oj → j ≠ i → listed.getD j true = false → (∀ e ∈ oj.after, Region.binds md e = true → e.on ≠ i) → oi.apart ops oj = true) →
      i ∈ Region.ready md ops listed → YR P C oi v a → headR P md ops C n L f (listed.setIfInBounds i true) (a.put oi.dst v) → headR P md ops C n L (f + 1) listed a := by
  induction f with
  | zero =>
    intro listed a inv hfree hr hy H
    refine ⟨fun h => (by rw [h] at hr; cases hr), fun j hj => ?_⟩
    have hjn : j < n := by
      rcases Nat.lt_or_ge j n with h | h
      · exact h
      · exact absurd hj (tail_waits hs hc hn inv _ i rfl hin (mem_ready.1 hr).1 j h)
    by_cases hji : j = i
    · exact ⟨hjn, by rw [hji]; exact ⟨oi, v, hi, hgi, hy, H⟩⟩
    · have := hdone _ _ H j (ready_mono hj hji)
      omega
  | succ f ih =>
    intro listed a inv hfree hr hy H
    refine ⟨fun h => (by rw [h] at hr; cases hr), fun j hj => ?_⟩
    have hjn : j < n := by
      rcases Nat.lt_or_ge j n with h | h
      · exact h
      · exact absurd hj (tail_waits hs hc hn inv _ i rfl hin (mem_ready.1 hr).1 j h)
    refine ⟨hjn, ?_⟩
    by_cases hji : j = i
    · rw [hji]; exact ⟨oi, v, hi, hgi, hy, H⟩
    obtain ⟨hjun, oj, hoj, hall⟩ := mem_ready.1 hj
    have hno := not_yet (oj := oj) hr hall
    have h2 := rOp_put hoj (hfree j oj hoj hji hjun hno) (fun cs b => hsel i oi cs b hi) (fun cs b => hsel j oj cs b hoj) hy (H.2 j (ready_mono hj hji)).2
    refine rOp_mono (fun a' h3 => ih (listed.setIfInBounds j true) a' (inv.set hj hjn) ?_ (ready_mono hr (Ne.symm hji)) h3.1 ?_) h2
    · intro k ok hk hki hun hno'
      refine hfree k ok hk hki ?_ hno'
      by_cases hjk : j = k
      · rw [← hjk]; exact hjun
      · rwa [getD_set_ne true hjk] at hun
    · rw [Array.setIfInBounds_comm _ _ hji]; exact h3.2
/-- The head in the order of the text, from k to m; behind it the tail from n. -/
def lexHeadN (md : Region.Mode) (ops : Array Oper) (g n : Nat) : Nat → Nat → Array Bool → Bool
  | 0, k, listed => Region.seqB md ops g n listed
  | f + 1, k, listed => (Region.ready md ops listed).contains k && Region.free md ops listed k && lexHeadN md ops g n f (k + 1) (listed.setIfInBounds k true)
theorem headR_lex {n g : Nat} {Lq : Act → Prop} (hsel : Region.noSelect ops = true) (hs : Region.sinkB md ops n = true) (hc : Region.chainB md ops n = true) (hn : n < ops.size) :
    ∀ (l : List Oper) (k : Nat) (listed : Array Bool) (a : Act), (∀ j, j < l.length → l[j]? = ops[k + j]?) → k + l.length < n → HeadInv md ops n listed →
    lexHeadN md ops g n l.length k listed = true → wpQR P C Lq l a → headR P md ops C n (fun listed' a' => Region.seqB md ops g n listed' = true ∧ Lq a') l.length listed a := by
  intro l
  induction l with
  | nil =>
    intro k listed a _ hk _ hB h
    exact ⟨by simpa [lexHeadN] using hB, h⟩
  | cons o l ih =>
    intro k listed a hl hk inv hB h
    have h0 : ops[k]? = some o := by simpa using (hl 0 (by simp)).symm
    simp only [List.length_cons, lexHeadN, Bool.and_eq_true] at hB
    obtain ⟨⟨hr, hf⟩, hB'⟩ := hB
    have hlen : k + 1 + l.length < n := by simp only [List.length_cons] at hk; omega
    have hr' : k ∈ Region.ready md ops listed := by simpa using hr
    obtain ⟨hg, v, hy, hK⟩ := h
    refine headR_first h0 hg (Region.noSelect_spec hsel) hs hc hn (by omega) (fun listed' a' hL => seqB_ready hL.1) l.length listed a inv (Region.free_spec h0 hf) hr' hy (ih (k + 1) _ _ (fun j hj => ?_) hlen (inv.set hr' (by omega)) hB' hK)
    have := hl (j + 1) (by simp; omega)
    simpa [Nat.add_assoc, Nat.add_comm 1 j] using this
theorem wp_of_YR {o : Oper} {v : Value} {a : Act} {W : World} {K' : Act → World → Prop} {Q' : Exit → Act → World → Prop} (hy : YR P C o v a) (hCs : ∀ W W', C W → Below W.heap.size W W' → C W') (hW : C W)
    (hK : ∀ W', Below W.heap.size W W' → K' (a.put o.dst v) W') : o.wp P a W K' Q' := by
  refine Oper.wp_of_quiet (C := fun W' => Below W.heap.size W W') (K := fun a' => a' = a.put o.dst v) (Below.refl _ _) (fun a' w' hw' he => by rw [he]; exact hK w' hw') ⟨v, fun W2 h2 => ?_, rfl⟩
  have := hy W2 (hCs _ _ hW h2)
  unfold Oper.quietAt Oper.quietUpon at *
  split at this
  · exact this
  · exact this
  · exact ⟨this.1, this.2.mono fun e w'' he => ⟨he.1, Below.step h2 he.2⟩⟩
  · exact this
/-- Behind the allocation. -/
theorem any_after {n m g : Nat} {om : Oper} {p : Value} {L : Array Bool → Act → Prop} {Q' : Exit → Act → World → Prop} {D : World → Prop} (hsel : Region.noSelect ops = true) (hm : ops[m]? = some om)
    (hap : ∀ j oj, j < n → j ≠ m → ops[j]? = some oj → om.apart ops oj = true) (hCs : ∀ W W', C W → Below W.heap.size W W' → C W') (hDs : ∀ W W', D W → Below W.heap.size W W' → D W')
    (hL : ∀ listed a w, C w → D w → L listed a → wpAny P md ops Q' g listed (a.put om.dst p) w) :
    ∀ (f : Nat) (listed : Array Bool) (a : Act) (w : World), C w → D w → listed.getD m false = true → headR P md ops C n L f listed a → wpAny P md ops Q' (f + g) listed (a.put om.dst p) w := by
  intro f
  induction f with
  | zero => intro listed a w hw hd _ h; rw [Nat.zero_add]; exact hL _ _ _ hw hd h
  | succ f ih =>
    intro listed a w hw hd hlm h
    rw [show f + 1 + g = (f + g) + 1 by omega]
    refine ⟨fun h0 => absurd h0 h.1, fun i hi => ?_⟩
    obtain ⟨hin, o, v, k1, k2, k3, k4⟩ := h.2 i hi
    have him : i ≠ m := fun e => by
      have := (mem_ready.1 hi).1
      rw [e] at this
      have := getD_both this
      rw [hlm] at this; cases this
    obtain ⟨h1, h2, h3⟩ := Oper.apart_spec (hap i o hin him k1)
    have hy : YR P C o v (a.put om.dst p) := k3.of_same (execOp_put o (Region.noSelect_spec hsel i o · · k1) a om.dst p h1)
    unfold wpOp
    simp only [k1]
    rw [if_pos (by simp [Region.wanted, k2])]
    refine .inl (wp_of_YR hy hCs hw fun W' hb => ?_)
    rw [Act.put_comm a p v h2]
    exact ih _ _ _ (hCs _ _ hw hb) (hDs _ _ hd hb) (getD_set_true hlm) k4
/-- Ahead of it. -/
theorem any_before {n m g : Nat} {om : Oper} {ob : Obj} {L : Array Bool → Act → Prop} {Q' : Exit → Act → World → Prop} (hsel : Region.noSelect ops = true) (hs : Region.sinkB md ops n = true) (hc : Region.chainB md ops n = true) (hn : n < ops.size)
    (hm : ops[m]? = some om) (hmn : m < n) (hmg : om.guard = none)
    (hall : ∀ (a : Act) W, (execOp a.eval om).run P W = .ok (.value (.pointer (some ⟨W.heap.size, 0, none⟩))) (W.alloc ob))
    (hap : ∀ j oj, j < n → j ≠ m → ops[j]? = some oj → om.apart ops oj = true) (hCs : ∀ W W', C W → Below W.heap.size W W' → C W')
    (hdone : ∀ listed a, L listed a → ∀ j ∈ Region.ready md ops listed, n ≤ j)
    (hL : ∀ W1, C W1 → ∀ listed a w, C w → Below (W1.alloc ob).heap.size (W1.alloc ob) w → L listed a → wpAny P md ops Q' g listed (a.put om.dst (.pointer (some ⟨W1.heap.size, 0, none⟩))) w) :
    ∀ (f : Nat) (listed : Array Bool) (a : Act) (w : World), C w → HeadInv md ops n listed → m ∈ Region.ready md ops listed → headR P md ops C n L f (listed.setIfInBounds m true) a → wpAny P md ops Q' (f + g + 1) listed a w := by
  intro f
  induction f with
  | zero =>
    intro listed a w hw inv hr h
    refine ⟨fun h0 => (by rw [h0] at hr; cases hr), fun i hi => ?_⟩
    by_cases him : i = m
    · subst him
      unfold wpOp
      simp only [hm]
      rw [if_pos (by simp [Region.wanted, hmg])]
      refine .inl ?_
      unfold Oper.wp
      rw [hall]
      simp only [Oper.upon]
      have hb : Below w.heap.size w (w.alloc ob) := Below.allocS (Below.refl _ _) ob
      rw [Nat.zero_add]
      exact hL w hw _ _ _ (hCs _ _ hw hb) (Below.refl _ _) h
    · have h1 := hdone _ _ h i (ready_mono hi him)
      exact absurd hi (tail_waits hs hc hn inv _ m rfl hmn (mem_ready.1 hr).1 i h1)
  | succ f ih =>
    intro listed a w hw inv hr h
    refine ⟨fun h0 => (by rw [h0] at hr; cases hr), fun i hi => ?_⟩
    by_cases him : i = m
    · subst him
      unfold wpOp
      simp only [hm]
      rw [if_pos (by simp [Region.wanted, hmg])]
      refine .inl ?_
      unfold Oper.wp
      rw [hall]
      simp only [Oper.upon]
      have hb : Below w.heap.size w (w.alloc ob) := Below.allocS (Below.refl _ _) ob
      refine any_after (D := fun W => Below (w.alloc ob).heap.size (w.alloc ob) W) hsel hm hap hCs (fun W W' h1 h2 => Below.step h1 h2) (fun listed a W hC hD h => hL w hw _ _ _ hC hD h) (f + 1) _ _ _ (hCs _ _ hw hb) (Below.refl _ _) ?_ h
      have hun := (mem_ready.1 hr).1
      rcases Nat.lt_or_ge i listed.size with hlt | hge
      · simp [hlt]
      · simp [Array.getElem?_eq_none hge] at hun
    · obtain ⟨hin, o, v, k1, k2, k3, k4⟩ := h.2 i (ready_mono hi him)
      unfold wpOp
      simp only [k1]
      rw [if_pos (by simp [Region.wanted, k2])]
      refine .inl (wp_of_YR k3 hCs hw fun W' hb => ?_)
      have := ih (listed.setIfInBounds i true) _ W' (hCs _ _ hw hb) (inv.set hi hin) (ready_mono hr (Ne.symm him)) (by rw [Array.setIfInBounds_comm _ _ him]; exact k4)
      rwa [show f + 1 + g = f + g + 1 by omega]
def newB (md : Region.Mode) (ops : Array Oper) (n : Nat) : Bool :=
  Region.noSelect ops && decide (n + 1 < ops.size) && Region.sinkB md ops (n + 1) && Region.chainB md ops (n + 1) && (Region.ready md ops (Array.replicate ops.size false)).contains n &&
    ((List.range n).all fun j => match ops[n]?, ops[j]? with | some om, some oj => om.apart ops oj | _, _ => false) &&
    lexHeadN md ops (ops.size - (n + 1)) (n + 1) n 0 ((Array.replicate ops.size false).setIfInBounds n true)
/-- The law: operation n allocates, those before it are quiet, those behind it are forced. -/
theorem region_new {id : Nat} {Q : Exit → Act → World → Prop} {a : Act} {w : World} {l : List Oper} (n : Nat) {om : Oper} {ob : Obj} (hm : P.follows .mixedOrders = true) (hB : newB .any l.toArray n = true) (hom : l[n]? = some om) (hmg : om.guard = none)
    (hall : ∀ (a : Act) W, (execOp a.eval om).run P W = .ok (.value (.pointer (some ⟨W.heap.size, 0, none⟩))) (W.alloc ob))
    (h : wpQR P (fun W => Below w.heap.size w W) (fun a' => ∀ W1 W, Below w.heap.size w W1 → Below (W1.alloc ob).heap.size (W1.alloc ob) W → wpList P l.toArray Q (l.drop (n + 1)) (a'.put om.dst (.pointer (some ⟨W1.heap.size, 0, none⟩))) W) (l.take n) a) :
    (Code.region id l.toArray true).wp P Q a w := by
  simp only [newB, Bool.and_eq_true, decide_eq_true_eq] at hB
  obtain ⟨⟨⟨⟨⟨⟨hsel, hn⟩, hs⟩, hc⟩, hrd⟩, hapB⟩, hlex⟩ := hB
  have hnl : n + 1 < l.length := by simpa using hn
  have htl : (l.take n).length = n := by rw [List.length_take]; omega
  have hdl : (l.drop (n + 1)).length = l.toArray.size - (n + 1) := by simp
  have hrd' : n ∈ Region.ready .any l.toArray (Array.replicate l.toArray.size false) := by simpa using hrd
  have hom' : l.toArray[n]? = some om := by simpa using hom
  have inv0 : HeadInv .any l.toArray (n + 1) (Array.replicate l.toArray.size false) :=
    ⟨by simp, fun j oj _ hl => (by rw [getD_replicate_false] at hl; cases hl), fun t _ ht => getD_in (by simpa using ht) (getD_replicate_false _ _)⟩
  have hap : ∀ j oj, j < n + 1 → j ≠ n → l.toArray[j]? = some oj → om.apart l.toArray oj = true := by
    intro j oj h1 h2 h3
    have := List.all_eq_true.1 hapB j (List.mem_range.2 (by omega))
    rw [hom', h3] at this
    exact this
  have H := headR_lex (md := .any) (C := fun W => Below w.heap.size w W) (g := l.toArray.size - (n + 1)) hsel hs hc hn (l.take n) 0 _ a (fun j hj => by rw [htl] at hj; simp [hj]) (by rw [htl]; omega) (inv0.set hrd' (by omega)) (by rw [htl]; exact hlex) h
  refine wp_region_any hm ?_
  have := any_before (Q' := Q) (g := l.toArray.size - (n + 1)) (ob := ob) hsel hs hc hn hom' (by omega) hmg hall hap (fun W W' h1 h2 => Below.step h1 h2) (fun listed' a' hL => seqB_ready hL.1) (fun W1 hW1 listed' a' w' hw' hD hL => by
    have := wpAny_of_seq (md := .any) (Q' := Q) (l.drop (n + 1)) (n + 1) listed' _ w' (fun j => by simp [List.getElem?_drop]) (by rw [hdl]; exact hL.1) (hL.2 W1 w' hW1 hD)
    rwa [hdl] at this) _ _ a w.drew (Below.drew (Below.refl _ w)) inv0 hrd' H
  rw [htl, show n + (l.toArray.size - (n + 1)) + 1 = l.toArray.size by have : n + 1 < l.toArray.size := hn; omega] at this
  exact this
theorem qr_val {w : World} {Q : Act → Prop} {a : Act} {o : Oper} {rest : List Oper} {v : Value} (hg : o.guard = none) (hv : ∀ W, Below w.heap.size w W → (execOp a.eval o).run P W = .ok (.value v) W)
    (h : wpQR P (fun W => Below w.heap.size w W) Q rest (a.put o.dst v)) : wpQR P (fun W => Below w.heap.size w W) Q (o :: rest) a :=
  ⟨hg, v, fun W hW => by unfold Oper.quietAt; rw [hv W hW]; exact ⟨rfl, rfl⟩, h⟩
theorem qr_call {w : World} {Q : Act → Prop} {a : Act} {o : Oper} {rest : List Oper} {v : Value} {f : FuncId} {args : Array Value} (hg : o.guard = none) (hv : ∀ W, Below w.heap.size w W → (execOp a.eval o).run P W = .ok (.enter f args) W)
    (hc : ∀ W, Below w.heap.size w W → Calls P f args W fun e W' => e = .returned v ∧ Below W.heap.size W W')
    (h : wpQR P (fun W => Below w.heap.size w W) Q rest (a.put o.dst v)) : wpQR P (fun W => Below w.heap.size w W) Q (o :: rest) a :=
  ⟨hg, v, fun W hW => by unfold Oper.quietAt; rw [hv W hW]; exact ⟨rfl, hc W hW⟩, h⟩
theorem qr_nil {w : World} {Q : Act → Prop} {a : Act} (h : Q a) : wpQR P (fun W => Below w.heap.size w W) Q [] a := h
end
end Go.Proofs.YtimbdnngeoccdaaDoor
