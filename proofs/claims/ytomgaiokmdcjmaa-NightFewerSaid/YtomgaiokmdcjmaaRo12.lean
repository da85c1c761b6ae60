/-
  Rota of night. No conditions.
-/
import Derived.Test.YtomgaiokmdcjmaaRo11
namespace Go.Proofs.Ytomgaiokmdcjmaa
open Go.RowKit Go.Deep Go.Shelf
attribute [local go_sem] Oper.semAt_some
set_option linter.unusedVariables false
set_option linter.unusedSimpArgs false
theorem own_same {W W' : World} {base size n : Nat} {e : TypeId} {v : Value} {xs : List Value} (h : W.ownsRow base e size v n xs) (hb : ∀ g, v.ownBlock = some g → W'.heap[g]? = W.heap[g]?) : W'.ownsRow base e size v n xs := by
  refine ⟨h.1, ?_⟩
  rcases h.2 with h0 | ⟨g, cap, cur, hv, hg0, hg, hr⟩
  · exact Or.inl h0
  · exact Or.inr ⟨g, cap, cur, hv, hg0, (hb g (by rw [hv]; rfl)).trans hg, hr⟩
theorem own_obj {W : World} {base size n : Nat} {e : TypeId} {v : Value} {xs : List Value} (h : W.ownsRow base e size v n xs) {g : Nat} (hg : v.ownBlock = some g) : ∃ cur rng, W.heap[g]? = some (.cells cur e rng) := by
  rcases h.2 with ⟨h0, -⟩ | ⟨g', cap, cur, hv, hg0, hg', hr⟩
  · rw [h0] at hg; cases hg
  · rw [hv] at hg
    simp [Value.ownBlock] at hg
    subst hg
    exact ⟨_, _, hg'⟩
theorem own_cells {W : World} {base size n : Nat} {e : TypeId} {v : Value} {xs : List Value} (h : W.ownsRow base e size v n xs) {g : Nat} (hg : v.ownBlock = some g) : W.heap[g]? ≠ some (.deferred (some [])) := by
  obtain ⟨cur, rng, e⟩ := own_obj h hg
  rw [e]; intro h; cases h
/-- What holds between two rounds, while none is found. -/
structure RtI (K : Crw) (w : World) (A : Option Addr) (n cap : Nat) (o m : Int) (k l : Nat) (f : Nat → Nat) (r : Nat) (p8 p10 p11 p12 Bm base : Nat) (b : List Nat) (A0 : Option Addr) (c0 : Nat) (ds : List Deferred) (mc : Nat) (pre : List Nat) (pL : Nat) (W : World) : Prop where
  q0 : W.cell? ⟨p8, 0, none⟩ = some (.slice A n cap)
  q1 : W.cell? ⟨p8, 1, none⟩ = some (.int .i64 o)
  q2 : W.cell? ⟨p8, 2, none⟩ = some (.int .i64 m)
  qm : W.cell? ⟨p10, 0, none⟩ = some (.map (some Bm))
  st : StA W p11 k l f
  sf : StF W p11
  c12 : W.cell? ⟨p12, 0, none⟩ = some (.slice A0 k c0)
  f12 : W.frozen? ⟨p12, 0, none⟩ = false
  own : W.ownsRow base 3 1 (.slice A0 k c0) k ((b.map Int.ofNat).flatMap inE)
  me : MemoAt K W Bm mc
  mrk : Mrk base W ds
  bl : Below w.heap.size w W
  no : ∀ q ∈ pre, rN K (r - 1) (b ++ [q]) = 0
  og : ∀ g, (Value.slice A0 k c0).ownBlock = some g → g ≠ pL
  pp : w.heap.size ≤ p8 ∧ p8 < Bm ∧ Bm < p10 ∧ p10 < p11 ∧ p11 < p12 ∧ p12 < base
section
variable {K : Crw} {w W W' : World} {A : Option Addr} {n cap : Nat} {o m : Int} {k l : Nat} {f : Nat → Nat} {r p8 p10 p11 p12 Bm base : Nat} {b : List Nat} {A0 : Option Addr} {c0 : Nat} {ds : List Deferred} {mc : Nat} {pre : List Nat} {pL : Nat}
theorem RtI.keep (h : RtI K w A n cap o m k l f r p8 p10 p11 p12 Bm base b A0 c0 ds mc pre pL W) (hb : Below W.heap.size W W') : RtI K w A n cap o m k l f r p8 p10 p11 p12 Bm base b A0 c0 ds mc pre pL W' :=
  ⟨keep_cell hb h.q0, keep_cell hb h.q1, keep_cell hb h.q2, keep_cell hb h.qm, h.st.step hb, h.sf.of_block (hb.block p11 h.st.lt), keep_cell hb h.c12, keep_frozen hb (cell?_lt h.c12) h.f12, ownsRow_keep h.own hb, h.me.step hb, h.mrk.step hb, Below.step h.bl hb, h.no, h.og, h.pp⟩
theorem RtI.blocks (h : RtI K w A n cap o m k l f r p8 p10 p11 p12 Bm base b A0 c0 ds mc pre pL W) {mc' : Nat} {pre' : List Nat} (hme : MemoAt K W' Bm mc') (hmk : Mrk base W' ds) (hbl : Below w.heap.size w W') (hno : ∀ q ∈ pre', rN K (r - 1) (b ++ [q]) = 0)
    (e : ∀ i, (i = p8 ∨ i = p10 ∨ i = p11 ∨ i = p12 ∨ (Value.slice A0 k c0).ownBlock = some i) → W'.heap[i]? = W.heap[i]?) : RtI K w A n cap o m k l f r p8 p10 p11 p12 Bm base b A0 c0 ds mc' pre' pL W' :=
  ⟨(World.cell?_of_block (a := ⟨p8, 0, none⟩) (e p8 (by simp))).trans h.q0, (World.cell?_of_block (a := ⟨p8, 1, none⟩) (e p8 (by simp))).trans h.q1, (World.cell?_of_block (a := ⟨p8, 2, none⟩) (e p8 (by simp))).trans h.q2, (World.cell?_of_block (a := ⟨p10, 0, none⟩) (e p10 (by simp))).trans h.qm,
    h.st.of_block (e p11 (by simp)), h.sf.of_block (e p11 (by simp)), (World.cell?_of_block (a := ⟨p12, 0, none⟩) (e p12 (by simp))).trans h.c12, (World.frozen?_of_block (a := ⟨p12, 0, none⟩) (e p12 (by simp))).trans h.f12, own_same h.own (fun g hg => e g (by simp [hg])), hme, hmk, hbl, hno, h.og, h.pp⟩
theorem RtI.put {q : Obj} (h : RtI K w A n cap o m k l f r p8 p10 p11 p12 Bm base b A0 c0 ds mc pre pL W) (hp : base ≤ pL) (hd : ∀ D, { target := .collected D, args := #[] } ∈ ds → D ≠ pL) : RtI K w A n cap o m k l f r p8 p10 p11 p12 Bm base b A0 c0 ds mc pre pL (W.putObj pL q) := by
  have e : ∀ i, i ≠ pL → (W.putObj pL q).heap[i]? = W.heap[i]? := fun i hi => World.putObj_heap_other (by omega)
  have hg : W.grownBy (W.putObj pL q) (some pL) := ⟨rfl, rfl, rfl, by simp, fun i _ hr => e i (by intro e'; exact hr (by rw [e']))⟩
  have hpp := h.pp
  refine h.blocks (h.me.kept hg (by intro e'; injection e'; omega)) (h.mrk.put hd) (h.bl.trans (below_put W (by omega) q)) h.no (fun i hi => e i ?_)
  rcases hi with rfl | rfl | rfl | rfl | hi
  · omega
  · omega
  · omega
  · omega
  · exact h.og i hi
theorem Mrk.kept {base : Nat} {W W' : World} {ds : List Deferred} {row : Option Nat} (h : Mrk base W ds) (hg : W.grownBy W' row) (hr : ∀ g, row = some g → W.heap[g]? ≠ some (.deferred (some []))) : Mrk base W' ds := by
  obtain ⟨Ds, h1, h2, h3⟩ := h
  exact ⟨Ds, h1, h2, fun D hD => ⟨(h3 D hD).1, (hg.block D (Array.getElem?_eq_some_iff.1 (h3 D hD).2).1 (fun e => hr D e.symm (h3 D hD).2)).trans (h3 D hD).2⟩⟩
theorem RtI.own_ge (h : RtI K w A n cap o m k l f r p8 p10 p11 p12 Bm base b A0 c0 ds mc pre pL W) {g : Nat} (hg : (Value.slice A0 k c0).ownBlock = some g) : base ≤ g ∧ g < W.heap.size := h.own.lt g hg
theorem RtI.call (h : RtI K w A n cap o m k l f r p8 p10 p11 p12 Bm base b A0 c0 ds mc pre pL W) {mc' : Nat} {pre' : List Nat} (hM : MemoAt K W' Bm mc') (hg : W.grownBy W' (some Bm)) (hno : ∀ q ∈ pre', rN K (r - 1) (b ++ [q]) = 0) : RtI K w A n cap o m k l f r p8 p10 p11 p12 Bm base b A0 c0 ds mc' pre' pL W' := by
  have hpp := h.pp
  have e : ∀ i, i < W.heap.size → i ≠ Bm → W'.heap[i]? = W.heap[i]? := fun i h1 h2 => hg.block i h1 (by intro e'; injection e' with e'; exact h2 e')
  have hbm := h.me.lt
  have l8 : p8 < W.heap.size := cell?_lt h.q0
  have l10 : p10 < W.heap.size := cell?_lt h.qm
  have l11 := h.st.lt
  have l12 : p12 < W.heap.size := cell?_lt h.c12
  refine h.blocks hM ?_ (Below.grown h.bl hg h.bl.size (fun i hi => by injection hi; omega)) hno (fun i hi => e i ?_ ?_)
  · obtain ⟨Ds, h1, h2, h3⟩ := h.mrk
    exact ⟨Ds, h1, h2, fun D hD => ⟨(h3 D hD).1, (e D (Array.getElem?_eq_some_iff.1 (h3 D hD).2).1 (by have := (h3 D hD).1; omega)).trans (h3 D hD).2⟩⟩
  · rcases hi with rfl | rfl | rfl | rfl | hi
    · exact l8
    · exact l10
    · exact l11
    · exact l12
    · exact (h.own_ge hi).2
  · rcases hi with rfl | rfl | rfl | rfl | hi
    · omega
    · omega
    · omega
    · omega
    · have := (h.own_ge hi).1; omega
end
theorem map_not_cells {P : Program} {kk : TypeId} {W : World} {B c : Nat} {D : DataW Value} (h : W.ownsMap P kk rV B c D) {cs : Array Value} {e : TypeId} {rng : Nat × Nat} (hb : W.heap[B]? = some (.cells cs e rng)) : False := by
  obtain ⟨es, clock, h1, -⟩ := h
  rw [hb] at h1; cases h1
theorem step_app_in {F : Fence} {n : Nat} {o : Oper} {a : Act} {w : World} {KK : Act → World → Prop} {Q : Exit → Act → World → Prop} (s x : Operand) (t : TypeId)
    (ho : o.op = .call { callee := .builtin .append, args := #[s, x], argTypes := #[t, t] }) (v X : Value) (hs : a.eval s = v) (hx : a.eval x = X) {v' : Value} {w' : World} (hrun : (Builtin.append_ #[t, t] o.type #[v, X]).run Try.prog w = .ok v' w') (h : KK (a.put o.dst v') w') :
    Oper.wpIn F n Try.prog o a w KK Q := by
  unfold Oper.wpIn
  refine ⟨by simp [Oper.about, ho, resolve, Target.leads, Sem.run_pure], ?_⟩
  rw [Oper.semAt_plain F _ _ (by rw [ho]; intro c hc'; cases hc')]
  simp [execOp, ho, resolve, invoke, builtin, hs, hx, hrun, Result.andThen]
  exact h
set_option maxHeartbeats 1000000 in
theorem rt_found {K : Crw} {w : World} {A : Option Addr} {n cap : Nat} {o m : Int} {k l : Nat} {f : Nat → Nat} {r p8 p10 p11 p12 Bm base : Nat} {bb : List Nat} {A0 : Option Addr} {c0 : Nat} {ds : List Deferred} {mc : Nat} {pre : List Nat} {pL : Nat} {X w1 V1 W7 : World} {y k1' : Nat} {A7 : Option Addr} {c7 : Nat}
    (hw1 : RtI K w A n cap o m k l f r p8 p10 p11 p12 Bm base bb A0 c0 ds mc pre pL w1) (hgw : X.grownBy w1 (some Bm)) (bV1 : Below w1.heap.size w1 V1) (zV1 : V1.heap.size = w1.heap.size + 1) (hg7 : V1.grownBy W7 (Value.slice A0 k c0).ownBlock)
    (hob7 : (Value.slice A7 (k + 1) c7).ownBlock = (Value.slice A0 k c0).ownBlock ∨ (Value.slice A7 (k + 1) c7).ownBlock = some V1.heap.size) (hown7 : W7.ownsRow base 3 1 (.slice A7 (k + 1) c7) (k + 1) ((bb.map Int.ofNat ++ [(y : Int)]).flatMap inE)) (hk1 : k1' = k + 1) (hpL : pL < X.heap.size) (hbz : w.heap.size ≤ base)
    (X2 X3 : World) (hX2 : X2 = W7.setCell ⟨p12, 0, none⟩ (.slice A7 (k + 1) c7)) (hX3 : X3 = ((((((((((X2.setCell ⟨p11, 0, none⟩ (.int .i64 k1')).setCell ⟨p11, 1, none⟩ (.int .i64 y)).setCell ⟨p11, 2, none⟩ (.int .i64 (K.nx k f y 0))).setCell ⟨p11, 3, none⟩ (.int .i64 (K.nx k f y 1))).setCell ⟨p11, 4, none⟩ (.int .i64 (K.nx k f y 2))).setCell ⟨p11, 5, none⟩ (.int .i64 (K.nx k f y 3))).setCell ⟨p11, 6, none⟩ (.int .i64 (K.nx k f y 4))).setCell ⟨p11, 7, none⟩ (.int .i64 (K.nx k f y 5))).setCell ⟨p11, 8, none⟩ (.int .i64 (K.nx k f y 6))).setCell ⟨p11, 9, none⟩ (.int .i64 (K.nx k f y 7)))) :
    KT (fun q => q ≠ Bm ∧ q ≠ p11 ∧ q ≠ p12 ∧ some q ≠ (Value.slice A0 k c0).ownBlock) X X3 ∧ RtI K w A n cap o m (k + 1) y (K.nx k f y) (r - 1) p8 p10 p11 p12 Bm base (bb ++ [y]) A7 c7 ds mc [] pL X3 := by
  have hpp := hw1.pp
  have l12 : p12 < w1.heap.size := cell?_lt hw1.c12
  have l11 := hw1.st.lt
  have l10 : p10 < w1.heap.size := cell?_lt hw1.qm
  have l8 : p8 < w1.heap.size := cell?_lt hw1.q0
  have hrow : ∀ g, (Value.slice A0 k c0).ownBlock = some g → base ≤ g ∧ g < w1.heap.size := fun g hg => hw1.own_ge hg
  have e7 : ∀ i, i < w1.heap.size → (∀ g, (Value.slice A0 k c0).ownBlock = some g → g ≠ i) → W7.heap[i]? = w1.heap[i]? := fun i hi hne => (hg7.block i (by omega) (fun e => hne i e.symm rfl)).trans (bV1.block i hi)
  have ho12 : ∀ i, i < base → ∀ g, (Value.slice A0 k c0).ownBlock = some g → g ≠ i := fun i hi g hgo => by have := (hrow g hgo).1; omega
  have e12 := e7 p12 l12 (ho12 p12 (by omega))
  have e11 := e7 p11 l11 (ho12 p11 (by omega))
  have c12' : W7.cell? ⟨p12, 0, none⟩ = some (.slice A0 k c0) := (World.cell?_of_block (a := ⟨p12, 0, none⟩) e12).trans hw1.c12
  have f12' : W7.frozen? ⟨p12, 0, none⟩ = false := (World.frozen?_of_block (a := ⟨p12, 0, none⟩) e12).trans hw1.f12
  have st7 : StA W7 p11 k l f := hw1.st.of_block e11
  have sf7 : StF W7 p11 := hw1.sf.of_block e11
  have hg12 : W7.grownBy X2 (some p12) := by rw [hX2]; exact put_grown ⟨rfl, rfl, rfl, Nat.le_refl _, fun i _ _ => rfl⟩ _ rfl
  have g12' : X2.cell? ⟨p12, 0, none⟩ = some (.slice A7 (k + 1) c7) := by rw [hX2]; exact World.cell?_setCell_same _ _ _ c12'
  have g12f : X2.frozen? ⟨p12, 0, none⟩ = false := by rw [hX2, World.frozen?_setCell]; exact f12'
  clear hX2
  have e12x : ∀ i, i < W7.heap.size → i ≠ p12 → X2.heap[i]? = W7.heap[i]? := fun i hi hne => hg12.block i hi (by intro e; injection e with e; exact hne e)
  have l11' : p11 < W7.heap.size := st7.lt
  have st2 : StA X2 p11 k l f := st7.of_block (e12x p11 l11' (by omega))
  have sf2 : StF X2 p11 := sf7.of_block (e12x p11 l11' (by omega))
  obtain ⟨⟨w0, w1', ws⟩, wf, wg⟩ := st_write X2 p11 k l f st2 sf2 k1' (y : Int) (K.nx k f y) X3 hX3
  clear hX3
  have e3 : ∀ i, i < X2.heap.size → i ≠ p11 → X3.heap[i]? = X2.heap[i]? := fun i hi hne => wg.block i hi (by intro e; injection e with e; exact hne e)
  have hz7 : w1.heap.size < W7.heap.size := by have := hg7.size; omega
  have hz2 := hg12.size
  have eA : ∀ i, i < w1.heap.size → (∀ g, (Value.slice A0 k c0).ownBlock = some g → g ≠ i) → i ≠ p11 → i ≠ p12 → X3.heap[i]? = w1.heap[i]? := fun i hi hg' h1 h2 => ((e3 i (by omega) h1).trans (e12x i (by omega) h2)).trans (e7 i hi hg')
  have e8 := eA p8 l8 (ho12 p8 (by omega)) (by omega) (by omega)
  have e10 := eA p10 l10 (ho12 p10 (by omega)) (by omega) (by omega)
  have l12x : p12 < X2.heap.size := by omega
  have e312 := e3 p12 l12x (by omega)
  have hgs := hgw.size
  have kt1 : KT (fun q => q ≠ Bm ∧ q ≠ p11 ∧ q ≠ p12 ∧ some q ≠ (Value.slice A0 k c0).ownBlock) X w1 := KT.grown (KT.refl _ _) hgw (fun i hi hk => by injection hi with hi; exact hk.1 hi.symm)
  have kt2 := KT.grown (kt1.step bV1) hg7 (fun i hi hk => hk.2.2.2 hi.symm)
  have kt3 := KT.grown kt2 hg12 (fun i hi hk => by injection hi with hi; exact hk.2.2.1 hi.symm)
  have kt4 := KT.grown kt3 wg (fun i hi hk => by injection hi with hi; exact hk.2.1 hi.symm)
  have hmk1 := hw1.mrk.step bV1
  have hmk7 := hmk1.kept hg7 (fun g hg => by
    have := hrow g hg
    rw [bV1.block g this.2]
    exact own_cells hw1.own hg)
  have hmk2 := hmk7.cells hg12 (not_def c12')
  have hmk3 := hmk2.cells wg (not_def st2.c0)
  have hbl1 := Below.step hw1.bl bV1
  have hbl7 := Below.grown hbl1 hg7 hbl1.size (fun g hg => by have := hrow g hg; omega)
  have hbl2 := Below.grown hbl7 hg12 hbl7.size (fun g hg => by injection hg; omega)
  have hbl3 := Below.grown hbl2 wg hbl2.size (fun g hg => by injection hg; omega)
  have hme7 := (hw1.me.step bV1).kept hg7 (fun e => by have := hrow _ e.symm; omega)
  have hme2 := hme7.kept hg12 (by intro e; injection e; omega)
  have hme3 := hme2.kept wg (by intro e; injection e; omega)
  have hown3 : X3.ownsRow base 3 1 (.slice A7 (k + 1) c7) (k + 1) (((bb ++ [y]).map Int.ofNat).flatMap inE) := by
    rw [List.map_append]
    exact own_same hown7 (fun g hg => by
      have := hown7.lt g hg
      exact (e3 g (by omega) (by omega)).trans (e12x g (by omega) (by omega)))
  refine ⟨kt4, ⟨(World.cell?_of_block (a := ⟨p8, 0, none⟩) e8).trans hw1.q0, (World.cell?_of_block (a := ⟨p8, 1, none⟩) e8).trans hw1.q1, (World.cell?_of_block (a := ⟨p8, 2, none⟩) e8).trans hw1.q2, (World.cell?_of_block (a := ⟨p10, 0, none⟩) e10).trans hw1.qm,
    ⟨by rw [← hk1]; exact w0, w1', ws⟩, wf, (World.cell?_of_block (a := ⟨p12, 0, none⟩) e312).trans g12', (World.frozen?_of_block (a := ⟨p12, 0, none⟩) e312).trans g12f, hown3, hme3, hmk3, hbl3, fun q hq => (by cases hq), fun g hg => ?_, hpp⟩⟩
  rcases hob7 with h | h
  · rw [hg] at h; exact hw1.og g h.symm
  · rw [hg] at h; injection h with h; omega
/-- The first one behind whom the rota can go on. -/
theorem rF_step {K : Crw} {r n l : Nat} {f : Nat → Nat} {b p0 : List Nat} {y : Nat} (hmay : ∀ q, q < K.obs → K.may n l f q = fitB K b q) (hp : p0 ++ [y] <+: nxL K n l f K.obs) (h0 : ∀ q ∈ p0, rN K r (b ++ [q]) = 0) (hy : rN K r (b ++ [y]) ≠ 0) (hyo : y < K.obs) (hf : fitB K b y = true) : rF K (r + 1) b = rF K r (b ++ [y]) := by
  have hs : (List.range K.obs).find? (fun o => fitB K b o && decide (rN K r (b ++ [o]) ≠ 0)) = some y := by
    rw [List.find?_range_eq_some]
    refine ⟨by simp [hf, hy], List.mem_range.2 hyo, fun j hj => ?_⟩
    by_cases hpj : (fitB K b j && decide (rN K r (b ++ [j]) ≠ 0)) = true
    · exfalso
      simp only [Bool.and_eq_true, decide_eq_true_eq] at hpj
      have hm : j ∈ nxL K n l f K.obs := List.mem_filter.2 ⟨List.mem_range.2 (by omega), by rw [hmay j (by omega)]; exact hpj.1⟩
      obtain ⟨t, ht⟩ := hp
      have hpw : (nxL K n l f K.obs).Pairwise (· < ·) := List.Pairwise.filter _ (List.pairwise_lt_range)
      rw [← ht] at hm hpw
      rcases List.mem_append.1 hm with hm | hm
      · rcases List.mem_append.1 hm with hm | hm
        · exact hpj.2 (h0 j hm)
        · simp at hm; omega
      · have := (List.pairwise_append.1 hpw).2.2 y (by simp) j hm
        omega
    · rw [Bool.not_eq_true] at hpj
      show (!(fitB K b j && decide (rN K r (b ++ [j]) ≠ 0))) = true
      rw [hpj]; rfl
  show (match (List.range K.obs).find? (fun o => fitB K b o && decide (rN K r (b ++ [o]) ≠ 0)) with | some o => rF K r (b ++ [o]) | none => []) = _
  rw [hs]
theorem bodyPostM_end2 {F : Fence} {n : Nat} {P : Program} {fn : Func} {R : Ending → World → Prop} {a : Act} {w : World} {v : Value}
    (hr : (results fn a.tmps).run P w = .ok v w) (hd : a.defers = []) (hR : R (.returned v) w) : bodyPostM F n P fn R .ret a w := bodyPostM_end hr hd hR
set_option maxHeartbeats 8000000 in
set_option maxRecDepth 100000 in
theorem Rota_c (xs : List Int) (n : Nat) (hn : xs.length = n) (hl : n ≤ 1000000) (A : Option Addr) (cap : Nat) (o m : Int) (w : World) (hr : RdL w w.heap.size inE 1 A xs) :
    Calls Try.prog 45 #[.slice A n cap, .int .i64 o, .int .i64 m] w fun e w' => (∃ A' c', e = .returned (.tuple #[.slice A' (rtaL xs o m).length c', .int .i64 (rtaE xs o m)]) ∧ RdL w' w'.heap.size inE 1 A' ((rtaL xs o m).map Int.ofNat)) ∧ Below w.heap.size w w' := by
  have HQ := Lib.hid (fun W (hb : Below w.heap.size w W) => casked_c xs n hn hl A cap o m W (hr.step hb))
  cases h : askB xs o m with
  | false =>
    obtain ⟨h1, h2⟩ := rtaE_no h
    rw [askQ_no h] at HQ
    rw [h1, h2]
    clear hr hn h1 h2
    refine (callsIn_wide (n := 5)).1 ?_
    refine callsIn_of_wp_marks Try.func45 rfl trivial ?_ rfl
    simp only [Try.ntmps45, List.size_toArray, List.length_cons, List.length_nil, Nat.reduceAdd, Nat.reduceSub, Array.replicate_succ, Array.replicate_zero, List.push_toArray, List.append_toArray, List.nil_append, List.cons_append]
    refine wpIn_wide.2 ?_
    go_wp2_with fail
    refine (HQ.out _ (by (repeat (first | (with_reducible exact Below.refl _ _) | (with_reducible assumption) | (with_reducible refine Below.drew ?_) | (with_reducible refine Below.allocS ?_ _) | (with_reducible refine Below.setCell ?_ ?_ _) | (with_reducible refine Below.step ?_ (by assumption)) | (with_reducible refine Below.drewN' ?_ _))); (try any_goals (first | (with_reducible assumption) | (simp; done) | (simp; omega) | omega)))).mono ?_
    rintro e w1 ⟨rfl, hb1⟩
    have x1_0_0 : w1.cell? ⟨w.heap.size, 0, none⟩ = some (.slice A n cap) := keep_cell hb1 (by simp [go_sem, *])
    have x1_0_1 : w1.cell? ⟨w.heap.size, 1, none⟩ = some (.int .i64 o) := keep_cell hb1 (by simp [go_sem, *])
    have x1_0_2 : w1.cell? ⟨w.heap.size, 2, none⟩ = some (.int .i64 m) := keep_cell hb1 (by simp [go_sem, *])
    have y1_0 : w.heap.size < w1.heap.size := cell?_lt x1_0_0
    have g1 : Below w.heap.size w w1 := by (repeat (first | exact Below.refl _ _ | refine Below.drew ?_ | refine Below.allocS ?_ _ | refine Below.step ?_ (by assumption) | refine Below.setCell ?_ (by simp <;> omega) _ | refine Below.drewN' ?_ _))
    clear hb1
    go_wp2
    (try simp only [Exit.inBlock, Exit.then])
    refine bodyPostM_end (results_tmp2 rfl _ _ _) rfl ?_
    exact ⟨⟨none, 0, rfl, RdL.nil⟩, by (repeat (first | exact Below.refl _ _ | refine Below.drew ?_ | refine Below.allocS ?_ _ | refine Below.step ?_ (by assumption) | refine Below.setCell ?_ (by simp <;> omega) _ | refine Below.drewN' ?_ _))⟩
  | true =>
    rw [askQ_yes h] at HQ
    have hAk : ∀ b off, A = some ⟨b, off, none⟩ → 0 < n → b < w.heap.size := fun b off e h0 => by
      obtain ⟨b', off', e', hlt, -⟩ := hr (by omega)
      rw [e] at e'; injection e' with e'; injection e' with e1 e2; omega
    have HAK := Lib.hid hAk
    have HC1 := Lib.hid (fun Bm W (hme : MemoAt (crw xs o m) W Bm 0) (hb : Below w.heap.size w W) (hbm : w.heap.size ≤ Bm) => count_first xs n hn A cap o m h Bm W hme (hr.step hb) (fun b off e h0 hbb => by have := hAk b off e h0; omega))
    have HME := Lib.hid (MemoAt.made (crw xs o m))
    obtain ⟨K, hK⟩ : ∃ K, K = crw xs o m := ⟨_, rfl⟩
    have hcr := crw_ok h
    have hy0 := @rtaE_none xs o m h
    have hy1 := @rtaE_yes xs o m h
    rw [← hK] at hcr hy0 hy1 HC1 HME
    obtain ⟨h1, h2, h3, h4, h5, h6, h7, h8⟩ := hcr
    rw [hn] at hy0 hy1
    have hob8 : K.obs ≤ 8 := by omega
    have hm12 : K.most ≤ 12 := by omega
    have hA : RdL w w.heap.size inE 1 A (K.can.map Int.ofNat) := by rw [h6]; exact hr
    have HA := Lib.hid hA
    have HCB := Lib.hid h8
    have HNN : Hid (K.can.length = n) := Lib.hid (h7.trans hn)
    have HO := Lib.hid h4
    have HM := Lib.hid h5
    have HY0 := Lib.hid hy0
    have HY1 := Lib.hid hy1
    have hn12 : n ≤ 12 := by omega
    obtain ⟨EE, hEE⟩ : ∃ E, E = rtaE xs o m := ⟨_, rfl⟩
    obtain ⟨LL, hLL⟩ : ∃ L, L = rtaL xs o m := ⟨_, rfl⟩
    rw [← hEE, ← hLL] at HY0 HY1
    rw [← hEE, ← hLL]
    clear hr hn h6 h8 h7 hK h4 h5 hA h1 hAk hy0 hy1 hEE hLL h
    have hmm := @run_makeMap Try.prog
    refine (callsIn_wide (n := 5)).1 ?_
    refine callsIn_of_wp_marks Try.func45 rfl trivial ?_ rfl
    simp only [Try.ntmps45, List.size_toArray, List.length_cons, List.length_nil, Nat.reduceAdd, Nat.reduceSub, Array.replicate_succ, Array.replicate_zero, List.push_toArray, List.append_toArray, List.nil_append, List.cons_append]
    refine wpIn_wide.2 ?_
    go_wp2_with fail
    refine (HQ.out _ (by (repeat (first | (with_reducible exact Below.refl _ _) | (with_reducible assumption) | (with_reducible refine Below.drew ?_) | (with_reducible refine Below.allocS ?_ _) | (with_reducible refine Below.setCell ?_ ?_ _) | (with_reducible refine Below.step ?_ (by assumption)) | (with_reducible refine Below.drewN' ?_ _))); (try any_goals (first | (with_reducible assumption) | (simp; done) | (simp; omega) | omega)))).mono ?_
    rintro e w1 ⟨rfl, hb1⟩
    have x1_0_0 : w1.cell? ⟨w.heap.size, 0, none⟩ = some (.slice A n cap) := keep_cell hb1 (by simp [go_sem, *])
    have x1_0_1 : w1.cell? ⟨w.heap.size, 1, none⟩ = some (.int .i64 o) := keep_cell hb1 (by simp [go_sem, *])
    have x1_0_2 : w1.cell? ⟨w.heap.size, 2, none⟩ = some (.int .i64 m) := keep_cell hb1 (by simp [go_sem, *])
    have y1_0 : w.heap.size < w1.heap.size := cell?_lt x1_0_0
    have g1 : Below w.heap.size w w1 := by (repeat (first | exact Below.refl _ _ | refine Below.drew ?_ | refine Below.allocS ?_ _ | refine Below.step ?_ (by assumption) | refine Below.setCell ?_ (by simp <;> omega) _ | refine Below.drewN' ?_ _))
    clear hb1
    go_wp2_with fail
    refine (begin_c _).mono ?_
    rintro e w2 ⟨rfl, hb2⟩
    obtain ⟨X2, hX2⟩ : ∃ X2, X2 = (w1.alloc (.map #[] 0)).alloc (.cells #[.map (some w1.heap.size)] 86) := ⟨_, rfl⟩
    rw [← hX2] at hb2
    have bx2 : Below w1.heap.size w1 X2 := by rw [hX2]; (repeat (first | (with_reducible exact Below.refl _ _) | (with_reducible assumption) | (with_reducible refine Below.drew ?_) | (with_reducible refine Below.allocS ?_ _) | (with_reducible refine Below.setCell ?_ ?_ _) | (with_reducible refine Below.step ?_ (by assumption)) | (with_reducible refine Below.drewN' ?_ _))); (try any_goals (first | (with_reducible assumption) | (simp; done) | (simp; omega) | omega))
    have zx2 : X2.heap.size = w1.heap.size + 2 := by rw [hX2]; simp
    have hme2 : MemoAt K w2 w1.heap.size 0 := by
      refine MemoAt.step ?_ hb2
      rw [hX2]
      exact (HME.out w1).step (Below.allocS (Below.refl _ _) _)
    have y12 : Below w1.heap.size w1 w2 := Below.step bx2 hb2
    have k0 : w2.cell? ⟨w.heap.size, 0, none⟩ = some (.slice A n cap) := keep_cell y12 (by simp [go_sem, *])
    have k1 : w2.cell? ⟨w.heap.size, 1, none⟩ = some (.int .i64 o) := keep_cell y12 (by simp [go_sem, *])
    have k2 : w2.cell? ⟨w.heap.size, 2, none⟩ = some (.int .i64 m) := keep_cell y12 (by simp [go_sem, *])
    have km : w2.cell? ⟨w1.heap.size + 1, 0, none⟩ = some (.map (some w1.heap.size)) := keep_cell hb2 (by rw [hX2, show w1.heap.size + 1 = (w1.alloc (.map #[] 0)).heap.size by simp]; simp [go_sem])
    have bw2 : Below w.heap.size w w2 := Below.step (by (repeat (first | exact Below.refl _ _ | refine Below.drew ?_ | refine Below.allocS ?_ _ | refine Below.step ?_ (by assumption) | refine Below.setCell ?_ (by simp <;> omega) _ | refine Below.drewN' ?_ _))) y12
    have z12 := hb2.size
    have yA : w.heap.size < w2.heap.size := cell?_lt k0
    have yB : w1.heap.size + 1 < w2.heap.size := cell?_lt km
    have yC : w.heap.size < w1.heap.size := y1_0
    have st2 := st_new w2 0 8 (fun _ => 0) 84
    have HST2 := Lib.hid (show StA (w2.alloc (.cells #[.int .i64 0, .int .i64 8, .int .i64 0, .int .i64 0, .int .i64 0, .int .i64 0, .int .i64 0, .int .i64 0, .int .i64 0, .int .i64 0] 84)) w2.heap.size 0 8 (fun _ => 0) ∧ StF (w2.alloc (.cells #[.int .i64 0, .int .i64 8, .int .i64 0, .int .i64 0, .int .i64 0, .int .i64 0, .int .i64 0, .int .i64 0, .int .i64 0, .int .i64 0] 84)) w2.heap.size from st2)
    have HC3 := Lib.hid (HC1.out w1.heap.size (w2.alloc (.cells #[.int .i64 0, .int .i64 8, .int .i64 0, .int .i64 0, .int .i64 0, .int .i64 0, .int .i64 0, .int .i64 0, .int .i64 0, .int .i64 0] 84)) (hme2.step (Below.allocS (Below.refl _ _) _)) (Below.step bw2 (Below.allocS (Below.refl _ _) _)) (by omega))
    have HMX := Lib.hid hX2
    clear HC1 hX2 hme2 st2
    go_wp2_with fail
    refine HC3.out.mono ?_
    rintro e w4 ⟨rfl, hme4, hg4⟩
    obtain ⟨W3, hW3⟩ : ∃ W3, W3 = w2.alloc (.cells #[.int .i64 0, .int .i64 8, .int .i64 0, .int .i64 0, .int .i64 0, .int .i64 0, .int .i64 0, .int .i64 0, .int .i64 0, .int .i64 0] 84) := ⟨_, rfl⟩
    rw [← hW3] at hg4 HST2
    have b23 : Below w2.heap.size w2 W3 := by rw [hW3]; exact Below.allocS (Below.refl _ _) _
    have z3 : W3.heap.size = w2.heap.size + 1 := by rw [hW3]; simp
    have bw3 : Below w.heap.size w W3 := Below.step bw2 b23
    have bw4 : Below w.heap.size w w4 := Below.grown bw3 hg4 (by omega) (fun k hk => by injection hk; omega)
    have e4 : ∀ k, k < W3.heap.size → k ≠ w1.heap.size → w4.heap[k]? = W3.heap[k]? := fun k hk hne => hg4.block k hk (by intro e; injection e with e; exact hne e)
    have q0 : w4.cell? ⟨w.heap.size, 0, none⟩ = some (.slice A n cap) := (World.cell?_of_block (a := ⟨w.heap.size, 0, none⟩) (e4 w.heap.size (by omega) (by omega))).trans (keep_cell b23 k0)
    have q1 : w4.cell? ⟨w.heap.size, 1, none⟩ = some (.int .i64 o) := (World.cell?_of_block (a := ⟨w.heap.size, 1, none⟩) (e4 w.heap.size (by omega) (by omega))).trans (keep_cell b23 k1)
    have q2 : w4.cell? ⟨w.heap.size, 2, none⟩ = some (.int .i64 m) := (World.cell?_of_block (a := ⟨w.heap.size, 2, none⟩) (e4 w.heap.size (by omega) (by omega))).trans (keep_cell b23 k2)
    have qm : w4.cell? ⟨w1.heap.size + 1, 0, none⟩ = some (.map (some w1.heap.size)) := (World.cell?_of_block (a := ⟨w1.heap.size + 1, 0, none⟩) (e4 (w1.heap.size + 1) (by omega) (by omega))).trans (keep_cell b23 km)
    have hst4 : StA w4 w2.heap.size 0 8 (fun _ => 0) := HST2.out.1.of_block (e4 w2.heap.size (by omega) (by omega))
    have hsf4 : StF w4 w2.heap.size := HST2.out.2.of_block (e4 w2.heap.size (by omega) (by omega))
    have y4 := hg4.size
    obtain ⟨p8, hp8⟩ : ∃ p8, p8 = w.heap.size := ⟨_, rfl⟩
    obtain ⟨p10, hp10⟩ : ∃ p10, p10 = w1.heap.size + 1 := ⟨_, rfl⟩
    obtain ⟨p11, hp11⟩ : ∃ p11, p11 = w2.heap.size := ⟨_, rfl⟩
    obtain ⟨Bm, hBm⟩ : ∃ Bm, Bm = w1.heap.size := ⟨_, rfl⟩
    have HPP := Lib.hid (show w.heap.size = p8 ∧ p8 < Bm ∧ Bm < p10 ∧ p10 < p11 ∧ p11 < w4.heap.size by omega)
    rw [← hp8] at q0 q1 q2
    rw [← hp10] at qm
    rw [← hBm] at qm hme4
    rw [← hp11] at hst4 hsf4
    rw [← hp11, ← hp10, ← hp8, ← hBm]
    have HQ4 := Lib.hid (And.intro q0 (And.intro q1 (And.intro q2 (And.intro qm (And.intro hst4 (And.intro hsf4 (And.intro hme4 bw4)))))))
    clear hW3 e4 hst4 hsf4 bw3 bw4 z3 b23 hg4 hme4 HST2 HMX HC3 k0 k1 k2 km bx2 zx2 y12 bw2 z12 yA yB yC y4 hp8 hp10 hp11 hBm hb2 x1_0_0 x1_0_1 x1_0_2 y1_0 g1 HME q0 q1 q2 qm
    by_cases h0 : rN K n [] = 0
    case pos =>
      obtain ⟨h1, h2⟩ := HY0.out h0
      rw [h0]
      clear h0
      subst h1 h2
      go_wp2
      (try simp only [Exit.inBlock, Exit.then])
      refine bodyPostM_end (results_tmp2 rfl _ _ _) rfl ?_
      exact ⟨⟨none, 0, rfl, RdL.nil⟩, HQ4.out.2.2.2.2.2.2.2⟩
    case neg =>
      have HR0 := Lib.hid h0
      obtain ⟨h1, h2⟩ := HY1.out h0
      obtain ⟨R0, hR0⟩ : ∃ R0, R0 = rN K n [] := ⟨_, rfl⟩
      rw [← hR0]
      have d1 : ((R0 : Int) == 0) = false := by simp [hR0, h0]
      clear h0 hR0
      subst h1 h2
      go_wp2
      obtain ⟨W5, hW5⟩ : ∃ W5, W5 = w4.alloc (.cells #[.slice none 0 0] 26) := ⟨_, rfl⟩
      have b45 : Below w4.heap.size w4 W5 := by rw [hW5]; exact Below.allocS (Below.refl _ _) _
      have z5 : W5.heap.size = w4.heap.size + 1 := by rw [hW5]; simp
      have n12 : W5.cell? ⟨w4.heap.size, 0, none⟩ = some (.slice none 0 0) := by rw [hW5]; simp [go_sem]
      have nf12 : W5.frozen? ⟨w4.heap.size, 0, none⟩ = false := by rw [hW5]; exact World.frozen?_alloc_new w4 _ _ _
      obtain ⟨p12, hp12⟩ : ∃ p12, p12 = w4.heap.size := ⟨_, rfl⟩
      rw [← hp12] at n12 nf12
      rw [← hW5, ← hp12]
      obtain ⟨j0, j1, j2, j3, j4, j5, j6, j7⟩ := HQ4.out
      have HP12 := Lib.hid (show p11 < p12 ∧ p12 < W5.heap.size by have := HPP.out; omega)
      obtain ⟨base, hbase⟩ : ∃ base, base = W5.heap.size := ⟨_, rfl⟩
      have HBASE := Lib.hid hbase
      have hi0 : RtI K w A n cap o m 0 8 (fun _ => 0) n p8 p10 p11 p12 Bm base [] none 0 [] 10000000000 [] 0 W5 := ⟨keep_cell b45 j0, keep_cell b45 j1, keep_cell b45 j2, keep_cell b45 j3, j4.step b45, j5.of_block (b45.block p11 j4.lt), n12, nf12, World.ownsRow_nil _ _ _ _, (j6.step b45).mono (by simp), Mrk.nil _ _, Below.step j7 b45, fun q hq => (by cases hq), fun g hg => (by cases hg), by have := HPP.out; have := HP12.out; omega⟩
      have HI00 := Lib.hid hi0
      have hAS : ∀ b off, A = some ⟨b, off, none⟩ → 0 < n → b < w.heap.size := HAK.out
      clear hW5 b45 z5 n12 nf12 hp12 j0 j1 j2 j3 j4 j5 j6 j7 hi0 hbase HQ4 hmm hAS
      refine wp_loop_ghost_k (fun k' a' W => ∃ (u34 u35 u36 u37 u50 : Value) (ds : List Deferred) (k l : Nat) (f : Nat → Nat) (b : List Nat) (A0 : Option Addr) (c0 pL : Nat),
        (k + k' = n ∧ b.length = k ∧ l ≤ 8 ∧ Rel K b l f ∧ rN K (n - k) b ≠ 0 ∧ rF K n [] = rF K (n - k) b ∧ base ≤ W.heap.size ∧ RtI K w A n cap o m k l f (n - k) p8 p10 p11 p12 Bm base b A0 c0 ds ((1 + 8 * k) * 10000000000) [] pL W) ∧
        a' = { tmps := #[.slice A n cap, .int .i64 o, .int .i64 m, undef, undef, undef, .slice none 0 0, .int .i64 0, .pointer (some ⟨p8, 0, none⟩), .int .i64 0, .pointer (some ⟨p10, 0, none⟩), .pointer (some ⟨p11, 0, none⟩), .pointer (some ⟨p12, 0, none⟩), undef, undef, .slice A n cap, .int .i64 o, .int .i64 m, .agg #[.slice A n cap, .int .i64 o, .int .i64 m], .agg #[.slice A n cap, .int .i64 o, .int .i64 m], .int .i64 0, .int .i64 0, .bool false, undef, .map (some Bm), .agg #[.int .i64 0, .int .i64 8, .int .i64 0, .int .i64 0, .int .i64 0, .int .i64 0, .int .i64 0, .int .i64 0, .int .i64 0, .int .i64 0], .agg #[.slice A n cap, .int .i64 o, .int .i64 m], .agg #[.int .i64 0, .int .i64 8, .int .i64 0, .int .i64 0, .int .i64 0, .int .i64 0, .int .i64 0, .int .i64 0, .int .i64 0, .int .i64 0], .map (some Bm), .int .i64 R0, .bool false, .slice A n cap, .int .i64 n, .int .i64 k, u34, u35, u36, u37, undef, undef, undef, undef, undef, undef, undef, undef, undef, undef, undef, undef, u50, undef], defers := ds }) n ?atStart ?round
      case atStart =>
        exact ⟨_, _, _, _, _, [], 0, 8, fun _ => 0, [], none, 0, 0, ⟨by omega, rfl, by omega, Rel.start K, HR0.out, rfl, by rw [HBASE.out]; exact Nat.le_refl _, HI00.out⟩, rfl⟩
      case round =>
        clear HI00
        intro gk a' W hinv
        obtain ⟨u34, u35, u36, u37, u50, ds, k, l, f, bb, A0, c0, pL0, ⟨hgk, hbl, hl8, hrel, hne, heq, hbs, hin⟩, rfl⟩ := hinv
        intro J Kc hJ hKc
        have HREL := Lib.hid hrel
        have HNE := Lib.hid hne
        have HEQ := Lib.hid heq
        have HIN := Lib.hid hin
        have HBL := Lib.hid hbl
        have k0 := hin.q0
        have k1 := hin.q1
        have k2 := hin.q2
        have km := hin.qm
        have kc := hin.c12
        have hst := hin.st
        clear hrel hne heq hbl
        by_cases hlt : k < n
        case neg =>
          obtain rfl : n = k := by omega
          have v1 : decide ((n : Int) < (n : Int)) = false := decide_eq_false (by omega)
          have hlen : (rF K n []).length = n := by have := rF_len (b := []) HR0.out; simpa using this
          have hbq : rF K n [] = bb := by have := HEQ.out; rw [Nat.sub_self] at this; exact this
          have HLEN := Lib.hid hlen
          have HBQ := Lib.hid hbq
          clear hJ hKc hst hlen hbq hin
          go_wp2
          (try simp only [Exit.inBlock, Exit.then])
          refine bodyPostM_marks HIN.out.mrk (fun Z' hz hb => ⟨.tuple #[.slice A0 n c0, .int .i64 0], by simp [results, Try.results45, go_sem], ?_⟩)
          refine ⟨⟨A0, c0, by rw [HLEN.out], ?_⟩, HIN.out.bl.trans (hb.mono (by have := HIN.out.pp; omega))⟩
          rw [HBQ.out]
          exact RdL.of_own (enc := inE) (fun _ => rfl) (own_same HIN.out.own (fun g hg => hz g (own_cells HIN.out.own hg))) (by rw [List.length_map]; exact HBL.out)
        have v1 : decide ((k : Int) < (n : Int)) = true := decide_eq_true (by omega)
        have v3 : IntKind.i64.wrap ((k : Int) + 1) = (k : Int) + 1 := IntWalk.i64_in _ (by omega)
        have e0 : W.cell? ⟨p11, 2, none⟩ = some (.int .i64 (f 0)) := hst.cs 0 (by omega)
        have e1 : W.cell? ⟨p11, 3, none⟩ = some (.int .i64 (f 1)) := hst.cs 1 (by omega)
        have e2 : W.cell? ⟨p11, 4, none⟩ = some (.int .i64 (f 2)) := hst.cs 2 (by omega)
        have e3 : W.cell? ⟨p11, 5, none⟩ = some (.int .i64 (f 3)) := hst.cs 3 (by omega)
        have e4 : W.cell? ⟨p11, 6, none⟩ = some (.int .i64 (f 4)) := hst.cs 4 (by omega)
        have e5 : W.cell? ⟨p11, 7, none⟩ = some (.int .i64 (f 5)) := hst.cs 5 (by omega)
        have e6 : W.cell? ⟨p11, 8, none⟩ = some (.int .i64 (f 6)) := hst.cs 6 (by omega)
        have e7 : W.cell? ⟨p11, 9, none⟩ = some (.int .i64 (f 7)) := hst.cs 7 (by omega)
        have s0 := hst.c0
        have s1 := hst.c1
        have y11 : p11 < W.heap.size := hst.lt
        have y8 : p8 < W.heap.size := cell?_lt k0
        clear hst hin
        go_wp2_with fail
        refine (next_cI _ _ _ _ _ _ _ _ _).mono ?_
        rintro e w5 ⟨rfl, hw5⟩
        subst hw5
        go_wp2_with fail
        obtain ⟨W6, hW6⟩ : ∃ W6, W6 = (W.alloc (.cells #[.slice A n cap, .int .i64 o, .int .i64 m] 80)).alloc (.cells #[.int .i64 k, .int .i64 l, .int .i64 (f 0), .int .i64 (f 1), .int .i64 (f 2), .int .i64 (f 3), .int .i64 (f 4), .int .i64 (f 5), .int .i64 (f 6), .int .i64 (f 7)] 84) := ⟨_, rfl⟩
        have b6 : Below W.heap.size W W6 := by rw [hW6]; (repeat (first | (with_reducible exact Below.refl _ _) | (with_reducible assumption) | (with_reducible refine Below.drew ?_) | (with_reducible refine Below.allocS ?_ _) | (with_reducible refine Below.setCell ?_ ?_ _) | (with_reducible refine Below.step ?_ (by assumption)) | (with_reducible refine Below.drewN' ?_ _))); (try any_goals (first | (with_reducible assumption) | (simp; done) | (simp; omega) | omega))
        have z6 : W6.heap.size = W.heap.size + 2 := by rw [hW6]; simp
        have hst6 : StA W6 (W.heap.size + 1) k l f := by
          rw [hW6]
          have := (st_new (W.alloc (.cells #[.slice A n cap, .int .i64 o, .int .i64 m] 80)) k l f 84).1
          rw [World.size_alloc] at this
          exact this
        have r0 : W6.cell? ⟨W.heap.size, 0, none⟩ = some (.slice A n cap) := by rw [hW6]; simp [go_sem]
        have r1 : W6.cell? ⟨W.heap.size, 1, none⟩ = some (.int .i64 o) := by rw [hW6]; simp [go_sem]
        have r2 : W6.cell? ⟨W.heap.size, 2, none⟩ = some (.int .i64 m) := by rw [hW6]; simp [go_sem]
        rw [← hW6]
        obtain ⟨ps, hps⟩ : ∃ ps, ps = W.heap.size + 1 := ⟨_, rfl⟩
        obtain ⟨pc, hpc⟩ : ∃ pc, pc = W.heap.size := ⟨_, rfl⟩
        rw [← hps, ← hpc]
        have hpp := HIN.out.pp
        have hog : ∀ g, (Value.slice A0 k c0).ownBlock = some g → base ≤ g ∧ g < W.heap.size := fun g hg => HIN.out.own_ge hg
        have i0 : RtI K w A n cap o m k l f (n - k) p8 p10 p11 p12 Bm base bb A0 c0 ds ((1 + 8 * k + ([] : List Nat).length) * 10000000000) [] (W6.heap.size + 1) W6 := by
          have h := HIN.out.keep b6
          exact ⟨h.q0, h.q1, h.q2, h.qm, h.st, h.sf, h.c12, h.f12, h.own, h.me, h.mrk, h.bl, h.no, fun g hg => by have := hog g hg; omega, h.pp⟩
        have hMD : ∀ D', { target := .collected D', args := #[] } ∈ ds → D' < W6.heap.size := fun D' hD' => HIN.out.mrk.lt b6 D' hD'
        have hA6 : RdL W6 W6.heap.size inE 1 A (K.can.map Int.ofNat) := HA.out.step i0.bl
        have hfk : ∀ j, j < 8 → f j ≤ k := fun j hj => by have := (HREL.out.at' j hj).1; have := count_len bb j; have := HBL.out; omega
        have hseq := next_stops K n HNN.out hn12 hob8 hm12 HCB.out A cap k l f hlt (fun j hj => by have := hfk j hj; omega)
          (fun q => q ≠ Bm ∧ q ≠ p11 ∧ q ≠ p12 ∧ some q ≠ (Value.slice A0 k c0).ownBlock) pc ps ⟨by omega, by omega, by have := cell?_lt HIN.out.c12; dsimp only at this; omega, fun e => by have := hog _ e.symm; omega⟩ ⟨by omega, by omega, by have := cell?_lt HIN.out.c12; dsimp only at this; omega, fun e => by have := hog _ e.symm; omega⟩ W6 hA6 (fun b' off e => by
            have := HAK.out b' off e (by omega)
            exact ⟨by omega, by omega, by omega, fun e' => by have := hog _ e'.symm; omega⟩) (by rw [hpc]; exact r0) (by rw [HO.out, hpc]; exact r1) (by rw [HM.out, hpc]; exact r2) (by rw [hps]; exact hst6)
        obtain ⟨k1', hk1⟩ : ∃ k1', k1' = k + 1 := ⟨_, rfl⟩
        rw [← hk1] at hseq
        have HK1 := Lib.hid hk1
        have HSEQ := Lib.hid hseq
        have HI0 := Lib.hid i0
        have HMD := Lib.hid hMD
        have HOG := Lib.hid hog
        have HFK := Lib.hid hfk
        have y12 : p12 < W.heap.size := cell?_lt HIN.out.c12
        have HPQ := Lib.hid (show W6.heap.size = W.heap.size + 2 ∧ p12 < W.heap.size ∧ base ≤ W.heap.size ∧ p12 < base ∧ p11 < p12 ∧ Bm < p10 ∧ p10 < p11 ∧ p8 < Bm ∧ w.heap.size ≤ p8 by omega)
        clear hW6 i0 hMD hA6 hseq hk1 r0 r1 r2 hst6 hps hpc hpp hog hfk e0 e1 e2 e3 e4 e5 e6 e7 s0 s1 k0 k1 k2 km kc y11 y8 z6 b6
        refine (wpIn_wide (n := 5)).1 ?_
        refine range_set (n := 3) (gf := 114) (lb := #[.pointer (some ⟨pc, 0, none⟩), .pointer (some ⟨ps, 0, none⟩)]) rfl (enters_of Try.func114 (by kernel_rfl) rfl)
          HSEQ.out (Below.refl _ _) ⟨by have := HPQ.out; omega, by have := HPQ.out; omega, by have := HPQ.out; omega, fun e => by have := HOG.out _ e.symm; have := HPQ.out; omega⟩ ⟨by have := HPQ.out; omega, by have := HPQ.out; omega, by have := HPQ.out; omega, fun e => by have := HOG.out _ e.symm; have := HPQ.out; omega⟩ (fun _ => rfl)
          (fun pre X => RtI K w A n cap o m k l f (n - k) p8 p10 p11 p12 Bm base bb A0 c0 ds ((1 + 8 * k + pre.length) * 10000000000) pre (W6.heap.size + 1) X)
          (fun c pre X => c = .exit 2 ∧ ∃ (p0 : List Nat) (y : Nat) (A7 : Option Addr) (c7 : Nat), pre = p0 ++ [y] ∧ (∀ q ∈ p0, rN K (n - k - 1) (bb ++ [q]) = 0) ∧ y < K.obs ∧ K.may k l f y = true ∧ rN K (n - k - 1) (bb ++ [y]) ≠ 0 ∧ RtI K w A n cap o m (k + 1) y (K.nx k f y) (n - k - 1) p8 p10 p11 p12 Bm base (bb ++ [y]) A7 c7 ds ((1 + 8 * (k + 1)) * 10000000000) [] (W6.heap.size + 1) X)
          (fun _ A' B h hb => h.keep hb) (fun c _ A' B h hb => by obtain ⟨h1, p0, y, A7, c7, h2, h3, h4, h5, h6, h7⟩ := h; exact ⟨h1, p0, y, A7, c7, h2, h3, h4, h5, h6, h7.keep hb⟩)
          (fun _ A' q h => h.put (by have := HPQ.out; omega) (fun D' hD' => by have := HMD.out D' hD'; omega)) (fun c _ A' q h => by obtain ⟨h1, p0, y, A7, c7, h2, h3, h4, h5, h6, h7⟩ := h; exact ⟨h1, p0, y, A7, c7, h2, h3, h4, h5, h6, h7.put (by have := HPQ.out; omega) (fun D' hD' => by have := HMD.out D' hD'; omega)⟩) HI0.out
          (fun y a' X => ∃ By, W6.heap.size ≤ By ∧ X.heap[By]? = some (Obj.cells #[.int .i64 k1', .int .i64 y, .int .i64 (K.nx k f y 0), .int .i64 (K.nx k f y 1), .int .i64 (K.nx k f y 2), .int .i64 (K.nx k f y 3), .int .i64 (K.nx k f y 4), .int .i64 (K.nx k f y 5), .int .i64 (K.nx k f y 6), .int .i64 (K.nx k f y 7)] 84 (0, 0)) ∧ a' = { tmps := #[.slice A n cap, .int .i64 o, .int .i64 m, undef, undef, undef, .slice none 0 0, .int .i64 0, .pointer (some ⟨p8, 0, none⟩), .int .i64 0, .pointer (some ⟨p10, 0, none⟩), .pointer (some ⟨p11, 0, none⟩), .pointer (some ⟨p12, 0, none⟩), .int .i64 y, .pointer (some ⟨By, 0, none⟩), .slice A n cap, .int .i64 o, .int .i64 m, .agg #[.slice A n cap, .int .i64 o, .int .i64 m], .agg #[.slice A n cap, .int .i64 o, .int .i64 m], .int .i64 0, .int .i64 0, .bool false, undef, .map (some Bm), .agg #[.int .i64 0, .int .i64 8, .int .i64 0, .int .i64 0, .int .i64 0, .int .i64 0, .int .i64 0, .int .i64 0, .int .i64 0, .int .i64 0], .agg #[.slice A n cap, .int .i64 o, .int .i64 m], .agg #[.int .i64 0, .int .i64 8, .int .i64 0, .int .i64 0, .int .i64 0, .int .i64 0, .int .i64 0, .int .i64 0, .int .i64 0, .int .i64 0], .map (some Bm), .int .i64 R0, .bool false, .slice A n cap, .int .i64 n, .int .i64 k, .bool true, .agg #[.slice A n cap, .int .i64 o, .int .i64 m], .agg #[.int .i64 k, .int .i64 l, .int .i64 (f 0), .int .i64 (f 1), .int .i64 (f 2), .int .i64 (f 3), .int .i64 (f 4), .int .i64 (f 5), .int .i64 (f 6), .int .i64 (f 7)], .func (.func 114) #[] #[.pointer (some ⟨pc, 0, none⟩), .pointer (some ⟨ps, 0, none⟩)], .int .i64 y, .agg #[.int .i64 k1', .int .i64 y, .int .i64 (K.nx k f y 0), .int .i64 (K.nx k f y 1), .int .i64 (K.nx k f y 2), .int .i64 (K.nx k f y 3), .int .i64 (K.nx k f y 4), .int .i64 (K.nx k f y 5), .int .i64 (K.nx k f y 6), .int .i64 (K.nx k f y 7)], undef, undef, undef, undef, undef, undef, undef, undef, undef, undef, u50, undef], defers := [] })
          (fun y a' X q r o h hk => by
            obtain ⟨By, h0, h1, h2⟩ := h
            refine ⟨By, h0, ?_, h2⟩
            rw [World.putObj_heap_other (by rintro rfl; rw [h1] at hk; cases hk)]; exact h1)
          ?assign ?body ?done ?stop
        case assign =>
          intro l0 pre y X K' hi hs hK'
          gi_wp2
          exact hK' _ _ ((KT.refl _ _).alloc _) (hi.keep ((Below.refl X.heap.size X).alloc (Nat.le_refl _) _)) ⟨X.heap.size, hs, World.alloc_heap_new _ _, rfl⟩
        case body =>
          rintro l0 pre y a' X hl ⟨rr, hrr⟩ hI ⟨By, hBy0, hBy, rfl⟩ hlen ⟨ho1, hmay⟩
          have hXs : W6.heap.size + 1 < X.heap.size := by have := (Array.getElem?_eq_some_iff.1 hrr).1; omega
          have HIX := Lib.hid hI
          have x0 := hI.q0
          have x1 := hI.q1
          have x2 := hI.q2
          have xm := hI.qm
          have d0 : X.cell? ⟨By, 0, none⟩ = some (.int .i64 k1') := by simp [World.cell?, hBy]
          have d1' : X.cell? ⟨By, 1, none⟩ = some (.int .i64 y) := by simp [World.cell?, hBy]
          have d2 : X.cell? ⟨By, 2, none⟩ = some (.int .i64 (K.nx k f y 0)) := by simp [World.cell?, hBy]
          have d3 : X.cell? ⟨By, 3, none⟩ = some (.int .i64 (K.nx k f y 1)) := by simp [World.cell?, hBy]
          have d4 : X.cell? ⟨By, 4, none⟩ = some (.int .i64 (K.nx k f y 2)) := by simp [World.cell?, hBy]
          have d5 : X.cell? ⟨By, 5, none⟩ = some (.int .i64 (K.nx k f y 3)) := by simp [World.cell?, hBy]
          have d6 : X.cell? ⟨By, 6, none⟩ = some (.int .i64 (K.nx k f y 4)) := by simp [World.cell?, hBy]
          have d7 : X.cell? ⟨By, 7, none⟩ = some (.int .i64 (K.nx k f y 5)) := by simp [World.cell?, hBy]
          have d8 : X.cell? ⟨By, 8, none⟩ = some (.int .i64 (K.nx k f y 6)) := by simp [World.cell?, hBy]
          have d9 : X.cell? ⟨By, 9, none⟩ = some (.int .i64 (K.nx k f y 7)) := by simp [World.cell?, hBy]
          have hfit := HREL.out.may (by rw [HBL.out, HNN.out]; omega) (show y < 8 by omega)
          rw [HBL.out, hmay] at hfit
          have hrl := HREL.out.nx (by rw [HBL.out, HNN.out]; omega) (show y < 8 by omega) hfit.symm
          rw [HBL.out] at hrl
          have hrec := count_c K n HNN.out hn12 hob8 hm12 HCB.out A cap (n - k - 1) k1' y (K.nx k f y) Bm ((1 + 8 * k + pre.length) * 10000000000) X (by have := HK1.out; omega) (by omega) (by rw [HK1.out]; exact nx_le HFK.out y) HIX.out.me (by have := ndN_le (r := n - k - 1) (by omega); omega) (HA.out.step HIX.out.bl) (fun b' off e h0 => by have := HAK.out b' off e h0; have := HPQ.out; omega)
          rw [HO.out, HM.out, Rel.cnt hob8 (n - k - 1) hrl (by rw [List.length_append, HBL.out, HNN.out]; simp; omega)] at hrec
          obtain ⟨cv, hcv⟩ : ∃ cv, cv = rN K (n - k - 1) (bb ++ [y]) := ⟨_, rfl⟩
          rw [← hcv] at hrec
          have HCV := Lib.hid hcv
          have HREC := Lib.hid hrec
          have hnd := ndN_le (r := n - k - 1) (by omega)
          have HMC := Lib.hid (show (1 + 8 * k + pre.length) * 10000000000 + ndN (n - k - 1) ≤ (1 + 8 * k + (pre ++ [y]).length) * 10000000000 by rw [List.length_append, List.length_singleton]; omega)
          have HMC2 := Lib.hid (show (1 + 8 * k + pre.length) * 10000000000 + ndN (n - k - 1) ≤ (1 + 8 * (k + 1)) * 10000000000 by omega)
          have HBY := Lib.hid hBy
          clear hfit hrl hrec hcv hnd hBy hI hrr
          generalize hg0 : K.nx k f y 0 = g0 at *
          generalize hg1 : K.nx k f y 1 = g1 at *
          generalize hg2 : K.nx k f y 2 = g2 at *
          generalize hg3 : K.nx k f y 3 = g3 at *
          generalize hg4 : K.nx k f y 4 = g4 at *
          generalize hg5 : K.nx k f y 5 = g5 at *
          generalize hg6 : K.nx k f y 6 = g6 at *
          generalize hg7 : K.nx k f y 7 = g7 at *
          have HGG := Lib.hid (And.intro hg0 (And.intro hg1 (And.intro hg2 (And.intro hg3 (And.intro hg4 (And.intro hg5 (And.intro hg6 hg7)))))))
          clear hg0 hg1 hg2 hg3 hg4 hg5 hg6 hg7
          by_cases hc0 : cv = 0
          case pos =>
            subst hc0
            gi_wp2_with fail
            refine ⟨trivial, (callsIn_wide.2 HREC.out).mono ?_⟩
            rintro e w1 ⟨rfl, hM, hg⟩
            gi_wp2
            refine And.intro (KT.grown (KT.refl _ _) hg (fun i hi hk => by injection hi with hi; exact hk.1 hi.symm)) ?_
            exact HIX.out.call (hM.mono HMC.out) hg (fun q hq => by
              rcases List.mem_append.1 hq with hq | hq
              · exact HIX.out.no q hq
              · simp at hq; subst hq; exact HCV.out.symm)
          case neg =>
            have dpos : decide ((cv : Int) > 0) = true := decide_eq_true (by omega)
            have dpos2 : decide (0 < (cv : Int)) = true := decide_eq_true (by omega)
            have dpos3 : decide (0 < cv) = true := decide_eq_true (by omega)
            have HC0 := Lib.hid hc0
            have hmo : Try.prog.follows Departure.mixedOrders = true := by kernel_rfl
            clear hc0
            gi_wp2_with fail
            refine ⟨trivial, (callsIn_wide.2 HREC.out).mono ?_⟩
            rintro e w1 ⟨rfl, hM, hg⟩
            have hw1 := HIX.out.call (hM.mono HMC2.out) hg HIX.out.no
            have HW1 := Lib.hid hw1
            have HGW := Lib.hid hg
            have hppq := HIX.out.pp
            have ybm : Bm < X.heap.size := HIX.out.me.lt
            have hByne : By ≠ Bm := by have := HPQ.out; omega
            have yBy : By < X.heap.size := (Array.getElem?_eq_some_iff.1 HBY.out).1
            have hBy1 : w1.heap[By]? = some (Obj.cells #[.int .i64 k1', .int .i64 y, .int .i64 g0, .int .i64 g1, .int .i64 g2, .int .i64 g3, .int .i64 g4, .int .i64 g5, .int .i64 g6, .int .i64 g7] 84 (0, 0)) := (hg.block By yBy (by intro e; injection e with e; exact hByne e)).trans HBY.out
            have hByo : ∀ g, (Value.slice A0 k c0).ownBlock = some g → g ≠ By := fun g hgo => by have := (HOG.out g hgo).2; have := HPQ.out; omega
            clear x0 x1 x2 xm d0 d1' d2 d3 d4 d5 d6 d7 d8 d9 hM hg
            obtain ⟨V1, hV1⟩ : ∃ V1, V1 = w1.drew.alloc (.cells #[.int .i64 y] 3) := ⟨_, rfl⟩
            have bV1 : Below w1.heap.size w1 V1 := by rw [hV1]; exact Below.allocS (Below.drew (Below.refl _ _)) _
            have zV1 : V1.heap.size = w1.heap.size + 1 := by rw [hV1]; exact World.size_alloc _ _
            have hbase1 : base ≤ w1.heap.size := by have := HGW.out.size; have := HPQ.out; omega
            obtain ⟨v7, W7, hap, hown7, hb7, hg7, hob7⟩ := app_run_at appI (bb.map Int.ofNat) (y : Int) k (by rw [List.length_map]; exact HBL.out) (by omega) V1 base w1.heap.size (.slice A0 k c0) (ownsRow_keep hw1.own bV1) (by omega) (one_cell rfl (by rw [hV1]; simp [go_sem]))
            obtain ⟨A7, c7, rfl, -, -⟩ := row_form hown7
            have e7 : ∀ i, i < w1.heap.size → (∀ g, (Value.slice A0 k c0).ownBlock = some g → g ≠ i) → W7.heap[i]? = w1.heap[i]? := fun i hi hne => (hg7.block i (by omega) (fun e => hne i e.symm rfl)).trans (bV1.block i hi)
            have hS7 := hg7.size
            have hBy7 := (e7 By (Array.getElem?_eq_some_iff.1 hBy1).1 hByo).trans hBy1
            have l12 : p12 < w1.heap.size := cell?_lt hw1.c12
            have l11 := hw1.st.lt
            have l10 : p10 < w1.heap.size := cell?_lt hw1.qm
            have l8 : p8 < w1.heap.size := cell?_lt hw1.q0
            have ho12 : ∀ i, i < base → ∀ g, (Value.slice A0 k c0).ownBlock = some g → g ≠ i := fun i hi g hgo => by have := (hw1.own_ge hgo).1; omega
            have e12 := e7 p12 l12 (ho12 p12 (by omega))
            have e11 := e7 p11 l11 (ho12 p11 (by omega))
            have c12 := hw1.c12
            have f12 := hw1.f12
            have c12' : W7.cell? ⟨p12, 0, none⟩ = some (.slice A0 k c0) := (World.cell?_of_block (a := ⟨p12, 0, none⟩) e12).trans c12
            have f12' : W7.frozen? ⟨p12, 0, none⟩ = false := (World.frozen?_of_block (a := ⟨p12, 0, none⟩) e12).trans f12
            have st7 : StA W7 p11 k l f := hw1.st.of_block e11
            have sf7 : StF W7 p11 := hw1.sf.of_block e11
            have HST7 := Lib.hid (And.intro st7 sf7)
            have da0 : w1.cell? ⟨By, 0, none⟩ = some (.int .i64 k1') := by simp [World.cell?, hBy1]
            have db0 : W7.cell? ⟨By, 0, none⟩ = some (.int .i64 k1') := by simp [World.cell?, hBy7]
            have da1 : w1.cell? ⟨By, 1, none⟩ = some (.int .i64 y) := by simp [World.cell?, hBy1]
            have db1 : W7.cell? ⟨By, 1, none⟩ = some (.int .i64 y) := by simp [World.cell?, hBy7]
            have da2 : w1.cell? ⟨By, 2, none⟩ = some (.int .i64 g0) := by simp [World.cell?, hBy1]
            have db2 : W7.cell? ⟨By, 2, none⟩ = some (.int .i64 g0) := by simp [World.cell?, hBy7]
            have da3 : w1.cell? ⟨By, 3, none⟩ = some (.int .i64 g1) := by simp [World.cell?, hBy1]
            have db3 : W7.cell? ⟨By, 3, none⟩ = some (.int .i64 g1) := by simp [World.cell?, hBy7]
            have da4 : w1.cell? ⟨By, 4, none⟩ = some (.int .i64 g2) := by simp [World.cell?, hBy1]
            have db4 : W7.cell? ⟨By, 4, none⟩ = some (.int .i64 g2) := by simp [World.cell?, hBy7]
            have da5 : w1.cell? ⟨By, 5, none⟩ = some (.int .i64 g3) := by simp [World.cell?, hBy1]
            have db5 : W7.cell? ⟨By, 5, none⟩ = some (.int .i64 g3) := by simp [World.cell?, hBy7]
            have da6 : w1.cell? ⟨By, 6, none⟩ = some (.int .i64 g4) := by simp [World.cell?, hBy1]
            have db6 : W7.cell? ⟨By, 6, none⟩ = some (.int .i64 g4) := by simp [World.cell?, hBy7]
            have da7 : w1.cell? ⟨By, 7, none⟩ = some (.int .i64 g5) := by simp [World.cell?, hBy1]
            have db7 : W7.cell? ⟨By, 7, none⟩ = some (.int .i64 g5) := by simp [World.cell?, hBy7]
            have da8 : w1.cell? ⟨By, 8, none⟩ = some (.int .i64 g6) := by simp [World.cell?, hBy1]
            have db8 : W7.cell? ⟨By, 8, none⟩ = some (.int .i64 g6) := by simp [World.cell?, hBy7]
            have da9 : w1.cell? ⟨By, 9, none⟩ = some (.int .i64 g7) := by simp [World.cell?, hBy1]
            have db9 : W7.cell? ⟨By, 9, none⟩ = some (.int .i64 g7) := by simp [World.cell?, hBy7]
            have sa0 : W7.cell? ⟨p11, 0, none⟩ = some (.int .i64 k) := st7.c0
            have sb0 : W7.frozen? ⟨p11, 0, none⟩ = false := sf7 0 (by omega)
            have sa1 : W7.cell? ⟨p11, 1, none⟩ = some (.int .i64 l) := st7.c1
            have sb1 : W7.frozen? ⟨p11, 1, none⟩ = false := sf7 1 (by omega)
            have sa2 : W7.cell? ⟨p11, 2, none⟩ = some (.int .i64 (f 0)) := st7.cs 0 (by omega)
            have sb2 : W7.frozen? ⟨p11, 2, none⟩ = false := sf7 2 (by omega)
            have sa3 : W7.cell? ⟨p11, 3, none⟩ = some (.int .i64 (f 1)) := st7.cs 1 (by omega)
            have sb3 : W7.frozen? ⟨p11, 3, none⟩ = false := sf7 3 (by omega)
            have sa4 : W7.cell? ⟨p11, 4, none⟩ = some (.int .i64 (f 2)) := st7.cs 2 (by omega)
            have sb4 : W7.frozen? ⟨p11, 4, none⟩ = false := sf7 4 (by omega)
            have sa5 : W7.cell? ⟨p11, 5, none⟩ = some (.int .i64 (f 3)) := st7.cs 3 (by omega)
            have sb5 : W7.frozen? ⟨p11, 5, none⟩ = false := sf7 5 (by omega)
            have sa6 : W7.cell? ⟨p11, 6, none⟩ = some (.int .i64 (f 4)) := st7.cs 4 (by omega)
            have sb6 : W7.frozen? ⟨p11, 6, none⟩ = false := sf7 6 (by omega)
            have sa7 : W7.cell? ⟨p11, 7, none⟩ = some (.int .i64 (f 5)) := st7.cs 5 (by omega)
            have sb7 : W7.frozen? ⟨p11, 7, none⟩ = false := sf7 7 (by omega)
            have sa8 : W7.cell? ⟨p11, 8, none⟩ = some (.int .i64 (f 6)) := st7.cs 6 (by omega)
            have sb8 : W7.frozen? ⟨p11, 8, none⟩ = false := sf7 8 (by omega)
            have sa9 : W7.cell? ⟨p11, 9, none⟩ = some (.int .i64 (f 7)) := st7.cs 7 (by omega)
            have sb9 : W7.frozen? ⟨p11, 9, none⟩ = false := sf7 9 (by omega)
            have hne1 : p12 ≠ p11 := by omega
            have hne2 : p11 ≠ p12 := by omega
            have hne3 : By ≠ p12 := by have := HPQ.out; omega
            have hne4 : By ≠ p11 := by have := HPQ.out; omega
            have yB1 : By < w1.heap.size := (Array.getElem?_eq_some_iff.1 hBy1).1
            have HOWN7 := Lib.hid hown7
            have HG7 := Lib.hid hg7
            have HOB7 := Lib.hid hob7
            have HE7 := Lib.hid e7
            have HV1 := Lib.hid bV1
            have HRF := rt_found hw1 HGW.out bV1 zV1 hg7 hob7 hown7 HK1.out (by omega) (by have := HPQ.out; omega) _ _ rfl rfl
            obtain ⟨u0, u1, u2, u3, u4, u5, u6, u7⟩ := HGG.out
            rw [u0, u1, u2, u3, u4, u5, u6, u7] at HRF
            obtain ⟨hkt, hrt⟩ := HRF
            have HKT := Lib.hid hkt
            have HRT := Lib.hid hrt
            clear hkt hrt u0 u1 u2 u3 u4 u5 u6 u7
            rw [hV1] at hap
            clear hown7 hb7 hg7 hob7 e7 st7 sf7 hBy1 hBy7 hw1 hV1 bV1 hByo ho12 e12 e11
            gi_wp2_with fail
            refine wpIn_region_any hmo ?_
            change wpAnyIn _ _ _ _ _ _ _ _ _ (World.drew _)
            -- TREE
            refine wpAnyIn_ready (rs := [0, 1, 4]) (by kernel_rfl) (by simp) ?_
            refine (AllReadyIn.cons rfl (fun KK hKK => ?_) (AllReadyIn.cons rfl (fun KK hKK => ?_) (AllReadyIn.cons rfl (fun KK hKK => ?_) AllReadyIn.nil)))
            · go_simp
              refine hKK _ _ ?_; clear hKK KK
              refine wpAnyIn_ready (rs := [1, 4]) (by kernel_rfl) (by simp) ?_
              refine (AllReadyIn.cons rfl (fun KK hKK => ?_) (AllReadyIn.cons rfl (fun KK hKK => ?_) AllReadyIn.nil))
              · go_simp
                refine hKK _ _ ?_; clear hKK KK
                refine wpAnyIn_ready (rs := [2, 4]) (by kernel_rfl) (by simp) ?_
                refine (AllReadyIn.cons rfl (fun KK hKK => ?_) (AllReadyIn.cons rfl (fun KK hKK => ?_) AllReadyIn.nil))
                · go_simp
                  refine hKK _ _ ?_; clear hKK KK
                  refine wpAnyIn_ready (rs := [3, 4]) (by kernel_rfl) (by simp) ?_
                  refine (AllReadyIn.cons rfl (fun KK hKK => ?_) (AllReadyIn.cons rfl (fun KK hKK => ?_) AllReadyIn.nil))
                  · rw [if_pos (by rfl)]
                    refine step_app_in (.tmp 45) (.tmp 47) 26 rfl _ _ rfl rfl hap ?_
                    refine hKK _ _ ?_; clear hKK KK
                    (try simp only [Act.put, List.setIfInBounds_toArray, List.set_cons_zero, List.set_cons_succ])
                    refine wpAnyIn_ready (rs := [4, 5]) (by kernel_rfl) (by simp) ?_
                    refine (AllReadyIn.cons rfl (fun KK hKK => ?_) (AllReadyIn.cons rfl (fun KK hKK => ?_) AllReadyIn.nil))
                    · go_simp
                      refine hKK _ _ ?_; clear hKK KK
                      refine wpAnyIn_ready (rs := [5]) (by kernel_rfl) (by simp) ?_
                      refine (AllReadyIn.cons rfl (fun KK hKK => ?_) AllReadyIn.nil)
                      · go_simp
                        refine hKK _ _ ?_; clear hKK KK
                        refine wpAnyIn_ready (rs := [6]) (by kernel_rfl) (by simp) ?_
                        refine (AllReadyIn.cons rfl (fun KK hKK => ?_) AllReadyIn.nil)
                        · go_simp
                          refine hKK _ _ ?_; clear hKK KK
                          refine wpAnyIn_done (by kernel_rfl) ?_ _
                          gi_wp2
                          exact And.intro HKT.out ⟨rfl, pre, y, A7, c7, rfl, HIX.out.no, ho1, hmay, (by rw [← HCV.out]; exact HC0.out), HRT.out⟩
                    · go_simp
                      refine hKK _ _ ?_; clear hKK KK
                      refine wpAnyIn_ready (rs := [4]) (by kernel_rfl) (by simp) ?_
                      refine (AllReadyIn.cons rfl (fun KK hKK => ?_) AllReadyIn.nil)
                      · go_simp
                        refine hKK _ _ ?_; clear hKK KK
                        refine wpAnyIn_ready (rs := [6]) (by kernel_rfl) (by simp) ?_
                        refine (AllReadyIn.cons rfl (fun KK hKK => ?_) AllReadyIn.nil)
                        · go_simp
                          refine hKK _ _ ?_; clear hKK KK
                          refine wpAnyIn_done (by kernel_rfl) ?_ _
                          gi_wp2
                          exact And.intro HKT.out ⟨rfl, pre, y, A7, c7, rfl, HIX.out.no, ho1, hmay, (by rw [← HCV.out]; exact HC0.out), HRT.out⟩
                  · go_simp
                    refine hKK _ _ ?_; clear hKK KK
                    refine wpAnyIn_ready (rs := [3]) (by kernel_rfl) (by simp) ?_
                    refine (AllReadyIn.cons rfl (fun KK hKK => ?_) AllReadyIn.nil)
                    · rw [if_pos (by rfl)]
                      refine step_app_in (.tmp 45) (.tmp 47) 26 rfl _ _ rfl rfl hap ?_
                      refine hKK _ _ ?_; clear hKK KK
                      (try simp only [Act.put, List.setIfInBounds_toArray, List.set_cons_zero, List.set_cons_succ])
                      refine wpAnyIn_ready (rs := [5]) (by kernel_rfl) (by simp) ?_
                      refine (AllReadyIn.cons rfl (fun KK hKK => ?_) AllReadyIn.nil)
                      · go_simp
                        refine hKK _ _ ?_; clear hKK KK
                        refine wpAnyIn_ready (rs := [6]) (by kernel_rfl) (by simp) ?_
                        refine (AllReadyIn.cons rfl (fun KK hKK => ?_) AllReadyIn.nil)
                        · go_simp
                          refine hKK _ _ ?_; clear hKK KK
                          refine wpAnyIn_done (by kernel_rfl) ?_ _
                          gi_wp2
                          exact And.intro HKT.out ⟨rfl, pre, y, A7, c7, rfl, HIX.out.no, ho1, hmay, (by rw [← HCV.out]; exact HC0.out), HRT.out⟩
                · go_simp
                  refine hKK _ _ ?_; clear hKK KK
                  refine wpAnyIn_ready (rs := [2]) (by kernel_rfl) (by simp) ?_
                  refine (AllReadyIn.cons rfl (fun KK hKK => ?_) AllReadyIn.nil)
                  · go_simp
                    refine hKK _ _ ?_; clear hKK KK
                    refine wpAnyIn_ready (rs := [3]) (by kernel_rfl) (by simp) ?_
                    refine (AllReadyIn.cons rfl (fun KK hKK => ?_) AllReadyIn.nil)
                    · rw [if_pos (by rfl)]
                      refine step_app_in (.tmp 45) (.tmp 47) 26 rfl _ _ rfl rfl hap ?_
                      refine hKK _ _ ?_; clear hKK KK
                      (try simp only [Act.put, List.setIfInBounds_toArray, List.set_cons_zero, List.set_cons_succ])
                      refine wpAnyIn_ready (rs := [5]) (by kernel_rfl) (by simp) ?_
                      refine (AllReadyIn.cons rfl (fun KK hKK => ?_) AllReadyIn.nil)
                      · go_simp
                        refine hKK _ _ ?_; clear hKK KK
                        refine wpAnyIn_ready (rs := [6]) (by kernel_rfl) (by simp) ?_
                        refine (AllReadyIn.cons rfl (fun KK hKK => ?_) AllReadyIn.nil)
                        · go_simp
                          refine hKK _ _ ?_; clear hKK KK
                          refine wpAnyIn_done (by kernel_rfl) ?_ _
                          gi_wp2
                          exact And.intro HKT.out ⟨rfl, pre, y, A7, c7, rfl, HIX.out.no, ho1, hmay, (by rw [← HCV.out]; exact HC0.out), HRT.out⟩
              · go_simp
                refine hKK _ _ ?_; clear hKK KK
                refine wpAnyIn_ready (rs := [1]) (by kernel_rfl) (by simp) ?_
                refine (AllReadyIn.cons rfl (fun KK hKK => ?_) AllReadyIn.nil)
                · go_simp
                  refine hKK _ _ ?_; clear hKK KK
                  refine wpAnyIn_ready (rs := [2]) (by kernel_rfl) (by simp) ?_
                  refine (AllReadyIn.cons rfl (fun KK hKK => ?_) AllReadyIn.nil)
                  · go_simp
                    refine hKK _ _ ?_; clear hKK KK
                    refine wpAnyIn_ready (rs := [3]) (by kernel_rfl) (by simp) ?_
                    refine (AllReadyIn.cons rfl (fun KK hKK => ?_) AllReadyIn.nil)
                    · rw [if_pos (by rfl)]
                      refine step_app_in (.tmp 45) (.tmp 47) 26 rfl _ _ rfl rfl hap ?_
                      refine hKK _ _ ?_; clear hKK KK
                      (try simp only [Act.put, List.setIfInBounds_toArray, List.set_cons_zero, List.set_cons_succ])
                      refine wpAnyIn_ready (rs := [5]) (by kernel_rfl) (by simp) ?_
                      refine (AllReadyIn.cons rfl (fun KK hKK => ?_) AllReadyIn.nil)
                      · go_simp
                        refine hKK _ _ ?_; clear hKK KK
                        refine wpAnyIn_ready (rs := [6]) (by kernel_rfl) (by simp) ?_
                        refine (AllReadyIn.cons rfl (fun KK hKK => ?_) AllReadyIn.nil)
                        · go_simp
                          refine hKK _ _ ?_; clear hKK KK
                          refine wpAnyIn_done (by kernel_rfl) ?_ _
                          gi_wp2
                          exact And.intro HKT.out ⟨rfl, pre, y, A7, c7, rfl, HIX.out.no, ho1, hmay, (by rw [← HCV.out]; exact HC0.out), HRT.out⟩
            · go_simp
              refine hKK _ _ ?_; clear hKK KK
              refine wpAnyIn_ready (rs := [0, 2, 4]) (by kernel_rfl) (by simp) ?_
              refine (AllReadyIn.cons rfl (fun KK hKK => ?_) (AllReadyIn.cons rfl (fun KK hKK => ?_) (AllReadyIn.cons rfl (fun KK hKK => ?_) AllReadyIn.nil)))
              · go_simp
                refine hKK _ _ ?_; clear hKK KK
                refine wpAnyIn_ready (rs := [2, 4]) (by kernel_rfl) (by simp) ?_
                refine (AllReadyIn.cons rfl (fun KK hKK => ?_) (AllReadyIn.cons rfl (fun KK hKK => ?_) AllReadyIn.nil))
                · go_simp
                  refine hKK _ _ ?_; clear hKK KK
                  refine wpAnyIn_ready (rs := [3, 4]) (by kernel_rfl) (by simp) ?_
                  refine (AllReadyIn.cons rfl (fun KK hKK => ?_) (AllReadyIn.cons rfl (fun KK hKK => ?_) AllReadyIn.nil))
                  · rw [if_pos (by rfl)]
                    refine step_app_in (.tmp 45) (.tmp 47) 26 rfl _ _ rfl rfl hap ?_
                    refine hKK _ _ ?_; clear hKK KK
                    (try simp only [Act.put, List.setIfInBounds_toArray, List.set_cons_zero, List.set_cons_succ])
                    refine wpAnyIn_ready (rs := [4, 5]) (by kernel_rfl) (by simp) ?_
                    refine (AllReadyIn.cons rfl (fun KK hKK => ?_) (AllReadyIn.cons rfl (fun KK hKK => ?_) AllReadyIn.nil))
                    · go_simp
                      refine hKK _ _ ?_; clear hKK KK
                      refine wpAnyIn_ready (rs := [5]) (by kernel_rfl) (by simp) ?_
                      refine (AllReadyIn.cons rfl (fun KK hKK => ?_) AllReadyIn.nil)
                      · go_simp
                        refine hKK _ _ ?_; clear hKK KK
                        refine wpAnyIn_ready (rs := [6]) (by kernel_rfl) (by simp) ?_
                        refine (AllReadyIn.cons rfl (fun KK hKK => ?_) AllReadyIn.nil)
                        · go_simp
                          refine hKK _ _ ?_; clear hKK KK
                          refine wpAnyIn_done (by kernel_rfl) ?_ _
                          gi_wp2
                          exact And.intro HKT.out ⟨rfl, pre, y, A7, c7, rfl, HIX.out.no, ho1, hmay, (by rw [← HCV.out]; exact HC0.out), HRT.out⟩
                    · go_simp
                      refine hKK _ _ ?_; clear hKK KK
                      refine wpAnyIn_ready (rs := [4]) (by kernel_rfl) (by simp) ?_
                      refine (AllReadyIn.cons rfl (fun KK hKK => ?_) AllReadyIn.nil)
                      · go_simp
                        refine hKK _ _ ?_; clear hKK KK
                        refine wpAnyIn_ready (rs := [6]) (by kernel_rfl) (by simp) ?_
                        refine (AllReadyIn.cons rfl (fun KK hKK => ?_) AllReadyIn.nil)
                        · go_simp
                          refine hKK _ _ ?_; clear hKK KK
                          refine wpAnyIn_done (by kernel_rfl) ?_ _
                          gi_wp2
                          exact And.intro HKT.out ⟨rfl, pre, y, A7, c7, rfl, HIX.out.no, ho1, hmay, (by rw [← HCV.out]; exact HC0.out), HRT.out⟩
                  · go_simp
                    refine hKK _ _ ?_; clear hKK KK
                    refine wpAnyIn_ready (rs := [3]) (by kernel_rfl) (by simp) ?_
                    refine (AllReadyIn.cons rfl (fun KK hKK => ?_) AllReadyIn.nil)
                    · rw [if_pos (by rfl)]
                      refine step_app_in (.tmp 45) (.tmp 47) 26 rfl _ _ rfl rfl hap ?_
                      refine hKK _ _ ?_; clear hKK KK
                      (try simp only [Act.put, List.setIfInBounds_toArray, List.set_cons_zero, List.set_cons_succ])
                      refine wpAnyIn_ready (rs := [5]) (by kernel_rfl) (by simp) ?_
                      refine (AllReadyIn.cons rfl (fun KK hKK => ?_) AllReadyIn.nil)
                      · go_simp
                        refine hKK _ _ ?_; clear hKK KK
                        refine wpAnyIn_ready (rs := [6]) (by kernel_rfl) (by simp) ?_
                        refine (AllReadyIn.cons rfl (fun KK hKK => ?_) AllReadyIn.nil)
                        · go_simp
                          refine hKK _ _ ?_; clear hKK KK
                          refine wpAnyIn_done (by kernel_rfl) ?_ _
                          gi_wp2
                          exact And.intro HKT.out ⟨rfl, pre, y, A7, c7, rfl, HIX.out.no, ho1, hmay, (by rw [← HCV.out]; exact HC0.out), HRT.out⟩
                · go_simp
                  refine hKK _ _ ?_; clear hKK KK
                  refine wpAnyIn_ready (rs := [2]) (by kernel_rfl) (by simp) ?_
                  refine (AllReadyIn.cons rfl (fun KK hKK => ?_) AllReadyIn.nil)
                  · go_simp
                    refine hKK _ _ ?_; clear hKK KK
                    refine wpAnyIn_ready (rs := [3]) (by kernel_rfl) (by simp) ?_
                    refine (AllReadyIn.cons rfl (fun KK hKK => ?_) AllReadyIn.nil)
                    · rw [if_pos (by rfl)]
                      refine step_app_in (.tmp 45) (.tmp 47) 26 rfl _ _ rfl rfl hap ?_
                      refine hKK _ _ ?_; clear hKK KK
                      (try simp only [Act.put, List.setIfInBounds_toArray, List.set_cons_zero, List.set_cons_succ])
                      refine wpAnyIn_ready (rs := [5]) (by kernel_rfl) (by simp) ?_
                      refine (AllReadyIn.cons rfl (fun KK hKK => ?_) AllReadyIn.nil)
                      · go_simp
                        refine hKK _ _ ?_; clear hKK KK
                        refine wpAnyIn_ready (rs := [6]) (by kernel_rfl) (by simp) ?_
                        refine (AllReadyIn.cons rfl (fun KK hKK => ?_) AllReadyIn.nil)
                        · go_simp
                          refine hKK _ _ ?_; clear hKK KK
                          refine wpAnyIn_done (by kernel_rfl) ?_ _
                          gi_wp2
                          exact And.intro HKT.out ⟨rfl, pre, y, A7, c7, rfl, HIX.out.no, ho1, hmay, (by rw [← HCV.out]; exact HC0.out), HRT.out⟩
              · go_simp
                refine hKK _ _ ?_; clear hKK KK
                refine wpAnyIn_ready (rs := [0, 4]) (by kernel_rfl) (by simp) ?_
                refine (AllReadyIn.cons rfl (fun KK hKK => ?_) (AllReadyIn.cons rfl (fun KK hKK => ?_) AllReadyIn.nil))
                · go_simp
                  refine hKK _ _ ?_; clear hKK KK
                  refine wpAnyIn_ready (rs := [3, 4]) (by kernel_rfl) (by simp) ?_
                  refine (AllReadyIn.cons rfl (fun KK hKK => ?_) (AllReadyIn.cons rfl (fun KK hKK => ?_) AllReadyIn.nil))
                  · rw [if_pos (by rfl)]
                    refine step_app_in (.tmp 45) (.tmp 47) 26 rfl _ _ rfl rfl hap ?_
                    refine hKK _ _ ?_; clear hKK KK
                    (try simp only [Act.put, List.setIfInBounds_toArray, List.set_cons_zero, List.set_cons_succ])
                    refine wpAnyIn_ready (rs := [4, 5]) (by kernel_rfl) (by simp) ?_
                    refine (AllReadyIn.cons rfl (fun KK hKK => ?_) (AllReadyIn.cons rfl (fun KK hKK => ?_) AllReadyIn.nil))
                    · go_simp
                      refine hKK _ _ ?_; clear hKK KK
                      refine wpAnyIn_ready (rs := [5]) (by kernel_rfl) (by simp) ?_
                      refine (AllReadyIn.cons rfl (fun KK hKK => ?_) AllReadyIn.nil)
                      · go_simp
                        refine hKK _ _ ?_; clear hKK KK
                        refine wpAnyIn_ready (rs := [6]) (by kernel_rfl) (by simp) ?_
                        refine (AllReadyIn.cons rfl (fun KK hKK => ?_) AllReadyIn.nil)
                        · go_simp
                          refine hKK _ _ ?_; clear hKK KK
                          refine wpAnyIn_done (by kernel_rfl) ?_ _
                          gi_wp2
                          exact And.intro HKT.out ⟨rfl, pre, y, A7, c7, rfl, HIX.out.no, ho1, hmay, (by rw [← HCV.out]; exact HC0.out), HRT.out⟩
                    · go_simp
                      refine hKK _ _ ?_; clear hKK KK
                      refine wpAnyIn_ready (rs := [4]) (by kernel_rfl) (by simp) ?_
                      refine (AllReadyIn.cons rfl (fun KK hKK => ?_) AllReadyIn.nil)
                      · go_simp
                        refine hKK _ _ ?_; clear hKK KK
                        refine wpAnyIn_ready (rs := [6]) (by kernel_rfl) (by simp) ?_
                        refine (AllReadyIn.cons rfl (fun KK hKK => ?_) AllReadyIn.nil)
                        · go_simp
                          refine hKK _ _ ?_; clear hKK KK
                          refine wpAnyIn_done (by kernel_rfl) ?_ _
                          gi_wp2
                          exact And.intro HKT.out ⟨rfl, pre, y, A7, c7, rfl, HIX.out.no, ho1, hmay, (by rw [← HCV.out]; exact HC0.out), HRT.out⟩
                  · go_simp
                    refine hKK _ _ ?_; clear hKK KK
                    refine wpAnyIn_ready (rs := [3]) (by kernel_rfl) (by simp) ?_
                    refine (AllReadyIn.cons rfl (fun KK hKK => ?_) AllReadyIn.nil)
                    · rw [if_pos (by rfl)]
                      refine step_app_in (.tmp 45) (.tmp 47) 26 rfl _ _ rfl rfl hap ?_
                      refine hKK _ _ ?_; clear hKK KK
                      (try simp only [Act.put, List.setIfInBounds_toArray, List.set_cons_zero, List.set_cons_succ])
                      refine wpAnyIn_ready (rs := [5]) (by kernel_rfl) (by simp) ?_
                      refine (AllReadyIn.cons rfl (fun KK hKK => ?_) AllReadyIn.nil)
                      · go_simp
                        refine hKK _ _ ?_; clear hKK KK
                        refine wpAnyIn_ready (rs := [6]) (by kernel_rfl) (by simp) ?_
                        refine (AllReadyIn.cons rfl (fun KK hKK => ?_) AllReadyIn.nil)
                        · go_simp
                          refine hKK _ _ ?_; clear hKK KK
                          refine wpAnyIn_done (by kernel_rfl) ?_ _
                          gi_wp2
                          exact And.intro HKT.out ⟨rfl, pre, y, A7, c7, rfl, HIX.out.no, ho1, hmay, (by rw [← HCV.out]; exact HC0.out), HRT.out⟩
                · go_simp
                  refine hKK _ _ ?_; clear hKK KK
                  refine wpAnyIn_ready (rs := [0]) (by kernel_rfl) (by simp) ?_
                  refine (AllReadyIn.cons rfl (fun KK hKK => ?_) AllReadyIn.nil)
                  · go_simp
                    refine hKK _ _ ?_; clear hKK KK
                    refine wpAnyIn_ready (rs := [3]) (by kernel_rfl) (by simp) ?_
                    refine (AllReadyIn.cons rfl (fun KK hKK => ?_) AllReadyIn.nil)
                    · rw [if_pos (by rfl)]
                      refine step_app_in (.tmp 45) (.tmp 47) 26 rfl _ _ rfl rfl hap ?_
                      refine hKK _ _ ?_; clear hKK KK
                      (try simp only [Act.put, List.setIfInBounds_toArray, List.set_cons_zero, List.set_cons_succ])
                      refine wpAnyIn_ready (rs := [5]) (by kernel_rfl) (by simp) ?_
                      refine (AllReadyIn.cons rfl (fun KK hKK => ?_) AllReadyIn.nil)
                      · go_simp
                        refine hKK _ _ ?_; clear hKK KK
                        refine wpAnyIn_ready (rs := [6]) (by kernel_rfl) (by simp) ?_
                        refine (AllReadyIn.cons rfl (fun KK hKK => ?_) AllReadyIn.nil)
                        · go_simp
                          refine hKK _ _ ?_; clear hKK KK
                          refine wpAnyIn_done (by kernel_rfl) ?_ _
                          gi_wp2
                          exact And.intro HKT.out ⟨rfl, pre, y, A7, c7, rfl, HIX.out.no, ho1, hmay, (by rw [← HCV.out]; exact HC0.out), HRT.out⟩
              · go_simp
                refine hKK _ _ ?_; clear hKK KK
                refine wpAnyIn_ready (rs := [0, 2]) (by kernel_rfl) (by simp) ?_
                refine (AllReadyIn.cons rfl (fun KK hKK => ?_) (AllReadyIn.cons rfl (fun KK hKK => ?_) AllReadyIn.nil))
                · go_simp
                  refine hKK _ _ ?_; clear hKK KK
                  refine wpAnyIn_ready (rs := [2]) (by kernel_rfl) (by simp) ?_
                  refine (AllReadyIn.cons rfl (fun KK hKK => ?_) AllReadyIn.nil)
                  · go_simp
                    refine hKK _ _ ?_; clear hKK KK
                    refine wpAnyIn_ready (rs := [3]) (by kernel_rfl) (by simp) ?_
                    refine (AllReadyIn.cons rfl (fun KK hKK => ?_) AllReadyIn.nil)
                    · rw [if_pos (by rfl)]
                      refine step_app_in (.tmp 45) (.tmp 47) 26 rfl _ _ rfl rfl hap ?_
                      refine hKK _ _ ?_; clear hKK KK
                      (try simp only [Act.put, List.setIfInBounds_toArray, List.set_cons_zero, List.set_cons_succ])
                      refine wpAnyIn_ready (rs := [5]) (by kernel_rfl) (by simp) ?_
                      refine (AllReadyIn.cons rfl (fun KK hKK => ?_) AllReadyIn.nil)
                      · go_simp
                        refine hKK _ _ ?_; clear hKK KK
                        refine wpAnyIn_ready (rs := [6]) (by kernel_rfl) (by simp) ?_
                        refine (AllReadyIn.cons rfl (fun KK hKK => ?_) AllReadyIn.nil)
                        · go_simp
                          refine hKK _ _ ?_; clear hKK KK
                          refine wpAnyIn_done (by kernel_rfl) ?_ _
                          gi_wp2
                          exact And.intro HKT.out ⟨rfl, pre, y, A7, c7, rfl, HIX.out.no, ho1, hmay, (by rw [← HCV.out]; exact HC0.out), HRT.out⟩
                · go_simp
                  refine hKK _ _ ?_; clear hKK KK
                  refine wpAnyIn_ready (rs := [0]) (by kernel_rfl) (by simp) ?_
                  refine (AllReadyIn.cons rfl (fun KK hKK => ?_) AllReadyIn.nil)
                  · go_simp
                    refine hKK _ _ ?_; clear hKK KK
                    refine wpAnyIn_ready (rs := [3]) (by kernel_rfl) (by simp) ?_
                    refine (AllReadyIn.cons rfl (fun KK hKK => ?_) AllReadyIn.nil)
                    · rw [if_pos (by rfl)]
                      refine step_app_in (.tmp 45) (.tmp 47) 26 rfl _ _ rfl rfl hap ?_
                      refine hKK _ _ ?_; clear hKK KK
                      (try simp only [Act.put, List.setIfInBounds_toArray, List.set_cons_zero, List.set_cons_succ])
                      refine wpAnyIn_ready (rs := [5]) (by kernel_rfl) (by simp) ?_
                      refine (AllReadyIn.cons rfl (fun KK hKK => ?_) AllReadyIn.nil)
                      · go_simp
                        refine hKK _ _ ?_; clear hKK KK
                        refine wpAnyIn_ready (rs := [6]) (by kernel_rfl) (by simp) ?_
                        refine (AllReadyIn.cons rfl (fun KK hKK => ?_) AllReadyIn.nil)
                        · go_simp
                          refine hKK _ _ ?_; clear hKK KK
                          refine wpAnyIn_done (by kernel_rfl) ?_ _
                          gi_wp2
                          exact And.intro HKT.out ⟨rfl, pre, y, A7, c7, rfl, HIX.out.no, ho1, hmay, (by rw [← HCV.out]; exact HC0.out), HRT.out⟩
            · go_simp
              refine hKK _ _ ?_; clear hKK KK
              refine wpAnyIn_ready (rs := [0, 1]) (by kernel_rfl) (by simp) ?_
              refine (AllReadyIn.cons rfl (fun KK hKK => ?_) (AllReadyIn.cons rfl (fun KK hKK => ?_) AllReadyIn.nil))
              · go_simp
                refine hKK _ _ ?_; clear hKK KK
                refine wpAnyIn_ready (rs := [1]) (by kernel_rfl) (by simp) ?_
                refine (AllReadyIn.cons rfl (fun KK hKK => ?_) AllReadyIn.nil)
                · go_simp
                  refine hKK _ _ ?_; clear hKK KK
                  refine wpAnyIn_ready (rs := [2]) (by kernel_rfl) (by simp) ?_
                  refine (AllReadyIn.cons rfl (fun KK hKK => ?_) AllReadyIn.nil)
                  · go_simp
                    refine hKK _ _ ?_; clear hKK KK
                    refine wpAnyIn_ready (rs := [3]) (by kernel_rfl) (by simp) ?_
                    refine (AllReadyIn.cons rfl (fun KK hKK => ?_) AllReadyIn.nil)
                    · rw [if_pos (by rfl)]
                      refine step_app_in (.tmp 45) (.tmp 47) 26 rfl _ _ rfl rfl hap ?_
                      refine hKK _ _ ?_; clear hKK KK
                      (try simp only [Act.put, List.setIfInBounds_toArray, List.set_cons_zero, List.set_cons_succ])
                      refine wpAnyIn_ready (rs := [5]) (by kernel_rfl) (by simp) ?_
                      refine (AllReadyIn.cons rfl (fun KK hKK => ?_) AllReadyIn.nil)
                      · go_simp
                        refine hKK _ _ ?_; clear hKK KK
                        refine wpAnyIn_ready (rs := [6]) (by kernel_rfl) (by simp) ?_
                        refine (AllReadyIn.cons rfl (fun KK hKK => ?_) AllReadyIn.nil)
                        · go_simp
                          refine hKK _ _ ?_; clear hKK KK
                          refine wpAnyIn_done (by kernel_rfl) ?_ _
                          gi_wp2
                          exact And.intro HKT.out ⟨rfl, pre, y, A7, c7, rfl, HIX.out.no, ho1, hmay, (by rw [← HCV.out]; exact HC0.out), HRT.out⟩
              · go_simp
                refine hKK _ _ ?_; clear hKK KK
                refine wpAnyIn_ready (rs := [0, 2]) (by kernel_rfl) (by simp) ?_
                refine (AllReadyIn.cons rfl (fun KK hKK => ?_) (AllReadyIn.cons rfl (fun KK hKK => ?_) AllReadyIn.nil))
                · go_simp
                  refine hKK _ _ ?_; clear hKK KK
                  refine wpAnyIn_ready (rs := [2]) (by kernel_rfl) (by simp) ?_
                  refine (AllReadyIn.cons rfl (fun KK hKK => ?_) AllReadyIn.nil)
                  · go_simp
                    refine hKK _ _ ?_; clear hKK KK
                    refine wpAnyIn_ready (rs := [3]) (by kernel_rfl) (by simp) ?_
                    refine (AllReadyIn.cons rfl (fun KK hKK => ?_) AllReadyIn.nil)
                    · rw [if_pos (by rfl)]
                      refine step_app_in (.tmp 45) (.tmp 47) 26 rfl _ _ rfl rfl hap ?_
                      refine hKK _ _ ?_; clear hKK KK
                      (try simp only [Act.put, List.setIfInBounds_toArray, List.set_cons_zero, List.set_cons_succ])
                      refine wpAnyIn_ready (rs := [5]) (by kernel_rfl) (by simp) ?_
                      refine (AllReadyIn.cons rfl (fun KK hKK => ?_) AllReadyIn.nil)
                      · go_simp
                        refine hKK _ _ ?_; clear hKK KK
                        refine wpAnyIn_ready (rs := [6]) (by kernel_rfl) (by simp) ?_
                        refine (AllReadyIn.cons rfl (fun KK hKK => ?_) AllReadyIn.nil)
                        · go_simp
                          refine hKK _ _ ?_; clear hKK KK
                          refine wpAnyIn_done (by kernel_rfl) ?_ _
                          gi_wp2
                          exact And.intro HKT.out ⟨rfl, pre, y, A7, c7, rfl, HIX.out.no, ho1, hmay, (by rw [← HCV.out]; exact HC0.out), HRT.out⟩
                · go_simp
                  refine hKK _ _ ?_; clear hKK KK
                  refine wpAnyIn_ready (rs := [0]) (by kernel_rfl) (by simp) ?_
                  refine (AllReadyIn.cons rfl (fun KK hKK => ?_) AllReadyIn.nil)
                  · go_simp
                    refine hKK _ _ ?_; clear hKK KK
                    refine wpAnyIn_ready (rs := [3]) (by kernel_rfl) (by simp) ?_
                    refine (AllReadyIn.cons rfl (fun KK hKK => ?_) AllReadyIn.nil)
                    · rw [if_pos (by rfl)]
                      refine step_app_in (.tmp 45) (.tmp 47) 26 rfl _ _ rfl rfl hap ?_
                      refine hKK _ _ ?_; clear hKK KK
                      (try simp only [Act.put, List.setIfInBounds_toArray, List.set_cons_zero, List.set_cons_succ])
                      refine wpAnyIn_ready (rs := [5]) (by kernel_rfl) (by simp) ?_
                      refine (AllReadyIn.cons rfl (fun KK hKK => ?_) AllReadyIn.nil)
                      · go_simp
                        refine hKK _ _ ?_; clear hKK KK
                        refine wpAnyIn_ready (rs := [6]) (by kernel_rfl) (by simp) ?_
                        refine (AllReadyIn.cons rfl (fun KK hKK => ?_) AllReadyIn.nil)
                        · go_simp
                          refine hKK _ _ ?_; clear hKK KK
                          refine wpAnyIn_done (by kernel_rfl) ?_ _
                          gi_wp2
                          exact And.intro HKT.out ⟨rfl, pre, y, A7, c7, rfl, HIX.out.no, ho1, hmay, (by rw [← HCV.out]; exact HC0.out), HRT.out⟩
            -- END TREE
        case done =>
          rintro D ys X hD rfl hI hK
          exfalso
          have hcn := Rel.cnt hob8 (n - k) HREL.out (by rw [HBL.out, HNN.out]; omega)
          obtain ⟨r', hr'⟩ : ∃ r', n - k = r' + 1 := ⟨n - k - 1, by omega⟩
          rw [hr'] at hcn
          refine HNE.out ?_
          rw [hr', ← hcn, cnt_succ K r' k l f (by rw [HNN.out]; omega), sum_zero]
          intro q hq
          have hq' := List.mem_filter.1 hq
          have hqo := List.mem_range.1 hq'.1
          have hfit := HREL.out.may (by rw [HBL.out, HNN.out]; omega) (show q < 8 by omega)
          rw [HBL.out, hq'.2] at hfit
          have hrl := HREL.out.nx (by rw [HBL.out, HNN.out]; omega) (show q < 8 by omega) hfit.symm
          rw [HBL.out] at hrl
          rw [Rel.cnt hob8 r' hrl (by rw [List.length_append, HBL.out, HNN.out]; simp; omega)]
          have := hI.no q hq
          rwa [hr', Nat.add_sub_cancel] at this
        case stop =>
          rintro D c pre X hD hS ⟨rfl, p0, y, A7, c7, rfl, hno, hyo, hmay, hnz, hrt⟩ hK
          have hmq : ∀ q, q < K.obs → K.may k l f q = fitB K bb q := fun q hq => by
            have := HREL.out.may (by rw [HBL.out, HNN.out]; omega) (show q < 8 by omega)
            rwa [HBL.out] at this
          have hfit := (hmq y hyo).symm.trans hmay
          have hrel' := HREL.out.nx (by rw [HBL.out, HNN.out]; omega) (show y < 8 by omega) hfit
          rw [HBL.out] at hrel'
          have hstep := rF_step (r := n - k - 1) hmq hS hno hnz hyo hfit
          rw [show n - k - 1 + 1 = n - k by omega] at hstep
          have hmk := hrt.mrk.cons hK (by have := HPQ.out; omega) (fun D' hD' => by have := HMD.out D' hD'; omega)
          have hbl' : (bb ++ [y]).length = k + 1 := by rw [List.length_append, HBL.out]; rfl
          have hbX : base ≤ X.heap.size := by have := (Array.getElem?_eq_some_iff.1 hK).1; have := HPQ.out; omega
          have heq' := HEQ.out.trans hstep
          have HFIN := Lib.hid (And.intro hrel' (And.intro hmk (And.intro hbl' (And.intro hbX (And.intro heq' (And.intro hnz hrt))))))
          have hy8 : y ≤ 8 := by omega
          clear hmq hfit hrel' hstep hmk hbl' hbX heq' hK hrt hmay hyo hno hnz
          refine wpIn_wide.2 ?_
          go_wp2
          refine Handed.intro (gk - 1) (by omega) (hJ _ _ _ ?_)
          obtain ⟨hr1, hr2, hr3, hr4, hr5, hr6, hr7⟩ := HFIN.out
          rw [show n - k - 1 = n - (k + 1) by omega] at hr5 hr6 hr7
          exact ⟨_, _, _, _, _, _, k + 1, y, K.nx k f y, bb ++ [y], A7, c7, W6.heap.size + 1, ⟨by omega, hr3, hy8, hr1, hr6, hr5, hr4, ⟨hr7.q0, hr7.q1, hr7.q2, hr7.qm, hr7.st, hr7.sf, hr7.c12, hr7.f12, hr7.own, hr7.me, hr2, hr7.bl, hr7.no, hr7.og, hr7.pp⟩⟩, rfl⟩
end Go.Proofs.Ytomgaiokmdcjmaa
