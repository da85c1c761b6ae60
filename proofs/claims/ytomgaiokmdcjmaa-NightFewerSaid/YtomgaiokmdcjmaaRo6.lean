/-
  count of crews, walked. No conditions.
-/
import Derived.Test.YtomgaiokmdcjmaaRo5
import Derived.Deep.Cut
import Derived.Test.YtomgaiokmdcjmaaPre2
namespace Go.Proofs.Ytomgaiokmdcjmaa
open Go.RowKit Go.Deep Go.Shelf
attribute [local go_sem] Oper.semAt_some
set_option linter.unusedVariables false
set_option linter.unusedSimpArgs false
theorem bodyPostM_end {F : Fence} {n : Nat} {P : Program} {fn : Func} {R : Ending → World → Prop} {a : Act} {w : World} {v : Value}
    (hr : (results fn a.tmps).run P w = .ok v w) (hd : a.defers = []) (hR : R (.returned v) w) : bodyPostM F n P fn R .ret a w := by
  show LeavesInM F n P fn a.tmps R a.defers .returning w
  rw [hd]
  exact ⟨v, hr, hR⟩
/-- What holds between two rounds of count. -/
structure CntI (K : Crw) (w : World) (p0 p1 p2 p3 : Nat) (A : Option Addr) (N cap ob ms n l : Nat) (f : Nat → Nat) (r Bm c : Nat) (pre : List Nat) (W : World) : Prop where
  me : MemoAt K W Bm (c + pre.length * ndN r)
  q0 : W.cell? ⟨p0, 0, none⟩ = some (.slice A N cap)
  q1 : W.cell? ⟨p0, 1, none⟩ = some (.int .i64 ob)
  q2 : W.cell? ⟨p0, 2, none⟩ = some (.int .i64 ms)
  q3 : W.cell? ⟨p2, 0, none⟩ = some (.map (some Bm))
  st : StA W p1 n l f
  cn : W.cell? ⟨p3, 0, none⟩ = some (.int .i64 ((pre.map fun o => K.cnt r o (K.nx n f o)).sum : Nat))
  fn : W.frozen? ⟨p3, 0, none⟩ = false
  g : w.grownBy W (some Bm)
  ne : Bm < w.heap.size ∧ w.heap.size ≤ p0 ∧ w.heap.size ≤ p1 ∧ w.heap.size ≤ p2 ∧ w.heap.size ≤ p3 ∧ p3 ≠ p0 ∧ p3 ≠ p1 ∧ p3 ≠ p2
section
variable {K : Crw} {w A' B : World} {p0 p1 p2 p3 : Nat} {A : Option Addr} {N cap ob ms n l : Nat} {f : Nat → Nat} {r Bm c : Nat} {pre : List Nat}
theorem CntI.keep (h : CntI K w p0 p1 p2 p3 A N cap ob ms n l f r Bm c pre A') (hb : Below A'.heap.size A' B) : CntI K w p0 p1 p2 p3 A N cap ob ms n l f r Bm c pre B :=
  ⟨h.me.step hb, keep_cell hb h.q0, keep_cell hb h.q1, keep_cell hb h.q2, keep_cell hb h.q3, h.st.step hb, keep_cell hb h.cn, keep_frozen hb (cell?_lt h.cn) h.fn, grown_step h.g hb, h.ne⟩
theorem CntI.blocks (h : CntI K w p0 p1 p2 p3 A N cap ob ms n l f r Bm c pre A') {c' : Nat} (hme : MemoAt K B Bm (c' + pre.length * ndN r)) (hg : w.grownBy B (some Bm)) (e : ∀ k, (k = p0 ∨ k = p1 ∨ k = p2 ∨ k = p3) → B.heap[k]? = A'.heap[k]?) : CntI K w p0 p1 p2 p3 A N cap ob ms n l f r Bm c' pre B :=
  ⟨hme, (World.cell?_of_block (a := ⟨p0, 0, none⟩) (e p0 (by simp))).trans h.q0, (World.cell?_of_block (a := ⟨p0, 1, none⟩) (e p0 (by simp))).trans h.q1, (World.cell?_of_block (a := ⟨p0, 2, none⟩) (e p0 (by simp))).trans h.q2,
    (World.cell?_of_block (a := ⟨p2, 0, none⟩) (e p2 (by simp))).trans h.q3, h.st.of_block (e p1 (by simp)), (World.cell?_of_block (a := ⟨p3, 0, none⟩) (e p3 (by simp))).trans h.cn, (World.frozen?_of_block (a := ⟨p3, 0, none⟩) (e p3 (by simp))).trans h.fn, hg, h.ne⟩
theorem CntI.put (h : CntI K w p0 p1 p2 p3 A N cap ob ms n l f r Bm c pre B) (p : Nat) (o : Obj) (hp : w.heap.size ≤ p) (hp' : p ≠ p0 ∧ p ≠ p1 ∧ p ≠ p2 ∧ p ≠ p3) : CntI K w p0 p1 p2 p3 A N cap ob ms n l f r Bm c pre (B.putObj p o) := by
  have hg : B.grownBy (B.putObj p o) (some p) := ⟨rfl, rfl, rfl, by simp, fun k hk hr => World.putObj_heap_other (by intro e; exact hr (by rw [e]))⟩
  have bm := h.ne.1
  have e : ∀ k, k ≠ p → (B.putObj p o).heap[k]? = B.heap[k]? := fun k hk => World.putObj_heap_other (by omega)
  refine h.blocks (h.me.kept hg (by intro e; injection e; omega)) ⟨h.g.os, h.g.tape, h.g.output, by have := h.g.size; simpa using this, fun i hi hr => (e i (by omega)).trans (h.g.block i hi hr)⟩ (fun k hk => e k (by omega))
theorem CntI.call (h : CntI K w p0 p1 p2 p3 A N cap ob ms n l f r Bm c pre A') (hM : MemoAt K B Bm (c + pre.length * ndN r + ndN r)) (hg : A'.grownBy B (some Bm)) : CntI K w p0 p1 p2 p3 A N cap ob ms n l f r Bm (c + ndN r) pre B := by
  have l0 : p0 < A'.heap.size := cell?_lt h.q0
  have l1 := h.st.lt
  have l2 : p2 < A'.heap.size := cell?_lt h.q3
  have l3 : p3 < A'.heap.size := cell?_lt h.cn
  have hne := h.ne
  refine h.blocks (hM.mono (by omega)) ⟨hg.os.trans h.g.os, hg.tape.trans h.g.tape, hg.output.trans h.g.output, Nat.le_trans h.g.size hg.size, fun i hi hr => (hg.block i (Nat.lt_of_lt_of_le hi h.g.size) hr).trans (h.g.block i hi hr)⟩ (fun k hk => hg.block k (by omega) (by intro e; injection e; omega))
theorem CntI.push (h : CntI K w p0 p1 p2 p3 A N cap ob ms n l f r Bm (c + ndN r) pre A') {o S cv : Nat} (hS : S = (pre.map fun o => K.cnt r o (K.nx n f o)).sum) (hcv : cv = K.cnt r o (K.nx n f o)) (hb : Below A'.heap.size A' B) :
    CntI K w p0 p1 p2 p3 A N cap ob ms n l f r Bm c (pre ++ [o]) (B.setCell ⟨p3, 0, none⟩ (.int .i64 ((S + cv : Nat)))) := by
  have h := h.keep hb
  have hne := h.ne
  have hg : B.grownBy (B.setCell ⟨p3, 0, none⟩ (.int .i64 ((S + cv : Nat)))) (some p3) := ⟨rfl, rfl, rfl, by simp [World.setCell], fun k hk hr => Below.heap_setCell _ _ _ _ (by intro e; exact hr (by rw [e]))⟩
  have l0 : p0 < B.heap.size := cell?_lt h.q0
  have l1 := h.st.lt
  have l2 : p2 < B.heap.size := cell?_lt h.q3
  have e : ∀ k, k < B.heap.size → k ≠ p3 → (B.setCell ⟨p3, 0, none⟩ (.int .i64 ((S + cv : Nat)))).heap[k]? = B.heap[k]? := fun k hk hr => hg.block k hk (by intro e; injection e with e; exact hr e)
  refine ⟨?_, (World.cell?_of_block (a := ⟨p0, 0, none⟩) (e p0 l0 (by omega))).trans h.q0, (World.cell?_of_block (a := ⟨p0, 1, none⟩) (e p0 l0 (by omega))).trans h.q1, (World.cell?_of_block (a := ⟨p0, 2, none⟩) (e p0 l0 (by omega))).trans h.q2,
    (World.cell?_of_block (a := ⟨p2, 0, none⟩) (e p2 l2 (by omega))).trans h.q3, h.st.of_block (e p1 l1 (by omega)), ?_, by rw [World.frozen?_setCell]; exact h.fn,
    ⟨h.g.os, h.g.tape, h.g.output, Nat.le_trans h.g.size hg.size, fun i hi hr => (e i (Nat.lt_of_lt_of_le hi h.g.size) (by omega)).trans (h.g.block i hi hr)⟩, h.ne⟩
  · have := (h.me.kept hg (by intro e; injection e; omega)).mono (d := c + (pre ++ [o]).length * ndN r) (by rw [List.length_append, List.length_singleton, Nat.add_mul, Nat.one_mul]; omega)
    exact this
  · rw [World.cell?_setCell_same _ _ _ h.cn, List.map_append, List.sum_append, hS, hcv]
    simp
end
theorem count_end {R : Ending → World → Prop} {Z : World} {t0 t1 t2 t3 t4 t5 u : Value} {tl : List Value} (D : Nat) (hK : Z.heap[D]? = some (.deferred (some []))) (hR : R (.returned u) (Z.putObj D (.deferred none))) :
    bodyPostM Fence.wide 5 Try.prog Try.f73 R .ret { tmps := (t0 :: t1 :: t2 :: t3 :: t4 :: t5 :: u :: tl).toArray, defers := [{ target := .collected D, args := #[] }] } Z := by
  refine ⟨by simp, .inl ⟨_, _, rfl, run_takeDeferred hK, ?_⟩⟩
  refine ⟨_, ?_, hR⟩
  simp [results, Try.results73, go_sem, *]
theorem rdl_grown {w W : World} {A : Option Addr} {l : List Int} {Bm : Nat} (h : RdL w w.heap.size inE 1 A l) (hg : w.grownBy W (some Bm)) (hA : ∀ b off, A = some ⟨b, off, none⟩ → 0 < l.length → b ≠ Bm) : RdL W W.heap.size inE 1 A l := by
  intro h0
  obtain ⟨b, off, e, hlt, hc⟩ := h h0
  refine ⟨b, off, e, Nat.lt_of_lt_of_le hlt hg.size, fun i hi j v hv => ?_⟩
  have hb := hg.block b hlt (by intro e'; injection e' with e'; exact hA b off e h0 e')
  exact (World.cell?_of_block (a := ⟨b, _, none⟩) hb).trans (hc i hi j v hv)
set_option maxHeartbeats 8000000 in
set_option maxRecDepth 100000 in
theorem count_c (K : Crw) (N : Nat) (hN : K.can.length = N) (hN2 : N ≤ 12) (ho : K.obs ≤ 8) (hm : K.most ≤ 12) (hcb : ∀ x ∈ K.can, x < 256) (A : Option Addr) (cap : Nat) : ∀ (r n l : Nat) (f : Nat → Nat) (Bm c : Nat) (w : World), r + n = N → l ≤ 8 → (∀ j, j < 8 → f j ≤ n) → MemoAt K w Bm c → c + ndN r ≤ 1000000000000 →
    RdL w w.heap.size inE 1 A (K.can.map Int.ofNat) → (∀ b off, A = some ⟨b, off, none⟩ → 0 < N → b ≠ Bm) →
    Calls Try.prog 73 #[.agg #[.slice A N cap, .int .i64 K.obs, .int .i64 K.most], .agg #[.int .i64 n, .int .i64 l, .int .i64 (f 0), .int .i64 (f 1), .int .i64 (f 2), .int .i64 (f 3), .int .i64 (f 4), .int .i64 (f 5), .int .i64 (f 6), .int .i64 (f 7)], .map (some Bm)] w fun e w' => e = .returned (.int .i64 (K.cnt r l f : Nat)) ∧ MemoAt K w' Bm (c + ndN r) ∧ w.grownBy w' (some Bm) := by
  intro r
  induction r with
  | zero =>
    intro n l f Bm c w hr hl hf hme hc hA hAk
    obtain rfl : n = N := by omega
    have HM := Lib.hid hme
    clear hme hc hA hAk hr hf hl hcb hN
    generalize K.obs = ob at *
    generalize K.most = ms at *
    refine (callsIn_wide (n := 5)).1 ?_
    refine callsIn_of_wp_marks Try.func73 rfl trivial ?_ rfl
    simp only [Try.ntmps73, List.size_toArray, List.length_cons, List.length_nil, Nat.reduceAdd, Nat.reduceSub, Array.replicate_succ, Array.replicate_zero, List.push_toArray, List.append_toArray, List.nil_append, List.cons_append]
    refine wpIn_wide.2 ?_
    go_wp2
    (try simp only [Exit.inBlock, Exit.then])
    refine bodyPostM_end (v := .int .i64 1) (by simp [results, Try.results73, go_sem]) rfl ?_
    have hb : Below w.heap.size w (((w.alloc (.cells #[.slice A n cap, .int .i64 ob, .int .i64 ms] 80)).alloc (.cells #[.int .i64 n, .int .i64 l, .int .i64 (f 0), .int .i64 (f 1), .int .i64 (f 2), .int .i64 (f 3), .int .i64 (f 4), .int .i64 (f 5), .int .i64 (f 6), .int .i64 (f 7)] 84)).alloc (.cells #[.map (some Bm)] 86)) := by (repeat (first | (with_reducible exact Below.refl _ _) | (with_reducible assumption) | (with_reducible refine Below.drew ?_) | (with_reducible refine Below.allocS ?_ _) | (with_reducible refine Below.setCell ?_ ?_ _) | (with_reducible refine Below.step ?_ (by assumption)) | (with_reducible refine Below.drewN' ?_ _))); (try any_goals (first | (with_reducible assumption) | (simp; done) | (simp; omega) | omega))
    exact ⟨rfl, (HM.out.step hb).mono (Nat.le_refl _), grown_after hb ⟨rfl, rfl, rfl, Nat.le_refl _, fun i _ _ => rfl⟩⟩
  | succ r ih =>
    intro n l f Bm c w hr hl hf hme hc hA hAk
    have hnN : n < N := by omega
    have d1 : ((n : Int) == (N : Int)) = false := by simp; omega
    obtain ⟨kl, hkl⟩ := st_key n l f (by omega) (by omega) (fun j hj => by have := hf j hj; omega)
    obtain ⟨F, hF, hMF⟩ := hme
    have HLA : Hid (∀ X, Below w.heap.size w X → (Instr.lookup 86 (.map (some Bm)) (.agg #[.int .i64 n, .int .i64 l, .int .i64 (f 0), .int .i64 (f 1), .int .i64 (f 2), .int .i64 (f 3), .int .i64 (f 4), .int .i64 (f 5), .int .i64 (f 6), .int .i64 (f 7)]) true).run Try.prog X = .ok (.tuple #[(F kl).getD (.int .i64 0), .bool (F kl).isSome]) X) :=
      Lib.hid (fun X hb => (hF.step hb).look_ok st_keyed Try.underlying86 (by kernel_rfl) hkl)
    have ybm := hF.lt
    have HKL := Lib.hid hkl
    have HF := Lib.hid hF
    have HMF := Lib.hid hMF
    have HIH := Lib.hid ih
    have HA := Lib.hid hA
    have HAK := Lib.hid hAk
    have HFB := Lib.hid hf
    have HCB := Lib.hid hcb
    have HNN := Lib.hid hN
    have HV : Hid (∀ v, F kl = some v → v = .int .i64 (K.cnt (r + 1) l f : Nat)) := Lib.hid (fun v hv => by
      have := hMF.look ho hkl hv
      rwa [show K.can.length - n = r + 1 by omega] at this)
    obtain ⟨ob, hob⟩ : ∃ ob, ob = K.obs := ⟨_, rfl⟩
    obtain ⟨ms, hms⟩ : ∃ ms, ms = K.most := ⟨_, rfl⟩
    rw [← hob, ← hms]
    have HOB := Lib.hid hob
    have HMS := Lib.hid hms
    rw [← hob] at ho
    rw [← hms] at hm
    clear hkl hF hMF ih hA hAk hf hcb hN hob hms
    refine (callsIn_wide (n := 5)).1 ?_
    refine callsIn_of_wp_marks Try.func73 rfl trivial ?_ rfl
    simp only [Try.ntmps73, List.size_toArray, List.length_cons, List.length_nil, Nat.reduceAdd, Nat.reduceSub, Array.replicate_succ, Array.replicate_zero, List.push_toArray, List.append_toArray, List.nil_append, List.cons_append]
    refine wpIn_wide.2 ?_
    go_upto_region 3 with fail
    obtain ⟨W3, hW3⟩ : ∃ W3, W3 = (((w.alloc (.cells #[.slice A N cap, .int .i64 ob, .int .i64 ms] 80)).alloc (.cells #[.int .i64 n, .int .i64 l, .int .i64 (f 0), .int .i64 (f 1), .int .i64 (f 2), .int .i64 (f 3), .int .i64 (f 4), .int .i64 (f 5), .int .i64 (f 6), .int .i64 (f 7)] 84)).alloc (.cells #[.map (some Bm)] 86)) := ⟨_, rfl⟩
    have b3 : Below w.heap.size w W3 := by rw [hW3]; (repeat (first | (with_reducible exact Below.refl _ _) | (with_reducible assumption) | (with_reducible refine Below.drew ?_) | (with_reducible refine Below.allocS ?_ _) | (with_reducible refine Below.setCell ?_ ?_ _) | (with_reducible refine Below.step ?_ (by assumption)) | (with_reducible refine Below.drewN' ?_ _))); (try any_goals (first | (with_reducible assumption) | (simp; done) | (simp; omega) | omega))
    have z3 : W3.heap.size = w.heap.size + 3 := by rw [hW3]; simp
    have hst3 : StA W3 (w.heap.size + 1) n l f := by
      rw [hW3]
      have := (st_new (w.alloc (.cells #[.slice A N cap, .int .i64 ob, .int .i64 ms] 80)) n l f 84).1
      rw [World.size_alloc] at this
      exact this.step (Below.allocS (Below.refl _ _) _)
    have q0 : W3.cell? ⟨w.heap.size, 0, none⟩ = some (.slice A N cap) := by rw [hW3]; simp [go_sem]
    have q1 : W3.cell? ⟨w.heap.size, 1, none⟩ = some (.int .i64 ob) := by rw [hW3]; simp [go_sem]
    have q2 : W3.cell? ⟨w.heap.size, 2, none⟩ = some (.int .i64 ms) := by rw [hW3]; simp [go_sem]
    have q3 : W3.cell? ⟨w.heap.size + 2, 0, none⟩ = some (.map (some Bm)) := by rw [hW3]; simp [go_sem]
    have e0 : W3.cell? ⟨w.heap.size + 1, 2, none⟩ = some (.int .i64 (f 0)) := hst3.cs 0 (by omega)
    have e1 : W3.cell? ⟨w.heap.size + 1, 3, none⟩ = some (.int .i64 (f 1)) := hst3.cs 1 (by omega)
    have e2 : W3.cell? ⟨w.heap.size + 1, 4, none⟩ = some (.int .i64 (f 2)) := hst3.cs 2 (by omega)
    have e3 : W3.cell? ⟨w.heap.size + 1, 5, none⟩ = some (.int .i64 (f 3)) := hst3.cs 3 (by omega)
    have e4 : W3.cell? ⟨w.heap.size + 1, 6, none⟩ = some (.int .i64 (f 4)) := hst3.cs 4 (by omega)
    have e5 : W3.cell? ⟨w.heap.size + 1, 7, none⟩ = some (.int .i64 (f 5)) := hst3.cs 5 (by omega)
    have e6 : W3.cell? ⟨w.heap.size + 1, 8, none⟩ = some (.int .i64 (f 6)) := hst3.cs 6 (by omega)
    have e7 : W3.cell? ⟨w.heap.size + 1, 9, none⟩ = some (.int .i64 (f 7)) := hst3.cs 7 (by omega)
    have c0 := hst3.c0
    have c1 := hst3.c1
    have hla := HLA.out W3 b3
    have HST3 := Lib.hid hst3
    rw [← hW3]
    clear hW3 hst3
    cases hv : F kl with
    | some v =>
      obtain rfl := HV.out v hv
      rw [hv] at hla
      dsimp only [Option.getD_some, Option.isSome_some] at hla
      go_wp2
      (try simp only [Exit.inBlock, Exit.then])
      refine bodyPostM_end (v := .int .i64 (K.cnt (r + 1) l f : Nat)) (by simp [results, Try.results73, go_sem]) rfl ?_
      have hb4 : Below w.heap.size w (W3.alloc (.cells #[.int .i64 (K.cnt (r + 1) l f : Nat)] 3)) := Below.allocS b3 _
      exact ⟨rfl, (MemoAt.step ⟨F, HF.out, HMF.out⟩ hb4).mono (by omega), grown_after hb4 ⟨rfl, rfl, rfl, Nat.le_refl _, fun i _ _ => rfl⟩⟩
    | none =>
      rw [hv] at hla
      dsimp only [Option.getD_none, Option.isSome_none] at hla
      go_wp2_with fail
      refine (next_c _ _ _ _ _ _ _ _ _).mono ?_
      rintro e w5 ⟨rfl, hw5⟩
      subst hw5
      go_wp2_with fail
      obtain ⟨W4, hW4⟩ : ∃ W4, W4 = W3.alloc (.cells #[.int .i64 0] 3) := ⟨_, rfl⟩
      obtain ⟨W5, hW5⟩ : ∃ W5, W5 = ((W4.alloc (.cells #[.slice A N cap, .int .i64 ob, .int .i64 ms] 80)).alloc (.cells #[.int .i64 n, .int .i64 l, .int .i64 (f 0), .int .i64 (f 1), .int .i64 (f 2), .int .i64 (f 3), .int .i64 (f 4), .int .i64 (f 5), .int .i64 (f 6), .int .i64 (f 7)] 84)) := ⟨_, rfl⟩
      have b4 : Below W3.heap.size W3 W4 := by rw [hW4]; exact Below.allocS (Below.refl _ _) _
      have b5 : Below W4.heap.size W4 W5 := by rw [hW5]; (repeat (first | (with_reducible exact Below.refl _ _) | (with_reducible assumption) | (with_reducible refine Below.drew ?_) | (with_reducible refine Below.allocS ?_ _) | (with_reducible refine Below.setCell ?_ ?_ _) | (with_reducible refine Below.step ?_ (by assumption)) | (with_reducible refine Below.drewN' ?_ _))); (try any_goals (first | (with_reducible assumption) | (simp; done) | (simp; omega) | omega))
      have z4 : W4.heap.size = w.heap.size + 4 := by rw [hW4]; simp [z3]
      have z5 : W5.heap.size = w.heap.size + 6 := by rw [hW5]; simp [z4]
      have hst5 : StA W5 (w.heap.size + 5) n l f := by
        rw [hW5]
        have := (st_new (W4.alloc (.cells #[.slice A N cap, .int .i64 ob, .int .i64 ms] 80)) n l f 84).1
        rw [World.size_alloc, z4] at this
        exact this
      have n0 : W5.cell? ⟨w.heap.size + 3, 0, none⟩ = some (.int .i64 0) := keep_cell b5 (by rw [hW4, ← z3]; simp [go_sem])
      have n1 : W5.frozen? ⟨w.heap.size + 3, 0, none⟩ = false := keep_frozen b5 (by omega) (by rw [hW4, ← z3]; exact World.frozen?_alloc_new W3 _ _ _)
      have k0 : W5.cell? ⟨w.heap.size + 4, 0, none⟩ = some (.slice A N cap) := by rw [hW5, ← z4]; simp [go_sem]
      have k1 : W5.cell? ⟨w.heap.size + 4, 1, none⟩ = some (.int .i64 ob) := by rw [hW5, ← z4]; simp [go_sem]
      have k2 : W5.cell? ⟨w.heap.size + 4, 2, none⟩ = some (.int .i64 ms) := by rw [hW5, ← z4]; simp [go_sem]
      have b35 : Below W3.heap.size W3 W5 := Below.step b4 b5
      have bw5 : Below w.heap.size w W5 := Below.step b3 b35
      rw [← hW4, ← hW5]
      obtain ⟨p5, hp5⟩ : ∃ p5, p5 = w.heap.size + 3 + 1 + 1 := ⟨_, rfl⟩
      obtain ⟨p4, hp4⟩ : ∃ p4, p4 = w.heap.size + 3 + 1 := ⟨_, rfl⟩
      obtain ⟨p3, hp3⟩ : ∃ p3, p3 = w.heap.size + 3 := ⟨_, rfl⟩
      obtain ⟨p2, hp2⟩ : ∃ p2, p2 = w.heap.size + 1 + 1 := ⟨_, rfl⟩
      obtain ⟨p1, hp1⟩ : ∃ p1, p1 = w.heap.size + 1 := ⟨_, rfl⟩
      obtain ⟨p0, hp0⟩ : ∃ p0, p0 = w.heap.size := ⟨_, rfl⟩
      rw [← hp5, ← hp4, ← hp3, ← hp2, ← hp1, ← hp0]
      have i0 : CntI K w p0 p1 p2 p3 A N cap ob ms n l f r Bm c [] W5 := ⟨(MemoAt.step ⟨F, HF.out, HMF.out⟩ bw5).mono (by omega), by rw [hp0]; exact keep_cell b35 q0, by rw [hp0]; exact keep_cell b35 q1, by rw [hp0]; exact keep_cell b35 q2, by rw [hp2]; exact keep_cell b35 q3, by rw [hp1]; exact HST3.out.step b35, by rw [hp3]; exact n0, by rw [hp3]; exact n1, grown_after bw5 ⟨rfl, rfl, rfl, Nat.le_refl _, fun i _ _ => rfl⟩, by omega⟩
      have HI0 := Lib.hid i0
      have hA5 : RdL W5 W5.heap.size inE 1 A (K.can.map Int.ofNat) := HA.out.step bw5
      have hseq := next_stops K N HNN.out hN2 (by rw [← HOB.out]; exact ho) (by rw [← HMS.out]; exact hm) HCB.out A cap n l f hnN (fun j hj => by have := HFB.out j hj; omega)
        (fun k => k ≠ Bm ∧ k ≠ p3) p4 p5 ⟨by omega, by omega⟩ ⟨by omega, by omega⟩ W5 hA5 (fun b off e => ⟨HAK.out b off e (by omega), by
          obtain ⟨b', off', e', hlt, -⟩ := HA.out (by rw [List.length_map, HNN.out]; omega)
          rw [e] at e'; injection e' with e'; injection e' with e1 e2; omega⟩) (by rw [hp4]; exact k0) (by rw [← HOB.out, hp4]; exact k1) (by rw [← HMS.out, hp4]; exact k2) (by rw [hp5]; exact hst5)
      obtain ⟨m1, hm1⟩ : ∃ m1, m1 = n + 1 := ⟨_, rfl⟩
      rw [← hm1] at hseq
      have HM1 := Lib.hid hm1
      have HSEQ := Lib.hid hseq
      have HP := Lib.hid (show p0 = w.heap.size ∧ p1 = w.heap.size + 1 ∧ p2 = w.heap.size + 2 ∧ p3 = w.heap.size + 3 ∧ W5.heap.size = w.heap.size + 6 by omega)
      clear hW4 hW5 i0 q0 q1 q2 q3 e0 e1 e2 e3 e4 e5 e6 e7 c0 c1 hla hm1 hseq hA5 k0 k1 k2 n0 n1 hst5 hp0 hp1 hp2 hp3 hp4 hp5
      refine (wpIn_wide (n := 5)).1 ?_
      refine range_set (n := 3) (gf := 114) (lb := #[.pointer (some ⟨p4, 0, none⟩), .pointer (some ⟨p5, 0, none⟩)]) rfl (enters_of Try.func114 (by kernel_rfl) rfl)
        HSEQ.out (Below.refl _ _) ⟨by have := HP.out; omega, by have := HP.out; omega⟩ ⟨by have := HP.out; omega, by have := HP.out; omega⟩ (fun _ => rfl)
        (CntI K w p0 p1 p2 p3 A N cap ob ms n l f r Bm c) (fun _ _ _ => False) (fun _ A' B h hb => h.keep hb) (fun _ _ _ _ h _ => h) (fun _ A' o h => h.put _ o (by have := HP.out; omega) (by have := HP.out; omega)) (fun _ _ _ _ h => h) HI0.out
        (fun x a' W => ∃ Bx, W.heap[Bx]? = some (Obj.cells #[.int .i64 m1, .int .i64 x, .int .i64 (K.nx n f x 0), .int .i64 (K.nx n f x 1), .int .i64 (K.nx n f x 2), .int .i64 (K.nx n f x 3), .int .i64 (K.nx n f x 4), .int .i64 (K.nx n f x 5), .int .i64 (K.nx n f x 6), .int .i64 (K.nx n f x 7)] 84 (0, 0)) ∧ a' = { tmps := #[.agg #[.slice A N cap, .int .i64 ob, .int .i64 ms], .agg #[.int .i64 n, .int .i64 l, .int .i64 (f 0), .int .i64 (f 1), .int .i64 (f 2), .int .i64 (f 3), .int .i64 (f 4), .int .i64 (f 5), .int .i64 (f 6), .int .i64 (f 7)], .map (some Bm), .pointer (some ⟨p0, 0, none⟩), .pointer (some ⟨p1, 0, none⟩), .pointer (some ⟨p2, 0, none⟩), .int .i64 0, .pointer (some ⟨p3, 0, none⟩), .bool false, undef, .pointer (some ⟨Bx, 0, none⟩), .pointer (some ⟨p1, 0, none⟩), .int .i64 n, .pointer (some ⟨p0, 0, none⟩), .slice A N cap, .int .i64 N, .bool false, .tuple #[.int .i64 0, .bool false], .map (some Bm), .agg #[.int .i64 n, .int .i64 l, .int .i64 (f 0), .int .i64 (f 1), .int .i64 (f 2), .int .i64 (f 3), .int .i64 (f 4), .int .i64 (f 5), .int .i64 (f 6), .int .i64 (f 7)], .tuple #[.int .i64 0, .bool false], .int .i64 0, .bool false, .bool false, .bool true, .agg #[.slice A N cap, .int .i64 ob, .int .i64 ms], .agg #[.int .i64 n, .int .i64 l, .int .i64 (f 0), .int .i64 (f 1), .int .i64 (f 2), .int .i64 (f 3), .int .i64 (f 4), .int .i64 (f 5), .int .i64 (f 6), .int .i64 (f 7)], .func (.func 114) #[] #[.pointer (some ⟨p4, 0, none⟩), .pointer (some ⟨p5, 0, none⟩)], .int .i64 x, .agg #[.int .i64 m1, .int .i64 x, .int .i64 (K.nx n f x 0), .int .i64 (K.nx n f x 1), .int .i64 (K.nx n f x 2), .int .i64 (K.nx n f x 3), .int .i64 (K.nx n f x 4), .int .i64 (K.nx n f x 5), .int .i64 (K.nx n f x 6), .int .i64 (K.nx n f x 7)], undef, undef, undef, undef, undef, undef, undef, undef, undef, undef], defers := [] })
        (fun x a' W k r o h hk => by
          obtain ⟨Bx, h1, h2⟩ := h
          refine ⟨Bx, ?_, h2⟩
          rw [World.putObj_heap_other (by rintro rfl; rw [h1] at hk; cases hk)]; exact h1)
        ?assign ?body ?done ?stop
      case assign =>
        intro l0 pre x W K' hi hs hK'
        gi_wp2
        exact hK' _ _ ((KT.refl _ _).alloc _) (hi.keep ((Below.refl W.heap.size W).alloc (Nat.le_refl _) _)) ⟨W.heap.size, World.alloc_heap_new _ _, rfl⟩
      case body =>
        rintro l0 pre o a' X hl ⟨rr, hrr⟩ hI ⟨Bx, hBx, rfl⟩ hlen ⟨ho1, hmay⟩
        have HI := Lib.hid hI
        obtain ⟨S0, hS0⟩ : ∃ S0, S0 = (pre.map fun o => K.cnt r o (K.nx n f o)).sum := ⟨_, rfl⟩
        obtain ⟨cv, hcv⟩ : ∃ cv, cv = K.cnt r o (K.nx n f o) := ⟨_, rfl⟩
        have HS0 := Lib.hid hS0
        have HCV := Lib.hid hcv
        have hobk : K.obs ≤ 8 := by rw [← HOB.out]; exact ho
        have hS8 : S0 ≤ 8 ^ r * pre.length := by rw [hS0]; exact sum_le (fun o _ => cnt_le hobk r o _)
        have hcv8 : cv ≤ 8 ^ r := by rw [hcv]; exact cnt_le hobk r o _
        have hp8 := pow8_le (show r + 1 ≤ 12 by omega)
        have hS9 : S0 + cv ≤ 68719476736 := by
          have h1 : 8 ^ r * (pre.length + 1) ≤ 8 ^ r * 8 := Nat.mul_le_mul_left _ (by omega)
          rw [Nat.mul_add, Nat.mul_one] at h1
          rw [Nat.pow_succ] at hp8
          omega
        have v1 : IntKind.i64.wrap ((S0 : Int) + (cv : Int)) = ((S0 + cv : Nat) : Int) := IntWalk.i64_in _ (by omega)
        have q0 := hI.q0
        have q1 := hI.q1
        have q2 := hI.q2
        have q3 := hI.q3
        have cn := hI.cn
        have fn := hI.fn
        rw [← hS0] at cn
        have hne := hI.ne
        have d0 : X.cell? ⟨Bx, 0, none⟩ = some (.int .i64 m1) := by simp [World.cell?, hBx]
        have d1 : X.cell? ⟨Bx, 1, none⟩ = some (.int .i64 o) := by simp [World.cell?, hBx]
        have d2 : X.cell? ⟨Bx, 2, none⟩ = some (.int .i64 (K.nx n f o 0)) := by simp [World.cell?, hBx]
        have d3 : X.cell? ⟨Bx, 3, none⟩ = some (.int .i64 (K.nx n f o 1)) := by simp [World.cell?, hBx]
        have d4 : X.cell? ⟨Bx, 4, none⟩ = some (.int .i64 (K.nx n f o 2)) := by simp [World.cell?, hBx]
        have d5 : X.cell? ⟨Bx, 5, none⟩ = some (.int .i64 (K.nx n f o 3)) := by simp [World.cell?, hBx]
        have d6 : X.cell? ⟨Bx, 6, none⟩ = some (.int .i64 (K.nx n f o 4)) := by simp [World.cell?, hBx]
        have d7 : X.cell? ⟨Bx, 7, none⟩ = some (.int .i64 (K.nx n f o 5)) := by simp [World.cell?, hBx]
        have d8 : X.cell? ⟨Bx, 8, none⟩ = some (.int .i64 (K.nx n f o 6)) := by simp [World.cell?, hBx]
        have d9 : X.cell? ⟨Bx, 9, none⟩ = some (.int .i64 (K.nx n f o 7)) := by simp [World.cell?, hBx]
        have hnd : ndN (r + 1) = 1 + 8 * ndN r := rfl
        have hml : (pre.length + 1) * ndN r ≤ 8 * ndN r := Nat.mul_le_mul_right _ (by omega)
        rw [Nat.add_mul, Nat.one_mul] at hml
        have HREC : Hid (∀ Y, Below X.heap.size X Y → Calls Try.prog 73 #[.agg #[.slice A N cap, .int .i64 ob, .int .i64 ms], .agg #[.int .i64 m1, .int .i64 o, .int .i64 (K.nx n f o 0), .int .i64 (K.nx n f o 1), .int .i64 (K.nx n f o 2), .int .i64 (K.nx n f o 3), .int .i64 (K.nx n f o 4), .int .i64 (K.nx n f o 5), .int .i64 (K.nx n f o 6), .int .i64 (K.nx n f o 7)], .map (some Bm)] Y fun e w' => e = .returned (.int .i64 cv) ∧ (w'.cell? ⟨p3, 0, none⟩ = some (.int .i64 S0) ∧ w'.frozen? ⟨p3, 0, none⟩ = false ∧ p3 < w'.heap.size) ∧ CntI K w p0 p1 p2 p3 A N cap ob ms n l f r Bm (c + ndN r) pre w' ∧ KT (fun k => k ≠ Bm ∧ k ≠ p3) X w') := Lib.hid (fun Y hb => by
          have h := HIH.out m1 o (K.nx n f o) Bm (c + pre.length * ndN r) Y (by have := HM1.out; omega) (by omega) (by rw [HM1.out]; exact nx_le HFB.out o) (HI.out.me.step hb) (by omega) (rdl_grown HA.out (grown_step HI.out.g hb) (fun b off e h0 => HAK.out b off e (by omega))) HAK.out
          rw [← HOB.out, ← HMS.out, ← HCV.out] at h
          refine h.mono ?_
          rintro e w' ⟨he, hM, hg⟩
          have hY := (HI.out.keep hb).call hM hg
          refine ⟨he, ⟨by rw [HS0.out]; exact hY.cn, hY.fn, cell?_lt hY.cn⟩, hY, (KT.of_below hb).trans ⟨hg.size, fun k hk hk' => hg.block k hk (by intro e; injection e with e; exact hk'.1 e)⟩⟩)
        generalize K.nx n f o 0 = g0 at *
        generalize K.nx n f o 1 = g1 at *
        generalize K.nx n f o 2 = g2 at *
        generalize K.nx n f o 3 = g3 at *
        generalize K.nx n f o 4 = g4 at *
        generalize K.nx n f o 5 = g5 at *
        generalize K.nx n f o 6 = g6 at *
        generalize K.nx n f o 7 = g7 at *
        have y3 : p3 < X.heap.size := cell?_lt cn
        clear hS0 hcv hI hrr hBx hmay hS8 hcv8 hp8 hml hnd hobk hl
        have hmo : Try.prog.follows Departure.mixedOrders = true := by kernel_rfl
        gi_wp2_with fail
        gi_region_with_o (refine ⟨trivial, (callsIn_wide.2 (HREC.out _ (by (repeat (first | (with_reducible exact Below.refl _ _) | (with_reducible assumption) | (with_reducible refine Below.drew ?_) | (with_reducible refine Below.allocS ?_ _) | (with_reducible refine Below.setCell ?_ ?_ _) | (with_reducible refine Below.step ?_ (by assumption)) | (with_reducible refine Below.drewN' ?_ _))); (try any_goals (first | (with_reducible assumption) | (simp; done) | (simp; omega) | omega))))).mono ?_⟩; rintro e w1 ⟨rfl, ⟨t0, t1, t2⟩, t3, t4⟩; have T3 := Lib.hid t3; have T4 := Lib.hid t4; clear t3 t4)
        all_goals gi_wp2
        all_goals (refine And.intro ?_ ?_)
        all_goals (first | exact KT.setCell (T4.out.step (by (repeat (first | (with_reducible exact Below.refl _ _) | (with_reducible assumption) | (with_reducible refine Below.drew ?_) | (with_reducible refine Below.allocS ?_ _) | (with_reducible refine Below.setCell ?_ ?_ _) | (with_reducible refine Below.step ?_ (by assumption)) | (with_reducible refine Below.drewN' ?_ _))); (try any_goals (first | (with_reducible assumption) | (simp; done) | (simp; omega) | omega)))) (fun h => h.2 rfl) _ | exact T3.out.push HS0.out HCV.out (by (repeat (first | (with_reducible exact Below.refl _ _) | (with_reducible assumption) | (with_reducible refine Below.drew ?_) | (with_reducible refine Below.allocS ?_ _) | (with_reducible refine Below.setCell ?_ ?_ _) | (with_reducible refine Below.step ?_ (by assumption)) | (with_reducible refine Below.drewN' ?_ _))); (try any_goals (first | (with_reducible assumption) | (simp; done) | (simp; omega) | omega))))
      case done =>
        rintro D xs X hD rfl hI hK
        have HI := Lib.hid hI
        have HK := Lib.hid hK
        obtain ⟨tot, htot⟩ : ∃ tot, tot = K.cnt (r + 1) l f := ⟨_, rfl⟩
        have hsum := cnt_succ K r n l f (by rw [HNN.out]; omega)
        rw [← htot] at hsum
        have q3 := hI.q3
        have cn := hI.cn
        rw [← hsum] at cn
        have hst := hI.st
        have c0 := hst.c0
        have c1 := hst.c1
        have e0 : X.cell? ⟨p1, 2, none⟩ = some (.int .i64 (f 0)) := hst.cs 0 (by omega)
        have e1 : X.cell? ⟨p1, 3, none⟩ = some (.int .i64 (f 1)) := hst.cs 1 (by omega)
        have e2 : X.cell? ⟨p1, 4, none⟩ = some (.int .i64 (f 2)) := hst.cs 2 (by omega)
        have e3 : X.cell? ⟨p1, 5, none⟩ = some (.int .i64 (f 3)) := hst.cs 3 (by omega)
        have e4 : X.cell? ⟨p1, 6, none⟩ = some (.int .i64 (f 4)) := hst.cs 4 (by omega)
        have e5 : X.cell? ⟨p1, 7, none⟩ = some (.int .i64 (f 5)) := hst.cs 5 (by omega)
        have e6 : X.cell? ⟨p1, 8, none⟩ = some (.int .i64 (f 6)) := hst.cs 6 (by omega)
        have e7 : X.cell? ⟨p1, 9, none⟩ = some (.int .i64 (f 7)) := hst.cs 7 (by omega)
        obtain ⟨F8, hF8, hM8⟩ := hI.me
        have hnl := nxL_len K n l f K.obs
        have hob8 : K.obs ≤ 8 := by rw [← HOB.out]; exact ho
        have hml : (nxL K n l f K.obs).length * ndN r ≤ 8 * ndN r := Nat.mul_le_mul_right _ (by omega)
        have hnd : ndN (r + 1) = 1 + 8 * ndN r := rfl
        have HF8 := Lib.hid hF8
        have HM8 := Lib.hid hM8
        have hlt8 : c + (nxL K n l f K.obs).length * ndN r < maxLen := by unfold maxLen; omega
        have HLE := Lib.hid (show c + (nxL K n l f K.obs).length * ndN r + 1 ≤ c + ndN (r + 1) by omega)
        have hdD : D ≠ Bm ∧ D ≠ p3 := by have := HP.out; omega
        generalize c + (nxL K n l f K.obs).length * ndN r = cc at *
        have HTOT := Lib.hid htot
        clear hI hK hF8 hM8 hml hnd hnl hst hsum htot
        go_wp2_with (at_mapUpdate; refine wpList_storeF rfl (.tmp 36) (.tmp 37) (.tmp 38) 86 rfl _ 84 3 st_keyed Try.underlying86 Bm cc F8 rfl HF8.out hlt8 _ _ kl rfl rfl HKL.out ?_; intro W9 hM9 hg9; have cn9 : W9.cell? ⟨p3, 0, none⟩ = some (.int .i64 tot) := (World.cell?_of_block (a := ⟨p3, 0, none⟩) (hg9.block p3 (cell?_lt cn) (by intro e; injection e with e; have := HI.out.ne; omega))).trans cn; have HM9 := Lib.hid hM9; have HG9 := Lib.hid hg9; clear hM9 hg9)
        (try simp only [Exit.inBlock, Exit.then])
        have hDb : W9.heap[D]? = some (.deferred (some [])) := (HG9.out.block D (Array.getElem?_eq_some_iff.1 HK.out).1 (by intro e; injection e with e; exact hdD.1 e)).trans HK.out
        refine count_end D hDb ?_
        have hwD : w.heap.size ≤ D := by have := HP.out; omega
        have hgp : ∀ o, W9.grownBy (W9.putObj D o) (some D) := fun o => ⟨rfl, rfl, rfl, by simp, fun k hk hr => World.putObj_heap_other (by intro e; exact hr (by rw [e]))⟩
        have hm10 : MemoAt K W9 Bm (cc + 1) := ⟨_, HM9.out, by
          have := HM8.out.put HKL.out (show n ≤ K.can.length by rw [HNN.out]; omega)
          rw [show K.can.length - n = r + 1 by rw [HNN.out]; omega, ← HTOT.out] at this
          exact this⟩
        have hne := HI.out.ne
        have hg1 := HI.out.g
        exact ⟨by rw [HTOT.out], (hm10.kept (hgp _) (by intro e; injection e with e; exact hdD.1 e.symm)).mono HLE.out,
          ⟨HG9.out.os.trans hg1.os, HG9.out.tape.trans hg1.tape, HG9.out.output.trans hg1.output, by have := hg1.size; have := HG9.out.size; simp; omega, fun i hi hr => ((World.putObj_heap_other (by omega)).trans (HG9.out.block i (Nat.lt_of_lt_of_le hi hg1.size) hr)).trans (hg1.block i hi hr)⟩⟩
      case stop => rintro D c pre W hD hS hF hK; exact hF.elim
end Go.Proofs.Ytomgaiokmdcjmaa
