/-
  Collect of differences.
-/
import Derived.Test.YtagbokhmcidokaaRa2
import Derived.Test.YtagbokhmcidokaaAp0
import Derived.Laws.EntriesVeiled
import Derived.Sort.CutIn
namespace Go.Proofs.Ytagbokhmcidokaa
open Go.RowKit Go.Shelf Go.Deep
attribute [local go_sem] Oper.semAt_some
set_option linter.unusedVariables false
set_option linter.unusedSimpArgs false
theorem appIn : AppE 24 3 inE 1 where
  ht := Try.underlying24
  info := app_info (z := .int .i64 0) (bytes := 8) (by kernel_rfl) rfl (by decide)
  pos := by decide
  len := fun x => rfl
  one := fun x u hu => by simp [inE] at hu; subst hu; rfl
theorem difF_len (l : List Int) (ap : Nat) : ∀ f i, (difF l ap f i).length ≤ f
  | 0, i => by simp [difF]
  | f + 1, i => by
    unfold difF
    split
    · have := difF_len l ap f (i + ap); rw [List.length_cons]; omega
    · simp
theorem row_same {W W' : World} {base sz n : Nat} {e : TypeId} {v : Value} {xs : List Value} (h : W.ownsRow base e sz v n xs) (hk : ∀ k, v.ownBlock = some k → W'.heap[k]? = W.heap[k]?) : W'.ownsRow base e sz v n xs := by
  refine ⟨h.1, ?_⟩
  rcases h.2 with h0 | ⟨g, cap, cur, hv, hg0, hg, h1, h2, h3, h4⟩
  · exact Or.inl h0
  · exact Or.inr ⟨g, cap, cur, hv, hg0, by rw [hk g (by rw [hv]; rfl), hg], h1, h2, h3, h4⟩
theorem blk_cell {W W' : World} {b o : Nat} {u : Value} (h : W'.heap[b]? = W.heap[b]?) (hc : W.cell? ⟨b, o, none⟩ = some u) : W'.cell? ⟨b, o, none⟩ = some u := (World.cell?_of_block (a := ⟨b, o, none⟩) h).trans hc
theorem blk_frozen {W W' : World} {b o : Nat} {u : Bool} (h : W'.heap[b]? = W.heap[b]?) (hc : W.frozen? ⟨b, o, none⟩ = u) : W'.frozen? ⟨b, o, none⟩ = u := (World.frozen?_of_block (a := ⟨b, o, none⟩) h).trans hc
/-- What holds between two numbers that are collected. -/
def ColJ (w : World) (pre : List Int) (V : World) : Prop :=
  ∃ v, (V.cell? ⟨w.heap.size, 0, none⟩ = some v ∧ V.frozen? ⟨w.heap.size, 0, none⟩ = false) ∧ V.ownsRow (w.heap.size + 3) 3 1 v pre.length (pre.flatMap inE) ∧ Below w.heap.size w V
theorem ColJ.of {w V V' : World} {pre : List Int} (h : ColJ w pre V) (hb : Below w.heap.size w V') (hk : ∀ k, k < V.heap.size → (k = w.heap.size ∨ w.heap.size + 3 ≤ k) → V'.heap[k]? = V.heap[k]?) : ColJ w pre V' := by
  obtain ⟨v, ⟨a1, a2⟩, h1, -⟩ := h
  have e1 := hk _ (cell?_lt a1) (.inl rfl)
  refine ⟨v, ⟨blk_cell e1 a1, blk_frozen e1 a2⟩, row_same h1 (fun g hg => ?_), hb⟩
  have := h1.lt g hg
  exact hk g this.2 (.inr this.1)
theorem ColJ.low {w V : World} {pre : List Int} (h : ColJ w pre V) : Below w.heap.size w V := by obtain ⟨v, -, -, h⟩ := h; exact h
theorem ColJ.keep {w V V' : World} {pre : List Int} (h : ColJ w pre V) (hb : Below V.heap.size V V') : ColJ w pre V' := h.of (Below.step h.low hb) (fun k hk _ => hb.block k hk)
theorem ColJ.put {w V : World} {pre : List Int} (h : ColJ w pre V) {l : Nat} (hl : l = w.heap.size + 2) (o : Obj) : ColJ w pre (V.putObj l o) :=
  h.of (h.low.trans (below_put V (by omega) o)) (fun k hk h2 => World.putObj_heap_other (by omega))
theorem wpListIn_app {F : Fence} {n : Nat} {ops : Array Oper} {rest : List Oper} {o : Oper} {a : Act} {w : World} {Q : Exit → Act → World → Prop} (hgd : o.guard = none) (s x : Operand) (t : TypeId)
    (ho : o.op = .call { callee := .builtin .append, args := #[s, x], argTypes := #[t, t] }) (v X : Value) (hs : a.eval s = v) (hx : a.eval x = X) {R : Value → World → Prop}
    (hrun : ∃ v' w', (Builtin.append_ #[t, t] o.type #[v, X]).run Try.prog w = .ok v' w' ∧ R v' w') (h : ∀ v' w', R v' w' → wpListIn F n Try.prog ops Q rest (a.put o.dst v') w') :
    wpListIn F n Try.prog ops Q (o :: rest) a w := by
  refine wpListIn_plain hgd fun K hK => ?_
  obtain ⟨v', w', hr, h2⟩ := hrun
  unfold Oper.wpIn
  refine ⟨by simp [Oper.about, ho, resolve, Target.leads, Sem.run_pure], ?_⟩
  rw [Oper.semAt_plain F _ _ (by rw [ho]; intro c hc'; cases hc')]
  simp [execOp, ho, resolve, invoke, builtin, hs, hx, hr, Result.andThen]
  exact hK _ _ (h v' w' h2)
theorem append_end {R : Ending → World → Prop} {u : Value} {Z : World} {t0 t1 t2 t3 : Value} {tl : List Value} (D : Nat) (w : World) (hK : Z.heap[D]? = some (.deferred (some [])))
    (hR : R (.returned u) (Z.putObj D (.deferred none))) :
    bodyPostM Fence.wide 10 Try.prog Try.f91 R .ret { tmps := (t0 :: t1 :: t2 :: t3 :: u :: tl).toArray, defers := [{ target := .collected D, args := #[] }] } Z := by
  refine ⟨by simp, .inl ⟨_, _, rfl, run_takeDeferred hK, ?_⟩⟩
  refine ⟨_, ?_, hR⟩
  simp [results, Try.results91, go_sem]
set_option maxHeartbeats 2000000 in
set_option maxRecDepth 100000 in
theorem AppendDif_c (l : List Int) (cap ap : Nat) (hap : 1 ≤ ap ∧ ap ≤ 1000) (hl : l.length ≤ 90000) (hm : Mil l) (b off b1 b2 : Nat) (w : World) (hb : b < w.heap.size)
    (hc : ∀ i, i < l.length → w.cell? ⟨b, off + i, none⟩ = some (.int .i64 (l.getD i 0))) (c1 : w.cell? ⟨b1, 0, none⟩ = some (.int .i64 ap)) (c2 : w.cell? ⟨b2, 0, none⟩ = some (.slice (some ⟨b, off, none⟩) l.length cap)) :
    Calls Try.prog 91 #[.slice none 0 0, .func (.func 92) #[] #[.pointer (some ⟨b1, 0, none⟩), .pointer (some ⟨b2, 0, none⟩)]] w fun e w' => ∃ A c, e = .returned (.slice A (dif l ap).length c) ∧ (RdL w' w'.heap.size inE 1 A (dif l ap) ∧ (dif l ap).length ≤ c) ∧ Below w.heap.size w w' := by
  have hlen : (dif l ap).length ≤ l.length := difF_len l ap l.length ap
  have y1 : b1 < w.heap.size := cell?_lt c1
  have y2 : b2 < w.heap.size := cell?_lt c2
  refine (callsIn_wide (n := 10)).1 ?_
  refine callsIn_of_wp_marks Try.func91 rfl trivial ?_ rfl
  simp only [Try.ntmps91, List.size_toArray, List.length_cons, List.length_nil, Nat.reduceAdd, Nat.reduceSub, Array.replicate_succ, Array.replicate_zero, List.push_toArray, List.append_toArray, List.nil_append, List.cons_append]
  refine wpIn_wide.2 ?_
  go_wp2
  obtain ⟨W0, hW0⟩ : ∃ W0, w.alloc (.cells #[.slice none 0 0] 24) = W0 := ⟨_, rfl⟩
  (try rw [hW0])
  have sz : W0.heap.size = w.heap.size + 1 := by rw [← hW0]; simp
  have b0 : Below w.heap.size w W0 := by rw [← hW0]; (repeat (first | exact Below.refl _ _ | refine Below.drew ?_ | refine Below.allocS ?_ _ | refine Below.step ?_ (by assumption) | refine Below.setCell ?_ (by simp <;> omega) _ | refine Below.drewN' ?_ _))
  have i0 : ColJ w [] W0 := ⟨_, ⟨by rw [← hW0]; simp [go_sem], by rw [← hW0]; simp [go_sem]⟩, World.ownsRow_nil _ _ _ _, b0⟩
  have HI0 := Lib.hid i0
  have HQ := Lib.hid (dif_seq l cap ap hap (by omega) hm b off b1 b2 (fun k => k = b ∨ k = b1 ∨ k = b2 ∨ k = W0.heap.size ∨ k = W0.heap.size + 1) (.inl rfl) (.inr (.inl rfl)) (.inr (.inr (.inl rfl))) W0 (by omega) (fun i h => keep_cell b0 (hc i h)) (keep_cell b0 c1) (keep_cell b0 c2))
  clear hW0 i0 hc c1 c2 hm
  refine (wpIn_wide (n := 10)).1 ?_
  refine range_s (n := 8) (gf := 92) (lb := #[.pointer (some ⟨b1, 0, none⟩), .pointer (some ⟨b2, 0, none⟩)]) rfl (enters_of Try.func92 (by kernel_rfl) rfl)
    HQ.out (fun b hb => hb.elim) (Below.refl _ _) (.inr (.inr (.inr (.inl rfl)))) (.inr (.inr (.inr (.inr rfl)))) (fun _ => rfl)
    (ColJ w) (fun _ _ _ => False) (fun s A A' h hb => h.keep hb) (fun c s A A' h hb => h) (fun s A o h => h.put (by omega) o) (fun c s A o h => h) (fun s A p u hp h => hp.elim) HI0.out
    (fun x a' X => a' = { tmps := #[.slice none 0 0, .func (.func 92) #[] #[.pointer (some ⟨b1, 0, none⟩), .pointer (some ⟨b2, 0, none⟩)], .pointer (some ⟨w.heap.size, 0, none⟩), undef, .slice none 0 0, .int .i64 x, .func (.func 92) #[] #[.pointer (some ⟨b1, 0, none⟩), .pointer (some ⟨b2, 0, none⟩)], .int .i64 x, undef, undef, undef, undef, undef], defers := [] })
    (fun x a' X q r o h hk => h)
    ?assign ?body ?done ?stop
  case assign =>
    intro l0 pre x X K hi hs hK
    gi_wp2
    exact hK _ _ (KT.refl _ _) hi rfl
  case body =>
    rintro l0 pre x a' W rfl ⟨r0, hr0⟩ ⟨v, ⟨n1, n2⟩, hown, hbw⟩ rfl hSp
    have hW6 : w.heap.size + 3 ≤ W.heap.size := by have := (Array.getElem?_eq_some_iff.1 hr0).1; omega
    have hpl := hSp.length_le
    rw [List.length_append, List.length_singleton] at hpl
    have HOw := Lib.hid hown
    obtain ⟨Av, cv, rfl, -, -⟩ := row_form hown
    have hnb : w.heap.size < W.heap.size := cell?_lt n1
    have HAPP := Lib.hid (app_run appIn pre x pre.length rfl (by omega) (W.alloc (.cells #[.int .i64 x] 3)) (w.heap.size + 3) W.heap.size _ (hown.alloc _) (by simp; omega) (one_cell rfl (by simp [go_sem])))
    have HPush : Hid (∀ v8 w8, (w8.ownsRow (w.heap.size + 3) 3 1 v8 (pre.length + 1) ((pre ++ [x]).flatMap inE) ∧ Below (w.heap.size + 3) (W.alloc (.cells #[.int .i64 x] 3)) w8) →
        ∃ A8 c8, v8 = .slice A8 (pre.length + 1) c8 ∧ w8.ownsRow (w.heap.size + 3) 3 1 (.slice A8 (pre.length + 1) c8) (pre.length + 1) ((pre ++ [x]).flatMap inE) ∧ w8.cell? ⟨w.heap.size, 0, none⟩ = some (.slice Av pre.length cv) ∧ w8.frozen? ⟨w.heap.size, 0, none⟩ = false ∧ Below w.heap.size w w8 ∧ KT (fun k => k = b ∨ k = b1 ∨ k = b2 ∨ k = W0.heap.size ∨ k = W0.heap.size + 1) W w8) := Lib.hid (by
      rintro v8 w8 ⟨h1, h2⟩
      have hz := h2.size
      simp at hz
      obtain ⟨A8, c8, rfl, -, -⟩ := row_form h1
      refine ⟨A8, c8, rfl, h1, low_at h2 (by omega) (keep_cell (Below.allocS (Below.refl _ _) _) n1), low_frozen h2 (by omega) (keep_frozen (Below.allocS (Below.refl _ _) _) (cell?_lt n1) n2), (Below.allocS hbw _).trans (h2.mono (by omega)), (KT.alloc (KT.refl _ _) _).trans ⟨by simp; omega, fun k hk hkk => h2.block k (by
        have hk' : k = b ∨ k = b1 ∨ k = b2 ∨ k = W0.heap.size ∨ k = W0.heap.size + 1 := hkk
        omega)⟩⟩)
    clear hown hSp hr0
    gi_wp2_with (gi_at_builtin; refine wpListIn_app rfl (.tmp 8) (.tmp 10) 24 rfl _ _ rfl rfl HAPP.out ?_; rintro v8 w8 hR; obtain ⟨A8, c8, rfl, hown8, q1, q2, hb8, KT8⟩ := HPush.out v8 w8 hR; have HO8 := Lib.hid hown8; clear hR hown8 HAPP HPush)
    refine And.intro (KT8.setCell (fun hk => by
      have hk' : w.heap.size = b ∨ w.heap.size = b1 ∨ w.heap.size = b2 ∨ w.heap.size = W0.heap.size ∨ w.heap.size = W0.heap.size + 1 := hk
      omega) _) ⟨.slice A8 (pre.length + 1) c8, ⟨?_, ?_⟩, ?_, ?_⟩
    · simp [go_sem, *]
    · simp [go_sem, *]
    · rw [List.length_append, List.length_singleton]
      exact row_same HO8.out (fun k e => Below.heap_setCell _ _ _ _ (by
        have := (HO8.out.lt k e).1
        show k ≠ w.heap.size
        omega))
    · exact Below.setCell hb8 (Nat.le_refl _) _
  case done =>
    rintro D xs X hD rfl ⟨v, ⟨n1, n2⟩, hown, hbw⟩ hK
    obtain ⟨Av, cv, rfl, hcc, -⟩ := row_form hown
    have HOw := Lib.hid hown
    have HK := Lib.hid hK
    clear hown hK
    go_wp2
    (try simp only [Exit.inBlock, Exit.then])
    refine append_end D w HK.out ?_
    have hDn : (Value.slice Av (dif l ap).length cv).ownBlock ≠ some D := by
      intro hv
      rcases HOw.out.2 with ⟨h0, _⟩ | ⟨g, cap', cur, hv', _, hg, _⟩
      · rw [h0] at hv; cases hv
      · rw [hv'] at hv
        injection hv with hv
        subst hv
        rw [HK.out] at hg; cases hg
    have hrow := row_same (W' := X.putObj D (.deferred none)) HOw.out (fun g e => World.putObj_heap_other (fun h => hDn (by rw [← h]; exact e)))
    exact ⟨_, _, rfl, ⟨RdL.of_own (fun _ => rfl) hrow rfl, hcc⟩, hbw.trans (below_put _ (by omega) _)⟩
  case stop => rintro D c pre X hD hS h hK; exact h.elim
end Go.Proofs.Ytagbokhmcidokaa
