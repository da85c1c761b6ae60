/-
  Circle of night, walked. No conditions.
-/
import Derived.Test.YtomgaiokmdcjmaaNt50
import Derived.Test.YtomgaiokmdcjmaaNt53
import Derived.Test.YtomgaiokmdcjmaaNt37
namespace Go.Proofs.Ytomgaiokmdcjmaa
open Go.RowKit Go.Deep Go.Shelf
attribute [local go_sem] Oper.semAt_some
set_option linter.unusedVariables false
set_option linter.unusedSimpArgs false
theorem bodyPostM_ret {F : Fence} {n : Nat} {P : Program} {fn : Func} {R : Ending → World → Prop} {a : Act} {w : World} {v : Value}
    (hr : (results fn a.tmps).run P w = .ok v w) (hd : a.defers = []) (hR : R (.returned v) w) : bodyPostM F n P fn R .ret a w := by
  show LeavesInM F n P fn a.tmps R a.defers .returning w
  rw [hd]
  exact ⟨v, hr, hR⟩
theorem CloneW_c (s : SlL) (hc : s.A = none → s.c = 0) (hlen : s.xs.length ≤ 1000) (W : World) (hs : SlAt W 60 s) :
    Calls Try.prog 88 #[.slice s.A s.xs.length s.c] W fun e w' => (∃ A' c, e = .returned (.slice A' s.xs.length c) ∧ w'.ownsRow W.heap.size 3 1 (.slice A' s.xs.length c) s.xs.length ((s.xs.map Int.ofNat).flatMap inE)) ∧ Below W.heap.size W w' := by
  by_cases hA : s.A = none
  · have h0 := hs.r.none_len hA
    rw [List.length_map] at h0
    obtain ⟨A, c, xs⟩ := s
    have hA' : A = none := hA
    have h0' : xs.length = 0 := h0
    obtain rfl : xs = [] := List.eq_nil_of_length_eq_zero h0'
    subst hA'
    show Calls Try.prog 88 #[.slice none 0 c] W _
    have qe : ∀ W, (binOp .eql 26 (.slice none 0 c) (.slice none 0 0)).run Try.prog W = .ok (.bool true) W := fun W => Lib.run_eql_slice_nil W _ _ _ _ _ _ _ Try.underlying26
    clear hs hc hA h0 h0' hlen
    go_enter Try.func88, Try.ntmps88
    go_wp2
    go_ret
    exact ⟨⟨none, 0, rfl, World.ownsRow_nil _ _ _ _⟩, by (repeat (first | (with_reducible exact Below.refl _ _) | (with_reducible assumption) | (with_reducible refine Below.drew ?_) | (with_reducible refine Below.allocS ?_ _) | (with_reducible refine Below.setCell ?_ ?_ _) | (with_reducible refine Below.step ?_ (by assumption)) | (with_reducible refine Below.drewN' ?_ _))); (try any_goals (first | (with_reducible assumption) | (simp; done) | (simp; omega) | omega))⟩
  · exact CloneI_c s.xs s.xs.length rfl hlen s.A hA s.c W hs.r
/-- What holds between two rounds: the list so far, in its box at T. -/
def CirI (w : World) (lo T top : Nat) (Q0 : List Nat) (pre : List (Nat × Int)) (W : World) : Prop :=
  ∃ g off c, W.cell? ⟨T, 0, none⟩ = some (.slice (some ⟨g, off, none⟩) (Q0 ++ pre.map (fun p => bk p.2.toNat)).length c) ∧ W.frozen? ⟨T, 0, none⟩ = false ∧ QAt W lo g off (Q0 ++ pre.map (fun p => bk p.2.toNat)) c ∧ g ≠ T ∧ (g < T ∨ top ≤ g) ∧ Below w.heap.size w W
theorem CirI.keep {w A A' : World} {lo T top : Nat} {Q0 : List Nat} {pre : List (Nat × Int)} (h : CirI w lo T top Q0 pre A) (hb : Below A.heap.size A A') : CirI w lo T top Q0 pre A' := by
  obtain ⟨g, off, c, h1, h2, h3, h4, h5, h6⟩ := h
  exact ⟨g, off, c, keep_cell hb h1, keep_frozen hb (cell?_lt h1) h2, h3.step hb, h4, h5, Below.step h6 hb⟩
theorem CirI.put {w A : World} {lo T top l : Nat} {Q0 : List Nat} {pre : List (Nat × Int)} (h : CirI w lo T top Q0 pre A) (o : Obj) (h1 : T < l) (h2 : l < top) (h3 : w.heap.size ≤ l) : CirI w lo T top Q0 pre (A.putObj l o) := by
  obtain ⟨g, off, c, k1, k2, k3, k4, k5, k6⟩ := h
  have eT : (A.putObj l o).heap[T]? = A.heap[T]? := World.putObj_heap_other (by omega)
  have eg : (A.putObj l o).heap[g]? = A.heap[g]? := World.putObj_heap_other (by omega)
  exact ⟨g, off, c, (World.cell?_of_block (a := ⟨T, 0, none⟩) eT).trans k1, (World.frozen?_of_block (a := ⟨T, 0, none⟩) eT).trans k2, k3.kept eg (by simp), k4, k5, k6.trans (below_put A h3 o)⟩
theorem wpListIn_app {F : Fence} {n : Nat} {ops : Array Oper} {rest : List Oper} {o : Oper} {a : Act} {w : World} {Q : Exit → Act → World → Prop} (hgd : o.guard = none) (s x : Operand) (t : TypeId)
    (ho : o.op = .call { callee := .builtin .append, args := #[s, x], argTypes := #[t, t] }) (v X : Value) (hs : a.eval s = v) (hx : a.eval x = X) {R : Value → World → Prop}
    (hrun : ∃ v' w', (Builtin.append_ #[t, t] o.type #[v, X]).run Try.prog w = .ok v' w' ∧ R v' w') (h : ∀ v' w', R v' w' → wpListIn F n Try.prog ops Q rest (a.put o.dst v') w') :
    wpListIn F n Try.prog ops Q (o :: rest) a w := by
  refine wpListIn_plain hgd fun K hK => ?_
  obtain ⟨v', w', hr, h2⟩ := hrun
  unfold Oper.wpIn
  refine ⟨by simp [Oper.about, ho, resolve, Target.leads, Sem.run_pure], ?_⟩
  rw [Oper.semAt_plain F _ _ (by rw [ho]; intro c hc'; cases hc')]
  simp [execOp, ho, resolve, invoke, builtin, hs, hx, hr, Result.andThen]
  exact hK _ _ (h v' w' h2)
theorem circle_end {R : Ending → World → Prop} {Z : World} {t0 t1 t2 t3 u : Value} {tl : List Value} (D : Nat) (hK : Z.heap[D]? = some (.deferred (some []))) (hR : R (.returned (.tuple #[u, .int .i64 0])) (Z.putObj D (.deferred none))) :
    bodyPostM Fence.wide 5 Try.prog Try.f50 R .ret { tmps := (t0 :: t1 :: t2 :: t3 :: u :: .int .i64 0 :: tl).toArray, defers := [{ target := .collected D, args := #[] }] } Z := by
  refine ⟨by simp, .inl ⟨_, _, rfl, run_takeDeferred hK, ?_⟩⟩
  refine ⟨_, ?_, hR⟩
  simp [results, Try.results50, go_sem, *]
theorem cir_eq {x y : List Nat} {k n : Nat} (h : y.length = n) : x ++ [k] ++ (bkw (y.map Int.ofNat) n).map (fun p => bk p.2.toNat) = cirL x y k := by
  unfold cirL
  congr 1
  have h1 := bkw_snd (y.map Int.ofNat) n (by rw [List.length_map]; omega)
  have h2 : (bkw (y.map Int.ofNat) n).map (fun p => bk p.2.toNat) = ((bkw (y.map Int.ofNat) n).map Prod.snd).map (fun v => bk v.toNat) := by rw [List.map_map]; rfl
  rw [h2, h1, List.take_of_length_le (by rw [List.length_map]; omega), List.map_reverse, List.map_map, List.map_reverse]
  rfl
/-- A round: one more at the list's end, and its new address in the box. -/
theorem CirI.push {w W W' : World} {lo T top g1 off1 c1 g' off' cap' : Nat} {Q0 L : List Nat} {pre : List (Nat × Int)} {q p1 : Nat} (hL : L = Q0 ++ pre.map (fun p => bk p.2.toNat)) (hb : Below w.heap.size w W) (hlo : w.heap.size ≤ lo) (hloT : lo ≤ T) (hT : w.heap.size ≤ T) (hTt : T < top) (hWs : top ≤ W.heap.size)
    (e1 : W.cell? ⟨T, 0, none⟩ = some (.slice (some ⟨g1, off1, none⟩) L.length c1)) (e2 : W.frozen? ⟨T, 0, none⟩ = false) (hne : g1 ≠ T) (hg1 : lo ≤ g1) (hgt : g1 < T ∨ top ≤ g1) (hq : QAt W' lo g' off' (L ++ [bk q]) cap') (hgr : (W.alloc (.cells #[.int .i64 (bk q)] 3)).grownBy W' (some g1)) (hgg : g' = g1 ∨ (W.alloc (.cells #[.int .i64 (bk q)] 3)).heap.size ≤ g') :
    W'.cell? ⟨T, 0, none⟩ = some (.slice (some ⟨g1, off1, none⟩) L.length c1) ∧ W'.frozen? ⟨T, 0, none⟩ = false ∧ T < W'.heap.size ∧ CirI w lo T top Q0 (pre ++ [(p1, Int.ofNat q)]) (W'.setCell ⟨T, 0, none⟩ (.slice (some ⟨g', off', none⟩) (L.length + 1) cap')) ∧ ∀ hi, T < hi → KC lo hi top W (W'.setCell ⟨T, 0, none⟩ (.slice (some ⟨g', off', none⟩) (L.length + 1) cap')) := by
  obtain ⟨W1, hW1⟩ : ∃ W1, W1 = W.alloc (.cells #[.int .i64 (bk q)] 3) := ⟨_, rfl⟩
  have b1 : Below W.heap.size W W1 := by rw [hW1]; exact Below.allocS (Below.refl _ _) _
  have s1 : W1.heap.size = W.heap.size + 1 := by rw [hW1]; simp
  rw [← hW1] at hgr hgg
  have hTW : T < W.heap.size := by omega
  have c1' := keep_cell b1 e1
  have f1' := keep_frozen b1 hTW e2
  have hbT : W'.heap[T]? = W1.heap[T]? := hgr.block T (by omega) (fun e => hne (by injection e with e; exact e.symm))
  have c2 : W'.cell? ⟨T, 0, none⟩ = some (.slice (some ⟨g1, off1, none⟩) L.length c1) := (World.cell?_of_block (a := ⟨T, 0, none⟩) hbT).trans c1'
  have f2 : W'.frozen? ⟨T, 0, none⟩ = false := (World.frozen?_of_block (a := ⟨T, 0, none⟩) hbT).trans f1'
  have hs' := hgr.size
  have hne' : g' ≠ T := by rcases hgg with h | h <;> omega
  have hlen : (Q0 ++ (pre ++ [(p1, Int.ofNat q)]).map (fun p => bk p.2.toNat)) = L ++ [bk q] := by rw [hL]; simp
  have k1 : KC lo T top W W1 := KC.of_below b1 hWs
  refine ⟨c2, f2, by omega, ⟨g', off', cap', ?_, ?_, ?_, hne', ?_, ?_⟩, fun hi hTh => ?_⟩
  · rw [hlen, List.length_append, List.length_singleton]
    exact World.cell?_setCell_same _ _ _ c2
  · rw [World.frozen?_setCell]; exact f2
  · rw [hlen]
    exact hq.kept (Below.heap_setCell _ _ _ _ (by show g' ≠ T; exact hne')) (by simp [World.setCell])
  · rcases hgg with h | h
    · rw [h]; exact hgt
    · right; omega
  · exact Below.setCell (Below.grown (Below.step hb b1) hgr (by have := hb.size; omega) (fun k hk => by injection hk with hk; omega)) (by show w.heap.size ≤ T; omega) _
  · exact (KC.grown (row := some g1) (KC.of_below b1 hWs) hgr (by omega) (fun k hk => by injection hk with hk; omega)).setCell (.inl ⟨by show lo ≤ T; omega, hTh⟩) _
set_option maxHeartbeats 4000000 in
set_option maxRecDepth 100000 in
theorem Circle_c (n : Int) (l : List Sg) (A : Option Addr) (cap : Nat) (hl : l.length ≤ 9223372036854775807) (w : World) (hA : RdL w w.heap.size sgE 5 A l) (hA2 : l.length = 0 ∨ ∃ b off, A = some ⟨b, off, none⟩ ∧ b < w.heap.size) :
    Calls Try.prog 50 #[.int .i64 n, .slice A l.length cap] w fun e w' => (∃ A' c' C, e = .returned (.tuple #[.slice A' C.length c', .int .i64 (cirE n l)]) ∧ RdL w' w'.heap.size inE 1 A' (C.map Int.ofNat) ∧ (cirE n l ≠ 0 → C = []) ∧ (cirE n l = 0 → ∃ a s, Chn l a C a s ∧ s ≠ 0 ∧ 1 ≤ C.length ∧ C.length ≤ 100)) ∧ Below w.heap.size w w' := by
  have HV := Lib.hid (fun W (hb : Below w.heap.size w W) => validDifferences_c n l A cap hl W (hA.step hb))
  cases hvd : vdB n l with
  | false =>
    have HE := Lib.hid (cirE_7 hvd)
    rw [hvd] at HV
    rw [HE.out]
    clear hA hA2 hvd HE
    generalize l.length = m at *
    refine (callsIn_wide (n := 5)).1 ?_
    refine callsIn_of_wp_marks Try.func50 rfl trivial ?_ rfl
    simp only [Try.ntmps50, List.size_toArray, List.length_cons, List.length_nil, Nat.reduceAdd, Nat.reduceSub, Array.replicate_succ, Array.replicate_zero, List.push_toArray, List.append_toArray, List.nil_append, List.cons_append]
    refine wpIn_wide.2 ?_
    go_wp2_with fail
    refine (HV.out _ (by (repeat (first | (with_reducible exact Below.refl _ _) | (with_reducible assumption) | (with_reducible refine Below.drew ?_) | (with_reducible refine Below.allocS ?_ _) | (with_reducible refine Below.setCell ?_ ?_ _) | (with_reducible refine Below.step ?_ (by assumption)) | (with_reducible refine Below.drewN' ?_ _))); (try any_goals (first | (with_reducible assumption) | (simp; done) | (simp; omega) | omega)))).mono ?_
    rintro e w1 ⟨rfl, hb1⟩
    go_wp2
    (try simp only [Exit.inBlock, Exit.then])
    refine bodyPostM_ret (results_tmp2 rfl _ _ _) rfl ?_
    exact ⟨⟨none, 0, [], rfl, RdL.nil, fun _ => rfl, fun h => (by omega)⟩, hb1⟩
  | true =>
    rw [hvd] at HV
    obtain ⟨n, rfl⟩ := vd_nat hvd
    have hd := VdP.of hvd
    have HVD := Lib.hid hvd
    have HD := Lib.hid hd
    have HH := Lib.hid (fun W (hb : Below w.heap.size w W) => habits_c l A cap n hd W (hA.step hb) (by
      rcases hA2 with h | ⟨b, off, e, h⟩
      · exact .inl h
      · exact .inr ⟨b, off, e, by have := hb.size; omega⟩))
    have HBK := Lib.hid (fun W (hb : Below w.heap.size w W) Bm K (hall : HAll l n K) hk => broken_c l A cap n hd Bm K hall W (hA.step hb) hk)
    have HTK := Lib.hid (fun W (hb : Below w.heap.size w W) k hk => taken_c l A cap n k hd hk W (hA.step hb))
    have hn8 := hd.n8
    have hn1 := hd.n1
    have h30 := hd.len
    clear hA hA2 hvd hd
    obtain ⟨m, hm⟩ : ∃ m, m = l.length := ⟨_, rfl⟩
    have HM := Lib.hid hm
    rw [← hm] at HV HH HBK HTK h30 ⊢
    clear hm
    refine (callsIn_wide (n := 5)).1 ?_
    refine callsIn_of_wp_marks Try.func50 rfl trivial ?_ rfl
    simp only [Try.ntmps50, List.size_toArray, List.length_cons, List.length_nil, Nat.reduceAdd, Nat.reduceSub, Array.replicate_succ, Array.replicate_zero, List.push_toArray, List.append_toArray, List.nil_append, List.cons_append]
    refine wpIn_wide.2 ?_
    go_wp2_with fail
    refine (HV.out _ (by (repeat (first | (with_reducible exact Below.refl _ _) | (with_reducible assumption) | (with_reducible refine Below.drew ?_) | (with_reducible refine Below.allocS ?_ _) | (with_reducible refine Below.setCell ?_ ?_ _) | (with_reducible refine Below.step ?_ (by assumption)) | (with_reducible refine Below.drewN' ?_ _))); (try any_goals (first | (with_reducible assumption) | (simp; done) | (simp; omega) | omega)))).mono ?_
    rintro e w1 ⟨rfl, hb1⟩
    go_wp2_with fail
    refine (HH.out _ hb1).mono ?_
    rintro e w2 ⟨⟨Bm, K, rfl, hkn, hall⟩, hb2⟩
    have g2 : Below w.heap.size w w2 := Below.step hb1 hb2
    have HKN := Lib.hid hkn
    have HAL := Lib.hid hall
    have HSP := Lib.hid (hall.spec HD.out)
    have HB1 := Lib.hid (HBK.out w2 g2 Bm K hall hkn)
    clear hkn hall hb2 hb1
    go_wp2_with fail
    refine HB1.out.mono ?_
    rintro e w3 ⟨⟨r, rfl, hr⟩, hb3⟩
    have g3 : Below w.heap.size w w3 := Below.step g2 hb3
    have HK3 := Lib.hid (HKN.out.step hb3)
    clear hb3
    rcases hr with ⟨rfl, hs⟩ | ⟨i, hi, hri, hne⟩
    case inl =>
      have HE := Lib.hid (cirE_8 HVD.out ((satE_iff HD.out HSP.out).1 hs))
      clear hs
      go_wp2
      (try simp only [Exit.inBlock, Exit.then])
      refine bodyPostM_ret (results_tmp2 rfl _ _ _) rfl ?_
      rw [HE.out]
      exact ⟨⟨none, 0, [], rfl, RdL.nil, fun _ => rfl, fun h => (by omega)⟩, g3⟩
    have HE := Lib.hid (cirE_0 HVD.out (fun h => not_sat ⟨i, by rw [← HM.out]; exact hi, hne⟩ ((satE_iff HD.out HSP.out).2 h)))
    obtain ⟨k, hk⟩ : ∃ k : Nat, k = 2 * i := ⟨_, rfl⟩
    rw [← hk] at hne
    have hrk : r = (k : Int) := by omega
    have hk2 : k < 2 * m := by omega
    subst hrk
    have d1 : decide ((k : Int) < 0) = false := decide_eq_false (by omega)
    have hkl : k < 2 * l.length := by rw [← HM.out]; exact hk2
    have hk2' := hkl
    have bd := tk_bd HD.out hkl
    obtain ⟨x, hx⟩ : ∃ x, K (frN l k) = some x := by
      cases hc : K (frN l k) with
      | none => exact absurd hc (HAL.out.all _ bd.2.2.1)
      | some x => exact ⟨x, rfl⟩
    obtain ⟨y, hy⟩ : ∃ y, K (toN l k) = some y := by
      cases hc : K (toN l k) with
      | none => exact absurd hc (HAL.out.all _ bd.2.2.2.1)
      | some x => exact ⟨x, rfl⟩
    have HX := Lib.hid (HAL.out.ok.inv.dom _ _ hx)
    have HY := Lib.hid (HAL.out.ok.inv.dom _ _ hy)
    have hxl := (HAL.out.ok.inv.bd HD.out _ _ hx).2
    have hyl := (HAL.out.ok.inv.bd HD.out _ _ hy).2
    have HNE := Lib.hid (show x.v + tkV l k - y.v ≠ 0 by
      unfold valK at hne
      rw [hx, hy] at hne
      intro h
      exact hne (by show y.v - x.v = tkV l k; omega))
    have HSM := Lib.hid (HAL.out.ok.sm k hkl x y hx hy)
    have HT1 := Lib.hid (HTK.out w3 g3 k hk2)
    clear hne hk hi hri bd HTK HBK HH HV HB1
    have HKK := Lib.hid (Maps.keyOf_int_mk (P := Try.prog) Try.underlying3 (wf_small (k := frN l k) (by have := (tk_bd HD.out hkl).2.2.1; omega)))
    have HKL := Lib.hid (Maps.keyOf_int_mk (P := Try.prog) Try.underlying3 (wf_small (k := toN l k) (by have := (tk_bd HD.out hkl).2.2.2.1; omega)))
    have HLA : Hid (∀ W, Below w3.heap.size w3 W → (Instr.lookup 87 (.map (some Bm)) (.int .i64 (frN l k)) false).run Try.prog W = .ok (.agg #[.int .i64 x.v, .int .i64 x.f, .slice x.s.A x.s.xs.length x.s.c]) W) := Lib.hid (fun W hb => by
      have := (HK3.out.step hb).mp.look (Maps.int_keyed Try.underlying3) Try.underlying87 (zero_hab W) HKK.out
      rw [hF_get, hx] at this
      exact this)
    have HLB : Hid (∀ W, Below w3.heap.size w3 W → (Instr.lookup 87 (.map (some Bm)) (.int .i64 (toN l k)) false).run Try.prog W = .ok (.agg #[.int .i64 y.v, .int .i64 y.f, .slice y.s.A y.s.xs.length y.s.c]) W) := Lib.hid (fun W hb => by
      have := (HK3.out.step hb).mp.look (Maps.int_keyed Try.underlying3) Try.underlying87 (zero_hab W) HKL.out
      rw [hF_get, hy] at this
      exact this)
    have HWX := Lib.hid (HK3.out.ws _ _ hx)
    have HWY := Lib.hid (HK3.out.ws _ _ hy)
    clear hx hy hkl
    have fw := field_w
    go_wp2_with fail
    refine HT1.out.mono ?_
    rintro e w5 ⟨rfl, hb5⟩
    have g5 : Below w.heap.size w w5 := Below.step g3 hb5
    have hla := HLA.out w5 hb5
    have HCL := Lib.hid (CloneW_c x.s HWX.out.2.1 (by omega) w5 (HWX.out.1.step hb5))
    generalize hxn : x.s.xs.length = xn at *
    have HXN := Lib.hid hxn
    clear hxn
    go_wp2_with fail
    refine HCL.out.mono ?_
    rintro e w6 ⟨⟨A6, c6, rfl, hown6⟩, hb6⟩
    have HO6 := Lib.hid hown6
    have g6 : Below w.heap.size w w6 := Below.step g5 hb6
    have s6 := hb6.size
    have HAP := Lib.hid (app_run appI (x.s.xs.map Int.ofNat) (k : Int) xn (by rw [List.length_map]; exact HXN.out) (by omega) (w6.alloc (.cells #[.int .i64 k] 3)) w5.heap.size w6.heap.size _ (HO6.out.alloc _) (by simp; omega) (one_cell rfl (by simp [go_sem])))
    clear hown6 hla
    go_wp2_with (at_builtin; refine wpList_app rfl (.tmp 37) (.tmp 39) 26 rfl _ _ rfl rfl HAP.out ?_; rintro v7 W7 ⟨hown7, hbel7⟩; obtain ⟨A7, c7, rfl, -, -⟩ := row_form hown7; have HO7 := Lib.hid hown7; have hB7 : Below w5.heap.size w5 W7 := Below.low (Below.allocS hb6 _) hbel7 (Nat.le_refl _); have hla7 := HLB.out (W7.alloc (.cells #[.slice A7 (xn + 1) c7] 26)) (by exact Below.allocS (Below.step hb5 hB7) _); clear hown7 hbel7)
    have hQ7 : (x.s.xs.map Int.ofNat) ++ [(k : Int)] = (x.s.xs ++ [k]).map Int.ofNat := by simp
    rw [hQ7] at HO7
    obtain ⟨g, rfl, hq7⟩ := row_q HO7.out (by omega) (by simp; exact HXN.out)
    have hT : g < W7.heap.size := hq7.lt
    have s7 := hB7.size
    refine (Backward_c _ _ _ _).mono ?_
    rintro e w9 ⟨rfl, rfl⟩
    clear hla7 hQ7
    go_wp2_with fail
    obtain ⟨W8, hW8⟩ : ∃ W, W = W7.alloc (.cells #[.slice (some ⟨g, 0, none⟩) (xn + 1) c7] 26) := ⟨_, rfl⟩
    obtain ⟨W9, hW9⟩ : ∃ W, W = W8.alloc (.cells #[.slice y.s.A y.s.xs.length y.s.c] 26) := ⟨_, rfl⟩
    have z8 : W8.heap.size = W7.heap.size + 1 := by rw [hW8]; simp
    have z9 : W9.heap.size = W8.heap.size + 1 := by rw [hW9]; simp
    have b78 : Below W7.heap.size W7 W8 := by rw [hW8]; exact Below.allocS (Below.refl _ _) _
    have b89 : Below W8.heap.size W8 W9 := by rw [hW9]; exact Below.allocS (Below.refl _ _) _
    have b57 : Below w5.heap.size w5 W7 := hB7
    have b59 : Below w5.heap.size w5 W9 := Below.step (Below.step b57 b78) b89
    have g9 : Below w.heap.size w W9 := Below.step g5 b59
    have cT : W9.cell? ⟨W7.heap.size, 0, none⟩ = some (.slice (some ⟨g, 0, none⟩) (xn + 1) c7) := keep_cell b89 (by rw [hW8]; simp [go_sem])
    have fT : W9.frozen? ⟨W7.heap.size, 0, none⟩ = false := keep_frozen b89 (by omega) (by rw [hW8]; exact World.frozen?_alloc_new W7 _ _ _)
    have cB : W9.cell? ⟨W8.heap.size, 0, none⟩ = some (.slice y.s.A y.s.xs.length y.s.c) := by rw [hW9]; simp [go_sem]
    have hQl : (x.s.xs ++ [k]).length = xn + 1 := by rw [List.length_append, HXN.out]; rfl
    have i0 : CirI w w5.heap.size W7.heap.size (W9.heap.size + 2) (x.s.xs ++ [k]) [] W9 := ⟨g, 0, c7, by rw [List.map_nil, List.append_nil, hQl]; exact cT, fT, by rw [List.map_nil, List.append_nil]; exact (hq7.step b78).step b89, by omega, .inl hT, g9⟩
    have hyA := HWY.out
    have hRy : RdL W9 W9.heap.size inE 1 y.s.A (y.s.xs.map Int.ofNat) := (hyA.1.step (Below.step hb5 b59)).r
    have hyb : ∀ b off, y.s.A = some ⟨b, off, none⟩ → b < w5.heap.size ∨ W8.heap.size ≤ b := fun b off e => .inl (by have := hyA.2.2 b off e; have := hb5.size; omega)
    rw [z8] at cB
    generalize hyn : y.s.xs.length = yn at *
    have HYN := Lib.hid hyn
    have HI0 := Lib.hid i0
    rw [← hW8, ← hW9]
    clear hW8 hW9 hyA i0 hyn hq7
    refine (wpIn_wide (n := 5)).1 ?_
    refine range_c (n := 3) (gf := 116) (lb := #[.pointer (some ⟨W7.heap.size + 1, 0, none⟩)]) rfl (enters_of Try.func116 (by kernel_rfl) rfl)
      (Backward_stops (y.s.xs.map Int.ofNat) yn (by rw [List.length_map]; exact HYN.out) (by omega) y.s.A y.s.c w5.heap.size W8.heap.size (W7.heap.size + 1) W9 (by omega) (.inr (by omega)) hyb cB hRy) (Below.refl _ _) (by omega) (fun _ => rfl)
      (CirI w w5.heap.size W7.heap.size (W9.heap.size + 2) (x.s.xs ++ [k])) (fun _ _ _ => False) (fun s A A' h hb => h.keep hb) (fun c s A A' h hb => h) (fun s A l o h h1 h2 => h.put o (by omega) (by omega) (by have := g9.size; omega)) (fun c s A l o h h1 h2 => h) HI0.out
      (fun p a' X => a' = { tmps := #[.int .i64 n, .slice A m cap, undef, undef, .slice none 0 0, .int .i64 0, .map (some Bm), .int .i64 k, .int .i64 (frN l k), .int .i64 (toN l k), .int .i64 (tkV l k), .pointer (some ⟨W7.heap.size, 0, none⟩), undef, .int .i64 p.2, .int .i64 n, .slice A m cap, .bool true, .bool false, .int .i64 n, .slice A m cap, .map (some Bm), .slice A m cap, .map (some Bm), .int .i64 k, .int .i64 k, .bool false, .tuple #[.int .i64 (frN l k), .int .i64 (toN l k), .int .i64 (tkV l k)], .slice A m cap, .int .i64 k, .tuple #[.int .i64 (frN l k), .int .i64 (toN l k), .int .i64 (tkV l k)], .int .i64 (frN l k), .int .i64 (toN l k), .int .i64 (tkV l k), .map (some Bm), .int .i64 (frN l k), .agg #[.int .i64 x.v, .int .i64 x.f, .slice x.s.A xn x.s.c], .slice x.s.A xn x.s.c, .slice A6 xn c6, .int .i64 k, .slice (some ⟨w6.heap.size, 0, none⟩) 1 1, .slice (some ⟨g, 0, none⟩) (xn + 1) c7, .map (some Bm), .int .i64 (toN l k), .agg #[.int .i64 y.v, .int .i64 y.f, .slice y.s.A yn y.s.c], .slice y.s.A yn y.s.c, .func (.func 116) #[] #[.pointer (some ⟨W7.heap.size + 1, 0, none⟩)], .int .i64 p.1, .int .i64 p.2, undef, undef, undef, undef, undef, undef], defers := [] })
      (fun p a' X q r o h hk => h)
      ?assign ?body ?done ?stop
    case assign =>
      intro l0 pre p X K hi hs hK
      gi_wp2
      exact hK _ _ (KC.refl _ _ _ _) hi rfl
    case body =>
      rintro l0 pre p a' W hl ⟨r, hr⟩ ⟨g1, off1, c1, e1, e2, e3, e4, e5, e6⟩ rfl hlen hSp
      have hWs : W9.heap.size + 2 ≤ W.heap.size := by have := (Array.getElem?_eq_some_iff.1 hr).1; omega
      have hmem : p.2 ∈ y.s.xs.map Int.ofNat := bkw_mem (by rw [List.length_map]; exact Nat.le_of_eq HYN.out.symm) (hSp.subset (by simp))
      obtain ⟨q, hq, hpq⟩ := List.mem_map.1 hmem
      have hq60 := HWY.out.1.i q hq
      obtain ⟨p1, p2⟩ := p
      dsimp only at hpq
      subst hpq
      have hxor : bits .xor .i64 (q : Int) 1 = (bk q : Int) := xor_bk q (by omega)
      obtain ⟨L, hL⟩ : ∃ L, L = x.s.xs ++ [k] ++ pre.map (fun p => bk p.2.toNat) := ⟨_, rfl⟩
      rw [← hL] at e1 e3
      have hLl : L.length ≤ 1000 := by rw [hL, List.length_append, List.length_map, hQl]; omega
      have HPU : Hid (∃ v' w', (Builtin.append_ #[26, 26] 26 #[.slice (some ⟨g1, off1, none⟩) L.length c1, .slice (some ⟨W.heap.size, 0, none⟩) 1 1]).run Try.prog (W.alloc (.cells #[.int .i64 (bk q)] 3)) = .ok v' w' ∧ ∃ g' off' cap', v' = .slice (some ⟨g', off', none⟩) (L.length + 1) cap' ∧ QAt w' w5.heap.size g' off' (L ++ [bk q]) cap' ∧ (W.alloc (.cells #[.int .i64 (bk q)] 3)).grownBy w' (some g1) ∧ (g' = g1 ∨ (W.alloc (.cells #[.int .i64 (bk q)] 3)).heap.size ≤ g')) := Lib.hid (by
        obtain ⟨g', off', cap', w', h1, h2, h3, h4⟩ := queue_push (e3.step (Below.allocS (Below.refl _ _) (.cells #[.int .i64 (bk q)] 3))) hLl (by simp; omega) (bk q) W.heap.size (by simp [go_sem])
        exact ⟨_, _, h1, g', off', cap', rfl, h2, h3, h4⟩)
      have H1 := Lib.hid e1
      have H2 := Lib.hid e2
      have HG := Lib.hid (And.intro e3.ge e5)
      have HB := Lib.hid e6
      have HL := Lib.hid hL
      clear hr hmem hq hSp hL e3 e6 e5
      gi_wp2_with (gi_at_builtin; refine wpListIn_app rfl (.tmp 48) (.tmp 51) 26 rfl _ _ rfl rfl HPU.out ?_; rintro v7 W' ⟨g', off', cap', rfl, hq7, hg7, hgg7⟩; obtain ⟨t1, t2, t3, t4, t5⟩ := CirI.push (p1 := p1) HL.out HB.out (by have := g5.size; omega) (by omega) (by have := g5.size; omega) (by omega) hWs H1.out H2.out e4 HG.out.1 HG.out.2 hq7 hg7 hgg7; have HT4 := Lib.hid t4; have HT5 := Lib.hid t5; clear t4 t5 hq7 hg7 hgg7)
      exact And.intro (HT5.out _ (by omega)) HT4.out
    case done =>
      rintro D xs X hD rfl ⟨g1, off1, c1, e1, e2, e3, e4, e5, e6⟩ hK
      have HK := Lib.hid hK
      clear hK
      have hC : x.s.xs ++ [k] ++ (bkw (y.s.xs.map Int.ofNat) yn).map (fun p => bk p.2.toNat) = cirL x.s.xs y.s.xs k := cir_eq HYN.out
      rw [hC] at e1 e3
      obtain ⟨N, hN⟩ : ∃ N, N = (cirL x.s.xs y.s.xs k).length := ⟨_, rfl⟩
      rw [← hN] at e1
      have HN := Lib.hid hN
      clear hN hC
      go_wp2
      (try simp only [Exit.inBlock, Exit.then])
      refine circle_end D HK.out ?_
      have hgD : g1 ≠ D := by
        rintro rfl
        have := e3.c 0 (by unfold cirL; simp <;> omega)
        rw [show off1 + 0 = off1 from rfl] at this
        simp [World.cell?, HK.out] at this
      have hq := e3.kept (W' := X.putObj D (.deferred none)) (World.putObj_heap_other hgD) (by simp)
      have hcl := circle_closes (a := 0) (b := 0) HX.out.2.2.1 (by rw [HSM.out]; exact HY.out.2.2.1) hk2'
      have hxl2 := HX.out.2.2.2
      have hyl2 := HY.out.2.2.2
      have hcn := cntK_le K n; have hxl3 := HXN.out; have hyl3 := HYN.out
      have hln : (cirL x.s.xs y.s.xs k).length = x.s.xs.length + 1 + y.s.xs.length := by unfold cirL; simp; omega
      rw [HE.out, HN.out]
      refine ⟨⟨some ⟨g1, off1, none⟩, c1, cirL x.s.xs y.s.xs k, rfl, RdL.of_at hq.lt (fun j hj => ?_), fun h => absurd rfl h, fun _ => ⟨x.f, _, hcl, HNE.out, by omega, by omega⟩⟩, e6.trans (below_put X (by have := g9.size; omega) _)⟩
      rw [List.length_map] at hj
      rw [hq.c j hj]
      congr 2
      unfold atI atN
      simp [List.getD_eq_getElem?_getD, List.getElem?_eq_getElem hj]
    case stop =>
      intro D c pre X hD hS hI hK
      exact hI.elim
end Go.Proofs.Ytomgaiokmdcjmaa
