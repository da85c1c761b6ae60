/-
  Parse of transit.
-/
import Derived.Test.YtimbdnngeoccdaaDoorTt4
import Derived.Test.YtimbdnngeoccdaaDoorQj
import Derived.Laws.EntriesVeiled
import Derived.Sort.CutIn
namespace Go.Proofs.YtimbdnngeoccdaaDoor
open Go.RowKit Go.Deep Go.Shelf
attribute [local go_sem] Oper.semAt_some
set_option linter.unusedVariables false
set_option linter.unusedSimpArgs false
theorem row_same {W W' : World} {base sz n : Nat} {e : TypeId} {v : Value} {xs : List Value} (h : W.ownsRow base e sz v n xs) (hk : ∀ k, v.ownBlock = some k → W'.heap[k]? = W.heap[k]?) : W'.ownsRow base e sz v n xs := by
  refine ⟨h.1, ?_⟩
  rcases h.2 with h0 | ⟨g, cap, cur, hv, hg0, hg, h1, h2, h3, h4⟩
  · exact Or.inl h0
  · exact Or.inr ⟨g, cap, cur, hv, hg0, by rw [hk g (by rw [hv]; rfl), hg], h1, h2, h3, h4⟩
/-- What holds between two lines. -/
def NpI (w : World) (s : List UInt8) (R : List St × Int × Int) (pre : List (List UInt8)) (W : World) : Prop :=
  ∃ (L : List St) (t : List UInt8) (k : Nat) (A : Option Addr) (cap : Nat), (W.cell? ⟨w.heap.size, 0, none⟩ = some (.slice A L.length cap) ∧ W.frozen? ⟨w.heap.size, 0, none⟩ = false) ∧ (W.cell? ⟨w.heap.size + 1, 0, none⟩ = some (.int .i64 (L.length : Nat)) ∧ W.frozen? ⟨w.heap.size + 1, 0, none⟩ = false) ∧ (W.cell? ⟨w.heap.size + 1 + 1, 0, none⟩ = some (.int .i64 0) ∧ W.frozen? ⟨w.heap.size + 1 + 1, 0, none⟩ = false) ∧
    W.ownsRow (w.heap.size + 6) 25 4 (.slice A L.length cap) L.length (L.flatMap srE) ∧ okSl L = true ∧ lns s = pre ++ lns t ∧ t.length ≤ k ∧ t.length ≤ 65536 ∧ fmS.parse k L t = R ∧ Below w.heap.size w W
/-- How the loop is left. -/
def NpX (w : World) (R : List St × Int × Int) (c : Code) (pre : List (List UInt8)) (W : World) : Prop :=
  c = .ret ∧ ∃ n : Int, R = ([], n, 2) ∧ W.cell? ⟨w.heap.size, 0, none⟩ = some (.slice none 0 0) ∧ W.cell? ⟨w.heap.size + 1, 0, none⟩ = some (.int .i64 n) ∧ W.cell? ⟨w.heap.size + 1 + 1, 0, none⟩ = some (.int .i64 2) ∧ Below w.heap.size w W
theorem blk_cell {W W' : World} {b o : Nat} {u : Value} (h : W'.heap[b]? = W.heap[b]?) (hc : W.cell? ⟨b, o, none⟩ = some u) : W'.cell? ⟨b, o, none⟩ = some u := (World.cell?_of_block (a := ⟨b, o, none⟩) h).trans hc
theorem blk_frozen {W W' : World} {b o : Nat} {u : Bool} (h : W'.heap[b]? = W.heap[b]?) (hc : W.frozen? ⟨b, o, none⟩ = u) : W'.frozen? ⟨b, o, none⟩ = u := (World.frozen?_of_block (a := ⟨b, o, none⟩) h).trans hc
theorem NpI.of {w W W' : World} {s : List UInt8} {R : List St × Int × Int} {pre : List (List UInt8)} (h : NpI w s R pre W) (hb : Below w.heap.size w W') (hk : ∀ k, k < W.heap.size → (k < w.heap.size + 3 ∨ w.heap.size + 6 ≤ k) → W'.heap[k]? = W.heap[k]?) : NpI w s R pre W' := by
  obtain ⟨L, t, k, A, cap, ⟨a1, a2⟩, ⟨b1, b2⟩, ⟨c1, c2⟩, h4, h5, h6, h7, h8, h9, -⟩ := h
  have e1 := hk _ (cell?_lt a1) (.inl (by show w.heap.size < _; omega))
  have e2 := hk _ (cell?_lt b1) (.inl (by show w.heap.size + 1 < _; omega))
  have e3 := hk _ (cell?_lt c1) (.inl (by show w.heap.size + 1 + 1 < _; omega))
  refine ⟨L, t, k, A, cap, ⟨blk_cell e1 a1, blk_frozen e1 a2⟩, ⟨blk_cell e2 b1, blk_frozen e2 b2⟩, ⟨blk_cell e3 c1, blk_frozen e3 c2⟩, row_same h4 (fun g hg => ?_), h5, h6, h7, h8, h9, hb⟩
  have := h4.lt g hg
  exact hk g this.2 (.inr this.1)
theorem NpI.keep {w W W' : World} {s : List UInt8} {R : List St × Int × Int} {pre : List (List UInt8)} (h : NpI w s R pre W) (hb : Below W.heap.size W W') : NpI w s R pre W' := by
  have hB : Below w.heap.size w W := by obtain ⟨L, t, k, A, cap, -, -, -, -, -, -, -, -, -, h⟩ := h; exact h
  exact h.of (Below.step hB hb) (fun k hk _ => hb.block k hk)
theorem NpI.put {w W : World} {s : List UInt8} {R : List St × Int × Int} {pre : List (List UInt8)} (h : NpI w s R pre W) {l : Nat} (hl : l = w.heap.size + 5) (o : Obj) : NpI w s R pre (W.putObj l o) := by
  have hB : Below w.heap.size w W := by obtain ⟨L, t, k, A, cap, -, -, -, -, -, -, -, -, -, h⟩ := h; exact h
  exact h.of (hB.trans (below_put W (by omega) o)) (fun k hk h2 => World.putObj_heap_other (by omega))
theorem NpI.set {w W : World} {s : List UInt8} {R : List St × Int × Int} {pre : List (List UInt8)} (h : NpI w s R pre W) {p : Addr} (hp : p.block = w.heap.size + 3) (u : Value) : NpI w s R pre (W.setCell p u) := by
  have hB : Below w.heap.size w W := by obtain ⟨L, t, k, A, cap, -, -, -, -, -, -, -, -, -, h⟩ := h; exact h
  exact h.of (hB.setCell (by omega) u) (fun k hk h2 => Below.heap_setCell _ _ _ _ (by omega))
theorem NpX.of {w W W' : World} {R : List St × Int × Int} {c : Code} {pre : List (List UInt8)} (h : NpX w R c pre W) (hb : Below w.heap.size w W') (hk : ∀ k, k < W.heap.size → k < w.heap.size + 3 → W'.heap[k]? = W.heap[k]?) : NpX w R c pre W' := by
  obtain ⟨rfl, n, h1, h2, h3, h4, -⟩ := h
  exact ⟨rfl, n, h1, blk_cell (hk _ (cell?_lt h2) (by show w.heap.size < _; omega)) h2, blk_cell (hk _ (cell?_lt h3) (by show w.heap.size + 1 < _; omega)) h3, blk_cell (hk _ (cell?_lt h4) (by show w.heap.size + 1 + 1 < _; omega)) h4, hb⟩
theorem NpX.keep {w W W' : World} {R : List St × Int × Int} {c : Code} {pre : List (List UInt8)} (h : NpX w R c pre W) (hb : Below W.heap.size W W') : NpX w R c pre W' :=
  h.of (Below.step (by obtain ⟨-, n, -, -, -, -, h⟩ := h; exact h) hb) (fun k hk _ => hb.block k hk)
theorem NpX.put {w W : World} {R : List St × Int × Int} {c : Code} {pre : List (List UInt8)} (h : NpX w R c pre W) {l : Nat} (hl : w.heap.size + 3 ≤ l) (o : Obj) : NpX w R c pre (W.putObj l o) :=
  h.of (Below.trans (by obtain ⟨-, n, -, -, -, -, h⟩ := h; exact h) (below_put W (by omega) o)) (fun k hk h2 => World.putObj_heap_other (by omega))
theorem lns_nil {t : List UInt8} (h : lns t = []) : t = [] := by
  cases t with
  | nil => rfl
  | cons b l =>
    unfold lns at h
    split at h
    · cases h
    · split at h <;> cases h
theorem row_not {W : World} {base sz n D : Nat} {e : TypeId} {v : Value} {xs : List Value} {o : Option (List Deferred)} (h : W.ownsRow base e sz v n xs) (hD : W.heap[D]? = some (.deferred o)) : v.ownBlock ≠ some D := by
  intro hv
  rcases h.2 with ⟨rfl, _⟩ | ⟨g, cap, cur, rfl, _, hg, _⟩
  · cases hv
  · injection hv with hv
    subst hv
    rw [hD] at hg; cases hg
theorem blk_other2 {W : World} {D : Nat} {o : Option Obj} (h : W.heap[D]? = o) {p : Addr} (hp : p.block ≠ D) (v : Value) : (W.setCell p v).heap[D]? = o := (Below.heap_setCell _ _ _ _ hp.symm).trans h
theorem blk_drew2 {W : World} {D : Nat} {o : Option Obj} (h : W.heap[D]? = o) : W.drew.heap[D]? = o := h
theorem parse_end {R : Ending → World → Prop} {u : Value} {n y : Int} {Z : World} {t0 t1 : Value} {tl : List Value} (D T : Nat) (w : World) (c0 : Z.cell? ⟨T, 0, none⟩ = some u) (c1 : Z.cell? ⟨T + 1, 0, none⟩ = some (.int .i64 n)) (c2 : Z.cell? ⟨T + 1 + 1, 0, none⟩ = some (.int .i64 y)) (hD : T + 2 < D ∧ w.heap.size ≤ D) (hK : Z.heap[D]? = some (.deferred (some [])))
    (hR : R (.returned (.tuple #[u, .int .i64 n, .int .i64 y])) (Z.putObj D (.deferred none))) :
    bodyPostM Fence.wide 5 Tryd.prog Tryd.f6 R .ret { tmps := (t0 :: t1 :: .pointer (some ⟨T, 0, none⟩) :: .pointer (some ⟨T + 1, 0, none⟩) :: .pointer (some ⟨T + 1 + 1, 0, none⟩) :: tl).toArray, defers := [{ target := .collected D, args := #[] }] } Z := by
  refine ⟨by simp, .inl ⟨_, _, rfl, run_takeDeferred hK, ?_⟩⟩
  have d0 := blk_cell (W' := Z.putObj D (.deferred none)) (World.putObj_heap_other (by omega)) c0
  have d1 := blk_cell (W' := Z.putObj D (.deferred none)) (World.putObj_heap_other (by omega)) c1
  have d2 := blk_cell (W' := Z.putObj D (.deferred none)) (World.putObj_heap_other (by omega)) c2
  refine ⟨_, ?_, hR⟩
  simp [results, Tryd.results6, go_sem, *]
theorem wpListIn_app {F : Fence} {n : Nat} {ops : Array Oper} {rest : List Oper} {o : Oper} {a : Act} {w : World} {Q : Exit → Act → World → Prop} (hgd : o.guard = none) (s x : Operand) (t : TypeId)
    (ho : o.op = .call { callee := .builtin .append, args := #[s, x], argTypes := #[t, t] }) (v X : Value) (hs : a.eval s = v) (hx : a.eval x = X) {R : Value → World → Prop}
    (hrun : ∃ v' w', (Builtin.append_ #[t, t] o.type #[v, X]).run Tryd.prog w = .ok v' w' ∧ R v' w') (h : ∀ v' w', R v' w' → wpListIn F n Tryd.prog ops Q rest (a.put o.dst v') w') :
    wpListIn F n Tryd.prog ops Q (o :: rest) a w := by
  refine wpListIn_plain hgd fun K hK => ?_
  obtain ⟨v', w', hr, h2⟩ := hrun
  unfold Oper.wpIn
  refine ⟨by simp [Oper.about, ho, resolve, Target.leads, Sem.run_pure], ?_⟩
  rw [Oper.semAt_plain F _ _ (by rw [ho]; intro c hc'; cases hc')]
  simp [execOp, ho, resolve, invoke, builtin, hs, hx, hr, Result.andThen]
  exact hK _ _ (h v' w' h2)
theorem bad_word {l : List St} {s p0 p1 p2 p3 : List UInt8} (h : pieces 32 (headL s) = [p0, p1, p2, p3]) (hb : atoiB p1 = false ∨ atoiB p2 = false ∨ atoiB p3 = false) : fmS.good l s = false := by
  cases hg : fmS.good l s with
  | false => rfl
  | true =>
    obtain ⟨n, a, b, c, e, h1, h2, h3⟩ := good_words hg
    rw [h] at e
    injection e with e1 e2
    injection e2 with e2 e3
    injection e3 with e3 e4
    injection e4 with e4 e5
    subst e1 e2 e3 e4
    rcases hb with hb | hb | hb
    · rw [hb] at h1; cases h1
    · rw [hb] at h2; cases h2
    · rw [hb] at h3; cases h3
set_option maxHeartbeats 4000000 in
set_option maxRecDepth 100000 in
theorem Parse_c (s : List UInt8) (hs : s.length ≤ 9223372036854775807) (w : World) (hE : Env w) :
    Calls Tryd.prog 6 #[.string (str s)] w (Parsed w (fmS.read s)) := by
  have hsz : (str s).size = s.length := size_str s
  by_cases hlen : s.length ≤ 65536
  case neg =>
    have e1 : fmS.read s = ([], 0, 3) := by unfold Fm.read; rw [if_neg hlen]
    rw [e1]
    have hd : decide (((str s).size : Int) > 65536) = true := decide_eq_true (by omega)
    clear e1 hE
    generalize str s = S at *
    go_enter Tryd.func6, Tryd.ntmps6
    go_wp2
    refine bodyPost_ret (v := .tuple #[.slice none 0 0, .int .i64 0, .int .i64 3]) (by simp [results, Tryd.results6, go_sem, *] <;> (repeat' apply And.intro) <;> rfl) rfl ?_
    exact Parsed.err (by (repeat (first | (with_reducible exact Below.refl _ _) | (with_reducible assumption) | (with_reducible refine Below.drew ?_) | (with_reducible refine Below.allocS ?_ _) | (with_reducible refine Below.setCell ?_ ?_ _) | (with_reducible refine Below.step ?_ (by assumption)) | (with_reducible refine Below.drewN' ?_ _))); (try any_goals (first | (with_reducible assumption) | (simp; done) | (simp; omega) | omega)))
  have e1 : fmS.read s = fmS.parse s.length [] s := by unfold Fm.read; rw [if_pos hlen]
  rw [e1]
  obtain ⟨R, hR⟩ : ∃ R, fmS.parse s.length [] s = R := ⟨_, rfl⟩
  rw [hR]
  have hd : decide (((str s).size : Int) > 65536) = false := decide_eq_false (by omega)
  have HE := Lib.hid (fun W (hb : Below w.heap.size w W) => hE.step hb)
  have HR := Lib.hid hR
  clear e1 hR hE
  refine (callsIn_wide (n := 5)).1 ?_
  refine callsIn_of_wp_marks Tryd.func6 rfl trivial ?_ rfl
  simp only [Tryd.ntmps6, List.size_toArray, List.length_cons, List.length_nil, Nat.reduceAdd, Nat.reduceSub, Array.replicate_succ, Array.replicate_zero, List.push_toArray, List.append_toArray, List.nil_append, List.cons_append]
  refine wpIn_wide.2 ?_
  go_wp2_with fail
  refine (Lines_c s _).mono ?_
  rintro e w1 ⟨rfl, rfl⟩
  go_wp2
  obtain ⟨W0, hW0⟩ : ∃ W0, (((w.alloc (.cells #[.slice none 0 0] 22)).alloc (.cells #[.int .i64 0] 3)).alloc (.cells #[.int .i64 0] 26)).alloc (.cells #[.string (str s)] 9) = W0 := ⟨_, rfl⟩
  rw [hW0]
  have sz : W0.heap.size = w.heap.size + 4 := by rw [← hW0]; simp
  have b0 : Below w.heap.size w W0 := by rw [← hW0]; (repeat (first | exact Below.refl _ _ | refine Below.drew ?_ | refine Below.allocS ?_ _ | refine Below.step ?_ (by assumption) | refine Below.setCell ?_ (by simp <;> omega) _ | refine Below.drewN' ?_ _))
  have c0 : W0.cell? ⟨w.heap.size + 1 + 1 + 1, 0, none⟩ = some (.string (str s)) := by rw [← hW0]; simp [go_sem]
  have f0 : W0.frozen? ⟨w.heap.size + 1 + 1 + 1, 0, none⟩ = false := by rw [← hW0]; simp [go_sem]
  have i0 : NpI w s R [] W0 := ⟨[], s, s.length, none, 0, ⟨by rw [← hW0]; simp [go_sem], by rw [← hW0]; simp [go_sem]⟩, ⟨by rw [← hW0]; simp [go_sem], by rw [← hW0]; simp [go_sem]⟩, ⟨by rw [← hW0]; simp [go_sem], by rw [← hW0]; simp [go_sem]⟩, World.ownsRow_nil _ _ _ _, okSl_nil, rfl, Nat.le_refl _, hlen, HR.out, b0⟩
  have HI0 := Lib.hid i0
  clear hW0 HR i0
  refine (wpIn_wide (n := 5)).1 ?_
  refine range_s (n := 3) (gf := 47) (lb := #[.pointer (some ⟨w.heap.size + 1 + 1 + 1, 0, none⟩)]) rfl (enters_of Tryd.func47 (by kernel_rfl) rfl)
    (Lines_seq s (by omega) (w.heap.size + 1 + 1 + 1) (fun k => k = w.heap.size + 1 + 1 + 1 ∨ k = W0.heap.size ∨ k = W0.heap.size + 1) (.inl rfl) W0 c0 f0) (fun b hb => by have hb' : b = w.heap.size + 1 + 1 + 1 := hb; omega) (Below.refl _ _) (.inr (.inl rfl)) (.inr (.inr rfl)) (fun _ => rfl)
    (NpI w s R) (NpX w R) (fun s A A' h hb => h.keep hb) (fun c s A A' h hb => h.keep hb) (fun s A o h => h.put (by omega) o) (fun c s A o h => h.put (by omega) o) (fun s A p u hp h => h.set hp u) HI0.out
    (fun x a' X => a' = { tmps := #[.string (str s), undef, .pointer (some ⟨w.heap.size, 0, none⟩), .pointer (some ⟨w.heap.size + 1, 0, none⟩), .pointer (some ⟨w.heap.size + 1 + 1, 0, none⟩), .string (str x), undef, undef, undef, undef, undef, undef, undef, undef, .string (str s), .int .i64 (s.length : Nat), .bool (decide ((65536 : Int) < (s.length : Int))), .string (str s), .func (.func 47) #[] #[.pointer (some ⟨w.heap.size + 1 + 1 + 1, 0, none⟩)], .string (str x), undef, undef, undef, undef, undef, undef, undef, undef, undef, undef, undef, undef, undef, undef, undef, undef, undef, undef, undef, undef, undef, undef, undef, undef, undef, undef, undef, undef, undef, undef, undef, undef, undef, undef, undef, undef, undef, undef, undef, undef, undef, undef, undef, undef, undef, undef, undef, undef, undef, undef, undef, undef, undef, undef, undef, undef, undef, undef, undef, undef, undef, undef, undef, undef, undef, undef, undef, undef, undef], defers := [] })
    (fun x a' X q r o h hk => h)
    ?assign ?body ?done ?stop
  case assign =>
    intro l0 pre x X K hi hs hK
    gi_wp2
    exact hK _ _ (KT.refl _ _) hi rfl
  case body =>
    rintro l0 pre x a' W rfl ⟨r0, hr0⟩ hI rfl hSp
    have hW6 : w.heap.size + 6 ≤ W.heap.size := by have := (Array.getElem?_eq_some_iff.1 hr0).1; omega
    obtain ⟨L, t, k, A, cap, ⟨a1, a2⟩, ⟨b1', b2'⟩, ⟨c1', c2'⟩, hrow, hok, hst, htk, ht6, hpe, hbw⟩ := hI
    obtain ⟨rr, hrr⟩ := lns_next hst hSp
    obtain ⟨ht, hnx, hxx, htr⟩ := lns_step hrr
    have hxl : x.length ≤ 65536 := by
      rcases hxx with ⟨h1, rfl⟩ | ⟨h1, rfl⟩
      · have := rest_len ht
        rcases head_cases t with ⟨h, _⟩ | ⟨_, h, _⟩
        · exact absurd h1 h
        · have h2 : t.length = (headL t).length + 1 + (restL t).length := by
            conv => lhs; rw [h]
            rw [List.length_append, List.length_cons]; omega
          rw [List.length_append, List.length_singleton]; omega
      · exact ht6
    have hhl := head_le t
    have HTr := Lib.hid (fun W => trim_l x (by omega) W)
    rw [htr] at HTr
    have HSp := Lib.hid (fun W hb => split_l (headL t) (by omega) W (HE.out W hb))
    have HO := Lib.hid hrow
    have HP := Lib.hid hpe
    have HK := Lib.hid hok
    have HX := Lib.hid (And.intro hst (And.intro hnx hrr))
    have HXX := Lib.hid hxx
    have hpl := (okSl_parts hok).1
    obtain ⟨H, hH⟩ : ∃ H, headL t = H := ⟨_, rfl⟩
    have HHe := Lib.hid hH
    rw [hH] at HTr HSp hhl
    have hml := pieces_mem_len 32 H
    clear hrow hpe hok hst hnx hrr hxx htr hH hr0
    gi_wp2_with fail
    refine ⟨trivial, (callsIn_wide.2 (HTr.out _)).mono ?_⟩
    rintro e w1 ⟨rfl, rfl⟩
    gi_wp2_with fail
    refine ⟨trivial, (callsIn_wide.2 (HSp.out _ hbw)).mono ?_⟩
    rintro e w2 ⟨b1, rfl, hwd, hb1, hblw2, hbel2⟩
    have HWd := Lib.hid hwd
    have A1 := keep_cell hbel2 a1
    have A2 := keep_frozen hbel2 (cell?_lt a1) a2
    have B1 := keep_cell hbel2 b1'
    have B2 := keep_frozen hbel2 (cell?_lt b1') b2'
    have C1 := keep_cell hbel2 c1'
    have C2 := keep_frozen hbel2 (cell?_lt c1') c2'
    have HCs := Lib.hid (And.intro (And.intro A1 A2) (And.intro (And.intro B1 B2) (And.intro C1 C2)))
    clear hwd a1 a2 b1' b2' c1' c2' HTr HSp A1 A2 B1 B2 C1 C2
    generalize hm : (pieces 32 H).length = m at *
    have HM := Lib.hid hm
    clear hm
    have hmo : Tryd.prog.follows Departure.mixedOrders = true := by kernel_rfl
    have hbel2' : Below w.heap.size w w2 := Below.step hbw hbel2
    have hsz2 := hbel2.size
    by_cases h4 : m = 4
    case neg =>
      have HB := Lib.hid (HP.out.symm.trans (Fm.parse_bad ht htk (good_four (by rw [HHe.out, HM.out]; exact h4))))
      have h4' : ((m : Int) == 4) = false := by rw [beq_eq_false_iff_ne]; omega
      have h4'' : ((m : Int) != 4) = true := by simp; omega
      obtain ⟨⟨A1, A2⟩, ⟨B1, B2⟩, ⟨C1, C2⟩⟩ := HCs.out
      have a1 := keep_cell (Below.refl w2.heap.size w2) A1
      have a2 := keep_frozen (Below.refl w2.heap.size w2) (cell?_lt A1) A2
      have b1' := keep_cell (Below.refl w2.heap.size w2) B1
      have b2' := keep_frozen (Below.refl w2.heap.size w2) (cell?_lt B1) B2
      have c1' := keep_cell (Below.refl w2.heap.size w2) C1
      have c2' := keep_frozen (Below.refl w2.heap.size w2) (cell?_lt C1) C2
      have KTw : KT (fun k => k = w.heap.size + 1 + 1 + 1 ∨ k = W0.heap.size ∨ k = W0.heap.size + 1) W _ := KT.of_below (hbel2)
      have hbwN := hbel2'
      clear A1 A2 B1 B2 C1 C2
      gi_wp2
      gi_region_with_o (fail)
      all_goals gi_wp2
      all_goals
        refine And.intro ?_ ⟨rfl, _, HB.out, by simp [go_sem, *], by simp [go_sem, *], by simp [go_sem, *], ?_⟩
        · (repeat (first | (with_reducible exact KTw) | refine KT.drew1 ?_ | refine KT.setCell ?_ (by first | (simp; done) | (simp; omega) | omega) _))
        · (repeat (first | (with_reducible exact hbwN) | refine Below.drew ?_ | refine Below.setCell ?_ (by first | (simp; done) | (simp; omega) | omega) _))
    subst h4
    obtain ⟨p0, p1, p2, p3, hpq⟩ : ∃ p0 p1 p2 p3, pieces 32 H = [p0, p1, p2, p3] := by
      match pieces 32 H, HM.out with
      | [p0, p1, p2, p3], _ => exact ⟨p0, p1, p2, p3, rfl⟩
    have HPQ := Lib.hid hpq
    rw [hpq] at HWd hml
    clear hpq
    have hp0 : p0.length ≤ 70000 := by have := hml p0 (by simp); omega
    have hp1 : p1.length ≤ 70000 := by have := hml p1 (by simp); omega
    have hp2 : p2.length ≤ 70000 := by have := hml p2 (by simp); omega
    have hp3 : p3.length ≤ 70000 := by have := hml p3 (by simp); omega
    have HA1 := Lib.hid (fun W hb => atoi_e p1 hp1 W (HE.out W hb))
    have HA2 := Lib.hid (fun W hb => atoi_e p2 hp2 W (HE.out W hb))
    have HA3 := Lib.hid (fun W hb => atoi_e p3 hp3 W (HE.out W hb))
    have HBad := Lib.hid (fun (h : atoiB p1 = false ∨ atoiB p2 = false ∨ atoiB p3 = false) => HP.out.symm.trans (Fm.parse_bad ht htk (bad_word (by rw [HHe.out]; exact HPQ.out) h)))
    have d0 : w2.cell? ⟨b1, 0, none⟩ = some (.string (str p0)) := HWd.out 0 p0 rfl
    have d1 : w2.cell? ⟨b1, 1, none⟩ = some (.string (str p1)) := HWd.out 1 p1 rfl
    have d2 : w2.cell? ⟨b1, 2, none⟩ = some (.string (str p2)) := HWd.out 2 p2 rfl
    have d3 : w2.cell? ⟨b1, 3, none⟩ = some (.string (str p3)) := HWd.out 3 p3 rfl
    clear hml HWd HM
    gi_wp2_with fail
    refine ⟨trivial, (callsIn_wide.2 (HA1.out _ hbel2')).mono ?_⟩
    rintro e w3 ⟨E1, rfl, hE1, hb3⟩
    have t0 := keep_cell hb3 d0
    have t2 := keep_cell hb3 d2
    have t3 := keep_cell hb3 d3
    have hbl3 : b1 < w3.heap.size := cell?_lt t0
    have hbr3 : Below w2.heap.size w2 w3 := hb3
    have hbw3 : Below w.heap.size w w3 := Below.step hbel2' hb3
    have HE1 := Lib.hid hE1
    clear d0 d1 d2 d3 hE1 hb3
    gi_wp2_with fail
    refine ⟨trivial, (callsIn_wide.2 (HA2.out _ hbw3)).mono ?_⟩
    rintro e w4 ⟨E2, rfl, hE2, hb4⟩
    have d0 := keep_cell hb4 t0
    have d3 := keep_cell hb4 t3
    have hbl4 : b1 < w4.heap.size := cell?_lt d0
    have hbr4 : Below w2.heap.size w2 w4 := Below.step hbr3 hb4
    have hbw4 : Below w.heap.size w w4 := Below.step hbw3 hb4
    have HE2 := Lib.hid hE2
    clear t0 t2 t3 hE2 hb4 hbr3 hbw3 hbl3
    gi_wp2_with fail
    refine ⟨trivial, (callsIn_wide.2 (HA3.out _ hbw4)).mono ?_⟩
    rintro e w5 ⟨E3, rfl, hE3, hb5⟩
    have t0 := keep_cell hb5 d0
    have hbl5 : b1 < w5.heap.size := cell?_lt t0
    have hbr5 : Below w2.heap.size w2 w5 := Below.step hbr4 hb5
    have HE3 := Lib.hid hE3
    clear d0 d3 hE3 hb5 hbr4 hbw4 hbl4 HA1 HA2 HA3
    gi_upto_region 12 with fail
    obtain ⟨X, hX⟩ : ∃ X, X = (⟨str p0, atoiN p1, atoiN p2, atoiN p3⟩ : St) := ⟨_, rfl⟩
    have HXd := Lib.hid (show decS (headL t) = X by rw [hX, HHe.out]; unfold decS; rw [HPQ.out])
    have hXn : X.nm.size ≤ 70000 := by rw [hX]; show (str p0).size ≤ 70000; rw [size_str]; exact hp0
    have hXa : I64 X.a := by rw [hX]; exact atoiN_range _
    have hXb : I64 X.b := by rw [hX]; exact atoiN_range _
    have hXc : I64 X.c := by rw [hX]; exact atoiN_range _
    have z0 : (w5.alloc (.cells #[.string (str p0), .int .i64 (atoiN p1), .int .i64 (atoiN p2), .int .i64 (atoiN p3)] 25)).cell? ⟨w5.heap.size, 0, none⟩ = some (.string X.nm) := by rw [hX]; simp [go_sem, *]
    have z1 : (w5.alloc (.cells #[.string (str p0), .int .i64 (atoiN p1), .int .i64 (atoiN p2), .int .i64 (atoiN p3)] 25)).cell? ⟨w5.heap.size, 1, none⟩ = some (.int .i64 X.a) := by rw [hX]; simp [go_sem, *]
    have z2 : (w5.alloc (.cells #[.string (str p0), .int .i64 (atoiN p1), .int .i64 (atoiN p2), .int .i64 (atoiN p3)] 25)).cell? ⟨w5.heap.size, 2, none⟩ = some (.int .i64 X.b) := by rw [hX]; simp [go_sem, *]
    have z3 : (w5.alloc (.cells #[.string (str p0), .int .i64 (atoiN p1), .int .i64 (atoiN p2), .int .i64 (atoiN p3)] 25)).cell? ⟨w5.heap.size, 3, none⟩ = some (.int .i64 X.c) := by rw [hX]; simp [go_sem, *]
    have hb7 : Below w2.heap.size w2 (w5.alloc (.cells #[.string (str p0), .int .i64 (atoiN p1), .int .i64 (atoiN p2), .int .i64 (atoiN p3)] 25)) := Below.allocS hbr5 _
    generalize (w5.alloc (.cells #[.string (str p0), .int .i64 (atoiN p1), .int .i64 (atoiN p2), .int .i64 (atoiN p3)] 25)) = w7 at *
    clear hX t0
    have hbW7 : Below W.heap.size W w7 := Below.step hbel2 hb7
    have hbw7 : Below w.heap.size w w7 := Below.step hbw hbW7
    have hr5 := hbr5.size
    rcases HE1.out with ⟨hB1, rfl⟩ | ⟨hB1, ty, ad, rfl⟩
    case inr =>
      have HB := Lib.hid (HBad.out (.inl hB1))
      clear z0 z1 z2 z3
      obtain ⟨⟨A1, A2⟩, ⟨B1, B2⟩, ⟨C1, C2⟩⟩ := HCs.out
      have a1 := keep_cell hb7 A1
      have a2 := keep_frozen hb7 (cell?_lt A1) A2
      have b1' := keep_cell hb7 B1
      have b2' := keep_frozen hb7 (cell?_lt B1) B2
      have c1' := keep_cell hb7 C1
      have c2' := keep_frozen hb7 (cell?_lt C1) C2
      have KTw : KT (fun k => k = w.heap.size + 1 + 1 + 1 ∨ k = W0.heap.size ∨ k = W0.heap.size + 1) W _ := KT.of_below (hbW7)
      have hbwN := hbw7
      clear A1 A2 B1 B2 C1 C2
      gi_wp2
      (repeat (refine ⟨trivial, ?_⟩; gi_wp2))
      gi_region_with_o (fail)
      all_goals gi_wp2
      all_goals
        refine And.intro ?_ ⟨rfl, _, HB.out, by simp [go_sem, *], by simp [go_sem, *], by simp [go_sem, *], ?_⟩
        · (repeat (first | (with_reducible exact KTw) | refine KT.drew1 ?_ | refine KT.setCell ?_ (by first | (simp; done) | (simp; omega) | omega) _))
        · (repeat (first | (with_reducible exact hbwN) | refine Below.drew ?_ | refine Below.setCell ?_ (by first | (simp; done) | (simp; omega) | omega) _))
    rcases HE2.out with ⟨hB2, rfl⟩ | ⟨hB2, ty, ad, rfl⟩
    case inr =>
      have HB := Lib.hid (HBad.out (.inr (.inl hB2)))
      clear z0 z1 z2 z3
      obtain ⟨⟨A1, A2⟩, ⟨B1, B2⟩, ⟨C1, C2⟩⟩ := HCs.out
      have a1 := keep_cell hb7 A1
      have a2 := keep_frozen hb7 (cell?_lt A1) A2
      have b1' := keep_cell hb7 B1
      have b2' := keep_frozen hb7 (cell?_lt B1) B2
      have c1' := keep_cell hb7 C1
      have c2' := keep_frozen hb7 (cell?_lt C1) C2
      have KTw : KT (fun k => k = w.heap.size + 1 + 1 + 1 ∨ k = W0.heap.size ∨ k = W0.heap.size + 1) W _ := KT.of_below (hbW7)
      have hbwN := hbw7
      clear A1 A2 B1 B2 C1 C2
      gi_wp2
      (repeat (refine ⟨trivial, ?_⟩; gi_wp2))
      gi_region_with_o (fail)
      all_goals gi_wp2
      all_goals
        refine And.intro ?_ ⟨rfl, _, HB.out, by simp [go_sem, *], by simp [go_sem, *], by simp [go_sem, *], ?_⟩
        · (repeat (first | (with_reducible exact KTw) | refine KT.drew1 ?_ | refine KT.setCell ?_ (by first | (simp; done) | (simp; omega) | omega) _))
        · (repeat (first | (with_reducible exact hbwN) | refine Below.drew ?_ | refine Below.setCell ?_ (by first | (simp; done) | (simp; omega) | omega) _))
    rcases HE3.out with ⟨hB3, rfl⟩ | ⟨hB3, ty, ad, rfl⟩
    case inr =>
      have HB := Lib.hid (HBad.out (.inr (.inr hB3)))
      clear z0 z1 z2 z3
      obtain ⟨⟨A1, A2⟩, ⟨B1, B2⟩, ⟨C1, C2⟩⟩ := HCs.out
      have a1 := keep_cell hb7 A1
      have a2 := keep_frozen hb7 (cell?_lt A1) A2
      have b1' := keep_cell hb7 B1
      have b2' := keep_frozen hb7 (cell?_lt B1) B2
      have c1' := keep_cell hb7 C1
      have c2' := keep_frozen hb7 (cell?_lt C1) C2
      have KTw : KT (fun k => k = w.heap.size + 1 + 1 + 1 ∨ k = W0.heap.size ∨ k = W0.heap.size + 1) W _ := KT.of_below (hbW7)
      have hbwN := hbw7
      clear A1 A2 B1 B2 C1 C2
      gi_wp2
      (repeat (refine ⟨trivial, ?_⟩; gi_wp2))
      gi_region_with_o (fail)
      all_goals gi_wp2
      all_goals
        refine And.intro ?_ ⟨rfl, _, HB.out, by simp [go_sem, *], by simp [go_sem, *], by simp [go_sem, *], ?_⟩
        · (repeat (first | (with_reducible exact KTw) | refine KT.drew1 ?_ | refine KT.setCell ?_ (by first | (simp; done) | (simp; omega) | omega) _))
        · (repeat (first | (with_reducible exact hbwN) | refine Below.drew ?_ | refine Below.setCell ?_ (by first | (simp; done) | (simp; omega) | omega) _))
    clear hB1 hB2 hB3 HE1 HE2 HE3 HBad
    have HV := Lib.hid (fun W => ValidStar_c X.nm X.a X.b X.c (by omega) W)
    have hXe : okStar X.nm X.a X.b X.c = okS X := rfl
    rw [hXe] at HV
    clear hXe
    cases hx : okS X
    case false =>
      have HB := Lib.hid (HP.out.symm.trans (Fm.parse_bad ht htk (good_val (okSl_not (x := X) (by rw [HXd.out]; simp) hx))))
      rw [hx] at HV
      clear hx
      gi_wp2_with fail
      refine ⟨trivial, (callsIn_wide.2 (HV.out _)).mono ?_⟩
      rintro e wa ⟨rfl, hba⟩
      have hb7a : Below w2.heap.size w2 wa := Below.step hb7 hba
      have hbWa : Below W.heap.size W wa := Below.step hbW7 hba
      have hbwa : Below w.heap.size w wa := Below.step hbw7 hba
      clear z0 z1 z2 z3 hba
      obtain ⟨⟨A1, A2⟩, ⟨B1, B2⟩, ⟨C1, C2⟩⟩ := HCs.out
      have a1 := keep_cell hb7a A1
      have a2 := keep_frozen hb7a (cell?_lt A1) A2
      have b1' := keep_cell hb7a B1
      have b2' := keep_frozen hb7a (cell?_lt B1) B2
      have c1' := keep_cell hb7a C1
      have c2' := keep_frozen hb7a (cell?_lt C1) C2
      have KTw : KT (fun k => k = w.heap.size + 1 + 1 + 1 ∨ k = W0.heap.size ∨ k = W0.heap.size + 1) W _ := KT.of_below (hbWa)
      have hbwN := hbwa
      clear A1 A2 B1 B2 C1 C2
      gi_wp2
      (repeat (refine ⟨trivial, ?_⟩; gi_wp2))
      gi_region_with_o (fail)
      all_goals gi_wp2
      all_goals
        refine And.intro ?_ ⟨rfl, _, HB.out, by simp [go_sem, *], by simp [go_sem, *], by simp [go_sem, *], ?_⟩
        · (repeat (first | (with_reducible exact KTw) | refine KT.drew1 ?_ | refine KT.setCell ?_ (by first | (simp; done) | (simp; omega) | omega) _))
        · (repeat (first | (with_reducible exact hbwN) | refine Below.drew ?_ | refine Below.setCell ?_ (by first | (simp; done) | (simp; omega) | omega) _))
    rw [hx] at HV
    have HVx := Lib.hid hx
    have HWr := Lib.hid (fun W hb => written_c X hXn hXa hXb hXc W (HE.out W hb))
    clear hx
    gi_wp2_with fail
    refine ⟨trivial, (callsIn_wide.2 (HV.out _)).mono ?_⟩
    rintro e wa ⟨rfl, hba⟩
    have t0 := keep_cell hba z0
    have t1 := keep_cell hba z1
    have t2 := keep_cell hba z2
    have t3 := keep_cell hba z3
    have hb7a : Below w2.heap.size w2 wa := Below.step hb7 hba
    have hbwa : Below w.heap.size w wa := Below.step hbw7 hba
    clear z0 z1 z2 z3 hba
    gi_wp2_with fail
    refine ⟨trivial, (callsIn_wide.2 (HWr.out _ hbwa)).mono ?_⟩
    rintro e wb ⟨rfl, hbb⟩
    have z0 := keep_cell hbb t0
    have z1 := keep_cell hbb t1
    have z2 := keep_cell hbb t2
    have z3 := keep_cell hbb t3
    have hb7b : Below w2.heap.size w2 wb := Below.step hb7a hbb
    have hbWb : Below W.heap.size W wb := Below.step hbel2 hb7b
    have hbwb : Below w.heap.size w wb := Below.step hbwa hbb
    clear t0 t1 t2 t3 hbb hb7a hbwa HV HWr hb7 hbW7 hbw7
    have hbq := beq_str (fmS.line X) x
    by_cases hyes : fmS.line X = x
    case neg =>
      have HB := Lib.hid (HP.out.symm.trans (Fm.parse_bad ht htk (Fm.good_not (F := fmS) fun ⟨g1, g2, _⟩ => hyes (by
        have g2' : bodyS (decS (headL t)) = headL t := g2
        rw [HXd.out] at g2'
        rcases HXX.out with ⟨_, h⟩ | ⟨h, _⟩
        · rw [h]; show bodyS X ++ [10] = _; rw [g2']
        · exact absurd g1 h))))
      rw [decide_eq_false hyes] at hbq
      clear hyes z0 z1 z2 z3
      obtain ⟨⟨A1, A2⟩, ⟨B1, B2⟩, ⟨C1, C2⟩⟩ := HCs.out
      have a1 := keep_cell hb7b A1
      have a2 := keep_frozen hb7b (cell?_lt A1) A2
      have b1' := keep_cell hb7b B1
      have b2' := keep_frozen hb7b (cell?_lt B1) B2
      have c1' := keep_cell hb7b C1
      have c2' := keep_frozen hb7b (cell?_lt C1) C2
      have KTw : KT (fun k => k = w.heap.size + 1 + 1 + 1 ∨ k = W0.heap.size ∨ k = W0.heap.size + 1) W _ := KT.of_below (hbWb)
      have hbwN := hbwb
      clear A1 A2 B1 B2 C1 C2
      gi_wp2
      (repeat (refine ⟨trivial, ?_⟩; gi_wp2))
      gi_region_with_o (fail)
      all_goals gi_wp2
      all_goals
        refine And.intro ?_ ⟨rfl, _, HB.out, by simp [go_sem, *], by simp [go_sem, *], by simp [go_sem, *], ?_⟩
        · (repeat (first | (with_reducible exact KTw) | refine KT.drew1 ?_ | refine KT.setCell ?_ (by first | (simp; done) | (simp; omega) | omega) _))
        · (repeat (first | (with_reducible exact hbwN) | refine Below.drew ?_ | refine Below.setCell ?_ (by first | (simp; done) | (simp; omega) | omega) _))
    rw [decide_eq_true hyes] at hbq
    have hbody : (10 : UInt8) ∈ t ∧ bodyS X = headL t := by
      have hl : bodyS X ++ [10] = x := hyes
      rcases HXX.out with ⟨h1, h⟩ | ⟨h1, h⟩
      · rw [h] at hl; exact ⟨h1, List.append_cancel_right hl⟩
      · exact absurd (by rw [← h, ← hl]; simp) h1
    by_cases h100 : L.length = 100
    · have HB := Lib.hid (HP.out.symm.trans (Fm.parse_bad ht htk (good_val (okSl_big (by rw [List.length_append, List.length_singleton]; omega)))))
      have hd4 : ((L.length : Int) == 100) = true := by rw [beq_iff_eq]; omega
      clear hyes z0 z1 z2 z3 hbody
      obtain ⟨⟨A1, A2⟩, ⟨B1, B2⟩, ⟨C1, C2⟩⟩ := HCs.out
      have a1 := keep_cell hb7b A1
      have a2 := keep_frozen hb7b (cell?_lt A1) A2
      have b1' := keep_cell hb7b B1
      have b2' := keep_frozen hb7b (cell?_lt B1) B2
      have c1' := keep_cell hb7b C1
      have c2' := keep_frozen hb7b (cell?_lt C1) C2
      have KTw : KT (fun k => k = w.heap.size + 1 + 1 + 1 ∨ k = W0.heap.size ∨ k = W0.heap.size + 1) W _ := KT.of_below (hbWb)
      have hbwN := hbwb
      clear A1 A2 B1 B2 C1 C2
      gi_wp2
      (repeat (refine ⟨trivial, ?_⟩; gi_wp2))
      gi_region_with_o (fail)
      all_goals gi_wp2
      all_goals
        refine And.intro ?_ ⟨rfl, _, HB.out, by simp [go_sem, *], by simp [go_sem, *], by simp [go_sem, *], ?_⟩
        · (repeat (first | (with_reducible exact KTw) | refine KT.drew1 ?_ | refine KT.setCell ?_ (by first | (simp; done) | (simp; omega) | omega) _))
        · (repeat (first | (with_reducible exact hbwN) | refine Below.drew ?_ | refine Below.setCell ?_ (by first | (simp; done) | (simp; omega) | omega) _))
    have hd4 : ((L.length : Int) == 100) = false := by rw [beq_eq_false_iff_ne]; omega
    have HOk := Lib.hid (okSl_snoc HK.out (by omega) HVx.out)
    obtain ⟨k', hk', hpe⟩ := Fm.parse_ok ht htk (Fm.good_of (F := fmS) (l := L) hbody.1 (show bodyS (decS (headL t)) = headL t by rw [HXd.out]; exact hbody.2) (show okSl (L ++ [decS (headL t)]) = true by rw [HXd.out]; exact HOk.out))
    have hdx : fmS.dec (headL t) = X := HXd.out
    rw [hdx] at hpe
    have HPe := Lib.hid (hpe.symm.trans HP.out)
    have hrl := rest_len ht
    have hsum : IntKind.i64.wrap ((L.length : Int) + 1) = (L.length : Int) + 1 := IntWalk.i64_in _ (by omega)
    clear hpe hdx hbody hyes
    obtain ⟨⟨A1, A2⟩, ⟨B1, B2⟩, ⟨C1, C2⟩⟩ := HCs.out
    have a1 := keep_cell hb7b A1
    have a2 := keep_frozen hb7b (cell?_lt A1) A2
    have b1' := keep_cell hb7b B1
    have b2' := keep_frozen hb7b (cell?_lt B1) B2
    have c1' := keep_cell hb7b C1
    have c2' := keep_frozen hb7b (cell?_lt C1) C2
    have KTw : KT (fun k => k = w.heap.size + 1 + 1 + 1 ∨ k = W0.heap.size ∨ k = W0.heap.size + 1) W _ := KT.of_below (hbWb)
    have hbwN := hbwb
    clear A1 A2 B1 B2 C1 C2
    gi_upto_region 14 with fail
    have hrow := ownsRow_keep HO.out hbWb
    have HNk := Lib.hid (fun k (e : (Value.slice A L.length cap).ownBlock = some k) => (HO.out.lt k e).1)
    have h97 := hbWb.size
    have HAPP := Lib.hid (app_keep appSt L X L.length rfl (by omega) (wb.alloc (.cells #[.string X.nm, .int .i64 X.a, .int .i64 X.b, .int .i64 X.c] 25)) (w.heap.size + 6) wb.heap.size _ (hrow.alloc _) (by simp; omega) (fun j u hu => by
      have := new_cells wb wb.heap.size (srE X) 25 rfl j u hu
      rwa [add_none] at this))
    have hbA : Below wb.heap.size wb (wb.alloc (.cells #[.string X.nm, .int .i64 X.a, .int .i64 X.b, .int .i64 X.c] 25)) := Below.allocS (Below.refl _ _) _
    have HBA := Lib.hid hbA
    have HBW := Lib.hid (Below.step hbwb hbA)
    have HKT := Lib.hid (show KT (fun k => k = w.heap.size + 1 + 1 + 1 ∨ k = W0.heap.size ∨ k = W0.heap.size + 1) W (wb.alloc (.cells #[.string X.nm, .int .i64 X.a, .int .i64 X.b, .int .i64 X.c] 25)) from KT.of_below (Below.step hbWb hbA))
    have HCw := Lib.hid (And.intro (And.intro a1 a2) (And.intro (And.intro b1' b2') (And.intro c1' c2')))
    clear hrow hbA
    have HPush : Hid (∀ v8 w8, (w8.ownsRow (w.heap.size + 6) 25 4 v8 (L.length + 1) ((L ++ [X]).flatMap srE) ∧ Below (w.heap.size + 6) (wb.alloc (.cells #[.string X.nm, .int .i64 X.a, .int .i64 X.b, .int .i64 X.c] 25)) w8 ∧ (wb.alloc (.cells #[.string X.nm, .int .i64 X.a, .int .i64 X.b, .int .i64 X.c] 25)).grownBy w8 (Value.slice A L.length cap).ownBlock) → ∃ A8 c8, v8 = .slice A8 (L.length + 1) c8 ∧ w8.ownsRow (w.heap.size + 6) 25 4 (.slice A8 (L.length + 1) c8) (L.length + 1) ((L ++ [X]).flatMap srE) ∧
        ((w8.cell? ⟨w.heap.size, 0, none⟩ = some (.slice A L.length cap) ∧ w8.frozen? ⟨w.heap.size, 0, none⟩ = false) ∧ (w8.cell? ⟨w.heap.size + 1, 0, none⟩ = some (.int .i64 (L.length : Nat)) ∧ w8.frozen? ⟨w.heap.size + 1, 0, none⟩ = false) ∧ (w8.cell? ⟨w.heap.size + 1 + 1, 0, none⟩ = some (.int .i64 0) ∧ w8.frozen? ⟨w.heap.size + 1 + 1, 0, none⟩ = false)) ∧
        Below w.heap.size w w8 ∧ KT (fun k => k = w.heap.size + 1 + 1 + 1 ∨ k = W0.heap.size ∨ k = W0.heap.size + 1) W w8 ∧ w.heap.size + 6 ≤ w8.heap.size) := Lib.hid (by
      rintro v8 w8 ⟨hown8, hbel8, hgr8⟩
      obtain ⟨A8, c8, rfl, hc8, -⟩ := row_form hown8
      obtain ⟨⟨A1, A2⟩, ⟨B1, B2⟩, ⟨C1, C2⟩⟩ := HCw.out
      have h89 := hbel8.size
      simp at h89
      refine ⟨A8, c8, rfl, hown8,
        ⟨⟨low_at hbel8 (by omega) (keep_cell HBA.out A1), low_frozen hbel8 (by omega) (keep_frozen HBA.out (by omega) A2)⟩, ⟨low_at hbel8 (by omega) (keep_cell HBA.out B1), low_frozen hbel8 (by omega) (keep_frozen HBA.out (by omega) B2)⟩, ⟨low_at hbel8 (by omega) (keep_cell HBA.out C1), low_frozen hbel8 (by omega) (keep_frozen HBA.out (by omega) C2)⟩⟩,
        HBW.out.trans (hbel8.mono (by omega)), HKT.out.grown hgr8 (fun k e hk => by have := HNk.out k e; rcases hk with hk | hk | hk <;> omega), by omega⟩)
    clear HKT HBW HNk HBA HCw
    gi_wp2_with (gi_at_builtin; refine wpListIn_app rfl (.tmp 82) (.tmp 84) 22 rfl _ _ rfl rfl HAPP.out ?_; rintro v8 w8 hR; obtain ⟨A8, c8, rfl, hown8, ⟨⟨q1, q2⟩, ⟨q3, q4⟩, ⟨q5, q6⟩⟩, hbw8, KT8, h89⟩ := HPush.out v8 w8 hR; have HO8 := Lib.hid hown8; have HKT8 := Lib.hid KT8; clear hR hown8 KT8 HAPP HPush)
    have KTw9 : KT (fun k => k = w.heap.size + 1 + 1 + 1 ∨ k = W0.heap.size ∨ k = W0.heap.size + 1) W (w8.setCell ⟨w.heap.size, 0, none⟩ (.slice A8 (L.length + 1) c8)) := HKT8.out.setCell (fun hk => by
      have hk' : w.heap.size = w.heap.size + 1 + 1 + 1 ∨ w.heap.size = W0.heap.size ∨ w.heap.size = W0.heap.size + 1 := hk
      omega) _
    refine And.intro ?_ ⟨L ++ [X], restL t, k', A8, c8, ⟨?_, ?_⟩, ⟨?_, ?_⟩, ⟨?_, ?_⟩, ?_, HOk.out, ?_, hk', by omega, HPe.out, ?_⟩
    · exact KTw9.setCell (fun hk => by
        have hk' : w.heap.size + 1 = w.heap.size + 1 + 1 + 1 ∨ w.heap.size + 1 = W0.heap.size ∨ w.heap.size + 1 = W0.heap.size + 1 := hk
        omega) _
    · rw [List.length_append, List.length_singleton]; simp [go_sem, *]
    · simp [go_sem, *]
    · rw [List.length_append, List.length_singleton]; simp [go_sem, *]
    · simp [go_sem, *]
    · simp [go_sem, *]
    · simp [go_sem, *]
    · rw [List.length_append, List.length_singleton]
      exact row_same HO8.out (fun k e => by
        have := (HO8.out.lt k e).1
        rw [Below.heap_setCell _ _ _ _ (by show k ≠ w.heap.size + 1; omega), Below.heap_setCell _ _ _ _ (by show k ≠ w.heap.size; omega)])
    · obtain ⟨x1, x2, x3⟩ := HX.out
      rw [x1, x3, x2]; simp
    · exact Below.setCell (Below.setCell hbw8 (Nat.le_refl _) _) (by show w.heap.size ≤ w.heap.size + 1; omega) _
  case done =>
    rintro D xs X hD hxs ⟨L, t, k, A, cap, ⟨a1, a2⟩, ⟨b1', b2'⟩, ⟨c1', c2'⟩, hrow, hok, hst, htk, ht6, hpe, hbw⟩ hK
    have hst' : lns s = lns s ++ lns t := by rw [← hxs]; rw [hxs] at hst; rw [hxs]; exact hst
    have ht : t = [] := lns_nil (List.self_eq_append_right.1 hst')
    subst ht
    rw [Fm.parse_nil] at hpe
    have hmo : Tryd.prog.follows Departure.mixedOrders = true := by kernel_rfl
    have hDs : D < X.heap.size := (Array.getElem?_eq_some_iff.1 hK).1
    have hpl := (okSl_parts hok).1
    have HO := Lib.hid hrow
    have HK := Lib.hid hK
    have HPE := Lib.hid hpe
    clear hrow hok hst hst' htk ht6 hpe hK hxs
    go_wp2
    (try simp only [Exit.inBlock, Exit.then])
    all_goals
      refine parse_end (u := .slice A L.length cap) (n := 0) (y := 0) D w.heap.size w ?_ ?_ ?_ (by omega) ?_ ?_
      · simp [go_sem, *]
      · simp [go_sem, *]
      · simp [go_sem, *]
      · repeat (first | exact HK.out | refine blk_other2 ?_ (by simp; omega) _ | refine blk_drew2 ?_)
      · have hDn := row_not HO.out HK.out
        refine Parsed.ok HPE.out (row_same HO.out (fun g e => ?_)) hpl ?_
        · have hg := (HO.out.lt g e).1
          rw [World.putObj_heap_other (fun h => hDn (by rw [← h]; exact e))]
          repeat (first | rfl | (rw [Below.heap_setCell _ _ _ _ (by simp; omega)]))
        · refine Below.trans ?_ (below_put _ (by omega) _)
          (repeat (first | (with_reducible exact hbw) | refine Below.drew ?_ | refine Below.setCell ?_ (by first | (simp; done) | (simp; omega) | omega) _))
  case stop =>
    rintro D c pre X hD hS ⟨rfl, n, hRn, h2, h3, h4, hb⟩ hK
    have HRn := Lib.hid hRn
    have HK := Lib.hid hK
    clear hRn hK
    gi_wp2
    refine parse_end (u := .slice none 0 0) (n := n) (y := 2) D w.heap.size w h2 h3 h4 (by omega) HK.out ?_
    rw [HRn.out]
    exact Parsed.err (hb.trans (below_put _ (by omega) _))
end Go.Proofs.YtimbdnngeoccdaaDoor
