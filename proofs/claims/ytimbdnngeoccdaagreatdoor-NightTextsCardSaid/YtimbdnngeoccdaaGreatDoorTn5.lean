/-
  Parse of night.
-/
import Derived.Test.YtimbdnngeoccdaaGreatDoorTn4
import Derived.Test.YtimbdnngeoccdaaGreatDoorQj
import Derived.Laws.EntriesVeiled
import Derived.Sort.CutIn
namespace Go.Proofs.YtimbdnngeoccdaaGreatDoor
open Go.RowKit Go.Deep Go.Shelf
attribute [local go_sem] Oper.semAt_some
set_option linter.unusedVariables false
set_option linter.unusedSimpArgs false
theorem row_same {W W' : World} {base sz n : Nat} {e : TypeId} {v : Value} {xs : List Value} (h : W.ownsRow base e sz v n xs) (hk : ∀ k, v.ownBlock = some k → W'.heap[k]? = W.heap[k]?) : W'.ownsRow base e sz v n xs := by
  refine ⟨h.1, ?_⟩
  rcases h.2 with h0 | ⟨g, cap, cur, hv, hg0, hg, h1, h2, h3, h4⟩
  · exact Or.inl h0
  · exact Or.inr ⟨g, cap, cur, hv, hg0, by rw [hk g (by rw [hv]; rfl), hg], h1, h2, h3, h4⟩
/-- What holds between two lines. -/
def NpI (w : World) (s : List UInt8) (R : List Ch × Int × Int) (pre : List (List UInt8)) (W : World) : Prop :=
  ∃ (L : List Ch) (t : List UInt8) (k : Nat) (A : Option Addr) (cap : Nat), (W.cell? ⟨w.heap.size, 0, none⟩ = some (.slice A L.length cap) ∧ W.frozen? ⟨w.heap.size, 0, none⟩ = false) ∧ (W.cell? ⟨w.heap.size + 1, 0, none⟩ = some (.int .i64 (L.length : Nat)) ∧ W.frozen? ⟨w.heap.size + 1, 0, none⟩ = false) ∧ (W.cell? ⟨w.heap.size + 1 + 1, 0, none⟩ = some (.int .i64 0) ∧ W.frozen? ⟨w.heap.size + 1 + 1, 0, none⟩ = false) ∧
    W.ownsRow (w.heap.size + 6) 74 5 (.slice A L.length cap) L.length (L.flatMap chE) ∧ okV L = true ∧ lns s = pre ++ lns t ∧ t.length ≤ k ∧ t.length ≤ 65536 ∧ fmC.parse k L t = R ∧ Below w.heap.size w W
/-- How the loop is left. -/
def NpX (w : World) (R : List Ch × Int × Int) (c : Code) (pre : List (List UInt8)) (W : World) : Prop :=
  c = .ret ∧ ∃ n : Int, R = ([], n, 2) ∧ W.cell? ⟨w.heap.size, 0, none⟩ = some (.slice none 0 0) ∧ W.cell? ⟨w.heap.size + 1, 0, none⟩ = some (.int .i64 n) ∧ W.cell? ⟨w.heap.size + 1 + 1, 0, none⟩ = some (.int .i64 2) ∧ Below w.heap.size w W
theorem blk_cell {W W' : World} {b o : Nat} {u : Value} (h : W'.heap[b]? = W.heap[b]?) (hc : W.cell? ⟨b, o, none⟩ = some u) : W'.cell? ⟨b, o, none⟩ = some u := (World.cell?_of_block (a := ⟨b, o, none⟩) h).trans hc
theorem blk_frozen {W W' : World} {b o : Nat} {u : Bool} (h : W'.heap[b]? = W.heap[b]?) (hc : W.frozen? ⟨b, o, none⟩ = u) : W'.frozen? ⟨b, o, none⟩ = u := (World.frozen?_of_block (a := ⟨b, o, none⟩) h).trans hc
theorem NpI.of {w W W' : World} {s : List UInt8} {R : List Ch × Int × Int} {pre : List (List UInt8)} (h : NpI w s R pre W) (hb : Below w.heap.size w W') (hk : ∀ k, k < W.heap.size → (k < w.heap.size + 3 ∨ w.heap.size + 6 ≤ k) → W'.heap[k]? = W.heap[k]?) : NpI w s R pre W' := by
  obtain ⟨L, t, k, A, cap, ⟨a1, a2⟩, ⟨b1, b2⟩, ⟨c1, c2⟩, h4, h5, h6, h7, h8, h9, -⟩ := h
  have e1 := hk _ (cell?_lt a1) (.inl (by show w.heap.size < _; omega))
  have e2 := hk _ (cell?_lt b1) (.inl (by show w.heap.size + 1 < _; omega))
  have e3 := hk _ (cell?_lt c1) (.inl (by show w.heap.size + 1 + 1 < _; omega))
  refine ⟨L, t, k, A, cap, ⟨blk_cell e1 a1, blk_frozen e1 a2⟩, ⟨blk_cell e2 b1, blk_frozen e2 b2⟩, ⟨blk_cell e3 c1, blk_frozen e3 c2⟩, row_same h4 (fun g hg => ?_), h5, h6, h7, h8, h9, hb⟩
  have := h4.lt g hg
  exact hk g this.2 (.inr this.1)
theorem NpI.keep {w W W' : World} {s : List UInt8} {R : List Ch × Int × Int} {pre : List (List UInt8)} (h : NpI w s R pre W) (hb : Below W.heap.size W W') : NpI w s R pre W' := by
  have hB : Below w.heap.size w W := by obtain ⟨L, t, k, A, cap, -, -, -, -, -, -, -, -, -, h⟩ := h; exact h
  exact h.of (Below.step hB hb) (fun k hk _ => hb.block k hk)
theorem NpI.put {w W : World} {s : List UInt8} {R : List Ch × Int × Int} {pre : List (List UInt8)} (h : NpI w s R pre W) {l : Nat} (hl : l = w.heap.size + 5) (o : Obj) : NpI w s R pre (W.putObj l o) := by
  have hB : Below w.heap.size w W := by obtain ⟨L, t, k, A, cap, -, -, -, -, -, -, -, -, -, h⟩ := h; exact h
  exact h.of (hB.trans (below_put W (by omega) o)) (fun k hk h2 => World.putObj_heap_other (by omega))
theorem NpI.set {w W : World} {s : List UInt8} {R : List Ch × Int × Int} {pre : List (List UInt8)} (h : NpI w s R pre W) {p : Addr} (hp : p.block = w.heap.size + 3) (u : Value) : NpI w s R pre (W.setCell p u) := by
  have hB : Below w.heap.size w W := by obtain ⟨L, t, k, A, cap, -, -, -, -, -, -, -, -, -, h⟩ := h; exact h
  exact h.of (hB.setCell (by omega) u) (fun k hk h2 => Below.heap_setCell _ _ _ _ (by omega))
theorem NpX.of {w W W' : World} {R : List Ch × Int × Int} {c : Code} {pre : List (List UInt8)} (h : NpX w R c pre W) (hb : Below w.heap.size w W') (hk : ∀ k, k < W.heap.size → k < w.heap.size + 3 → W'.heap[k]? = W.heap[k]?) : NpX w R c pre W' := by
  obtain ⟨rfl, n, h1, h2, h3, h4, -⟩ := h
  exact ⟨rfl, n, h1, blk_cell (hk _ (cell?_lt h2) (by show w.heap.size < _; omega)) h2, blk_cell (hk _ (cell?_lt h3) (by show w.heap.size + 1 < _; omega)) h3, blk_cell (hk _ (cell?_lt h4) (by show w.heap.size + 1 + 1 < _; omega)) h4, hb⟩
theorem NpX.keep {w W W' : World} {R : List Ch × Int × Int} {c : Code} {pre : List (List UInt8)} (h : NpX w R c pre W) (hb : Below W.heap.size W W') : NpX w R c pre W' :=
  h.of (Below.step (by obtain ⟨-, n, -, -, -, -, h⟩ := h; exact h) hb) (fun k hk _ => hb.block k hk)
theorem NpX.put {w W : World} {R : List Ch × Int × Int} {c : Code} {pre : List (List UInt8)} (h : NpX w R c pre W) {l : Nat} (hl : w.heap.size + 3 ≤ l) (o : Obj) : NpX w R c pre (W.putObj l o) :=
  h.of (Below.trans (by obtain ⟨-, n, -, -, -, -, h⟩ := h; exact h) (below_put W (by omega) o)) (fun k hk h2 => World.putObj_heap_other (by omega))
theorem lns_nil {t : List UInt8} (h : lns t = []) : t = [] := by
  cases t with
  | nil => rfl
  | cons b l =>
    unfold lns at h
    split at h
    · cases h
    · split at h <;> cases h
theorem row_not {W : World} {base sz n D : Nat} {e : TypeId} {v : Value} {xs : List Value} {o : Option (List Deferred)} (h : W.ownsRow base e sz v n xs) (hD : W.heap[D]? = some (.deferred o)) : v.ownBlock ≠ some D := by
  intro hv
  rcases h.2 with ⟨rfl, _⟩ | ⟨g, cap, cur, rfl, _, hg, _⟩
  · cases hv
  · injection hv with hv
    subst hv
    rw [hD] at hg; cases hg
theorem blk_other2 {W : World} {D : Nat} {o : Option Obj} (h : W.heap[D]? = o) {p : Addr} (hp : p.block ≠ D) (v : Value) : (W.setCell p v).heap[D]? = o := (Below.heap_setCell _ _ _ _ hp.symm).trans h
theorem blk_drew2 {W : World} {D : Nat} {o : Option Obj} (h : W.heap[D]? = o) : W.drew.heap[D]? = o := h
theorem parse_end {R : Ending → World → Prop} {u : Value} {n y : Int} {Z : World} {t0 t1 : Value} {tl : List Value} (D T : Nat) (w : World) (c0 : Z.cell? ⟨T, 0, none⟩ = some u) (c1 : Z.cell? ⟨T + 1, 0, none⟩ = some (.int .i64 n)) (c2 : Z.cell? ⟨T + 1 + 1, 0, none⟩ = some (.int .i64 y)) (hD : T + 2 < D ∧ w.heap.size ≤ D) (hK : Z.heap[D]? = some (.deferred (some [])))
    (hR : R (.returned (.tuple #[u, .int .i64 n, .int .i64 y])) (Z.putObj D (.deferred none))) :
    bodyPostM Fence.wide 5 Tryz.prog Tryz.f14 R .ret { tmps := (t0 :: t1 :: .pointer (some ⟨T, 0, none⟩) :: .pointer (some ⟨T + 1, 0, none⟩) :: .pointer (some ⟨T + 1 + 1, 0, none⟩) :: tl).toArray, defers := [{ target := .collected D, args := #[] }] } Z := by
  refine ⟨by simp, .inl ⟨_, _, rfl, run_takeDeferred hK, ?_⟩⟩
  have d0 := blk_cell (W' := Z.putObj D (.deferred none)) (World.putObj_heap_other (by omega)) c0
  have d1 := blk_cell (W' := Z.putObj D (.deferred none)) (World.putObj_heap_other (by omega)) c1
  have d2 := blk_cell (W' := Z.putObj D (.deferred none)) (World.putObj_heap_other (by omega)) c2
  refine ⟨_, ?_, hR⟩
  simp [results, Tryz.results14, go_sem, *]
theorem wpListIn_app {F : Fence} {n : Nat} {ops : Array Oper} {rest : List Oper} {o : Oper} {a : Act} {w : World} {Q : Exit → Act → World → Prop} (hgd : o.guard = none) (s x : Operand) (t : TypeId)
    (ho : o.op = .call { callee := .builtin .append, args := #[s, x], argTypes := #[t, t] }) (v X : Value) (hs : a.eval s = v) (hx : a.eval x = X) {R : Value → World → Prop}
    (hrun : ∃ v' w', (Builtin.append_ #[t, t] o.type #[v, X]).run Tryz.prog w = .ok v' w' ∧ R v' w') (h : ∀ v' w', R v' w' → wpListIn F n Tryz.prog ops Q rest (a.put o.dst v') w') :
    wpListIn F n Tryz.prog ops Q (o :: rest) a w := by
  refine wpListIn_plain hgd fun K hK => ?_
  obtain ⟨v', w', hr, h2⟩ := hrun
  unfold Oper.wpIn
  refine ⟨by simp [Oper.about, ho, resolve, Target.leads, Sem.run_pure], ?_⟩
  rw [Oper.semAt_plain F _ _ (by rw [ho]; intro c hc'; cases hc')]
  simp [execOp, ho, resolve, invoke, builtin, hs, hx, hr, Result.andThen]
  exact hK _ _ (h v' w' h2)
theorem bad_word {l : List Ch} {s p0 y : List UInt8} {q : List (List UInt8)} (h : pieces 32 (headL s) = p0 :: q) (hy : y ∈ q) (hb : atoiB y = false) : fmC.good l s = false := by
  cases hg : fmC.good l s with
  | false => rfl
  | true =>
    obtain ⟨n, a, b, c, d, e, h1, h2, h3, h4⟩ := good_words hg
    rw [h] at e
    injection e with e1 e2
    subst e2
    simp at hy
    rcases hy with rfl | rfl | rfl | rfl
    · rw [hb] at h1; cases h1
    · rw [hb] at h2; cases h2
    · rw [hb] at h3; cases h3
    · rw [hb] at h4; cases h4
set_option maxHeartbeats 4000000 in
set_option maxRecDepth 100000 in
theorem Parse_c (s : List UInt8) (hs : s.length ≤ 9223372036854775807) (w : World) (hE : Env w) :
    Calls Tryz.prog 14 #[.string (str s)] w (Parsed w (fmC.read s)) := by
  have hsz : (str s).size = s.length := size_str s
  by_cases hlen : s.length ≤ 65536
  case neg =>
    have e1 : fmC.read s = ([], 0, 3) := by unfold Fm.read; rw [if_neg hlen]
    rw [e1]
    have hd : decide (((str s).size : Int) > 65536) = true := decide_eq_true (by omega)
    clear e1 hE
    generalize str s = S at *
    go_enter Tryz.func14, Tryz.ntmps14
    go_wp2
    refine bodyPost_ret (v := .tuple #[.slice none 0 0, .int .i64 0, .int .i64 3]) (by simp [results, Tryz.results14, go_sem, *] <;> (repeat' apply And.intro) <;> rfl) rfl ?_
    exact Parsed.err (by (repeat (first | (with_reducible exact Below.refl _ _) | (with_reducible assumption) | (with_reducible refine Below.drew ?_) | (with_reducible refine Below.allocS ?_ _) | (with_reducible refine Below.setCell ?_ ?_ _) | (with_reducible refine Below.step ?_ (by assumption)) | (with_reducible refine Below.drewN' ?_ _))); (try any_goals (first | (with_reducible assumption) | (simp; done) | (simp; omega) | omega)))
  have e1 : fmC.read s = fmC.parse s.length [] s := by unfold Fm.read; rw [if_pos hlen]
  rw [e1]
  obtain ⟨R, hR⟩ : ∃ R, fmC.parse s.length [] s = R := ⟨_, rfl⟩
  rw [hR]
  have hd : decide (((str s).size : Int) > 65536) = false := decide_eq_false (by omega)
  have HE := Lib.hid (fun W (hb : Below w.heap.size w W) => hE.step hb)
  have HR := Lib.hid hR
  clear e1 hR hE
  refine (callsIn_wide (n := 5)).1 ?_
  refine callsIn_of_wp_marks Tryz.func14 rfl trivial ?_ rfl
  simp only [Tryz.ntmps14, List.size_toArray, List.length_cons, List.length_nil, Nat.reduceAdd, Nat.reduceSub, Array.replicate_succ, Array.replicate_zero, List.push_toArray, List.append_toArray, List.nil_append, List.cons_append]
  refine wpIn_wide.2 ?_
  go_wp2_with fail
  refine (Lines_c s _).mono ?_
  rintro e w1 ⟨rfl, rfl⟩
  go_wp2
  obtain ⟨W0, hW0⟩ : ∃ W0, (((w.alloc (.cells #[.slice none 0 0] 31)).alloc (.cells #[.int .i64 0] 3)).alloc (.cells #[.int .i64 0] 25)).alloc (.cells #[.string (str s)] 9) = W0 := ⟨_, rfl⟩
  rw [hW0]
  have sz : W0.heap.size = w.heap.size + 4 := by rw [← hW0]; simp
  have b0 : Below w.heap.size w W0 := by rw [← hW0]; (repeat (first | exact Below.refl _ _ | refine Below.drew ?_ | refine Below.allocS ?_ _ | refine Below.step ?_ (by assumption) | refine Below.setCell ?_ (by simp <;> omega) _ | refine Below.drewN' ?_ _))
  have c0 : W0.cell? ⟨w.heap.size + 1 + 1 + 1, 0, none⟩ = some (.string (str s)) := by rw [← hW0]; simp [go_sem]
  have f0 : W0.frozen? ⟨w.heap.size + 1 + 1 + 1, 0, none⟩ = false := by rw [← hW0]; simp [go_sem]
  have i0 : NpI w s R [] W0 := ⟨[], s, s.length, none, 0, ⟨by rw [← hW0]; simp [go_sem], by rw [← hW0]; simp [go_sem]⟩, ⟨by rw [← hW0]; simp [go_sem], by rw [← hW0]; simp [go_sem]⟩, ⟨by rw [← hW0]; simp [go_sem], by rw [← hW0]; simp [go_sem]⟩, World.ownsRow_nil _ _ _ _, okV_nil, rfl, Nat.le_refl _, hlen, HR.out, b0⟩
  have HI0 := Lib.hid i0
  clear hW0 HR i0
  refine (wpIn_wide (n := 5)).1 ?_
  refine range_s (n := 3) (gf := 60) (lb := #[.pointer (some ⟨w.heap.size + 1 + 1 + 1, 0, none⟩)]) rfl (enters_of Tryz.func60 (by kernel_rfl) rfl)
    (Lines_seq s (by omega) (w.heap.size + 1 + 1 + 1) (fun k => k = w.heap.size + 1 + 1 + 1 ∨ k = W0.heap.size ∨ k = W0.heap.size + 1) (.inl rfl) W0 c0 f0) (fun b hb => by have hb' : b = w.heap.size + 1 + 1 + 1 := hb; omega) (Below.refl _ _) (.inr (.inl rfl)) (.inr (.inr rfl)) (fun _ => rfl)
    (NpI w s R) (NpX w R) (fun s A A' h hb => h.keep hb) (fun c s A A' h hb => h.keep hb) (fun s A o h => h.put (by omega) o) (fun c s A o h => h.put (by omega) o) (fun s A p u hp h => h.set hp u) HI0.out
    (fun x a' X => a' = { tmps := #[.string (str s), undef, .pointer (some ⟨w.heap.size, 0, none⟩), .pointer (some ⟨w.heap.size + 1, 0, none⟩), .pointer (some ⟨w.heap.size + 1 + 1, 0, none⟩), .string (str x), undef, undef, undef, undef, undef, undef, undef, .string (str s), .int .i64 (s.length : Nat), .bool (decide ((65536 : Int) < (s.length : Int))), .string (str s), .func (.func 60) #[] #[.pointer (some ⟨w.heap.size + 1 + 1 + 1, 0, none⟩)], .string (str x), undef, undef, undef, undef, undef, undef, undef, undef, undef, undef, undef, undef, undef, undef, undef, undef, undef, undef, undef, undef, undef, undef, undef, undef, undef, undef, undef, undef, undef, undef, undef, undef, undef, undef, undef, undef, undef, undef, undef, undef, undef, undef, undef, undef, undef, undef, undef, undef, undef, undef, undef, undef, undef, undef, undef, undef, undef, undef, undef, undef], defers := [] })
    (fun x a' X q r o h hk => h)
    ?assign ?body ?done ?stop
  case assign =>
    intro l0 pre x X K hi hs hK
    gi_wp2
    exact hK _ _ (KT.refl _ _) hi rfl
  case body =>
    rintro l0 pre x a' W rfl ⟨r0, hr0⟩ hI rfl hSp
    have hW6 : w.heap.size + 6 ≤ W.heap.size := by have := (Array.getElem?_eq_some_iff.1 hr0).1; omega
    obtain ⟨L, t, k, A, cap, ⟨a1, a2⟩, ⟨b1', b2'⟩, ⟨c1', c2'⟩, hrow, hok, hst, htk, ht6, hpe, hbw⟩ := hI
    obtain ⟨rr, hrr⟩ := lns_next hst hSp
    obtain ⟨ht, hnx, hxx, htr⟩ := lns_step hrr
    have hxl : x.length ≤ 65536 := by
      rcases hxx with ⟨h1, rfl⟩ | ⟨h1, rfl⟩
      · have := rest_len ht
        rcases head_cases t with ⟨h, _⟩ | ⟨_, h, _⟩
        · exact absurd h1 h
        · have h2 : t.length = (headL t).length + 1 + (restL t).length := by
            conv => lhs; rw [h]
            rw [List.length_append, List.length_cons]; omega
          rw [List.length_append, List.length_singleton]; omega
      · exact ht6
    have hhl := head_le t
    have HTr := Lib.hid (fun W => trim_l x (by omega) W)
    rw [htr] at HTr
    have HSp := Lib.hid (fun W hb => split_l (headL t) (by omega) W (HE.out W hb))
    have HO := Lib.hid hrow
    have HP := Lib.hid hpe
    have HK := Lib.hid hok
    have HX := Lib.hid (And.intro hst (And.intro hnx hrr))
    have HXX := Lib.hid hxx
    have hpl := (okV_parts hok).2
    obtain ⟨H, hH⟩ : ∃ H, headL t = H := ⟨_, rfl⟩
    have HHe := Lib.hid hH
    rw [hH] at HTr HSp hhl
    obtain ⟨p0, q, hpq⟩ : ∃ p0 q, pieces 32 H = p0 :: q := by
      cases h : pieces 32 H with
      | nil => exact absurd h (pieces_ne 32 H)
      | cons a b => exact ⟨a, b, rfl⟩
    have hml := pieces_mem_len 32 H
    have hmn := pieces_len_le 32 H
    have HPQ := Lib.hid hpq
    rw [hpq] at HSp hml hmn
    clear hrow hpe hok hst hnx hrr hxx htr hH hpq hr0
    gi_wp2_with fail
    refine ⟨trivial, (callsIn_wide.2 (HTr.out _)).mono ?_⟩
    rintro e w1 ⟨rfl, rfl⟩
    gi_wp2_with fail
    refine ⟨trivial, (callsIn_wide.2 (HSp.out _ hbw)).mono ?_⟩
    rintro e w2 ⟨b1, rfl, hwd, hb1, hblw2, hbel2⟩
    have d := hwd
    have HWd := Lib.hid hwd
    have A1 := keep_cell hbel2 a1
    have A2 := keep_frozen hbel2 (cell?_lt a1) a2
    have B1 := keep_cell hbel2 b1'
    have B2 := keep_frozen hbel2 (cell?_lt b1') b2'
    have C1 := keep_cell hbel2 c1'
    have C2 := keep_frozen hbel2 (cell?_lt c1') c2'
    clear hwd d a1 a2 b1' b2' c1' c2' HTr HSp
    have hqz : (p0 :: q).length = q.length + 1 := rfl
    rw [hqz] at hmn ⊢
    obtain ⟨Q, hQ⟩ : ∃ Q, Q = q.length := ⟨_, rfl⟩
    have HQ := Lib.hid hQ
    rw [← hQ] at hmn ⊢
    clear hQ hqz
    have hn1 : (1 : Int) ≤ (Q : Int) + 1 := by omega
    have hmo : Tryz.prog.follows Departure.mixedOrders = true := by kernel_rfl
    have hbel2' : Below w.heap.size w w2 := Below.step hbw hbel2
    have hsz2 := hbel2.size
    rcases Nat.eq_zero_or_pos Q with hQ0 | hQ1
    · have HB := Lib.hid (HP.out.symm.trans (Fm.parse_bad ht htk (good_five (by rw [HHe.out, HPQ.out, List.length_cons, ← HQ.out]; omega))))
      subst hQ0
      gi_wp2
      gi_loopw [7, 25] (fun v i wr => v = .slice none 0 0 ∧ i = .int .i64 0 ∧ w2 = wr) (fun _ _ _ => 0)
      case atStart => exact ⟨rfl, rfl, rfl⟩
      case round =>
        obtain ⟨rfl, rfl, rfl⟩ := hrel
        have KTw : KT (fun k => k = w.heap.size + 1 + 1 + 1 ∨ k = W0.heap.size ∨ k = W0.heap.size + 1) W w2 := KT.of_below hbel2
        have hbwN := hbel2'
        gi_wp2
        gi_region_with_o (fail)
        all_goals gi_wp2
        all_goals
          refine And.intro ?_ ⟨rfl, _, HB.out, by simp [go_sem, *], by simp [go_sem, *], by simp [go_sem, *], ?_⟩
          · (repeat (first | (with_reducible exact KTw) | refine KT.drew1 ?_ | refine KT.setCell ?_ (by first | (simp; done) | (simp; omega) | omega) _))
          · (repeat (first | (with_reducible exact hbwN) | refine Below.drew ?_ | refine Below.setCell ?_ (by first | (simp; done) | (simp; omega) | omega) _))
    · have hq1 : ¬ Q = 0 := by omega
      have HCs := Lib.hid (And.intro (And.intro A1 A2) (And.intro (And.intro B1 B2) (And.intro C1 C2)))
      clear A1 A2 B1 B2 C1 C2
      gi_wp2
      gi_loopw [7, 25] (fun v i wr => ∃ j : Nat, j ≤ Q ∧ i = .int .i64 j ∧ wr.ownsRow w2.heap.size 3 1 v j (((q.take j).map atoiN).flatMap inE) ∧ (∀ y ∈ q.take j, atoiB y = true) ∧ Below w2.heap.size w2 wr) (fun _ i _ => Q - (intOf i).toNat)
      case atStart => exact ⟨0, Nat.zero_le _, rfl, World.ownsRow_nil _ _ _ _, by simp, Below.refl _ _⟩
      case round =>
        obtain ⟨j, hj, rfl, hown, hall, hbr⟩ := hrel
        have HOw := Lib.hid hown
        have HAl := Lib.hid hall
        obtain ⟨Av, cv, rfl, -, -⟩ := row_form hown
        clear hown hall
        have hbwr : Below w.heap.size w wr := Below.step hbel2' hbr
        by_cases hlt : j < Q
        · have hlt' : j < q.length := by rw [← HQ.out]; exact hlt
          have d0 : wr.cell? ⟨b1, 1 + j, none⟩ = some (.string (str q[j])) := keep_cell hbr (by
            have := HWd.out (j + 1) q[j] (by simp [hlt'])
            rw [Nat.add_comm 1 j]; exact this)
          have hyl : q[j].length ≤ 70000 := by have := hml q[j] (List.mem_cons_of_mem _ (List.getElem_mem hlt')); omega
          have HAt := Lib.hid (fun W hb => atoi_e q[j] hyl W (HE.out W hb))
          have HBad := Lib.hid (fun (h : atoiB q[j] = false) => HP.out.symm.trans (Fm.parse_bad ht htk (bad_word (by rw [HHe.out]; exact HPQ.out) (List.getElem_mem hlt') h)))
          have HNx := Lib.hid (show q.take (j + 1) = q.take j ++ [q[j]] from take_snoc q j hlt')
          have u1 : (0 : Int) ≤ (j : Int) := by omega
          have u2 : (j : Int) < (Q : Int) := by omega
          have hb1w : b1 < wr.heap.size := by have := hbr.size; omega
          generalize q[j] = y at *
          gi_wp2_with fail
          refine ⟨trivial, (callsIn_wide.2 (HAt.out _ hbwr)).mono ?_⟩
          rintro e w3 ⟨E, rfl, hEr, hb3⟩
          rcases hEr with ⟨hB, rfl⟩ | ⟨hB, ty, ad, rfl⟩
          · have hb3s := hb3.size
            have hbrs := hbr.size
            have hrow3 := ownsRow_keep HOw.out hb3
            have HAPP := Lib.hid (app_run appI ((q.take j).map atoiN) (atoiN y) j (by rw [List.length_map, List.length_take]; omega) (by omega) (w3.alloc (.cells #[.int .i64 (atoiN y)] 3)) w2.heap.size w3.heap.size _ (hrow3.alloc _) (by simp; omega) (one_cell rfl (by simp [go_sem])))
            have HB2 := Lib.hid (Below.allocS (Below.step hbr hb3) (.cells #[.int .i64 (atoiN y)] 3))
            have HBt := Lib.hid hB
            clear hrow3 hB
            gi_wp2_with (gi_at_builtin; refine wpListIn_app rfl (.tmp 37) (.tmp 39) 75 rfl _ _ rfl rfl HAPP.out ?_; rintro v5 w5 ⟨hown5, hbel5⟩; have HO5 := Lib.hid hown5; have hB5 : Below w2.heap.size w2 w5 := HB2.out.trans hbel5; clear hown5 hbel5)
            go_roundw
            case rel => exact ⟨j + 1, hlt, by go_num, by rw [HNx.out, List.map_append]; exact HO5.out, by
              rw [HNx.out]
              intro z hz
              rcases List.mem_append.1 hz with hz | hz
              · exact HAl.out z hz
              · simp at hz; subst hz; exact HBt.out, hB5⟩
            case measure => simp [intOf]; omega
          · have HB := Lib.hid (HBad.out hB)
            have hbq : Below w2.heap.size w2 w3 := Below.step hbr hb3
            obtain ⟨⟨A1, A2⟩, ⟨B1, B2⟩, ⟨C1, C2⟩⟩ := HCs.out
            have a1 := keep_cell hbq A1
            have a2 := keep_frozen hbq (cell?_lt A1) A2
            have b1' := keep_cell hbq B1
            have b2' := keep_frozen hbq (cell?_lt B1) B2
            have c1' := keep_cell hbq C1
            have c2' := keep_frozen hbq (cell?_lt C1) C2
            have KTw : KT (fun k => k = w.heap.size + 1 + 1 + 1 ∨ k = W0.heap.size ∨ k = W0.heap.size + 1) W w3 := KT.of_below (Below.step hbel2 hbq)
            have hbwN : Below w.heap.size w w3 := Below.step hbwr hb3
            clear A1 A2 B1 B2 C1 C2 hB hbq hb3
            gi_wp2
            gi_region_with_o (fail)
            all_goals gi_wp2
            all_goals
              refine And.intro ?_ ⟨rfl, _, HB.out, by simp [go_sem, *], by simp [go_sem, *], by simp [go_sem, *], ?_⟩
              · (repeat (first | (with_reducible exact KTw) | refine KT.drew1 ?_ | refine KT.setCell ?_ (by first | (simp; done) | (simp; omega) | omega) _))
              · (repeat (first | (with_reducible exact hbwN) | refine Below.drew ?_ | refine Below.setCell ?_ (by first | (simp; done) | (simp; omega) | omega) _))
        · obtain rfl : j = Q := by omega
          have hlq : q.take j = q := by rw [HQ.out]; exact List.take_length
          rw [hlq] at HOw HAl
          clear hlq
          by_cases hQ4 : j = 4
          case neg =>
            have HB := Lib.hid (HP.out.symm.trans (Fm.parse_bad ht htk (good_five (by rw [HHe.out, HPQ.out, List.length_cons, ← HQ.out]; omega))))
            have hd4 : ((j : Int) == 4) = false := by rw [beq_eq_false_iff_ne]; omega
            have hd4' : ((j : Int) != 4) = true := by simp; omega
            obtain ⟨⟨A1, A2⟩, ⟨B1, B2⟩, ⟨C1, C2⟩⟩ := HCs.out
            have a1 := keep_cell hbr A1
            have a2 := keep_frozen hbr (cell?_lt A1) A2
            have b1' := keep_cell hbr B1
            have b2' := keep_frozen hbr (cell?_lt B1) B2
            have c1' := keep_cell hbr C1
            have c2' := keep_frozen hbr (cell?_lt C1) C2
            have KTw : KT (fun k => k = w.heap.size + 1 + 1 + 1 ∨ k = W0.heap.size ∨ k = W0.heap.size + 1) W wr := KT.of_below (Below.step hbel2 hbr)
            have hbwN := hbwr
            clear A1 A2 B1 B2 C1 C2
            gi_wp2
            gi_region_with_o (fail)
            all_goals gi_wp2
            all_goals
              refine And.intro ?_ ⟨rfl, _, HB.out, by simp [go_sem, *], by simp [go_sem, *], by simp [go_sem, *], ?_⟩
              · (repeat (first | (with_reducible exact KTw) | refine KT.drew1 ?_ | refine KT.setCell ?_ (by first | (simp; done) | (simp; omega) | omega) _))
              · (repeat (first | (with_reducible exact hbwN) | refine Below.drew ?_ | refine Below.setCell ?_ (by first | (simp; done) | (simp; omega) | omega) _))
          subst hQ4
          obtain ⟨p1, p2, p3, p4, rfl⟩ : ∃ p1 p2 p3 p4, q = [p1, p2, p3, p4] := by
            match q, HQ.out with
            | [a, b, c, d], _ => exact ⟨a, b, c, d, rfl⟩
          obtain ⟨g, cv', hv⟩ := Go.Joins.ownsRow_form HOw.out (by omega)
          injection hv with hAv _ hcv
          subst hAv hcv
          have HBn := Lib.hid (HOw.out.lt g rfl)
          have hg0 : wr.cell? ⟨g, 0, none⟩ = some (.int .i64 (atoiN p1)) := by have := HOw.out.cells (g := g) rfl 0 _ rfl; rwa [add_none] at this
          have hg1 : wr.cell? ⟨g, 1, none⟩ = some (.int .i64 (atoiN p2)) := by have := HOw.out.cells (g := g) rfl 1 _ rfl; rwa [add_none] at this
          have hg2 : wr.cell? ⟨g, 2, none⟩ = some (.int .i64 (atoiN p3)) := by have := HOw.out.cells (g := g) rfl 2 _ rfl; rwa [add_none] at this
          have hg3 : wr.cell? ⟨g, 3, none⟩ = some (.int .i64 (atoiN p4)) := by have := HOw.out.cells (g := g) rfl 3 _ rfl; rwa [add_none] at this
          have hd0 : wr.cell? ⟨b1, 0, none⟩ = some (.string (str p0)) := keep_cell hbr (HWd.out 0 p0 rfl)
          have hglt : g < wr.heap.size := cell?_lt hg0
          have hb1w : b1 < wr.heap.size := cell?_lt hd0
          gi_wp2
          refine round_new 16 (om := ⟨_, _, _, _, _, _⟩) (ob := .cells #[.string ⟨#[]⟩, .int .i64 0, .int .i64 0, .int .i64 0, .int .i64 0] 74) (by kernel_rfl) (by kernel_rfl) (by kernel_rfl) rfl rfl (fun a W => by go_simp) ?_; simp only [List.take_succ_cons, List.take_zero, List.drop_succ_cons, List.drop_zero]
          (refine qr_val (v := ?_) rfl ?_ ?_; rotate_left 1; (· (intro Wq hWq; obtain ⟨hWc, hWf⟩ := bcell hWq; go_simp; (try with_reducible rfl))); (try simp only [Act.put, List.setIfInBounds_toArray, List.set_cons_zero, List.set_cons_succ]))
          (refine qr_val (v := ?_) rfl ?_ ?_; rotate_left 1; (· (intro Wq hWq; obtain ⟨hWc, hWf⟩ := bcell hWq; go_simp; (try with_reducible rfl))); (try simp only [Act.put, List.setIfInBounds_toArray, List.set_cons_zero, List.set_cons_succ]))
          (refine qr_val (v := ?_) rfl ?_ ?_; rotate_left 1; (· (intro Wq hWq; obtain ⟨hWc, hWf⟩ := bcell hWq; go_simp; (try with_reducible rfl))); (try simp only [Act.put, List.setIfInBounds_toArray, List.set_cons_zero, List.set_cons_succ]))
          (refine qr_val (v := ?_) rfl ?_ ?_; rotate_left 1; (· (intro Wq hWq; obtain ⟨hWc, hWf⟩ := bcell hWq; go_simp; (try with_reducible rfl))); (try simp only [Act.put, List.setIfInBounds_toArray, List.set_cons_zero, List.set_cons_succ]))
          (refine qr_val (v := ?_) rfl ?_ ?_; rotate_left 1; (· (intro Wq hWq; obtain ⟨hWc, hWf⟩ := bcell hWq; go_simp; (try with_reducible rfl))); (try simp only [Act.put, List.setIfInBounds_toArray, List.set_cons_zero, List.set_cons_succ]))
          (refine qr_val (v := ?_) rfl ?_ ?_; rotate_left 1; (· (intro Wq hWq; obtain ⟨hWc, hWf⟩ := bcell hWq; go_simp; (try with_reducible rfl))); (try simp only [Act.put, List.setIfInBounds_toArray, List.set_cons_zero, List.set_cons_succ]))
          (refine qr_val (v := ?_) rfl ?_ ?_; rotate_left 1; (· (intro Wq hWq; obtain ⟨hWc, hWf⟩ := bcell hWq; go_simp; (try with_reducible rfl))); (try simp only [Act.put, List.setIfInBounds_toArray, List.set_cons_zero, List.set_cons_succ]))
          (refine qr_val (v := ?_) rfl ?_ ?_; rotate_left 1; (· (intro Wq hWq; obtain ⟨hWc, hWf⟩ := bcell hWq; go_simp; (try with_reducible rfl))); (try simp only [Act.put, List.setIfInBounds_toArray, List.set_cons_zero, List.set_cons_succ]))
          (refine qr_val (v := ?_) rfl ?_ ?_; rotate_left 1; (· (intro Wq hWq; obtain ⟨hWc, hWf⟩ := bcell hWq; go_simp; (try with_reducible rfl))); (try simp only [Act.put, List.setIfInBounds_toArray, List.set_cons_zero, List.set_cons_succ]))
          (refine qr_val (v := ?_) rfl ?_ ?_; rotate_left 1; (· (intro Wq hWq; obtain ⟨hWc, hWf⟩ := bcell hWq; go_simp; (try with_reducible rfl))); (try simp only [Act.put, List.setIfInBounds_toArray, List.set_cons_zero, List.set_cons_succ]))
          (refine qr_val (v := ?_) rfl ?_ ?_; rotate_left 1; (· (intro Wq hWq; obtain ⟨hWc, hWf⟩ := bcell hWq; go_simp; (try with_reducible rfl))); (try simp only [Act.put, List.setIfInBounds_toArray, List.set_cons_zero, List.set_cons_succ]))
          (refine qr_val (v := ?_) rfl ?_ ?_; rotate_left 1; (· (intro Wq hWq; obtain ⟨hWc, hWf⟩ := bcell hWq; go_simp; (try with_reducible rfl))); (try simp only [Act.put, List.setIfInBounds_toArray, List.set_cons_zero, List.set_cons_succ]))
          (refine qr_val (v := ?_) rfl ?_ ?_; rotate_left 1; (· (intro Wq hWq; obtain ⟨hWc, hWf⟩ := bcell hWq; go_simp; (try with_reducible rfl))); (try simp only [Act.put, List.setIfInBounds_toArray, List.set_cons_zero, List.set_cons_succ]))
          (refine qr_val (v := ?_) rfl ?_ ?_; rotate_left 1; (· (intro Wq hWq; obtain ⟨hWc, hWf⟩ := bcell hWq; go_simp; (try with_reducible rfl))); (try simp only [Act.put, List.setIfInBounds_toArray, List.set_cons_zero, List.set_cons_succ]))
          (refine qr_val (v := ?_) rfl ?_ ?_; rotate_left 1; (· (intro Wq hWq; obtain ⟨hWc, hWf⟩ := bcell hWq; go_simp; (try with_reducible rfl))); (try simp only [Act.put, List.setIfInBounds_toArray, List.set_cons_zero, List.set_cons_succ]))
          (refine qr_val (v := ?_) rfl ?_ ?_; rotate_left 1; (· (intro Wq hWq; obtain ⟨hWc, hWf⟩ := bcell hWq; go_simp; (try with_reducible rfl))); (try simp only [Act.put, List.setIfInBounds_toArray, List.set_cons_zero, List.set_cons_succ]))
          refine qr_nil ?_; intro W1 V h1 h2
          have e0 : V.cell? ⟨W1.heap.size, 0, none⟩ = some (.string ⟨#[]⟩) := keep_cell h2 (by simp [go_sem])
          have e1 : V.cell? ⟨W1.heap.size, 1, none⟩ = some (.int .i64 0) := keep_cell h2 (by simp [go_sem])
          have e2 : V.cell? ⟨W1.heap.size, 2, none⟩ = some (.int .i64 0) := keep_cell h2 (by simp [go_sem])
          have e3 : V.cell? ⟨W1.heap.size, 3, none⟩ = some (.int .i64 0) := keep_cell h2 (by simp [go_sem])
          have e4 : V.cell? ⟨W1.heap.size, 4, none⟩ = some (.int .i64 0) := keep_cell h2 (by simp [go_sem])
          have k0 : V.frozen? ⟨W1.heap.size, 0, none⟩ = false := keep_frozen h2 (by simp) (by simp [go_sem])
          have k1 : V.frozen? ⟨W1.heap.size, 1, none⟩ = false := keep_frozen h2 (by simp) (by simp [go_sem])
          have k2 : V.frozen? ⟨W1.heap.size, 2, none⟩ = false := keep_frozen h2 (by simp) (by simp [go_sem])
          have k3 : V.frozen? ⟨W1.heap.size, 3, none⟩ = false := keep_frozen h2 (by simp) (by simp [go_sem])
          have k4 : V.frozen? ⟨W1.heap.size, 4, none⟩ = false := keep_frozen h2 (by simp) (by simp [go_sem])
          clear hg0 hg1 hg2 hg3 hd0
          gi_upto_region 18 with fail
          have hp0 : p0.length ≤ 70000 := by have := hml p0 (by simp); omega
          obtain ⟨X, hX⟩ : ∃ X, X = (⟨str p0, atoiN p1, atoiN p2, atoiN p3, atoiN p4⟩ : Ch) := ⟨_, rfl⟩
          have HXd := Lib.hid (show decC (headL t) = X by rw [hX, HHe.out]; unfold decC; rw [HPQ.out])
          have hXn : X.nm.size ≤ 70000 := by rw [hX]; show (str p0).size ≤ 70000; rw [size_str]; exact hp0
          have hXa : I64 X.a := by rw [hX]; exact atoiN_range _
          have hXb : I64 X.b := by rw [hX]; exact atoiN_range _
          have hXt : I64 X.t := by rw [hX]; exact atoiN_range _
          have hXv : I64 X.v := by rw [hX]; exact atoiN_range _
          have z0 : (((((V.setCell ⟨W1.heap.size, 0, none⟩ (.string (str p0))).setCell ⟨W1.heap.size, 1, none⟩ (.int .i64 (atoiN p1))).setCell ⟨W1.heap.size, 2, none⟩ (.int .i64 (atoiN p2))).setCell ⟨W1.heap.size, 3, none⟩ (.int .i64 (atoiN p3))).setCell ⟨W1.heap.size, 4, none⟩ (.int .i64 (atoiN p4))).cell? ⟨W1.heap.size, 0, none⟩ = some (.string X.nm) := by rw [hX]; simp [go_sem, *]
          have z1 : (((((V.setCell ⟨W1.heap.size, 0, none⟩ (.string (str p0))).setCell ⟨W1.heap.size, 1, none⟩ (.int .i64 (atoiN p1))).setCell ⟨W1.heap.size, 2, none⟩ (.int .i64 (atoiN p2))).setCell ⟨W1.heap.size, 3, none⟩ (.int .i64 (atoiN p3))).setCell ⟨W1.heap.size, 4, none⟩ (.int .i64 (atoiN p4))).cell? ⟨W1.heap.size, 1, none⟩ = some (.int .i64 X.a) := by rw [hX]; simp [go_sem, *]
          have z2 : (((((V.setCell ⟨W1.heap.size, 0, none⟩ (.string (str p0))).setCell ⟨W1.heap.size, 1, none⟩ (.int .i64 (atoiN p1))).setCell ⟨W1.heap.size, 2, none⟩ (.int .i64 (atoiN p2))).setCell ⟨W1.heap.size, 3, none⟩ (.int .i64 (atoiN p3))).setCell ⟨W1.heap.size, 4, none⟩ (.int .i64 (atoiN p4))).cell? ⟨W1.heap.size, 2, none⟩ = some (.int .i64 X.b) := by rw [hX]; simp [go_sem, *]
          have z3 : (((((V.setCell ⟨W1.heap.size, 0, none⟩ (.string (str p0))).setCell ⟨W1.heap.size, 1, none⟩ (.int .i64 (atoiN p1))).setCell ⟨W1.heap.size, 2, none⟩ (.int .i64 (atoiN p2))).setCell ⟨W1.heap.size, 3, none⟩ (.int .i64 (atoiN p3))).setCell ⟨W1.heap.size, 4, none⟩ (.int .i64 (atoiN p4))).cell? ⟨W1.heap.size, 3, none⟩ = some (.int .i64 X.t) := by rw [hX]; simp [go_sem, *]
          have z4 : (((((V.setCell ⟨W1.heap.size, 0, none⟩ (.string (str p0))).setCell ⟨W1.heap.size, 1, none⟩ (.int .i64 (atoiN p1))).setCell ⟨W1.heap.size, 2, none⟩ (.int .i64 (atoiN p2))).setCell ⟨W1.heap.size, 3, none⟩ (.int .i64 (atoiN p3))).setCell ⟨W1.heap.size, 4, none⟩ (.int .i64 (atoiN p4))).cell? ⟨W1.heap.size, 4, none⟩ = some (.int .i64 X.v) := by rw [hX]; simp [go_sem, *]
          have hbV : Below w2.heap.size w2 V := Below.step (Below.step (Below.step hbr h1) (Below.allocS (Below.refl _ _) _)) h2
          have hW1s : w2.heap.size ≤ W1.heap.size := by have := h1.size; have := hbr.size; omega
          have hb7 : Below w2.heap.size w2 (((((V.setCell ⟨W1.heap.size, 0, none⟩ (.string (str p0))).setCell ⟨W1.heap.size, 1, none⟩ (.int .i64 (atoiN p1))).setCell ⟨W1.heap.size, 2, none⟩ (.int .i64 (atoiN p2))).setCell ⟨W1.heap.size, 3, none⟩ (.int .i64 (atoiN p3))).setCell ⟨W1.heap.size, 4, none⟩ (.int .i64 (atoiN p4))) := Below.setCell (Below.setCell (Below.setCell (Below.setCell (Below.setCell hbV hW1s _) hW1s _) hW1s _) hW1s _) hW1s _
          generalize (((((V.setCell ⟨W1.heap.size, 0, none⟩ (.string (str p0))).setCell ⟨W1.heap.size, 1, none⟩ (.int .i64 (atoiN p1))).setCell ⟨W1.heap.size, 2, none⟩ (.int .i64 (atoiN p2))).setCell ⟨W1.heap.size, 3, none⟩ (.int .i64 (atoiN p3))).setCell ⟨W1.heap.size, 4, none⟩ (.int .i64 (atoiN p4))) = w7 at *
          clear hX e0 e1 e2 e3 e4 k0 k1 k2 k3 k4 h1 h2 hbV
          obtain ⟨⟨A1, A2⟩, ⟨B1, B2⟩, ⟨C1, C2⟩⟩ := HCs.out
          have a1 := keep_cell hb7 A1
          have a2 := keep_frozen hb7 (cell?_lt A1) A2
          have b1' := keep_cell hb7 B1
          have b2' := keep_frozen hb7 (cell?_lt B1) B2
          have c1' := keep_cell hb7 C1
          have c2' := keep_frozen hb7 (cell?_lt C1) C2
          clear A1 A2 B1 B2 C1 C2
          have hbW7 : Below W.heap.size W w7 := Below.step hbel2 hb7
          have hrow := ownsRow_keep HO.out hbW7
          have hnb : (Value.slice A L.length cap).ownBlock ≠ some W1.heap.size := row_ne HO.out (.inl (by omega))
          have HNk := Lib.hid (fun k (e : (Value.slice A L.length cap).ownBlock = some k) => (HO.out.lt k e).1)
          have h97 := hbW7.size
          have HAPP := Lib.hid (app_keep appCh L X L.length rfl (by omega) (w7.alloc (.cells #[.string X.nm, .int .i64 X.a, .int .i64 X.b, .int .i64 X.t, .int .i64 X.v] 74)) (w.heap.size + 6) w7.heap.size _ (hrow.alloc _) (by simp; omega) (fun j u hu => by
            have := new_cells w7 w7.heap.size (chE X) 74 rfl j u hu
            rwa [add_none] at this))
          have hbA : Below w7.heap.size w7 (w7.alloc (.cells #[.string X.nm, .int .i64 X.a, .int .i64 X.b, .int .i64 X.t, .int .i64 X.v] 74)) := Below.allocS (Below.refl _ _) _
          have HBA := Lib.hid hbA
          have HBW := Lib.hid (Below.step (Below.step hbw hbW7) hbA)
          have KT7 : KT (fun k => k = w.heap.size + 1 + 1 + 1 ∨ k = W0.heap.size ∨ k = W0.heap.size + 1) W (w7.alloc (.cells #[.string X.nm, .int .i64 X.a, .int .i64 X.b, .int .i64 X.t, .int .i64 X.v] 74)) := KT.of_below (Below.step hbW7 hbA)
          have HKT := Lib.hid KT7
          have HZ := Lib.hid (And.intro z0 (And.intro z1 (And.intro z2 (And.intro z3 z4))))
          have HCw := Lib.hid (And.intro (And.intro a1 a2) (And.intro (And.intro b1' b2') (And.intro c1' c2')))
          have HN := Lib.hid hnb
          clear hrow hnb KT7 hbA
          have HPush : Hid (∀ v8 w8, (w8.ownsRow (w.heap.size + 6) 74 5 v8 (L.length + 1) ((L ++ [X]).flatMap chE) ∧ Below (w.heap.size + 6) (w7.alloc (.cells #[.string X.nm, .int .i64 X.a, .int .i64 X.b, .int .i64 X.t, .int .i64 X.v] 74)) w8 ∧ (w7.alloc (.cells #[.string X.nm, .int .i64 X.a, .int .i64 X.b, .int .i64 X.t, .int .i64 X.v] 74)).grownBy w8 (Value.slice A L.length cap).ownBlock) → ∃ A8 c8, v8 = .slice A8 (L.length + 1) c8 ∧ L.length + 1 ≤ c8 ∧ w8.ownsRow (w.heap.size + 6) 74 5 (.slice A8 (L.length + 1) c8) (L.length + 1) ((L ++ [X]).flatMap chE) ∧
              (w8.cell? ⟨W1.heap.size, 0, none⟩ = some (.string X.nm) ∧ w8.cell? ⟨W1.heap.size, 1, none⟩ = some (.int .i64 X.a) ∧ w8.cell? ⟨W1.heap.size, 2, none⟩ = some (.int .i64 X.b) ∧ w8.cell? ⟨W1.heap.size, 3, none⟩ = some (.int .i64 X.t) ∧ w8.cell? ⟨W1.heap.size, 4, none⟩ = some (.int .i64 X.v)) ∧
              ((w8.cell? ⟨w.heap.size, 0, none⟩ = some (.slice A L.length cap) ∧ w8.frozen? ⟨w.heap.size, 0, none⟩ = false) ∧ (w8.cell? ⟨w.heap.size + 1, 0, none⟩ = some (.int .i64 (L.length : Nat)) ∧ w8.frozen? ⟨w.heap.size + 1, 0, none⟩ = false) ∧ (w8.cell? ⟨w.heap.size + 1 + 1, 0, none⟩ = some (.int .i64 0) ∧ w8.frozen? ⟨w.heap.size + 1 + 1, 0, none⟩ = false)) ∧
              Below w.heap.size w w8 ∧ KT (fun k => k = w.heap.size + 1 + 1 + 1 ∨ k = W0.heap.size ∨ k = W0.heap.size + 1) W w8 ∧ w.heap.size + 6 ≤ w8.heap.size) := Lib.hid (by
            rintro v8 w8 ⟨hown8, hbel8, hgr8⟩
            obtain ⟨A8, c8, rfl, hc8, -⟩ := row_form hown8
            obtain ⟨z0, z1, z2, z3, z4⟩ := HZ.out
            obtain ⟨⟨A1, A2⟩, ⟨B1, B2⟩, ⟨C1, C2⟩⟩ := HCw.out
            have hwl : w.heap.size + 6 ≤ w7.heap.size := by omega
            have h89 := hbel8.size
            simp at h89
            refine ⟨A8, c8, rfl, hc8, hown8, ⟨gr_cell hgr8 HN.out (keep_cell HBA.out z0), gr_cell hgr8 HN.out (keep_cell HBA.out z1), gr_cell hgr8 HN.out (keep_cell HBA.out z2), gr_cell hgr8 HN.out (keep_cell HBA.out z3), gr_cell hgr8 HN.out (keep_cell HBA.out z4)⟩,
              ⟨⟨low_at hbel8 (by omega) (keep_cell HBA.out A1), low_frozen hbel8 (by omega) (keep_frozen HBA.out (by omega) A2)⟩, ⟨low_at hbel8 (by omega) (keep_cell HBA.out B1), low_frozen hbel8 (by omega) (keep_frozen HBA.out (by omega) B2)⟩, ⟨low_at hbel8 (by omega) (keep_cell HBA.out C1), low_frozen hbel8 (by omega) (keep_frozen HBA.out (by omega) C2)⟩⟩,
              HBW.out.trans (hbel8.mono (by omega)), HKT.out.grown hgr8 (fun k e hk => by have := HNk.out k e; rcases hk with hk | hk | hk <;> omega), by omega⟩)
          clear HKT HBW HN HNk HBA HZ HCw
          gi_wp2_with (gi_at_builtin; refine wpListIn_app rfl (.tmp 62) (.tmp 64) 31 rfl _ _ rfl rfl HAPP.out ?_; rintro v8 w8 hR; obtain ⟨A8, c8, rfl, hc8, hown8, ⟨y0, y1, y2, y3, y4⟩, ⟨⟨q1, q2⟩, ⟨q3, q4⟩, ⟨q5, q6⟩⟩, hbw8, KT8, h89⟩ := HPush.out v8 w8 hR; have HO8 := Lib.hid hown8; have HKT8 := Lib.hid KT8; clear hR hown8 KT8 HAPP HPush)
          have hne1 : W1.heap.size ≠ w.heap.size := by omega
          have hne2 : W1.heap.size ≠ w.heap.size + 1 := by omega
          have hne3 : W1.heap.size ≠ w.heap.size + 1 + 1 := by omega
          have m1 : (w8.setCell ⟨w.heap.size, 0, none⟩ (.slice A8 (L.length + 1) c8)).cell? ⟨w.heap.size, 0, none⟩ = some (.slice A8 (L.length + 1) c8) := World.cell?_setCell_same _ _ _ q1
          have m2 : (w8.setCell ⟨w.heap.size, 0, none⟩ (.slice A8 (L.length + 1) c8)).frozen? ⟨w.heap.size, 0, none⟩ = false := by rw [World.frozen?_setCell]; exact q2
          have m3 : (w8.setCell ⟨w.heap.size, 0, none⟩ (.slice A8 (L.length + 1) c8)).cell? ⟨w.heap.size + 1, 0, none⟩ = some (.int .i64 (L.length : Nat)) := by simp [go_sem, *]
          have m4 : (w8.setCell ⟨w.heap.size, 0, none⟩ (.slice A8 (L.length + 1) c8)).frozen? ⟨w.heap.size + 1, 0, none⟩ = false := by rw [World.frozen?_setCell]; exact q4
          have m5 : (w8.setCell ⟨w.heap.size, 0, none⟩ (.slice A8 (L.length + 1) c8)).cell? ⟨w.heap.size + 1 + 1, 0, none⟩ = some (.int .i64 0) := by simp [go_sem, *]
          have m6 : (w8.setCell ⟨w.heap.size, 0, none⟩ (.slice A8 (L.length + 1) c8)).frozen? ⟨w.heap.size + 1 + 1, 0, none⟩ = false := by rw [World.frozen?_setCell]; exact q6
          have v0 : (w8.setCell ⟨w.heap.size, 0, none⟩ (.slice A8 (L.length + 1) c8)).cell? ⟨W1.heap.size, 0, none⟩ = some (.string X.nm) := by simp [go_sem, *]
          have v1 : (w8.setCell ⟨w.heap.size, 0, none⟩ (.slice A8 (L.length + 1) c8)).cell? ⟨W1.heap.size, 1, none⟩ = some (.int .i64 X.a) := by simp [go_sem, *]
          have v2 : (w8.setCell ⟨w.heap.size, 0, none⟩ (.slice A8 (L.length + 1) c8)).cell? ⟨W1.heap.size, 2, none⟩ = some (.int .i64 X.b) := by simp [go_sem, *]
          have v3 : (w8.setCell ⟨w.heap.size, 0, none⟩ (.slice A8 (L.length + 1) c8)).cell? ⟨W1.heap.size, 3, none⟩ = some (.int .i64 X.t) := by simp [go_sem, *]
          have v4 : (w8.setCell ⟨w.heap.size, 0, none⟩ (.slice A8 (L.length + 1) c8)).cell? ⟨W1.heap.size, 4, none⟩ = some (.int .i64 X.v) := by simp [go_sem, *]
          have hr9 : (w8.setCell ⟨w.heap.size, 0, none⟩ (.slice A8 (L.length + 1) c8)).ownsRow (w.heap.size + 6) 74 5 (.slice A8 (L.length + 1) c8) (L.length + 1) ((L ++ [X]).flatMap chE) := row_same HO8.out (fun k e => Below.heap_setCell _ _ _ _ (by
            have := (HO8.out.lt k e).1
            show k ≠ w.heap.size
            omega))
          have hbw9 : Below w.heap.size w (w8.setCell ⟨w.heap.size, 0, none⟩ (.slice A8 (L.length + 1) c8)) := Below.setCell hbw8 (Nat.le_refl _) _
          have KT9 : KT (fun k => k = w.heap.size + 1 + 1 + 1 ∨ k = W0.heap.size ∨ k = W0.heap.size + 1) W (w8.setCell ⟨w.heap.size, 0, none⟩ (.slice A8 (L.length + 1) c8)) := HKT8.out.setCell (fun hk => by
            have hk' : w.heap.size = w.heap.size + 1 + 1 + 1 ∨ w.heap.size = W0.heap.size ∨ w.heap.size = W0.heap.size + 1 := hk
            omega) _
          generalize (w8.setCell ⟨w.heap.size, 0, none⟩ (.slice A8 (L.length + 1) c8)) = w9 at *
          have RD : RdL w9 w9.heap.size chE 5 A8 (L ++ [X]) := RdL.of_own (n := L.length + 1) (cap := c8) (fun _ => rfl) hr9 (by simp)
          have hVL := Valid_c (L ++ [X]) A8 c8 (by simp; omega) (snoc_size (okV_size HK.out) (by unfold maxLen; omega)) w9 RD
          have hl1 : (L ++ [X]).length = L.length + 1 := by simp
          rw [hl1] at hVL
          have HVL := Lib.hid hVL
          have HR9 := Lib.hid hr9
          have HKT9 := Lib.hid KT9
          clear hVL RD hl1 hr9 KT9 y0 y1 y2 y3 y4 q1 q2 q3 q4 q5 q6 HKT8 HO8
          cases hv : okV (L ++ [X])
          · have HB := Lib.hid (HP.out.symm.trans (Fm.parse_bad ht htk (good_val (by rw [HXd.out]; exact hv))))
            rw [hv] at HVL
            clear hv
            gi_wp2_with fail
            refine ⟨trivial, (callsIn_wide.2 HVL.out).mono ?_⟩
            rintro e wa ⟨rfl, hba⟩
            have a1 := keep_cell hba m1
            have a2 := keep_frozen hba (cell?_lt m1) m2
            have b1' := keep_cell hba m3
            have b2' := keep_frozen hba (cell?_lt m3) m4
            have c1' := keep_cell hba m5
            have c2' := keep_frozen hba (cell?_lt m5) m6
            have KTw : KT (fun k => k = w.heap.size + 1 + 1 + 1 ∨ k = W0.heap.size ∨ k = W0.heap.size + 1) W wa := HKT9.out.step hba
            have hbwN : Below w.heap.size w wa := Below.step hbw9 hba
            clear m1 m2 m3 m4 m5 m6 v0 v1 v2 v3 v4
            gi_wp2
            refine ⟨trivial, ?_⟩
            gi_wp2
            gi_region_with_o (fail)
            all_goals gi_wp2
            all_goals
              refine And.intro ?_ ⟨rfl, _, HB.out, by simp [go_sem, *], by simp [go_sem, *], by simp [go_sem, *], ?_⟩
              · (repeat (first | (with_reducible exact KTw) | refine KT.drew1 ?_ | refine KT.setCell ?_ (by first | (simp; done) | (simp; omega) | omega) _))
              · (repeat (first | (with_reducible exact hbwN) | refine Below.drew ?_ | refine Below.setCell ?_ (by first | (simp; done) | (simp; omega) | omega) _))
          have HV2 := Lib.hid hv
          rw [hv] at HVL
          have HWr := Lib.hid (fun W hb => written_c X hXn hXa hXb hXt hXv W (HE.out W hb))
          clear hv
          gi_wp2_with fail
          refine ⟨trivial, (callsIn_wide.2 HVL.out).mono ?_⟩
          rintro e wa ⟨rfl, hba⟩
          have t0 := keep_cell hba v0
          have t1 := keep_cell hba v1
          have t2 := keep_cell hba v2
          have t3 := keep_cell hba v3
          have t4 := keep_cell hba v4
          have hbwa : Below w.heap.size w wa := Below.step hbw9 hba
          gi_wp2_with fail
          refine ⟨trivial, (callsIn_wide.2 (HWr.out _ hbwa)).mono ?_⟩
          rintro e wb ⟨rfl, hbb⟩
          have hb9b : Below w9.heap.size w9 wb := Below.step hba hbb
          have a1 := keep_cell hb9b m1
          have a2 := keep_frozen hb9b (cell?_lt m1) m2
          have b1' := keep_cell hb9b m3
          have b2' := keep_frozen hb9b (cell?_lt m3) m4
          have c1' := keep_cell hb9b m5
          have c2' := keep_frozen hb9b (cell?_lt m5) m6
          have KTw : KT (fun k => k = w.heap.size + 1 + 1 + 1 ∨ k = W0.heap.size ∨ k = W0.heap.size + 1) W wb := HKT9.out.step hb9b
          have hbwN : Below w.heap.size w wb := Below.step hbw9 hb9b
          have hrb := ownsRow_keep HR9.out hb9b
          have HRb := Lib.hid hrb
          clear m1 m2 m3 m4 m5 m6 v0 v1 v2 v3 v4 t0 t1 t2 t3 t4 hb9b hba hbb hrb HKT9 HR9
          have hbq := beq_str (fmC.line X) x
          by_cases hyes : fmC.line X = x
          case neg =>
            have HB := Lib.hid (HP.out.symm.trans (Fm.parse_bad ht htk (Fm.good_not (F := fmC) fun ⟨g1, g2, _⟩ => hyes (by
              have g2' : bodyC (decC (headL t)) = headL t := g2
              rw [HXd.out] at g2'
              rcases HXX.out with ⟨_, h⟩ | ⟨h, _⟩
              · rw [h]; show bodyC X ++ [10] = _; rw [g2']
              · exact absurd g1 h))))
            rw [decide_eq_false hyes] at hbq
            clear hyes
            gi_wp2
            gi_region_with_o (fail)
            all_goals gi_wp2
            all_goals
              refine And.intro ?_ ⟨rfl, _, HB.out, by simp [go_sem, *], by simp [go_sem, *], by simp [go_sem, *], ?_⟩
              · (repeat (first | (with_reducible exact KTw) | refine KT.drew1 ?_ | refine KT.setCell ?_ (by first | (simp; done) | (simp; omega) | omega) _))
              · (repeat (first | (with_reducible exact hbwN) | refine Below.drew ?_ | refine Below.setCell ?_ (by first | (simp; done) | (simp; omega) | omega) _))
          rw [decide_eq_true hyes] at hbq
          have hbody : (10 : UInt8) ∈ t ∧ bodyC X = headL t := by
            have hl : bodyC X ++ [10] = x := hyes
            rcases HXX.out with ⟨h1, h⟩ | ⟨h1, h⟩
            · rw [h] at hl; exact ⟨h1, List.append_cancel_right hl⟩
            · exact absurd (by rw [← h, ← hl]; simp) h1
          obtain ⟨k', hk', hpe⟩ := Fm.parse_ok ht htk (Fm.good_of (F := fmC) (l := L) hbody.1 (show bodyC (decC (headL t)) = headL t by rw [HXd.out]; exact hbody.2) (show okV (L ++ [decC (headL t)]) = true by rw [HXd.out]; exact HV2.out))
          have hdx : fmC.dec (headL t) = X := HXd.out
          rw [hdx] at hpe
          have HPe := Lib.hid (hpe.symm.trans HP.out)
          have hrl := rest_len ht
          have hsum : IntKind.i64.wrap ((L.length : Int) + 1) = (L.length : Int) + 1 := IntWalk.i64_in _ (by omega)
          clear hpe hdx hbody hyes
          gi_wp2
          refine And.intro ?_ ⟨L ++ [X], restL t, k', A8, c8, ⟨?_, ?_⟩, ⟨?_, ?_⟩, ⟨?_, ?_⟩, ?_, HV2.out, ?_, hk', by omega, HPe.out, ?_⟩
          · exact KTw.setCell (fun hk => by
              have hk' : w.heap.size + 1 = w.heap.size + 1 + 1 + 1 ∨ w.heap.size + 1 = W0.heap.size ∨ w.heap.size + 1 = W0.heap.size + 1 := hk
              omega) _
          · rw [List.length_append, List.length_singleton]; simp [go_sem, *]
          · simp [go_sem, *]
          · rw [List.length_append, List.length_singleton]; simp [go_sem, *]
          · simp [go_sem, *]
          · simp [go_sem, *]
          · simp [go_sem, *]
          · rw [List.length_append, List.length_singleton]
            exact row_same HRb.out (fun k e => Below.heap_setCell _ _ _ _ (by
              have := (HRb.out.lt k e).1
              show k ≠ w.heap.size + 1
              omega))
          · obtain ⟨x1, x2, x3⟩ := HX.out
            rw [x1, x3, x2]; simp
          · exact Below.setCell hbwN (by show w.heap.size ≤ w.heap.size + 1; omega) _
  case done =>
    rintro D xs X hD hxs ⟨L, t, k, A, cap, ⟨a1, a2⟩, ⟨b1', b2'⟩, ⟨c1', c2'⟩, hrow, hok, hst, htk, ht6, hpe, hbw⟩ hK
    have hst' : lns s = lns s ++ lns t := by rw [← hxs]; rw [hxs] at hst; rw [hxs]; exact hst
    have ht : t = [] := lns_nil (List.self_eq_append_right.1 hst')
    subst ht
    rw [Fm.parse_nil] at hpe
    have hmo : Tryz.prog.follows Departure.mixedOrders = true := by kernel_rfl
    have hDs : D < X.heap.size := (Array.getElem?_eq_some_iff.1 hK).1
    have hpl := (okV_parts hok).2
    have HO := Lib.hid hrow
    have HK := Lib.hid hK
    have HPE := Lib.hid hpe
    clear hrow hok hst hst' htk ht6 hpe hK hxs
    go_wp2
    (try simp only [Exit.inBlock, Exit.then])
    all_goals
      refine parse_end (u := .slice A L.length cap) (n := 0) (y := 0) D w.heap.size w ?_ ?_ ?_ (by omega) ?_ ?_
      · simp [go_sem, *]
      · simp [go_sem, *]
      · simp [go_sem, *]
      · repeat (first | exact HK.out | refine blk_other2 ?_ (by simp; omega) _ | refine blk_drew2 ?_)
      · have hDn := row_not HO.out HK.out
        refine Parsed.ok HPE.out (row_same HO.out (fun g e => ?_)) hpl ?_
        · have hg := (HO.out.lt g e).1
          rw [World.putObj_heap_other (fun h => hDn (by rw [← h]; exact e))]
          repeat (first | rfl | (rw [Below.heap_setCell _ _ _ _ (by simp; omega)]))
        · refine Below.trans ?_ (below_put _ (by omega) _)
          (repeat (first | (with_reducible exact hbw) | refine Below.drew ?_ | refine Below.setCell ?_ (by first | (simp; done) | (simp; omega) | omega) _))
  case stop =>
    rintro D c pre X hD hS ⟨rfl, n, hRn, h2, h3, h4, hb⟩ hK
    have HRn := Lib.hid hRn
    have HK := Lib.hid hK
    clear hRn hK
    gi_wp2
    refine parse_end (u := .slice none 0 0) (n := n) (y := 2) D w.heap.size w h2 h3 h4 (by omega) HK.out ?_
    rw [HRn.out]
    exact Parsed.err (hb.trans (below_put _ (by omega) _))
end Go.Proofs.YtimbdnngeoccdaaGreatDoor
