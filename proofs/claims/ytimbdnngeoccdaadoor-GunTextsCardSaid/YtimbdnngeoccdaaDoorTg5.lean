/-
  Parse of gun.
-/
import Derived.Test.YtimbdnngeoccdaaDoorTg4
import Derived.Test.YtimbdnngeoccdaaDoorQj
import Derived.Test.YtimbdnngeoccdaaDoorSq
import Derived.Laws.EntriesVeiled
import Derived.Sort.CutIn
namespace Go.Proofs.YtimbdnngeoccdaaDoor
open Go.RowKit Go.Deep Go.Shelf
attribute [local go_sem] Oper.semAt_some
set_option linter.unusedVariables false
set_option linter.unusedSimpArgs false
theorem row_same {W W' : World} {base sz n : Nat} {e : TypeId} {v : Value} {xs : List Value} (h : W.ownsRow base e sz v n xs) (hk : ∀ k, v.ownBlock = some k → W'.heap[k]? = W.heap[k]?) : W'.ownsRow base e sz v n xs := by
  refine ⟨h.1, ?_⟩
  rcases h.2 with h0 | ⟨g, cap, cur, hv, hg0, hg, h1, h2, h3, h4⟩
  · exact Or.inl h0
  · exact Or.inr ⟨g, cap, cur, hv, hg0, by rw [hk g (by rw [hv]; rfl), hg], h1, h2, h3, h4⟩
/-- What holds between two lines. -/
def NpI (w : World) (s : List UInt8) (R : List Shot × Int × Int) (pre : List (List UInt8)) (W : World) : Prop :=
  ∃ (L : List Shot) (t : List UInt8) (k : Nat) (A : Option Addr) (cap : Nat), (W.cell? ⟨w.heap.size, 0, none⟩ = some (.slice A L.length cap) ∧ W.frozen? ⟨w.heap.size, 0, none⟩ = false) ∧ (W.cell? ⟨w.heap.size + 1, 0, none⟩ = some (.int .i64 (L.length : Nat)) ∧ W.frozen? ⟨w.heap.size + 1, 0, none⟩ = false) ∧ (W.cell? ⟨w.heap.size + 1 + 1, 0, none⟩ = some (.int .i64 0) ∧ W.frozen? ⟨w.heap.size + 1 + 1, 0, none⟩ = false) ∧
    W.ownsRow (w.heap.size + 6) 76 4 (.slice A L.length cap) L.length (L.flatMap shE) ∧ okG L = true ∧ lns s = pre ++ lns t ∧ t.length ≤ k ∧ t.length ≤ 65536 ∧ fmG.parse k L t = R ∧ Below w.heap.size w W
/-- How the loop is left. -/
def NpX (w : World) (R : List Shot × Int × Int) (c : Code) (pre : List (List UInt8)) (W : World) : Prop :=
  c = .ret ∧ ∃ n : Int, R = ([], n, 2) ∧ W.cell? ⟨w.heap.size, 0, none⟩ = some (.slice none 0 0) ∧ W.cell? ⟨w.heap.size + 1, 0, none⟩ = some (.int .i64 n) ∧ W.cell? ⟨w.heap.size + 1 + 1, 0, none⟩ = some (.int .i64 2) ∧ Below w.heap.size w W
theorem blk_cell {W W' : World} {b o : Nat} {u : Value} (h : W'.heap[b]? = W.heap[b]?) (hc : W.cell? ⟨b, o, none⟩ = some u) : W'.cell? ⟨b, o, none⟩ = some u := (World.cell?_of_block (a := ⟨b, o, none⟩) h).trans hc
theorem blk_frozen {W W' : World} {b o : Nat} {u : Bool} (h : W'.heap[b]? = W.heap[b]?) (hc : W.frozen? ⟨b, o, none⟩ = u) : W'.frozen? ⟨b, o, none⟩ = u := (World.frozen?_of_block (a := ⟨b, o, none⟩) h).trans hc
theorem NpI.of {w W W' : World} {s : List UInt8} {R : List Shot × Int × Int} {pre : List (List UInt8)} (h : NpI w s R pre W) (hb : Below w.heap.size w W') (hk : ∀ k, k < W.heap.size → (k < w.heap.size + 3 ∨ w.heap.size + 6 ≤ k) → W'.heap[k]? = W.heap[k]?) : NpI w s R pre W' := by
  obtain ⟨L, t, k, A, cap, ⟨a1, a2⟩, ⟨b1, b2⟩, ⟨c1, c2⟩, h4, h5, h6, h7, h8, h9, -⟩ := h
  have e1 := hk _ (cell?_lt a1) (.inl (by show w.heap.size < _; omega))
  have e2 := hk _ (cell?_lt b1) (.inl (by show w.heap.size + 1 < _; omega))
  have e3 := hk _ (cell?_lt c1) (.inl (by show w.heap.size + 1 + 1 < _; omega))
  refine ⟨L, t, k, A, cap, ⟨blk_cell e1 a1, blk_frozen e1 a2⟩, ⟨blk_cell e2 b1, blk_frozen e2 b2⟩, ⟨blk_cell e3 c1, blk_frozen e3 c2⟩, row_same h4 (fun g hg => ?_), h5, h6, h7, h8, h9, hb⟩
  have := h4.lt g hg
  exact hk g this.2 (.inr this.1)
theorem NpI.keep {w W W' : World} {s : List UInt8} {R : List Shot × Int × Int} {pre : List (List UInt8)} (h : NpI w s R pre W) (hb : Below W.heap.size W W') : NpI w s R pre W' := by
  have hB : Below w.heap.size w W := by obtain ⟨L, t, k, A, cap, -, -, -, -, -, -, -, -, -, h⟩ := h; exact h
  exact h.of (Below.step hB hb) (fun k hk _ => hb.block k hk)
theorem NpI.put {w W : World} {s : List UInt8} {R : List Shot × Int × Int} {pre : List (List UInt8)} (h : NpI w s R pre W) {l : Nat} (hl : l = w.heap.size + 5) (o : Obj) : NpI w s R pre (W.putObj l o) := by
  have hB : Below w.heap.size w W := by obtain ⟨L, t, k, A, cap, -, -, -, -, -, -, -, -, -, h⟩ := h; exact h
  exact h.of (hB.trans (below_put W (by omega) o)) (fun k hk h2 => World.putObj_heap_other (by omega))
theorem NpI.set {w W : World} {s : List UInt8} {R : List Shot × Int × Int} {pre : List (List UInt8)} (h : NpI w s R pre W) {p : Addr} (hp : p.block = w.heap.size + 3) (u : Value) : NpI w s R pre (W.setCell p u) := by
  have hB : Below w.heap.size w W := by obtain ⟨L, t, k, A, cap, -, -, -, -, -, -, -, -, -, h⟩ := h; exact h
  exact h.of (hB.setCell (by omega) u) (fun k hk h2 => Below.heap_setCell _ _ _ _ (by omega))
theorem NpX.of {w W W' : World} {R : List Shot × Int × Int} {c : Code} {pre : List (List UInt8)} (h : NpX w R c pre W) (hb : Below w.heap.size w W') (hk : ∀ k, k < W.heap.size → k < w.heap.size + 3 → W'.heap[k]? = W.heap[k]?) : NpX w R c pre W' := by
  obtain ⟨rfl, n, h1, h2, h3, h4, -⟩ := h
  exact ⟨rfl, n, h1, blk_cell (hk _ (cell?_lt h2) (by show w.heap.size < _; omega)) h2, blk_cell (hk _ (cell?_lt h3) (by show w.heap.size + 1 < _; omega)) h3, blk_cell (hk _ (cell?_lt h4) (by show w.heap.size + 1 + 1 < _; omega)) h4, hb⟩
theorem NpX.keep {w W W' : World} {R : List Shot × Int × Int} {c : Code} {pre : List (List UInt8)} (h : NpX w R c pre W) (hb : Below W.heap.size W W') : NpX w R c pre W' :=
  h.of (Below.step (by obtain ⟨-, n, -, -, -, -, h⟩ := h; exact h) hb) (fun k hk _ => hb.block k hk)
theorem NpX.put {w W : World} {R : List Shot × Int × Int} {c : Code} {pre : List (List UInt8)} (h : NpX w R c pre W) {l : Nat} (hl : w.heap.size + 3 ≤ l) (o : Obj) : NpX w R c pre (W.putObj l o) :=
  h.of (Below.trans (by obtain ⟨-, n, -, -, -, -, h⟩ := h; exact h) (below_put W (by omega) o)) (fun k hk h2 => World.putObj_heap_other (by omega))
theorem lns_nil {t : List UInt8} (h : lns t = []) : t = [] := by
  cases t with
  | nil => rfl
  | cons b l =>
    unfold lns at h
    split at h
    · cases h
    · split at h <;> cases h
theorem row_not {W : World} {base sz n D : Nat} {e : TypeId} {v : Value} {xs : List Value} {o : Option (List Deferred)} (h : W.ownsRow base e sz v n xs) (hD : W.heap[D]? = some (.deferred o)) : v.ownBlock ≠ some D := by
  intro hv
  rcases h.2 with ⟨rfl, _⟩ | ⟨g, cap, cur, rfl, _, hg, _⟩
  · cases hv
  · injection hv with hv
    subst hv
    rw [hD] at hg; cases hg
theorem blk_other2 {W : World} {D : Nat} {o : Option Obj} (h : W.heap[D]? = o) {p : Addr} (hp : p.block ≠ D) (v : Value) : (W.setCell p v).heap[D]? = o := (Below.heap_setCell _ _ _ _ hp.symm).trans h
theorem blk_drew2 {W : World} {D : Nat} {o : Option Obj} (h : W.heap[D]? = o) : W.drew.heap[D]? = o := h
theorem parse_end {R : Ending → World → Prop} {u : Value} {n y : Int} {Z : World} {t0 t1 : Value} {tl : List Value} (D T : Nat) (w : World) (c0 : Z.cell? ⟨T, 0, none⟩ = some u) (c1 : Z.cell? ⟨T + 1, 0, none⟩ = some (.int .i64 n)) (c2 : Z.cell? ⟨T + 1 + 1, 0, none⟩ = some (.int .i64 y)) (hD : T + 2 < D ∧ w.heap.size ≤ D) (hK : Z.heap[D]? = some (.deferred (some [])))
    (hR : R (.returned (.tuple #[u, .int .i64 n, .int .i64 y])) (Z.putObj D (.deferred none))) :
    bodyPostM Fence.wide 10 Tryd.prog Tryd.f13 R .ret { tmps := (t0 :: t1 :: .pointer (some ⟨T, 0, none⟩) :: .pointer (some ⟨T + 1, 0, none⟩) :: .pointer (some ⟨T + 1 + 1, 0, none⟩) :: tl).toArray, defers := [{ target := .collected D, args := #[] }] } Z := by
  refine ⟨by simp, .inl ⟨_, _, rfl, run_takeDeferred hK, ?_⟩⟩
  have d0 := blk_cell (W' := Z.putObj D (.deferred none)) (World.putObj_heap_other (by omega)) c0
  have d1 := blk_cell (W' := Z.putObj D (.deferred none)) (World.putObj_heap_other (by omega)) c1
  have d2 := blk_cell (W' := Z.putObj D (.deferred none)) (World.putObj_heap_other (by omega)) c2
  refine ⟨_, ?_, hR⟩
  simp [results, Tryd.results13, go_sem, *]
theorem wpListIn_app {F : Fence} {n : Nat} {ops : Array Oper} {rest : List Oper} {o : Oper} {a : Act} {w : World} {Q : Exit → Act → World → Prop} (hgd : o.guard = none) (s x : Operand) (t : TypeId)
    (ho : o.op = .call { callee := .builtin .append, args := #[s, x], argTypes := #[t, t] }) (v X : Value) (hs : a.eval s = v) (hx : a.eval x = X) {R : Value → World → Prop}
    (hrun : ∃ v' w', (Builtin.append_ #[t, t] o.type #[v, X]).run Tryd.prog w = .ok v' w' ∧ R v' w') (h : ∀ v' w', R v' w' → wpListIn F n Tryd.prog ops Q rest (a.put o.dst v') w') :
    wpListIn F n Tryd.prog ops Q (o :: rest) a w := by
  refine wpListIn_plain hgd fun K hK => ?_
  obtain ⟨v', w', hr, h2⟩ := hrun
  unfold Oper.wpIn
  refine ⟨by simp [Oper.about, ho, resolve, Target.leads, Sem.run_pure], ?_⟩
  rw [Oper.semAt_plain F _ _ (by rw [ho]; intro c hc'; cases hc')]
  simp [execOp, ho, resolve, invoke, builtin, hs, hx, hr, Result.andThen]
  exact hK _ _ (h v' w' h2)
def inG (x : Int) : List Value := [.int .i64 x]
theorem appIg : AppE 39 3 inG 1 where
  ht := Tryd.underlying39
  info := app_info (z := .int .i64 0) (bytes := 8) (by kernel_rfl) rfl (by decide)
  pos := by decide
  len := fun x => rfl
  one := fun x u hu => by simp [inG] at hu; subst hu; rfl
theorem KT.put {K : Nat → Prop} {A B : World} (h : KT K A B) {l : Nat} (h1 : ¬ K l) (o : Obj) : KT K A (B.putObj l o) :=
  h.trans ⟨by simp, fun k _ hr => World.putObj_heap_other (by rintro rfl; exact h1 hr)⟩
/-- What holds between two words of a line. -/
def NgJ (W : World) (pre : List (List UInt8)) (V : World) : Prop :=
  ∃ v, (V.cell? ⟨W.heap.size, 0, none⟩ = some v ∧ V.frozen? ⟨W.heap.size, 0, none⟩ = false) ∧ V.ownsRow (W.heap.size + 5) 3 1 v pre.length ((pre.map atoiN).flatMap inG) ∧ pre.length ≤ 4 ∧ (∀ y ∈ pre, atoiB y = true) ∧ Below W.heap.size W V
theorem NgJ.of {W V V' : World} {pre : List (List UInt8)} (h : NgJ W pre V) (hb : Below W.heap.size W V') (hk : ∀ k, k < V.heap.size → (k = W.heap.size ∨ W.heap.size + 5 ≤ k) → V'.heap[k]? = V.heap[k]?) : NgJ W pre V' := by
  obtain ⟨v, ⟨a1, a2⟩, h1, h2, h3, -⟩ := h
  have e1 := hk _ (cell?_lt a1) (.inl rfl)
  refine ⟨v, ⟨blk_cell e1 a1, blk_frozen e1 a2⟩, row_same h1 (fun g hg => ?_), h2, h3, hb⟩
  have := h1.lt g hg
  exact hk g this.2 (.inr this.1)
theorem NgJ.low {W V : World} {pre : List (List UInt8)} (h : NgJ W pre V) : Below W.heap.size W V := by obtain ⟨v, -, -, -, -, h⟩ := h; exact h
theorem NgJ.keep {W V V' : World} {pre : List (List UInt8)} (h : NgJ W pre V) (hb : Below V.heap.size V V') : NgJ W pre V' := h.of (Below.step h.low hb) (fun k hk _ => hb.block k hk)
theorem NgJ.put {W V : World} {pre : List (List UInt8)} (h : NgJ W pre V) {l : Nat} (hl : l = W.heap.size + 4) (o : Obj) : NgJ W pre (V.putObj l o) :=
  h.of (h.low.trans (below_put V (by omega) o)) (fun k hk h2 => World.putObj_heap_other (by omega))
theorem NgJ.set {W V : World} {pre : List (List UInt8)} (h : NgJ W pre V) {p : Addr} (hp : p.block = W.heap.size + 1) (u : Value) : NgJ W pre (V.setCell p u) :=
  h.of (h.low.setCell (by omega) u) (fun k hk h2 => Below.heap_setCell _ _ _ _ (by omega))
set_option maxHeartbeats 4000000 in
set_option maxRecDepth 100000 in
theorem Parse_c (s : List UInt8) (hs : s.length ≤ 9223372036854775807) (w : World) (hE : Env w) :
    Calls Tryd.prog 13 #[.string (str s)] w (Parsed w (fmG.read s)) := by
  have hsz : (str s).size = s.length := size_str s
  by_cases hlen : s.length ≤ 65536
  case neg =>
    have e1 : fmG.read s = ([], 0, 3) := by unfold Fm.read; rw [if_neg hlen]
    rw [e1]
    have hd : decide (((str s).size : Int) > 65536) = true := decide_eq_true (by omega)
    clear e1 hE
    generalize str s = S at *
    go_enter Tryd.func13, Tryd.ntmps13
    go_wp2
    refine bodyPost_ret (v := .tuple #[.slice none 0 0, .int .i64 0, .int .i64 3]) (by simp [results, Tryd.results13, go_sem, *] <;> (repeat' apply And.intro) <;> rfl) rfl ?_
    exact Parsed.err (by (repeat (first | (with_reducible exact Below.refl _ _) | (with_reducible assumption) | (with_reducible refine Below.drew ?_) | (with_reducible refine Below.allocS ?_ _) | (with_reducible refine Below.setCell ?_ ?_ _) | (with_reducible refine Below.step ?_ (by assumption)) | (with_reducible refine Below.drewN' ?_ _))); (try any_goals (first | (with_reducible assumption) | (simp; done) | (simp; omega) | omega)))
  have e1 : fmG.read s = fmG.parse s.length [] s := by unfold Fm.read; rw [if_pos hlen]
  rw [e1]
  obtain ⟨R, hR⟩ : ∃ R, fmG.parse s.length [] s = R := ⟨_, rfl⟩
  rw [hR]
  have hd : decide (((str s).size : Int) > 65536) = false := decide_eq_false (by omega)
  have HE := Lib.hid (fun W (hb : Below w.heap.size w W) => hE.step hb)
  have HR := Lib.hid hR
  have HMx := Lib.hid hE.mx
  clear e1 hR hE
  refine (callsIn_wide (n := 10)).1 ?_
  refine callsIn_of_wp_marks Tryd.func13 rfl trivial ?_ rfl
  simp only [Tryd.ntmps13, List.size_toArray, List.length_cons, List.length_nil, Nat.reduceAdd, Nat.reduceSub, Array.replicate_succ, Array.replicate_zero, List.push_toArray, List.append_toArray, List.nil_append, List.cons_append]
  refine wpIn_wide.2 ?_
  go_wp2_with fail
  refine (Lines_c s _).mono ?_
  rintro e w1 ⟨rfl, rfl⟩
  go_wp2
  obtain ⟨W0, hW0⟩ : ∃ W0, (((w.alloc (.cells #[.slice none 0 0] 32)).alloc (.cells #[.int .i64 0] 3)).alloc (.cells #[.int .i64 0] 26)).alloc (.cells #[.string (str s)] 9) = W0 := ⟨_, rfl⟩
  rw [hW0]
  have sz : W0.heap.size = w.heap.size + 4 := by rw [← hW0]; simp
  have b0 : Below w.heap.size w W0 := by rw [← hW0]; (repeat (first | exact Below.refl _ _ | refine Below.drew ?_ | refine Below.allocS ?_ _ | refine Below.step ?_ (by assumption) | refine Below.setCell ?_ (by simp <;> omega) _ | refine Below.drewN' ?_ _))
  have c0 : W0.cell? ⟨w.heap.size + 1 + 1 + 1, 0, none⟩ = some (.string (str s)) := by rw [← hW0]; simp [go_sem]
  have f0 : W0.frozen? ⟨w.heap.size + 1 + 1 + 1, 0, none⟩ = false := by rw [← hW0]; simp [go_sem]
  have i0 : NpI w s R [] W0 := ⟨[], s, s.length, none, 0, ⟨by rw [← hW0]; simp [go_sem], by rw [← hW0]; simp [go_sem]⟩, ⟨by rw [← hW0]; simp [go_sem], by rw [← hW0]; simp [go_sem]⟩, ⟨by rw [← hW0]; simp [go_sem], by rw [← hW0]; simp [go_sem]⟩, World.ownsRow_nil _ _ _ _, okG_nil, rfl, Nat.le_refl _, hlen, HR.out, b0⟩
  have HI0 := Lib.hid i0
  clear hW0 HR i0
  refine (wpIn_wide (n := 10)).1 ?_
  refine range_s (n := 8) (gf := 47) (lb := #[.pointer (some ⟨w.heap.size + 1 + 1 + 1, 0, none⟩)]) rfl (enters_of Tryd.func47 (by kernel_rfl) rfl)
    (Lines_seq s (by omega) (w.heap.size + 1 + 1 + 1) (fun k => k = w.heap.size + 1 + 1 + 1 ∨ k = W0.heap.size ∨ k = W0.heap.size + 1) (.inl rfl) W0 c0 f0) (fun b hb => by have hb' : b = w.heap.size + 1 + 1 + 1 := hb; omega) (Below.refl _ _) (.inr (.inl rfl)) (.inr (.inr rfl)) (fun _ => rfl)
    (NpI w s R) (NpX w R) (fun s A A' h hb => h.keep hb) (fun c s A A' h hb => h.keep hb) (fun s A o h => h.put (by omega) o) (fun c s A o h => h.put (by omega) o) (fun s A p u hp h => h.set hp u) HI0.out
    (fun x a' X => a' = { tmps := #[.string (str s), undef, .pointer (some ⟨w.heap.size, 0, none⟩), .pointer (some ⟨w.heap.size + 1, 0, none⟩), .pointer (some ⟨w.heap.size + 1 + 1, 0, none⟩), .string (str x), undef, undef, undef, undef, undef, .string (str s), .int .i64 (s.length : Nat), .bool (decide ((65536 : Int) < (s.length : Int))), .string (str s), .func (.func 47) #[] #[.pointer (some ⟨w.heap.size + 1 + 1 + 1, 0, none⟩)], .string (str x), undef, undef, undef, undef, undef, undef, undef, undef, undef, undef, undef, undef, undef, undef, undef, undef, undef, undef, undef, undef, undef, undef, undef, undef, undef, undef, undef, undef, undef, undef, undef, undef, undef, undef, undef, undef, undef, undef, undef, undef, undef, undef, undef, undef, undef, undef, undef, undef, undef, undef, undef, undef, undef, undef, undef, undef, undef, undef, undef, undef, undef, undef], defers := [] })
    (fun x a' X q r o h hk => h)
    ?assign ?body ?done ?stop
  case assign =>
    intro l0 pre x X K hi hs hK
    gi_wp2
    exact hK _ _ (KT.refl _ _) hi rfl
  case body =>
    rintro l0 pre x a' W rfl ⟨r0, hr0⟩ hI rfl hSp
    have hW6 : w.heap.size + 6 ≤ W.heap.size := by have := (Array.getElem?_eq_some_iff.1 hr0).1; omega
    obtain ⟨L, t, k, A, cap, ⟨a1, a2⟩, ⟨b1', b2'⟩, ⟨c1', c2'⟩, hrow, hok, hst, htk, ht6, hpe, hbw⟩ := hI
    obtain ⟨rr, hrr⟩ := lns_next hst hSp
    obtain ⟨ht, hnx, hxx, htr⟩ := lns_step hrr
    have hxl : x.length ≤ 65536 := by
      rcases hxx with ⟨h1, rfl⟩ | ⟨h1, rfl⟩
      · have := rest_len ht
        rcases head_cases t with ⟨h, _⟩ | ⟨_, h, _⟩
        · exact absurd h1 h
        · have h2 : t.length = (headL t).length + 1 + (restL t).length := by
            conv => lhs; rw [h]
            rw [List.length_append, List.length_cons]; omega
          rw [List.length_append, List.length_singleton]; omega
      · exact ht6
    have hhl := head_le t
    have HTr := Lib.hid (fun W => trim_l x (by omega) W)
    rw [htr] at HTr
    have HSp := Lib.hid (fun W hb => split_l (headL t) (by omega) W (HE.out W hb))
    have HO := Lib.hid hrow
    have HP := Lib.hid hpe
    have HK := Lib.hid hok
    have HX := Lib.hid (And.intro hst (And.intro hnx hrr))
    have HXX := Lib.hid hxx
    have hpl := (okG_parts hok).1
    obtain ⟨H, hH⟩ : ∃ H, headL t = H := ⟨_, rfl⟩
    have HHe := Lib.hid hH
    rw [hH] at HTr HSp hhl
    have hml := pieces_mem_len 32 H
    clear hrow hpe hok hst hnx hrr hxx htr hH
    have hGw : 2 < w.heap.size := by obtain ⟨m, hm⟩ := HMx.out; exact cell?_lt hm
    have HCs := Lib.hid (And.intro (And.intro a1 a2) (And.intro (And.intro b1' b2') (And.intro c1' c2')))
    clear a1 a2 b1' b2' c1' c2' HSp
    have hmo : Tryd.prog.follows Departure.mixedOrders = true := by kernel_rfl
    gi_wp2_with fail
    refine ⟨trivial, (callsIn_wide.2 (HTr.out _)).mono ?_⟩
    rintro e w1 ⟨rfl, rfl⟩
    gi_wp2_with fail
    refine ⟨trivial, (callsIn_wide.2 (SplitSeq_c H _)).mono ?_⟩
    rintro e w2 ⟨rfl, rfl⟩
    gi_wp2
    clear HTr
    have hl0 : W.heap.size + 1 + 1 + 1 + 1 = ((((W.alloc (.cells #[.slice none 0 0] 39)).alloc (.cells #[.string (str H)] 9)).alloc (.cells #[.string ⟨#[32]⟩] 9)).alloc (.cells #[.int .i64 0] 3)).heap.size := by simp
    (try simp only [World.size_alloc])
    obtain ⟨W4, hW4⟩ : ∃ W4, (((W.alloc (.cells #[.slice none 0 0] 39)).alloc (.cells #[.string (str H)] 9)).alloc (.cells #[.string ⟨#[32]⟩] 9)).alloc (.cells #[.int .i64 0] 3) = W4 := ⟨_, rfl⟩
    rw [hW4] at hl0 ⊢
    have s4 : W4.heap.size = W.heap.size + 4 := by omega
    have b4 : Below W.heap.size W W4 := by rw [← hW4]; (repeat (first | exact Below.refl _ _ | refine Below.drew ?_ | refine Below.allocS ?_ _ | refine Below.step ?_ (by assumption) | refine Below.setCell ?_ (by simp <;> omega) _ | refine Below.drewN' ?_ _))
    have v1 : W4.cell? ⟨W.heap.size, 0, none⟩ = some (.slice none 0 0) := by rw [← hW4]; simp [go_sem]
    have v2 : W4.frozen? ⟨W.heap.size, 0, none⟩ = false := by rw [← hW4]; simp [go_sem]
    have v3 : W4.cell? ⟨W.heap.size + 1, 0, none⟩ = some (.string (str H)) := by rw [← hW4]; simp [go_sem]
    have v4 : W4.frozen? ⟨W.heap.size + 1, 0, none⟩ = false := by rw [← hW4]; simp [go_sem]
    have v5 : W4.cell? ⟨W.heap.size + 1 + 1, 0, none⟩ = some (.string ⟨#[32]⟩) := by rw [← hW4]; simp [go_sem]
    have v6 : W4.cell? ⟨W.heap.size + 1 + 1 + 1, 0, none⟩ = some (.int .i64 0) := by rw [← hW4]; simp [go_sem]
    obtain ⟨mx, hmx⟩ := HMx.out
    have v7 : W4.cell? ⟨2, 0, none⟩ = some (.int .i64 mx) := keep_cell (Below.step hbw b4) hmx
    have hr4 := (b4.block _ (Array.getElem?_eq_some_iff.1 hr0).1).trans hr0
    have i0 : NgJ W [] W4 := ⟨_, ⟨v1, v2⟩, World.ownsRow_nil _ _ _ _, by decide, by simp, b4⟩
    have HJ0 := Lib.hid i0
    clear hW4 v1 v2 hmx hr0 i0 hl0
    refine range_sn (l0 := W0.heap.size + 1) (n := 6) hr4 (gf := 90) (lb := #[.pointer (some ⟨W.heap.size + 1 + 1, 0, none⟩), .pointer (some ⟨W.heap.size + 1, 0, none⟩), .pointer (some ⟨W.heap.size + 1 + 1 + 1, 0, none⟩)]) rfl (enters_of Tryd.func90 (by kernel_rfl) rfl)
      (Split_seq H (by omega) (W.heap.size + 1) (W.heap.size + 1 + 1) (W.heap.size + 1 + 1 + 1) (fun k => k = W.heap.size + 1 ∨ k = W.heap.size + 1 + 1 ∨ k = W.heap.size + 1 + 1 + 1 ∨ k = W.heap.size + 1 + 1 + 1 + 1 ∨ k = 2) (.inl rfl) (.inr (.inl rfl)) (.inr (.inr (.inl rfl))) (.inr (.inr (.inr (.inr rfl)))) (by omega) (by omega) (by omega) W4 v3 v4 v5 v6 mx v7) (fun b hb => by have hb' : b = W.heap.size + 1 := hb; omega) (Below.refl _ _) (.inr (.inr (.inr (.inl (by omega))))) (fun _ => rfl)
      (NgJ W) (fun c s A => NpX w R c s A ∧ KT (fun k => k = w.heap.size + 1 + 1 + 1 ∨ k = W0.heap.size ∨ k = W0.heap.size + 1) W A) (fun s A A' h hb => h.keep hb) (fun c s A A' h hb => ⟨h.1.keep hb, h.2.step hb⟩) (fun s A o h => h.put (by omega) o) (fun c s A o h => ⟨h.1.put (by omega) o, h.2.put (fun hk => by
        have hk' : W4.heap.size = w.heap.size + 1 + 1 + 1 ∨ W4.heap.size = W0.heap.size ∨ W4.heap.size = W0.heap.size + 1 := hk
        omega) o⟩) (fun s A p u hp h => h.set hp u) HJ0.out
      (fun y a' X => a' = { tmps := #[.string (str s), undef, .pointer (some ⟨w.heap.size, 0, none⟩), .pointer (some ⟨w.heap.size + 1, 0, none⟩), .pointer (some ⟨w.heap.size + 1 + 1, 0, none⟩), .string (str x), .pointer (some ⟨W.heap.size, 0, none⟩), .string (str y), undef, undef, undef, .string (str s), .int .i64 (s.length : Nat), .bool (decide ((65536 : Int) < (s.length : Int))), .string (str s), .func (.func 47) #[] #[.pointer (some ⟨w.heap.size + 1 + 1 + 1, 0, none⟩)], .string (str x), .string (str x), .string (str H), .func (.func 90) #[] #[.pointer (some ⟨W.heap.size + 1 + 1, 0, none⟩), .pointer (some ⟨W.heap.size + 1, 0, none⟩), .pointer (some ⟨W.heap.size + 1 + 1 + 1, 0, none⟩)], .string (str y), undef, undef, undef, undef, undef, undef, undef, undef, undef, undef, undef, undef, undef, undef, undef, undef, undef, undef, undef, undef, undef, undef, undef, undef, undef, undef, undef, undef, undef, undef, undef, undef, undef, undef, undef, undef, undef, undef, undef, undef, undef, undef, undef, undef, undef, undef, undef, undef, undef, undef, undef, undef, undef, undef, undef, undef, undef, undef], defers := [] })
      (fun x a' X q r o h hk => h)
      ?assign2 ?body2 ?done2 ?stop2
    case assign2 =>
      intro l1 pre' y X K hi hs hK
      gi_wp2
      exact hK _ _ (KT.refl _ _) hi rfl
    case body2 =>
      rintro l1 pre' y a' V rfl ⟨r1, hr1⟩ ⟨v, ⟨n1, n2⟩, hown, hp4, hall, hbV⟩ rfl hSp'
      have HSp' := Lib.hid hSp'
      have HOw := Lib.hid hown
      have HAl := Lib.hid hall
      obtain ⟨Av, cv, rfl, -, -⟩ := row_form hown
      have hV5 : W.heap.size + 5 ≤ V.heap.size := by have := (Array.getElem?_eq_some_iff.1 hr1).1; omega
      have hym : y ∈ pieces 32 H := hSp'.subset (by simp)
      have hyl : y.length ≤ 70000 := by have := hml y hym; omega
      have hbwV : Below w.heap.size w V := Below.step hbw hbV
      have HAt := Lib.hid (atoi_e y hyl V (HE.out V hbwV))
      have HBad := Lib.hid (fun (h : atoiB y = false) => HP.out.symm.trans (Fm.parse_bad ht htk (good_word (by rw [HHe.out]; exact hym) h)))
      have hnb : W.heap.size < V.heap.size := cell?_lt n1
      clear hown hall hSp' hr1 hym
      gi_wp2_with fail
      refine ⟨trivial, (callsIn_wide.2 (HAt.out)).mono ?_⟩
      rintro e w3 ⟨E, rfl, hEr, hb3⟩
      have hb3s := hb3.size
      have m1 := keep_cell hb3 n1
      have m2 := keep_frozen hb3 hnb n2
      have hbW3 : Below W.heap.size W w3 := Below.step hbV hb3
      have hbw3 : Below w.heap.size w w3 := Below.step hbwV hb3
      have KTi : KT (fun k => k = W.heap.size + 1 ∨ k = W.heap.size + 1 + 1 ∨ k = W.heap.size + 1 + 1 + 1 ∨ k = W.heap.size + 1 + 1 + 1 + 1 ∨ k = 2) V w3 := KT.of_below hb3
      rcases hEr with ⟨hB, rfl⟩ | ⟨hB, ty, ad, rfl⟩
      case inr =>
        have HB := Lib.hid (HBad.out hB)
        obtain ⟨⟨A1, A2⟩, ⟨B1, B2⟩, ⟨C1, C2⟩⟩ := HCs.out
        have a1 := keep_cell hbW3 A1
        have a2 := keep_frozen hbW3 (cell?_lt A1) A2
        have b1' := keep_cell hbW3 B1
        have b2' := keep_frozen hbW3 (cell?_lt B1) B2
        have c1' := keep_cell hbW3 C1
        have c2' := keep_frozen hbW3 (cell?_lt C1) C2
        have KTw : KT (fun k => k = w.heap.size + 1 + 1 + 1 ∨ k = W0.heap.size ∨ k = W0.heap.size + 1) W _ := KT.of_below (hbW3)
        have hbwN := hbw3
        clear A1 A2 B1 B2 C1 C2
        gi_wp2
        gi_region_with_o (fail)
        all_goals gi_wp2
        all_goals
          refine And.intro ?_ ⟨⟨rfl, _, HB.out, by simp [go_sem, *], by simp [go_sem, *], by simp [go_sem, *], ?_⟩, ?_⟩
          · (repeat (first | (with_reducible exact KTi) | refine KT.drew1 ?_ | refine KT.setCell ?_ (by first | (intro hk; dsimp only at hk; omega) | (simp; done) | (simp; omega) | omega) _))
          · (repeat (first | (with_reducible exact hbwN) | refine Below.drew ?_ | refine Below.setCell ?_ (by first | (simp; done) | (simp; omega) | omega) _))
          · (repeat (first | (with_reducible exact KTw) | refine KT.drew1 ?_ | refine KT.setCell ?_ (by first | (intro hk; dsimp only at hk; omega) | (simp; done) | (simp; omega) | omega) _))
      by_cases h4 : pre'.length = 4
      · have HB := Lib.hid (HP.out.symm.trans (Fm.parse_bad ht htk (good_four (by
          rw [HHe.out]
          intro h
          have := HSp'.out.length_le
          rw [List.length_append, List.length_singleton] at this
          omega))))
        have hd4 : ((pre'.length : Int) == 4) = true := by rw [beq_iff_eq]; omega
        obtain ⟨⟨A1, A2⟩, ⟨B1, B2⟩, ⟨C1, C2⟩⟩ := HCs.out
        have a1 := keep_cell hbW3 A1
        have a2 := keep_frozen hbW3 (cell?_lt A1) A2
        have b1' := keep_cell hbW3 B1
        have b2' := keep_frozen hbW3 (cell?_lt B1) B2
        have c1' := keep_cell hbW3 C1
        have c2' := keep_frozen hbW3 (cell?_lt C1) C2
        have KTw : KT (fun k => k = w.heap.size + 1 + 1 + 1 ∨ k = W0.heap.size ∨ k = W0.heap.size + 1) W _ := KT.of_below (hbW3)
        have hbwN := hbw3
        clear A1 A2 B1 B2 C1 C2
        gi_wp2
        gi_region_with_o (fail)
        all_goals gi_wp2
        all_goals
          refine And.intro ?_ ⟨⟨rfl, _, HB.out, by simp [go_sem, *], by simp [go_sem, *], by simp [go_sem, *], ?_⟩, ?_⟩
          · (repeat (first | (with_reducible exact KTi) | refine KT.drew1 ?_ | refine KT.setCell ?_ (by first | (intro hk; dsimp only at hk; omega) | (simp; done) | (simp; omega) | omega) _))
          · (repeat (first | (with_reducible exact hbwN) | refine Below.drew ?_ | refine Below.setCell ?_ (by first | (simp; done) | (simp; omega) | omega) _))
          · (repeat (first | (with_reducible exact KTw) | refine KT.drew1 ?_ | refine KT.setCell ?_ (by first | (intro hk; dsimp only at hk; omega) | (simp; done) | (simp; omega) | omega) _))
      have hd4 : ((pre'.length : Int) == 4) = false := by rw [beq_eq_false_iff_ne]; omega
      have hrow3 := ownsRow_keep HOw.out hb3
      have HAPP := Lib.hid (app_run appIg (pre'.map atoiN) (atoiN y) pre'.length (by rw [List.length_map]) (by omega) (w3.alloc (.cells #[.int .i64 (atoiN y)] 3)) (W.heap.size + 5) w3.heap.size _ (hrow3.alloc _) (by simp; omega) (one_cell rfl (by simp [go_sem])))
      have HB2 := Lib.hid (Below.allocS hbW3 (.cells #[.int .i64 (atoiN y)] 3))
      have HKi := Lib.hid (show KT (fun k => k = W.heap.size + 1 ∨ k = W.heap.size + 1 + 1 ∨ k = W.heap.size + 1 + 1 + 1 ∨ k = W.heap.size + 1 + 1 + 1 + 1 ∨ k = 2) V (w3.alloc (.cells #[.int .i64 (atoiN y)] 3)) from KTi.alloc _)
      have HBt := Lib.hid hB
      have HPush : Hid (∀ v8 w8, (w8.ownsRow (W.heap.size + 5) 3 1 v8 (pre'.length + 1) ((pre'.map atoiN ++ [atoiN y]).flatMap inG) ∧ Below (W.heap.size + 5) (w3.alloc (.cells #[.int .i64 (atoiN y)] 3)) w8) →
          ∃ A8 c8, v8 = .slice A8 (pre'.length + 1) c8 ∧ (w8.ownsRow (W.heap.size + 5) 3 1 (.slice A8 (pre'.length + 1) c8) (pre'.length + 1) ((pre'.map atoiN ++ [atoiN y]).flatMap inG)) ∧ w8.cell? ⟨W.heap.size, 0, none⟩ = some (.slice Av pre'.length cv) ∧ w8.frozen? ⟨W.heap.size, 0, none⟩ = false ∧ Below W.heap.size W w8 ∧ KT (fun k => k = W.heap.size + 1 ∨ k = W.heap.size + 1 + 1 ∨ k = W.heap.size + 1 + 1 + 1 ∨ k = W.heap.size + 1 + 1 + 1 + 1 ∨ k = 2) V w8) := Lib.hid (by
        rintro v8 w8 ⟨h1, h2⟩
        have hz := h2.size
        simp at hz
        obtain ⟨A8, c8, rfl, -, -⟩ := row_form h1
        refine ⟨A8, c8, rfl, h1, low_at h2 (by omega) (keep_cell (Below.allocS (Below.refl _ _) _) m1), low_frozen h2 (by omega) (keep_frozen (Below.allocS (Below.refl _ _) _) (cell?_lt m1) m2), HB2.out.trans (h2.mono (by omega)), HKi.out.trans ⟨by simp; omega, fun k hk hkk => h2.block k (by
          have hk' : k = W.heap.size + 1 ∨ k = W.heap.size + 1 + 1 ∨ k = W.heap.size + 1 + 1 + 1 ∨ k = W.heap.size + 1 + 1 + 1 + 1 ∨ k = 2 := hkk
          omega)⟩⟩)
      clear hrow3 hB KTi
      gi_wp2_with (gi_at_builtin; refine wpListIn_app rfl (.tmp 34) (.tmp 36) 39 rfl _ _ rfl rfl HAPP.out ?_; rintro v8 w8 hR; obtain ⟨A8, c8, rfl, hown8, q1, q2, hb8, KT8⟩ := HPush.out v8 w8 hR; have HO8 := Lib.hid hown8; clear hR hown8 HAPP HPush)
      refine And.intro (KT8.setCell (fun hk => by
        have hk' : W.heap.size = W.heap.size + 1 ∨ W.heap.size = W.heap.size + 1 + 1 ∨ W.heap.size = W.heap.size + 1 + 1 + 1 ∨ W.heap.size = W.heap.size + 1 + 1 + 1 + 1 ∨ W.heap.size = 2 := hk
        omega) _) ⟨.slice A8 (pre'.length + 1) c8, ⟨?_, ?_⟩, ?_, ?_, ?_, ?_⟩
      · simp [go_sem, *]
      · simp [go_sem, *]
      · rw [List.length_append, List.length_singleton, List.map_append]
        exact row_same HO8.out (fun k e => Below.heap_setCell _ _ _ _ (by
          have := (HO8.out.lt k e).1
          show k ≠ W.heap.size
          omega))
      · rw [List.length_append, List.length_singleton]; omega
      · intro z hz
        rcases List.mem_append.1 hz with hz | hz
        · exact HAl.out z hz
        · simp at hz; subst hz; exact HBt.out
      · exact Below.setCell hb8 (Nat.le_refl _) _
    case stop2 =>
      rintro c pre' V hSp' ⟨⟨rfl, n, h1, h2, h3, h4, hb⟩, hK⟩
      gi_wp2
      exact ⟨hK, rfl, n, h1, h2, h3, h4, hb⟩
    case done2 =>
      rintro xs V rfl ⟨v, ⟨n1, n2⟩, hown, hp4, hall, hbV⟩
      obtain ⟨Av, cv, rfl, -, -⟩ := row_form hown
      have HOw := Lib.hid hown
      have hbwV : Below w.heap.size w V := Below.step hbw hbV
      have hnb : W.heap.size < V.heap.size := cell?_lt n1
      clear hown hall
      generalize hm : (pieces 32 H).length = m at *
      have HM := Lib.hid hm
      clear hm
      by_cases h4 : m = 4
      case neg =>
        have HB := Lib.hid (HP.out.symm.trans (Fm.parse_bad ht htk (good_four (by rw [HHe.out, HM.out]; exact h4))))
        have h4' : ((m : Int) == 4) = false := by rw [beq_eq_false_iff_ne]; omega
        have h4'' : ((m : Int) != 4) = true := by simp; omega
        obtain ⟨⟨A1, A2⟩, ⟨B1, B2⟩, ⟨C1, C2⟩⟩ := HCs.out
        have a1 := keep_cell hbV A1
        have a2 := keep_frozen hbV (cell?_lt A1) A2
        have b1' := keep_cell hbV B1
        have b2' := keep_frozen hbV (cell?_lt B1) B2
        have c1' := keep_cell hbV C1
        have c2' := keep_frozen hbV (cell?_lt C1) C2
        have KTw : KT (fun k => k = w.heap.size + 1 + 1 + 1 ∨ k = W0.heap.size ∨ k = W0.heap.size + 1) W _ := KT.of_below (hbV)
        have hbwN := hbwV
        clear A1 A2 B1 B2 C1 C2
        gi_wp2
        gi_region_with_o (fail)
        all_goals gi_wp2
        all_goals
          refine And.intro ?_ ⟨rfl, _, HB.out, by simp [go_sem, *], by simp [go_sem, *], by simp [go_sem, *], ?_⟩
          · (repeat (first | (with_reducible exact KTw) | refine KT.drew1 ?_ | refine KT.setCell ?_ (by first | (simp; done) | (simp; omega) | omega) _))
          · (repeat (first | (with_reducible exact hbwN) | refine Below.drew ?_ | refine Below.setCell ?_ (by first | (simp; done) | (simp; omega) | omega) _))
      subst h4
      obtain ⟨p0, p1, p2, p3, hpq⟩ : ∃ p0 p1 p2 p3, pieces 32 H = [p0, p1, p2, p3] := by
        match pieces 32 H, HM.out with
        | [p0, p1, p2, p3], _ => exact ⟨p0, p1, p2, p3, rfl⟩
      have HPQ := Lib.hid hpq
      rw [hpq] at HOw
      clear hpq hml
      obtain ⟨g, cv', hv⟩ := Go.Joins.ownsRow_form HOw.out (by omega)
      injection hv with hAv _ hcv
      subst hAv hcv
      have HBn := Lib.hid (HOw.out.lt g rfl)
      have hg0 : V.cell? ⟨g, 0, none⟩ = some (.int .i64 (atoiN p0)) := by have := HOw.out.cells (g := g) rfl 0 _ rfl; rwa [add_none] at this
      have hg1 : V.cell? ⟨g, 1, none⟩ = some (.int .i64 (atoiN p1)) := by have := HOw.out.cells (g := g) rfl 1 _ rfl; rwa [add_none] at this
      have hg2 : V.cell? ⟨g, 2, none⟩ = some (.int .i64 (atoiN p2)) := by have := HOw.out.cells (g := g) rfl 2 _ rfl; rwa [add_none] at this
      have hg3 : V.cell? ⟨g, 3, none⟩ = some (.int .i64 (atoiN p3)) := by have := HOw.out.cells (g := g) rfl 3 _ rfl; rwa [add_none] at this
      have hglt : g < V.heap.size := cell?_lt hg0
      clear HOw
      gi_wp2
      refine round_new 15 (om := ⟨_, _, _, _, _, _⟩) (ob := .cells #[.int .i64 0, .int .i64 0, .int .i64 0, .int .i64 0] 76) (by kernel_rfl) (by kernel_rfl) (by kernel_rfl) rfl rfl (fun a W => by go_simp) ?_; simp only [List.take_succ_cons, List.take_zero, List.drop_succ_cons, List.drop_zero]
      (refine qr_val (v := ?_) rfl ?_ ?_; rotate_left 1; (· (intro Wq hWq; obtain ⟨hWc, hWf⟩ := bcell hWq; go_simp; (try with_reducible rfl))); (try simp only [Act.put, List.setIfInBounds_toArray, List.set_cons_zero, List.set_cons_succ]))
      (refine qr_val (v := ?_) rfl ?_ ?_; rotate_left 1; (· (intro Wq hWq; obtain ⟨hWc, hWf⟩ := bcell hWq; go_simp; (try with_reducible rfl))); (try simp only [Act.put, List.setIfInBounds_toArray, List.set_cons_zero, List.set_cons_succ]))
      (refine qr_val (v := ?_) rfl ?_ ?_; rotate_left 1; (· (intro Wq hWq; obtain ⟨hWc, hWf⟩ := bcell hWq; go_simp; (try with_reducible rfl))); (try simp only [Act.put, List.setIfInBounds_toArray, List.set_cons_zero, List.set_cons_succ]))
      (refine qr_val (v := ?_) rfl ?_ ?_; rotate_left 1; (· (intro Wq hWq; obtain ⟨hWc, hWf⟩ := bcell hWq; go_simp; (try with_reducible rfl))); (try simp only [Act.put, List.setIfInBounds_toArray, List.set_cons_zero, List.set_cons_succ]))
      (refine qr_val (v := ?_) rfl ?_ ?_; rotate_left 1; (· (intro Wq hWq; obtain ⟨hWc, hWf⟩ := bcell hWq; go_simp; (try with_reducible rfl))); (try simp only [Act.put, List.setIfInBounds_toArray, List.set_cons_zero, List.set_cons_succ]))
      (refine qr_val (v := ?_) rfl ?_ ?_; rotate_left 1; (· (intro Wq hWq; obtain ⟨hWc, hWf⟩ := bcell hWq; go_simp; (try with_reducible rfl))); (try simp only [Act.put, List.setIfInBounds_toArray, List.set_cons_zero, List.set_cons_succ]))
      (refine qr_val (v := ?_) rfl ?_ ?_; rotate_left 1; (· (intro Wq hWq; obtain ⟨hWc, hWf⟩ := bcell hWq; go_simp; (try with_reducible rfl))); (try simp only [Act.put, List.setIfInBounds_toArray, List.set_cons_zero, List.set_cons_succ]))
      (refine qr_val (v := ?_) rfl ?_ ?_; rotate_left 1; (· (intro Wq hWq; obtain ⟨hWc, hWf⟩ := bcell hWq; go_simp; (try with_reducible rfl))); (try simp only [Act.put, List.setIfInBounds_toArray, List.set_cons_zero, List.set_cons_succ]))
      (refine qr_val (v := ?_) rfl ?_ ?_; rotate_left 1; (· (intro Wq hWq; obtain ⟨hWc, hWf⟩ := bcell hWq; go_simp; (try with_reducible rfl))); (try simp only [Act.put, List.setIfInBounds_toArray, List.set_cons_zero, List.set_cons_succ]))
      (refine qr_val (v := ?_) rfl ?_ ?_; rotate_left 1; (· (intro Wq hWq; obtain ⟨hWc, hWf⟩ := bcell hWq; go_simp; (try with_reducible rfl))); (try simp only [Act.put, List.setIfInBounds_toArray, List.set_cons_zero, List.set_cons_succ]))
      (refine qr_val (v := ?_) rfl ?_ ?_; rotate_left 1; (· (intro Wq hWq; obtain ⟨hWc, hWf⟩ := bcell hWq; go_simp; (try with_reducible rfl))); (try simp only [Act.put, List.setIfInBounds_toArray, List.set_cons_zero, List.set_cons_succ]))
      (refine qr_val (v := ?_) rfl ?_ ?_; rotate_left 1; (· (intro Wq hWq; obtain ⟨hWc, hWf⟩ := bcell hWq; go_simp; (try with_reducible rfl))); (try simp only [Act.put, List.setIfInBounds_toArray, List.set_cons_zero, List.set_cons_succ]))
      (refine qr_val (v := ?_) rfl ?_ ?_; rotate_left 1; (· (intro Wq hWq; obtain ⟨hWc, hWf⟩ := bcell hWq; go_simp; (try with_reducible rfl))); (try simp only [Act.put, List.setIfInBounds_toArray, List.set_cons_zero, List.set_cons_succ]))
      (refine qr_val (v := ?_) rfl ?_ ?_; rotate_left 1; (· (intro Wq hWq; obtain ⟨hWc, hWf⟩ := bcell hWq; go_simp; (try with_reducible rfl))); (try simp only [Act.put, List.setIfInBounds_toArray, List.set_cons_zero, List.set_cons_succ]))
      (refine qr_val (v := ?_) rfl ?_ ?_; rotate_left 1; (· (intro Wq hWq; obtain ⟨hWc, hWf⟩ := bcell hWq; go_simp; (try with_reducible rfl))); (try simp only [Act.put, List.setIfInBounds_toArray, List.set_cons_zero, List.set_cons_succ]))
      refine qr_nil ?_; intro W1 V2 h1 h2
      have e0 : V2.cell? ⟨W1.heap.size, 0, none⟩ = some (.int .i64 0) := keep_cell h2 (by simp [go_sem])
      have e1 : V2.cell? ⟨W1.heap.size, 1, none⟩ = some (.int .i64 0) := keep_cell h2 (by simp [go_sem])
      have e2 : V2.cell? ⟨W1.heap.size, 2, none⟩ = some (.int .i64 0) := keep_cell h2 (by simp [go_sem])
      have e3 : V2.cell? ⟨W1.heap.size, 3, none⟩ = some (.int .i64 0) := keep_cell h2 (by simp [go_sem])
      have k0 : V2.frozen? ⟨W1.heap.size, 0, none⟩ = false := keep_frozen h2 (by simp) (by simp [go_sem])
      have k1 : V2.frozen? ⟨W1.heap.size, 1, none⟩ = false := keep_frozen h2 (by simp) (by simp [go_sem])
      have k2 : V2.frozen? ⟨W1.heap.size, 2, none⟩ = false := keep_frozen h2 (by simp) (by simp [go_sem])
      have k3 : V2.frozen? ⟨W1.heap.size, 3, none⟩ = false := keep_frozen h2 (by simp) (by simp [go_sem])
      clear hg0 hg1 hg2 hg3
      gi_upto_region 15 with fail
      obtain ⟨X, hX⟩ : ∃ X, X = (⟨atoiN p0, atoiN p1, atoiN p2, atoiN p3⟩ : Shot) := ⟨_, rfl⟩
      have HXd := Lib.hid (show decG (headL t) = X by rw [hX, HHe.out]; unfold decG; rw [HPQ.out])
      have hXi : ShI X := by rw [hX]; exact ⟨atoiN_range _, atoiN_range _, atoiN_range _, atoiN_range _⟩
      have z0 : ((((V2.setCell ⟨W1.heap.size, 0, none⟩ (.int .i64 (atoiN p0))).setCell ⟨W1.heap.size, 1, none⟩ (.int .i64 (atoiN p1))).setCell ⟨W1.heap.size, 2, none⟩ (.int .i64 (atoiN p2))).setCell ⟨W1.heap.size, 3, none⟩ (.int .i64 (atoiN p3))).cell? ⟨W1.heap.size, 0, none⟩ = some (.int .i64 X.gx) := by rw [hX]; simp [go_sem, *]
      have z1 : ((((V2.setCell ⟨W1.heap.size, 0, none⟩ (.int .i64 (atoiN p0))).setCell ⟨W1.heap.size, 1, none⟩ (.int .i64 (atoiN p1))).setCell ⟨W1.heap.size, 2, none⟩ (.int .i64 (atoiN p2))).setCell ⟨W1.heap.size, 3, none⟩ (.int .i64 (atoiN p3))).cell? ⟨W1.heap.size, 1, none⟩ = some (.int .i64 X.gy) := by rw [hX]; simp [go_sem, *]
      have z2 : ((((V2.setCell ⟨W1.heap.size, 0, none⟩ (.int .i64 (atoiN p0))).setCell ⟨W1.heap.size, 1, none⟩ (.int .i64 (atoiN p1))).setCell ⟨W1.heap.size, 2, none⟩ (.int .i64 (atoiN p2))).setCell ⟨W1.heap.size, 3, none⟩ (.int .i64 (atoiN p3))).cell? ⟨W1.heap.size, 2, none⟩ = some (.int .i64 X.lo) := by rw [hX]; simp [go_sem, *]
      have z3 : ((((V2.setCell ⟨W1.heap.size, 0, none⟩ (.int .i64 (atoiN p0))).setCell ⟨W1.heap.size, 1, none⟩ (.int .i64 (atoiN p1))).setCell ⟨W1.heap.size, 2, none⟩ (.int .i64 (atoiN p2))).setCell ⟨W1.heap.size, 3, none⟩ (.int .i64 (atoiN p3))).cell? ⟨W1.heap.size, 3, none⟩ = some (.int .i64 X.hi) := by rw [hX]; simp [go_sem, *]
      have hW1s : W.heap.size ≤ W1.heap.size := by have := h1.size; have := hbV.size; omega
      have hbV2 : Below W.heap.size W V2 := Below.step (Below.allocS (Below.step hbV h1) _) h2
      have hbW7 : Below W.heap.size W ((((V2.setCell ⟨W1.heap.size, 0, none⟩ (.int .i64 (atoiN p0))).setCell ⟨W1.heap.size, 1, none⟩ (.int .i64 (atoiN p1))).setCell ⟨W1.heap.size, 2, none⟩ (.int .i64 (atoiN p2))).setCell ⟨W1.heap.size, 3, none⟩ (.int .i64 (atoiN p3))) := Below.setCell (Below.setCell (Below.setCell (Below.setCell hbV2 hW1s _) hW1s _) hW1s _) hW1s _
      generalize ((((V2.setCell ⟨W1.heap.size, 0, none⟩ (.int .i64 (atoiN p0))).setCell ⟨W1.heap.size, 1, none⟩ (.int .i64 (atoiN p1))).setCell ⟨W1.heap.size, 2, none⟩ (.int .i64 (atoiN p2))).setCell ⟨W1.heap.size, 3, none⟩ (.int .i64 (atoiN p3))) = w7 at *
      clear hX e0 e1 e2 e3 k0 k1 k2 k3 h1 h2 hbV2 n1 n2
      have hbw7 : Below w.heap.size w w7 := Below.step hbw hbW7
      clear hbV hbwV hnb hglt HBn hp4 hW1s
      have HV := Lib.hid (fun W => validShot_c X.gx X.gy X.lo X.hi W)
      have hXe : okShot X.gx X.gy X.lo X.hi = okSh X := rfl
      rw [hXe] at HV
      clear hXe
      cases hx : okSh X
      case false =>
        have HB := Lib.hid (HP.out.symm.trans (Fm.parse_bad ht htk (good_val (okG_not (x := X) (by rw [HXd.out]; simp) hx))))
        rw [hx] at HV
        clear hx
        gi_wp2_with fail
        refine ⟨trivial, (callsIn_wide.2 (HV.out _)).mono ?_⟩
        rintro e wa ⟨rfl, hba⟩
        have hb7a : Below W.heap.size W wa := Below.step hbW7 hba
        have hbwa : Below w.heap.size w wa := Below.step hbw7 hba
        clear z0 z1 z2 z3 hba
        obtain ⟨⟨A1, A2⟩, ⟨B1, B2⟩, ⟨C1, C2⟩⟩ := HCs.out
        have a1 := keep_cell hb7a A1
        have a2 := keep_frozen hb7a (cell?_lt A1) A2
        have b1' := keep_cell hb7a B1
        have b2' := keep_frozen hb7a (cell?_lt B1) B2
        have c1' := keep_cell hb7a C1
        have c2' := keep_frozen hb7a (cell?_lt C1) C2
        have KTw : KT (fun k => k = w.heap.size + 1 + 1 + 1 ∨ k = W0.heap.size ∨ k = W0.heap.size + 1) W _ := KT.of_below (hb7a)
        have hbwN := hbwa
        clear A1 A2 B1 B2 C1 C2
        gi_wp2
        (repeat (refine ⟨trivial, ?_⟩; gi_wp2))
        gi_region_with_o (fail)
        all_goals gi_wp2
        all_goals
          refine And.intro ?_ ⟨rfl, _, HB.out, by simp [go_sem, *], by simp [go_sem, *], by simp [go_sem, *], ?_⟩
          · (repeat (first | (with_reducible exact KTw) | refine KT.drew1 ?_ | refine KT.setCell ?_ (by first | (simp; done) | (simp; omega) | omega) _))
          · (repeat (first | (with_reducible exact hbwN) | refine Below.drew ?_ | refine Below.setCell ?_ (by first | (simp; done) | (simp; omega) | omega) _))
      rw [hx] at HV
      have HVx := Lib.hid hx
      have HWr := Lib.hid (fun W hb => written_c X hXi W (HE.out W hb))
      clear hx
      gi_wp2_with fail
      refine ⟨trivial, (callsIn_wide.2 (HV.out _)).mono ?_⟩
      rintro e wa ⟨rfl, hba⟩
      have t0 := keep_cell hba z0
      have t1 := keep_cell hba z1
      have t2 := keep_cell hba z2
      have t3 := keep_cell hba z3
      have hb7a : Below W.heap.size W wa := Below.step hbW7 hba
      have hbwa : Below w.heap.size w wa := Below.step hbw7 hba
      clear z0 z1 z2 z3 hba
      gi_wp2_with fail
      refine ⟨trivial, (callsIn_wide.2 (HWr.out _ hbwa)).mono ?_⟩
      rintro e wb ⟨rfl, hbb⟩
      have z0 := keep_cell hbb t0
      have z1 := keep_cell hbb t1
      have z2 := keep_cell hbb t2
      have z3 := keep_cell hbb t3
      have hb7b : Below W.heap.size W wb := Below.step hb7a hbb
      have hbWb : Below W.heap.size W wb := hb7b
      have hbwb : Below w.heap.size w wb := Below.step hbwa hbb
      clear t0 t1 t2 t3 hbb hb7a hbwa HV HWr hbW7 hbw7
      have hbq := beq_str (fmG.line X) x
      by_cases hyes : fmG.line X = x
      case neg =>
        have HB := Lib.hid (HP.out.symm.trans (Fm.parse_bad ht htk (Fm.good_not (F := fmG) fun ⟨g1, g2, _⟩ => hyes (by
          have g2' : bodyG (decG (headL t)) = headL t := g2
          rw [HXd.out] at g2'
          rcases HXX.out with ⟨_, h⟩ | ⟨h, _⟩
          · rw [h]; show bodyG X ++ [10] = _; rw [g2']
          · exact absurd g1 h))))
        rw [decide_eq_false hyes] at hbq
        clear hyes z0 z1 z2 z3
        obtain ⟨⟨A1, A2⟩, ⟨B1, B2⟩, ⟨C1, C2⟩⟩ := HCs.out
        have a1 := keep_cell hb7b A1
        have a2 := keep_frozen hb7b (cell?_lt A1) A2
        have b1' := keep_cell hb7b B1
        have b2' := keep_frozen hb7b (cell?_lt B1) B2
        have c1' := keep_cell hb7b C1
        have c2' := keep_frozen hb7b (cell?_lt C1) C2
        have KTw : KT (fun k => k = w.heap.size + 1 + 1 + 1 ∨ k = W0.heap.size ∨ k = W0.heap.size + 1) W _ := KT.of_below (hbWb)
        have hbwN := hbwb
        clear A1 A2 B1 B2 C1 C2
        gi_wp2
        (repeat (refine ⟨trivial, ?_⟩; gi_wp2))
        gi_region_with_o (fail)
        all_goals gi_wp2
        all_goals
          refine And.intro ?_ ⟨rfl, _, HB.out, by simp [go_sem, *], by simp [go_sem, *], by simp [go_sem, *], ?_⟩
          · (repeat (first | (with_reducible exact KTw) | refine KT.drew1 ?_ | refine KT.setCell ?_ (by first | (simp; done) | (simp; omega) | omega) _))
          · (repeat (first | (with_reducible exact hbwN) | refine Below.drew ?_ | refine Below.setCell ?_ (by first | (simp; done) | (simp; omega) | omega) _))
      rw [decide_eq_true hyes] at hbq
      have hbody : (10 : UInt8) ∈ t ∧ bodyG X = headL t := by
        have hl : bodyG X ++ [10] = x := hyes
        rcases HXX.out with ⟨h1, h⟩ | ⟨h1, h⟩
        · rw [h] at hl; exact ⟨h1, List.append_cancel_right hl⟩
        · exact absurd (by rw [← h, ← hl]; simp) h1
      by_cases h100 : L.length = 6
      · have HB := Lib.hid (HP.out.symm.trans (Fm.parse_bad ht htk (good_val (okG_big (by rw [List.length_append, List.length_singleton]; omega)))))
        have hd4 : ((L.length : Int) == 6) = true := by rw [beq_iff_eq]; omega
        clear hyes z0 z1 z2 z3 hbody
        obtain ⟨⟨A1, A2⟩, ⟨B1, B2⟩, ⟨C1, C2⟩⟩ := HCs.out
        have a1 := keep_cell hb7b A1
        have a2 := keep_frozen hb7b (cell?_lt A1) A2
        have b1' := keep_cell hb7b B1
        have b2' := keep_frozen hb7b (cell?_lt B1) B2
        have c1' := keep_cell hb7b C1
        have c2' := keep_frozen hb7b (cell?_lt C1) C2
        have KTw : KT (fun k => k = w.heap.size + 1 + 1 + 1 ∨ k = W0.heap.size ∨ k = W0.heap.size + 1) W _ := KT.of_below (hbWb)
        have hbwN := hbwb
        clear A1 A2 B1 B2 C1 C2
        gi_wp2
        (repeat (refine ⟨trivial, ?_⟩; gi_wp2))
        gi_region_with_o (fail)
        all_goals gi_wp2
        all_goals
          refine And.intro ?_ ⟨rfl, _, HB.out, by simp [go_sem, *], by simp [go_sem, *], by simp [go_sem, *], ?_⟩
          · (repeat (first | (with_reducible exact KTw) | refine KT.drew1 ?_ | refine KT.setCell ?_ (by first | (simp; done) | (simp; omega) | omega) _))
          · (repeat (first | (with_reducible exact hbwN) | refine Below.drew ?_ | refine Below.setCell ?_ (by first | (simp; done) | (simp; omega) | omega) _))
      have hd4 : ((L.length : Int) == 6) = false := by rw [beq_eq_false_iff_ne]; omega
      have HOk := Lib.hid (okG_snoc HK.out (by omega) HVx.out)
      obtain ⟨k', hk', hpe⟩ := Fm.parse_ok ht htk (Fm.good_of (F := fmG) (l := L) hbody.1 (show bodyG (decG (headL t)) = headL t by rw [HXd.out]; exact hbody.2) (show okG (L ++ [decG (headL t)]) = true by rw [HXd.out]; exact HOk.out))
      have hdx : fmG.dec (headL t) = X := HXd.out
      rw [hdx] at hpe
      have HPe := Lib.hid (hpe.symm.trans HP.out)
      have hrl := rest_len ht
      have hsum : IntKind.i64.wrap ((L.length : Int) + 1) = (L.length : Int) + 1 := IntWalk.i64_in _ (by omega)
      clear hpe hdx hbody hyes
      obtain ⟨⟨A1, A2⟩, ⟨B1, B2⟩, ⟨C1, C2⟩⟩ := HCs.out
      have a1 := keep_cell hb7b A1
      have a2 := keep_frozen hb7b (cell?_lt A1) A2
      have b1' := keep_cell hb7b B1
      have b2' := keep_frozen hb7b (cell?_lt B1) B2
      have c1' := keep_cell hb7b C1
      have c2' := keep_frozen hb7b (cell?_lt C1) C2
      have KTw : KT (fun k => k = w.heap.size + 1 + 1 + 1 ∨ k = W0.heap.size ∨ k = W0.heap.size + 1) W _ := KT.of_below (hbWb)
      have hbwN := hbwb
      clear A1 A2 B1 B2 C1 C2
      gi_upto_region 17 with fail
      have hrow := ownsRow_keep HO.out hbWb
      have HNk := Lib.hid (fun k (e : (Value.slice A L.length cap).ownBlock = some k) => (HO.out.lt k e).1)
      have h97 := hbWb.size
      have HAPP := Lib.hid (app_keep appSh L X L.length rfl (by omega) (wb.alloc (.cells #[.int .i64 X.gx, .int .i64 X.gy, .int .i64 X.lo, .int .i64 X.hi] 76)) (w.heap.size + 6) wb.heap.size _ (hrow.alloc _) (by simp; omega) (fun j u hu => by
        have := new_cells wb wb.heap.size (shE X) 76 rfl j u hu
        rwa [add_none] at this))
      have hbA : Below wb.heap.size wb (wb.alloc (.cells #[.int .i64 X.gx, .int .i64 X.gy, .int .i64 X.lo, .int .i64 X.hi] 76)) := Below.allocS (Below.refl _ _) _
      have HBA := Lib.hid hbA
      have HBW := Lib.hid (Below.step hbwb hbA)
      have HKT := Lib.hid (show KT (fun k => k = w.heap.size + 1 + 1 + 1 ∨ k = W0.heap.size ∨ k = W0.heap.size + 1) W (wb.alloc (.cells #[.int .i64 X.gx, .int .i64 X.gy, .int .i64 X.lo, .int .i64 X.hi] 76)) from KT.of_below (Below.step hbWb hbA))
      have HCw := Lib.hid (And.intro (And.intro a1 a2) (And.intro (And.intro b1' b2') (And.intro c1' c2')))
      clear hrow hbA
      have HPush : Hid (∀ v8 w8, (w8.ownsRow (w.heap.size + 6) 76 4 v8 (L.length + 1) ((L ++ [X]).flatMap shE) ∧ Below (w.heap.size + 6) (wb.alloc (.cells #[.int .i64 X.gx, .int .i64 X.gy, .int .i64 X.lo, .int .i64 X.hi] 76)) w8 ∧ (wb.alloc (.cells #[.int .i64 X.gx, .int .i64 X.gy, .int .i64 X.lo, .int .i64 X.hi] 76)).grownBy w8 (Value.slice A L.length cap).ownBlock) → ∃ A8 c8, v8 = .slice A8 (L.length + 1) c8 ∧ w8.ownsRow (w.heap.size + 6) 76 4 (.slice A8 (L.length + 1) c8) (L.length + 1) ((L ++ [X]).flatMap shE) ∧
          ((w8.cell? ⟨w.heap.size, 0, none⟩ = some (.slice A L.length cap) ∧ w8.frozen? ⟨w.heap.size, 0, none⟩ = false) ∧ (w8.cell? ⟨w.heap.size + 1, 0, none⟩ = some (.int .i64 (L.length : Nat)) ∧ w8.frozen? ⟨w.heap.size + 1, 0, none⟩ = false) ∧ (w8.cell? ⟨w.heap.size + 1 + 1, 0, none⟩ = some (.int .i64 0) ∧ w8.frozen? ⟨w.heap.size + 1 + 1, 0, none⟩ = false)) ∧
          Below w.heap.size w w8 ∧ KT (fun k => k = w.heap.size + 1 + 1 + 1 ∨ k = W0.heap.size ∨ k = W0.heap.size + 1) W w8 ∧ w.heap.size + 6 ≤ w8.heap.size) := Lib.hid (by
        rintro v8 w8 ⟨hown8, hbel8, hgr8⟩
        obtain ⟨A8, c8, rfl, hc8, -⟩ := row_form hown8
        obtain ⟨⟨A1, A2⟩, ⟨B1, B2⟩, ⟨C1, C2⟩⟩ := HCw.out
        have h89 := hbel8.size
        simp at h89
        refine ⟨A8, c8, rfl, hown8,
          ⟨⟨low_at hbel8 (by omega) (keep_cell HBA.out A1), low_frozen hbel8 (by omega) (keep_frozen HBA.out (by omega) A2)⟩, ⟨low_at hbel8 (by omega) (keep_cell HBA.out B1), low_frozen hbel8 (by omega) (keep_frozen HBA.out (by omega) B2)⟩, ⟨low_at hbel8 (by omega) (keep_cell HBA.out C1), low_frozen hbel8 (by omega) (keep_frozen HBA.out (by omega) C2)⟩⟩,
          HBW.out.trans (hbel8.mono (by omega)), HKT.out.grown hgr8 (fun k e hk => by have := HNk.out k e; rcases hk with hk | hk | hk <;> omega), by omega⟩)
      clear HKT HBW HNk HBA HCw
      gi_wp2_with (gi_at_builtin; refine wpListIn_app rfl (.tmp 72) (.tmp 74) 32 rfl _ _ rfl rfl HAPP.out ?_; rintro v8 w8 hR; obtain ⟨A8, c8, rfl, hown8, ⟨⟨q1, q2⟩, ⟨q3, q4⟩, ⟨q5, q6⟩⟩, hbw8, KT8, h89⟩ := HPush.out v8 w8 hR; have HO8 := Lib.hid hown8; have HKT8 := Lib.hid KT8; clear hR hown8 KT8 HAPP HPush)
      have KTw9 : KT (fun k => k = w.heap.size + 1 + 1 + 1 ∨ k = W0.heap.size ∨ k = W0.heap.size + 1) W (w8.setCell ⟨w.heap.size, 0, none⟩ (.slice A8 (L.length + 1) c8)) := HKT8.out.setCell (fun hk => by
        have hk' : w.heap.size = w.heap.size + 1 + 1 + 1 ∨ w.heap.size = W0.heap.size ∨ w.heap.size = W0.heap.size + 1 := hk
        omega) _
      refine And.intro ?_ ⟨L ++ [X], restL t, k', A8, c8, ⟨?_, ?_⟩, ⟨?_, ?_⟩, ⟨?_, ?_⟩, ?_, HOk.out, ?_, hk', by omega, HPe.out, ?_⟩
      · exact KTw9.setCell (fun hk => by
          have hk' : w.heap.size + 1 = w.heap.size + 1 + 1 + 1 ∨ w.heap.size + 1 = W0.heap.size ∨ w.heap.size + 1 = W0.heap.size + 1 := hk
          omega) _
      · rw [List.length_append, List.length_singleton]; simp [go_sem, *]
      · simp [go_sem, *]
      · rw [List.length_append, List.length_singleton]; simp [go_sem, *]
      · simp [go_sem, *]
      · simp [go_sem, *]
      · simp [go_sem, *]
      · rw [List.length_append, List.length_singleton]
        exact row_same HO8.out (fun k e => by
          have := (HO8.out.lt k e).1
          rw [Below.heap_setCell _ _ _ _ (by show k ≠ w.heap.size + 1; omega), Below.heap_setCell _ _ _ _ (by show k ≠ w.heap.size; omega)])
      · obtain ⟨x1, x2, x3⟩ := HX.out
        rw [x1, x3, x2]; simp
      · exact Below.setCell (Below.setCell hbw8 (Nat.le_refl _) _) (by show w.heap.size ≤ w.heap.size + 1; omega) _
  case done =>
    rintro D xs X hD hxs ⟨L, t, k, A, cap, ⟨a1, a2⟩, ⟨b1', b2'⟩, ⟨c1', c2'⟩, hrow, hok, hst, htk, ht6, hpe, hbw⟩ hK
    have hst' : lns s = lns s ++ lns t := by rw [← hxs]; rw [hxs] at hst; rw [hxs]; exact hst
    have ht : t = [] := lns_nil (List.self_eq_append_right.1 hst')
    subst ht
    rw [Fm.parse_nil] at hpe
    have hmo : Tryd.prog.follows Departure.mixedOrders = true := by kernel_rfl
    have hDs : D < X.heap.size := (Array.getElem?_eq_some_iff.1 hK).1
    have hpl := (okG_parts hok).1
    have HO := Lib.hid hrow
    have HK := Lib.hid hK
    have HPE := Lib.hid hpe
    clear hrow hok hst hst' htk ht6 hpe hK hxs
    go_wp2
    (try simp only [Exit.inBlock, Exit.then])
    all_goals
      refine parse_end (u := .slice A L.length cap) (n := 0) (y := 0) D w.heap.size w ?_ ?_ ?_ (by omega) ?_ ?_
      · simp [go_sem, *]
      · simp [go_sem, *]
      · simp [go_sem, *]
      · repeat (first | exact HK.out | refine blk_other2 ?_ (by simp; omega) _ | refine blk_drew2 ?_)
      · have hDn := row_not HO.out HK.out
        refine Parsed.ok HPE.out (row_same HO.out (fun g e => ?_)) hpl ?_
        · have hg := (HO.out.lt g e).1
          rw [World.putObj_heap_other (fun h => hDn (by rw [← h]; exact e))]
          repeat (first | rfl | (rw [Below.heap_setCell _ _ _ _ (by simp; omega)]))
        · refine Below.trans ?_ (below_put _ (by omega) _)
          (repeat (first | (with_reducible exact hbw) | refine Below.drew ?_ | refine Below.setCell ?_ (by first | (simp; done) | (simp; omega) | omega) _))
  case stop =>
    rintro D c pre X hD hS ⟨rfl, n, hRn, h2, h3, h4, hb⟩ hK
    have HRn := Lib.hid hRn
    have HK := Lib.hid hK
    clear hRn hK
    gi_wp2
    refine parse_end (u := .slice none 0 0) (n := n) (y := 2) D w.heap.size w h2 h3 h4 (by omega) HK.out ?_
    rw [HRn.out]
    exact Parsed.err (hb.trans (below_put _ (by omega) _))
end Go.Proofs.YtimbdnngeoccdaaDoor
