/-
  A loop over an iterator that keeps a state in cells of its own (blocks Ow): what such an iterator owes (SeqS), and the law for its caller (range_s): rounds keep the blocks of a set K.
-/
import Derived.Test.YtagbokhmcidokaaRange
namespace Go.Proofs.Ytagbokhmcidokaa
open Go.RowKit Go.Shelf
set_option linter.unusedVariables false

/-- What a round keeps: the blocks of K. -/
structure KT (K : Nat → Prop) (W W' : World) : Prop where
  size : W.heap.size ≤ W'.heap.size
  block : ∀ k, k < W.heap.size → K k → W'.heap[k]? = W.heap[k]?
theorem KT.refl (K : Nat → Prop) (W : World) : KT K W W := ⟨Nat.le_refl _, fun _ _ _ => rfl⟩
theorem KT.trans {K : Nat → Prop} {A B C : World} (h : KT K A B) (k : KT K B C) : KT K A C :=
  ⟨Nat.le_trans h.size k.size, fun i hi' hr => (k.block i (Nat.lt_of_lt_of_le hi' h.size) hr).trans (h.block i hi' hr)⟩
theorem KT.of_below {K : Nat → Prop} {A B : World} (h : Below A.heap.size A B) : KT K A B := ⟨h.size, fun k hk _ => h.block k hk⟩
theorem KT.alloc {K : Nat → Prop} {A B : World} (h : KT K A B) (o : Obj) : KT K A (B.alloc o) := h.trans (KT.of_below ((Below.refl _ B).alloc (Nat.le_refl _) o))
theorem KT.step {K : Nat → Prop} {A B C : World} (h : KT K A B) (k : Below B.heap.size B C) : KT K A C := h.trans (KT.of_below k)
theorem KT.setCell {K : Nat → Prop} {A B : World} (h : KT K A B) {p : Addr} (h1 : ¬ K p.block) (u : Value) : KT K A (B.setCell p u) :=
  h.trans ⟨by simp [World.setCell], fun k _ hr => Below.heap_setCell _ _ _ _ (by rintro rfl; exact h1 hr)⟩
theorem KT.drew1 {K : Nat → Prop} {A B : World} (h : KT K A B) : KT K A B.drew := ⟨h.size, h.block⟩
theorem KT.grown {K : Nat → Prop} {A B C : World} {row : Option Nat} (h : KT K A B) (hg : B.grownBy C row) (hr : ∀ k, row = some k → ¬ K k) : KT K A C :=
  h.trans ⟨hg.size, fun k hk hk' => hg.block k hk (fun e => hr k e.symm hk')⟩

/-- What an iterator owes: it may make memory and write what it made; each round keeps what lay below lo and what the iterator made. -/
def SeqS {α : Type} (P : Program) (g : Nat) (lb : Array Value) (encs : α → Array Value) (S Sp : List α → Prop) (K Ow : Nat → Prop) (w : World) : Prop :=
  ∀ (n l : Nat) (J Jx : List α → World → Prop) (W : World), Below w.heap.size w W → (∀ s A A', J s A → Below A.heap.size A A' → J s A') → (∀ s A A', Jx s A → Below A.heap.size A A' → Jx s A') → (∀ s A (p : Addr) u, Ow p.block → J s A → J s (A.setCell p u)) →
    (∀ pre x W1, J pre W1 → Sp (pre ++ [x]) → YieldAt Fence.wide n P l (encs x) W1 fun e W' =>
      (e = .returned (.bool true) ∧ J (pre ++ [x]) W' ∧ KT K W1 W') ∨ (e = .returned (.bool false) ∧ Jx (pre ++ [x]) W')) →
    J [] W →
    CallsIn Fence.wide (n + 1) P g (#[.func (.yield l) #[] #[]] ++ lb) W fun e W' => (∃ v, e = .returned v) ∧ ((∃ xs, S xs ∧ J xs W') ∨ (∃ pre, Sp pre ∧ Jx pre W'))

/-- How a round may be left. -/
def postS {α : Type} (K : Nat → Prop) (I : List α → World → Prop) (Ix : Code → List α → World → Prop) (xs : List α) (W : World) : Exit → Act → World → Prop
  | .normal, _, W' => KT K W W' ∧ I xs W'
  | .ret, _, W' => KT K W W' ∧ Ix .ret xs W'
  | .exit id, _, W' => KT K W W' ∧ Ix (.exit id) xs W'
  | .goto t, _, W' => KT K W W' ∧ Ix (.goto t) xs W'
  | _, _, _ => False

theorem range_s {P : Program} {α : Type} {g : Operand} {ps : Array Tmp} {assign body : Code} {Q : Exit → Act → World → Prop} {a : Act} {w : World} {n : Nat} {gf : Nat} {lb : Array Value}
    (hg : a.eval g = .func (.func gf) #[] lb) (eg : ∀ args w, (callFunc gf args).run P w = .ok (.enter gf args) w) {encs : α → Array Value} {S Sp : List α → Prop} {Kp Ow : Nat → Prop} {w0 : World}
    (hseq : SeqS P gf lb encs S Sp Kp Ow w0) (hOw : ∀ b, Ow b → b < w.heap.size) (hb0 : Below w0.heap.size w0 w) (hk0 : Kp w.heap.size) (hk1 : Kp (w.heap.size + 1)) (hps : ∀ x, (encs x).size = ps.size)
    (I : List α → World → Prop) (Ix : Code → List α → World → Prop) (hI : ∀ s A A', I s A → Below A.heap.size A A' → I s A') (hIx : ∀ c s A A', Ix c s A → Below A.heap.size A A' → Ix c s A') (hP : ∀ s A o, I s A → I s (A.putObj (w.heap.size + 1) o)) (hPx : ∀ c s A o, Ix c s A → Ix c s (A.putObj (w.heap.size + 1) o)) (hO : ∀ s A (p : Addr) u, Ow p.block → I s A → I s (A.setCell p u)) (h0 : I [] w)
    (Ax : α → Act → World → Prop) (hAx : ∀ x a' A l r o, Ax x a' A → A.heap[l]? = some (.loop r) → Ax x a' (A.putObj l o))
    (hassign : ∀ (l : Nat) (pre : List α) (x : α) (W : World) (K : Act → World → Prop), I pre W → w.heap.size ≤ W.heap.size → (∀ a' W', KT Kp W W' → I pre W' → Ax x a' W' → K a' W') →
      assign.wpIn (Fence.wide.inRound l) n P (Exit.then K (fun _ _ _ => False)) { tmps := (ps.zip (encs x)).foldl (fun t (p, v) => t.setIfInBounds p v) a.tmps, defers := [] } W)
    (hbody : ∀ (l : Nat) (pre : List α) (x : α) (a' : Act) (W : World), l = w.heap.size + 1 → (∃ r, W.heap[l]? = some (.loop r)) → I pre W → Ax x a' W → Sp (pre ++ [x]) → body.wpIn (Fence.wide.inRound l) n P (postS Kp I Ix (pre ++ [x]) W) a' W)
    (hdone : ∀ (D : Nat) (xs : List α) (W : World), w.heap.size ≤ D → S xs → I xs W → W.heap[D]? = some (.deferred (some [])) → Q .normal { a with defers := { target := .collected D, args := #[] } :: a.defers } W)
    (hstop : ∀ (D : Nat) (c : Code) (pre : List α) (W : World), w.heap.size ≤ D → Sp pre → Ix c pre W → W.heap[D]? = some (.deferred (some [])) → c.wpIn Fence.wide (n + 2) P Q { a with defers := { target := .collected D, args := #[] } :: a.defers } W) :
    (Code.rangeFunc g ps assign body).wpIn Fence.wide (n + 2) P Q a w := by
  refine wpIn_rangeFunc fun fn hfn => ?_
  -- the two blocks of book-keeping, and the world in which the iterator is called
  let rec' : LoopState → Option Code → Loop := fun st pe => { state := st, pending := pe, fn, tmps := a.tmps, params := ps, assign, body, defers := w.heap.size }
  obtain ⟨V, hV⟩ : ∃ V, (w.alloc (.deferred (some []))).alloc (.loop (rec' .ready none)) = V := ⟨_, rfl⟩
  have vsz : V.heap.size = w.heap.size + 2 := by rw [← hV]; simp
  have vl : V.heap[w.heap.size + 1]? = some (.loop (rec' .ready none)) := by
    rw [← hV]
    have h := World.alloc_heap_new (w.alloc (.deferred (some []))) (.loop (rec' .ready none))
    rwa [World.size_alloc] at h
  have vd : V.heap[w.heap.size]? = some (.deferred (some [])) := by
    rw [← hV, Below.heap_alloc _ _ _ (by simp)]
    exact World.alloc_heap_new w _
  have vb : Below w.heap.size w V := by
    rw [← hV]
    exact ((Below.refl _ w).alloc (Nat.le_refl _) _).alloc (by simp) _
  refine ⟨w.heap.size + 1, [{ target := .collected w.heap.size, args := #[] }], V, { target := .fn (.func gf) lb, args := #[.func (.yield (w.heap.size + 1)) #[] #[]] }, V, gf, #[.func (.yield (w.heap.size + 1)) #[] #[]] ++ lb, V, ?_, ?_, fun _ _ => trivial, ?_, fun _ => by omega, ?_⟩
  · rw [← hV]; exact run_enterLoop_outer _ _ _ _ _
  · simp only [resolve, hg]; simp [go_sem]
  · simp [invoke, go_sem, eg]
  -- what the iterator is given: the caller's word, and the two blocks
  have keep : ∀ {A A' : World} {k : Nat} {o : Obj}, k < w.heap.size + 2 → Below A.heap.size A A' → A.heap[k]? = some o → A'.heap[k]? = some o := fun hk hb ho => (hb.block _ (Array.getElem?_eq_some_iff.1 ho).1).trans ho
  refine (hseq n (w.heap.size + 1) (fun s A => I s A ∧ A.heap[w.heap.size + 1]? = some (.loop (rec' .ready none)) ∧ A.heap[w.heap.size]? = some (.deferred (some [])))
    (fun s A => ∃ c, Ix c s A ∧ A.heap[w.heap.size + 1]? = some (.loop (rec' .done (some c))) ∧ A.heap[w.heap.size]? = some (.deferred (some [])))
    V (hb0.trans (vb.mono hb0.size)) (fun s A A' h hb => ⟨hI s A A' h.1 hb, keep (by omega) hb h.2.1, keep (by omega) hb h.2.2⟩)
    (fun s A A' h hb => by obtain ⟨c, h1, h2, h3⟩ := h; exact ⟨c, hIx c s A A' h1 hb, keep (by omega) hb h2, keep (by omega) hb h3⟩)
    (fun s A p u hp h => ⟨hO s A p u hp h.1, (Below.heap_setCell _ _ _ _ (by have := hOw _ hp; omega)).trans h.2.1, (Below.heap_setCell _ _ _ _ (by have := hOw _ hp; omega)).trans h.2.2⟩) ?_ ⟨hI _ _ _ h0 vb, vl, vd⟩).mono ?_
  · rintro pre x W ⟨wi, wl, wd⟩ hok
    have wlt : w.heap.size + 1 < W.heap.size := (Array.getElem?_eq_some_iff.1 wl).1
    refine ⟨fn, _, assign, body, run_yield wl (by exact hps x), roundIn_of_wpIn hfn (hassign _ pre x W _ wi (by omega) ?_)⟩
    intro a' X kx xi xa
    have xl : X.heap[w.heap.size + 1]? = some (.loop (rec' .ready none)) := (kx.block _ wlt hk1).trans wl
    have xd : X.heap[w.heap.size]? = some (.deferred (some [])) := (kx.block _ (by omega) hk0).trans wd
    have xlt : w.heap.size + 1 < X.heap.size := (Array.getElem?_eq_some_iff.1 xl).1
    obtain ⟨Y, hY⟩ : ∃ Y, X.putObj (w.heap.size + 1) (.loop { rec' .ready none with state := .busy }) = Y := ⟨_, rfl⟩
    refine ⟨Y, by rw [← hY]; exact run_beginRound xl rfl, ?_⟩
    have yl : Y.heap[w.heap.size + 1]? = some (.loop { rec' .ready none with state := .busy }) := by rw [← hY]; exact World.putObj_heap_same xlt
    have yd : Y.heap[w.heap.size]? = some (.deferred (some [])) := by rw [← hY, World.putObj_heap_other (by omega)]; exact xd
    have yi : I pre Y := by rw [← hY]; exact hP _ _ _ xi
    have ya : Ax x a' Y := by rw [← hY]; exact hAx _ _ _ _ _ _ xa xl
    have ylt : w.heap.size + 1 < Y.heap.size := (Array.getElem?_eq_some_iff.1 yl).1
    -- the round's end
    have ends : ∀ (jump : Option Code) (Z : World), KT Kp Y Z → ∃ Z', (Instr.endRound (w.heap.size + 1) jump).run P Z = .ok (.bool jump.isNone) Z' ∧ (∃ o, Z' = Z.putObj (w.heap.size + 1) o) ∧ Z'.heap[w.heap.size + 1]? = some (.loop (rec' (if jump.isNone then .ready else .done) jump)) ∧ Z'.heap[w.heap.size]? = some (.deferred (some [])) ∧ (∀ k, k ≠ w.heap.size + 1 → Z'.heap[k]? = Z.heap[k]?) := fun jump Z kz => by
      have zl : Z.heap[w.heap.size + 1]? = some (.loop { rec' .ready none with state := .busy }) := (kz.block _ ylt hk1).trans yl
      have zd : Z.heap[w.heap.size]? = some (.deferred (some [])) := (kz.block _ (by omega) hk0).trans yd
      refine ⟨_, run_endRound jump zl, ⟨_, rfl⟩, World.putObj_heap_same (Array.getElem?_eq_some_iff.1 zl).1, (World.putObj_heap_other (by omega)).trans zd, fun k hk => World.putObj_heap_other (by omega)⟩
    refine wpIn_mono (hbody _ pre x a' Y rfl ⟨_, yl⟩ yi ya hok) ?_
    have left : ∀ (c : Code) (Z : World), KT Kp Y Z → Ix c (pre ++ [x]) Z → ∃ Z', (Instr.endRound (w.heap.size + 1) (some c)).run P Z = .ok (.bool false) Z' ∧ ∃ c', Ix c' (pre ++ [x]) Z' ∧ Z'.heap[w.heap.size + 1]? = some (.loop (rec' .done (some c'))) ∧ Z'.heap[w.heap.size]? = some (.deferred (some [])) := fun c Z kz hz => by
      obtain ⟨Z', hr, ⟨o, rfl⟩, h1, h2, _⟩ := ends (some c) Z kz
      exact ⟨_, hr, c, hPx _ _ _ _ hz, h1, h2⟩
    rintro e a3 Z hp
    cases e with
    | normal =>
      obtain ⟨kz, zi⟩ := hp
      obtain ⟨Z', hr, ⟨o, rfl⟩, h1, h2, h3⟩ := ends none Z kz
      refine ⟨_, _, hr, .inl ⟨rfl, ⟨hP _ _ _ zi, h1, h2⟩, ?_⟩⟩
      refine ⟨Nat.le_trans kx.size (Nat.le_trans (by rw [← hY]; simp) (Nat.le_trans kz.size (by simp))), fun k hk hr' => ?_⟩
      by_cases hkl : k = w.heap.size + 1
      · subst hkl; rw [h1, wl]; rfl
      have hr2 : Kp k := hr'
      have hkX : k < X.heap.size := Nat.lt_of_lt_of_le hk kx.size
      rw [h3 k hkl, kz.block k (by rw [← hY]; simpa using hkX) hr2, ← hY, World.putObj_heap_other (by omega), kx.block k hk hr2]
    | ret => obtain ⟨Z', hr, c, h⟩ := left .ret Z hp.1 hp.2; exact ⟨_, Z', hr, .inr ⟨rfl, c, h⟩⟩
    | exit id => obtain ⟨Z', hr, c, h⟩ := left (.exit id) Z hp.1 hp.2; exact ⟨_, Z', hr, .inr ⟨rfl, c, h⟩⟩
    | goto t => obtain ⟨Z', hr, c, h⟩ := left (.goto t) Z hp.1 hp.2; exact ⟨_, Z', hr, .inr ⟨rfl, c, h⟩⟩
    | panic ch => exact hp.elim
    | outgrown => exact hp.elim
  · rintro e Z ⟨⟨v, rfl⟩, ⟨xs, hS, hi, hl, hd⟩ | ⟨pre, hSp, c, hi, hl, hd⟩⟩
    · exact ⟨none, _, run_endLoop hl (by simp [rec']), hdone _ xs _ (Nat.le_refl _) hS (hP _ _ _ hi) ((World.putObj_heap_other (by omega)).trans hd)⟩
    · exact ⟨some c, _, run_endLoop hl (by simp [rec']), hstop _ c pre _ (Nat.le_refl _) hSp (hPx _ _ _ _ hi) ((World.putObj_heap_other (by omega)).trans hd)⟩
end Go.Proofs.Ytagbokhmcidokaa
