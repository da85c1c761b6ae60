/-
  A loop over an iterator that keeps state of its own in cells: what such an iterator owes (SeqB), and the law for its caller (range_wide), at the wide fence.
-/
import Derived.Test.YtagbokhmcidokaaPre
import Derived.RangeFuncNested
import Derived.RangeFuncBound
import Derived.RangeFuncCalls
import Derived.RangeFuncLeaves
import Derived.Shelf.Abstract
import Derived.Shelf.RegionOpen
import Derived.WalkKit
import Derived.OwnWalkIn
import Derived.TacticsInMore
import Derived.LoopNIn
import Derived.LoopIn
namespace Go.Proofs.Ytagbokhmcidokaa
open Go.RowKit Go.Shelf
set_option linter.unusedVariables false

/-- What a round keeps: all that lay below lo, and all that lay from hi on. -/
structure KB (lo hi : Nat) (W W' : World) : Prop where
  size : W.heap.size ≤ W'.heap.size
  block : ∀ k, k < W.heap.size → (k < lo ∨ hi ≤ k) → W'.heap[k]? = W.heap[k]?
theorem KB.refl (lo hi : Nat) (W : World) : KB lo hi W W := ⟨Nat.le_refl _, fun _ _ _ => rfl⟩
theorem KB.trans {lo hi : Nat} {A B C : World} (h : KB lo hi A B) (k : KB lo hi B C) : KB lo hi A C :=
  ⟨Nat.le_trans h.size k.size, fun i hi' hr => (k.block i (Nat.lt_of_lt_of_le hi' h.size) hr).trans (h.block i hi' hr)⟩
theorem KB.of_below {lo hi : Nat} {A B : World} (h : Below A.heap.size A B) : KB lo hi A B := ⟨h.size, fun k hk _ => h.block k hk⟩
theorem KB.alloc {lo hi : Nat} {A B : World} (h : KB lo hi A B) (o : Obj) : KB lo hi A (B.alloc o) := h.trans (KB.of_below ((Below.refl _ B).alloc (Nat.le_refl _) o))
theorem KB.step {lo hi : Nat} {A B C : World} (h : KB lo hi A B) (k : Below B.heap.size B C) : KB lo hi A C := h.trans (KB.of_below k)
theorem KB.setCell {lo hi : Nat} {A B : World} (h : KB lo hi A B) {p : Addr} (h1 : lo ≤ p.block) (h2 : p.block < hi) (u : Value) : KB lo hi A (B.setCell p u) :=
  h.trans ⟨by simp [World.setCell], fun k _ hr => Below.heap_setCell _ _ _ _ (by omega)⟩
theorem KB.drew {lo hi : Nat} {A B : World} (h : KB lo hi A B) (n : Nat) : KB lo hi A (B.drewN n) := ⟨h.size, h.block⟩
theorem KB.drew1 {lo hi : Nat} {A B : World} (h : KB lo hi A B) : KB lo hi A B.drew := ⟨h.size, h.block⟩
theorem KB.setNew {lo hi : Nat} {A B : World} (h : KB lo hi A B) {p : Addr} (h1 : A.heap.size ≤ p.block) (u : Value) : KB lo hi A (B.setCell p u) :=
  ⟨Nat.le_trans h.size (by simp [World.setCell]), fun k hk hr => (Below.heap_setCell _ _ _ _ (by omega)).trans (h.block k hk hr)⟩
theorem KB.grown {lo hi : Nat} {A B C : World} {row : Option Nat} (h : KB lo hi A B) (hg : B.grownBy C row) (hr : ∀ k, row = some k → lo ≤ k ∧ k < hi ∨ A.heap.size ≤ k) : KB lo hi A C :=
  ⟨Nat.le_trans h.size hg.size, fun k hk hk' => (hg.block k (Nat.lt_of_lt_of_le hk h.size) (fun e => by rcases hr k e.symm with h1 | h1 <;> omega)).trans (h.block k hk hk')⟩

/-- What an iterator owes: it may make memory and write what it made; each round keeps what lay below lo and what the iterator made. -/
def SeqB {α : Type} (P : Program) (g : Nat) (lb : Array Value) (encs : α → Array Value) (S Sp : List α → Prop) (N lo hi : Nat) (w : World) : Prop :=
  ∀ (n l : Nat) (J Jx : List α → World → Prop) (W : World), Below w.heap.size w W → (∀ s A A', J s A → Below W.heap.size A A' → J s A') → (∀ s A A', Jx s A → Below W.heap.size A A' → Jx s A') →
    (∀ pre x W1, J pre W1 → pre.length < N → YieldAt Fence.wide n P l (encs x) W1 fun e W' =>
      (e = .returned (.bool true) ∧ J (pre ++ [x]) W' ∧ KB lo hi W1 W') ∨ (e = .returned (.bool false) ∧ Jx (pre ++ [x]) W')) →
    J [] W →
    CallsIn Fence.wide (n + 1) P g (#[.func (.yield l) #[] #[]] ++ lb) W fun e W' => (∃ v, e = .returned v) ∧ ((∃ xs, S xs ∧ J xs W') ∨ (∃ pre, Sp pre ∧ Jx pre W'))

/-- How a round may be left. -/
def postB {α : Type} (lo hi : Nat) (I : List α → World → Prop) (Ix : Code → List α → World → Prop) (xs : List α) (W : World) : Exit → Act → World → Prop
  | .normal, _, W' => KB lo hi W W' ∧ I xs W'
  | .ret, _, W' => KB lo hi W W' ∧ Ix .ret xs W'
  | .exit id, _, W' => KB lo hi W W' ∧ Ix (.exit id) xs W'
  | .goto t, _, W' => KB lo hi W W' ∧ Ix (.goto t) xs W'
  | _, _, _ => False

theorem below_put {B : Nat} (W : World) {l : Nat} (h : B ≤ l) (o : Obj) : Below B W (W.putObj l o) :=
  ⟨rfl, rfl, rfl, by simp, fun k hk => World.putObj_heap_other (by omega)⟩
theorem KB.put {lo hi : Nat} {A B : World} (h : KB lo hi A B) {l : Nat} (h1 : lo ≤ l) (h2 : l < hi) (o : Obj) : KB lo hi A (B.putObj l o) :=
  h.trans ⟨by simp, fun k _ hr => World.putObj_heap_other (by omega)⟩

theorem range_wide {P : Program} {α : Type} {g : Operand} {ps : Array Tmp} {assign body : Code} {Q : Exit → Act → World → Prop} {a : Act} {w : World} {n : Nat} {gf : Nat} {lb : Array Value}
    (hg : a.eval g = .func (.func gf) #[] lb) (eg : ∀ args w, (callFunc gf args).run P w = .ok (.enter gf args) w) {encs : α → Array Value} {S Sp : List α → Prop} {N lo hi : Nat} {w0 : World}
    (hseq : SeqB P gf lb encs S Sp N lo hi w0) (hb0 : Below w0.heap.size w0 w) (hhi : hi ≤ w.heap.size) (hps : ∀ x, (encs x).size = ps.size)
    (I : List α → World → Prop) (Ix : Code → List α → World → Prop) (hI : ∀ s A A', I s A → Below w.heap.size A A' → I s A') (hIx : ∀ c s A A', Ix c s A → Below w.heap.size A A' → Ix c s A') (h0 : I [] w)
    (Ax : α → Act → World → Prop) (hAx : ∀ x a' A l r o, Ax x a' A → A.heap[l]? = some (.loop r) → Ax x a' (A.putObj l o))
    (hassign : ∀ (l : Nat) (pre : List α) (x : α) (W : World) (K : Act → World → Prop), I pre W → w.heap.size ≤ W.heap.size → (∀ a' W', KB lo hi W W' → I pre W' → Ax x a' W' → K a' W') →
      assign.wpIn (Fence.wide.inRound l) n P (Exit.then K (fun _ _ _ => False)) { tmps := (ps.zip (encs x)).foldl (fun t (p, v) => t.setIfInBounds p v) a.tmps, defers := [] } W)
    (hbody : ∀ (l : Nat) (pre : List α) (x : α) (a' : Act) (W : World), w.heap.size ≤ l → (∃ r, W.heap[l]? = some (.loop r)) → I pre W → Ax x a' W → pre.length < N → body.wpIn (Fence.wide.inRound l) n P (postB lo hi I Ix (pre ++ [x]) W) a' W)
    (hdone : ∀ (D : Nat) (xs : List α) (W : World), w.heap.size ≤ D → S xs → I xs W → W.heap[D]? = some (.deferred (some [])) → Q .normal { a with defers := { target := .collected D, args := #[] } :: a.defers } W)
    (hstop : ∀ (D : Nat) (c : Code) (pre : List α) (W : World), w.heap.size ≤ D → Sp pre → Ix c pre W → W.heap[D]? = some (.deferred (some [])) → c.wpIn Fence.wide (n + 2) P Q { a with defers := { target := .collected D, args := #[] } :: a.defers } W) :
    (Code.rangeFunc g ps assign body).wpIn Fence.wide (n + 2) P Q a w := by
  refine wpIn_rangeFunc fun fn hfn => ?_
  -- the two blocks of book-keeping, and the world in which the iterator is called
  let rec' : LoopState → Option Code → Loop := fun st pe => { state := st, pending := pe, fn, tmps := a.tmps, params := ps, assign, body, defers := w.heap.size }
  obtain ⟨V, hV⟩ : ∃ V, (w.alloc (.deferred (some []))).alloc (.loop (rec' .ready none)) = V := ⟨_, rfl⟩
  have vsz : V.heap.size = w.heap.size + 2 := by rw [← hV]; simp
  have vl : V.heap[w.heap.size + 1]? = some (.loop (rec' .ready none)) := by
    rw [← hV]
    have h := World.alloc_heap_new (w.alloc (.deferred (some []))) (.loop (rec' .ready none))
    rwa [World.size_alloc] at h
  have vd : V.heap[w.heap.size]? = some (.deferred (some [])) := by
    rw [← hV, Below.heap_alloc _ _ _ (by simp)]
    exact World.alloc_heap_new w _
  have vb : Below w.heap.size w V := by
    rw [← hV]
    exact ((Below.refl _ w).alloc (Nat.le_refl _) _).alloc (by simp) _
  refine ⟨w.heap.size + 1, [{ target := .collected w.heap.size, args := #[] }], V, { target := .fn (.func gf) lb, args := #[.func (.yield (w.heap.size + 1)) #[] #[]] }, V, gf, #[.func (.yield (w.heap.size + 1)) #[] #[]] ++ lb, V, ?_, ?_, fun _ _ => trivial, ?_, fun _ => by omega, ?_⟩
  · rw [← hV]; exact run_enterLoop_outer _ _ _ _ _
  · simp only [resolve, hg]; simp [go_sem]
  · simp [invoke, go_sem, eg]
  -- what the iterator is given: the caller's word, and the two blocks
  have keep : ∀ {A A' : World} {k : Nat} {o : Obj}, k < w.heap.size + 2 → Below V.heap.size A A' → A.heap[k]? = some o → A'.heap[k]? = some o := fun hk hb ho => (hb.block _ (by omega)).trans ho
  refine (hseq n (w.heap.size + 1) (fun s A => I s A ∧ A.heap[w.heap.size + 1]? = some (.loop (rec' .ready none)) ∧ A.heap[w.heap.size]? = some (.deferred (some [])))
    (fun s A => ∃ c, Ix c s A ∧ A.heap[w.heap.size + 1]? = some (.loop (rec' .done (some c))) ∧ A.heap[w.heap.size]? = some (.deferred (some [])))
    V (hb0.trans (vb.mono hb0.size)) (fun s A A' h hb => ⟨hI s A A' h.1 (hb.mono (by omega)), keep (by omega) hb h.2.1, keep (by omega) hb h.2.2⟩)
    (fun s A A' h hb => by obtain ⟨c, h1, h2, h3⟩ := h; exact ⟨c, hIx c s A A' h1 (hb.mono (by omega)), keep (by omega) hb h2, keep (by omega) hb h3⟩) ?_ ⟨hI _ _ _ h0 vb, vl, vd⟩).mono ?_
  · rintro pre x W ⟨wi, wl, wd⟩ hlen
    have wlt : w.heap.size + 1 < W.heap.size := (Array.getElem?_eq_some_iff.1 wl).1
    refine ⟨fn, _, assign, body, run_yield wl (by exact hps x), roundIn_of_wpIn hfn (hassign _ pre x W _ wi (by omega) ?_)⟩
    intro a' X kx xi xa
    have xl : X.heap[w.heap.size + 1]? = some (.loop (rec' .ready none)) := (kx.block _ wlt (Or.inr (by omega))).trans wl
    have xd : X.heap[w.heap.size]? = some (.deferred (some [])) := (kx.block _ (by omega) (Or.inr hhi)).trans wd
    have xlt : w.heap.size + 1 < X.heap.size := (Array.getElem?_eq_some_iff.1 xl).1
    obtain ⟨Y, hY⟩ : ∃ Y, X.putObj (w.heap.size + 1) (.loop { rec' .ready none with state := .busy }) = Y := ⟨_, rfl⟩
    refine ⟨Y, by rw [← hY]; exact run_beginRound xl rfl, ?_⟩
    have yl : Y.heap[w.heap.size + 1]? = some (.loop { rec' .ready none with state := .busy }) := by rw [← hY]; exact World.putObj_heap_same xlt
    have yd : Y.heap[w.heap.size]? = some (.deferred (some [])) := by rw [← hY, World.putObj_heap_other (by omega)]; exact xd
    have yi : I pre Y := by rw [← hY]; exact hI _ _ _ xi (below_put X (by omega) _)
    have ya : Ax x a' Y := by rw [← hY]; exact hAx _ _ _ _ _ _ xa xl
    have ylt : w.heap.size + 1 < Y.heap.size := (Array.getElem?_eq_some_iff.1 yl).1
    -- the round's end
    have ends : ∀ (jump : Option Code) (Z : World), KB lo hi Y Z → ∃ Z', (Instr.endRound (w.heap.size + 1) jump).run P Z = .ok (.bool jump.isNone) Z' ∧ Below w.heap.size Z Z' ∧ Z'.heap[w.heap.size + 1]? = some (.loop (rec' (if jump.isNone then .ready else .done) jump)) ∧ Z'.heap[w.heap.size]? = some (.deferred (some [])) ∧ (∀ k, k ≠ w.heap.size + 1 → Z'.heap[k]? = Z.heap[k]?) := fun jump Z kz => by
      have zl : Z.heap[w.heap.size + 1]? = some (.loop { rec' .ready none with state := .busy }) := (kz.block _ ylt (Or.inr (by omega))).trans yl
      have zd : Z.heap[w.heap.size]? = some (.deferred (some [])) := (kz.block _ (by omega) (Or.inr hhi)).trans yd
      refine ⟨_, run_endRound jump zl, below_put Z (by omega) _, World.putObj_heap_same (Array.getElem?_eq_some_iff.1 zl).1, (World.putObj_heap_other (by omega)).trans zd, fun k hk => World.putObj_heap_other (by omega)⟩
    refine wpIn_mono (hbody _ pre x a' Y (by omega) ⟨_, yl⟩ yi ya hlen) ?_
    have left : ∀ (c : Code) (Z : World), KB lo hi Y Z → Ix c (pre ++ [x]) Z → ∃ Z', (Instr.endRound (w.heap.size + 1) (some c)).run P Z = .ok (.bool false) Z' ∧ ∃ c', Ix c' (pre ++ [x]) Z' ∧ Z'.heap[w.heap.size + 1]? = some (.loop (rec' .done (some c'))) ∧ Z'.heap[w.heap.size]? = some (.deferred (some [])) := fun c Z kz hz => by
      obtain ⟨Z', hr, hb, h1, h2, _⟩ := ends (some c) Z kz
      exact ⟨Z', hr, c, hIx _ _ _ _ hz hb, h1, h2⟩
    rintro e a3 Z hp
    cases e with
    | normal =>
      obtain ⟨kz, zi⟩ := hp
      obtain ⟨Z', hr, hb, h1, h2, h3⟩ := ends none Z kz
      refine ⟨_, Z', hr, .inl ⟨rfl, ⟨hI _ _ _ zi hb, h1, h2⟩, ?_⟩⟩
      refine ⟨Nat.le_trans kx.size (Nat.le_trans (by rw [← hY]; simp) (Nat.le_trans kz.size hb.size)), fun k hk hr' => ?_⟩
      by_cases hkl : k = w.heap.size + 1
      · subst hkl; rw [h1, wl]; rfl
      have hr2 : k < lo ∨ hi ≤ k := hr'
      have hkX : k < X.heap.size := Nat.lt_of_lt_of_le hk kx.size
      rw [h3 k hkl, kz.block k (by rw [← hY]; simpa using hkX) hr2, ← hY, World.putObj_heap_other (by omega), kx.block k hk hr2]
    | ret => obtain ⟨Z', hr, c, h⟩ := left .ret Z hp.1 hp.2; exact ⟨_, Z', hr, .inr ⟨rfl, c, h⟩⟩
    | exit id => obtain ⟨Z', hr, c, h⟩ := left (.exit id) Z hp.1 hp.2; exact ⟨_, Z', hr, .inr ⟨rfl, c, h⟩⟩
    | goto t => obtain ⟨Z', hr, c, h⟩ := left (.goto t) Z hp.1 hp.2; exact ⟨_, Z', hr, .inr ⟨rfl, c, h⟩⟩
    | panic ch => exact hp.elim
    | outgrown => exact hp.elim
  · rintro e Z ⟨⟨v, rfl⟩, ⟨xs, hS, hi, hl, hd⟩ | ⟨pre, hSp, c, hi, hl, hd⟩⟩
    · exact ⟨none, _, run_endLoop hl (by simp [rec']), hdone _ xs _ (Nat.le_refl _) hS (hI _ _ _ hi (below_put Z (by omega) _)) ((World.putObj_heap_other (by omega)).trans hd)⟩
    · exact ⟨some c, _, run_endLoop hl (by simp [rec']), hstop _ c pre _ (Nat.le_refl _) hSp (hIx _ _ _ _ hi (below_put Z (by omega) _)) ((World.putObj_heap_other (by omega)).trans hd)⟩
end Go.Proofs.Ytagbokhmcidokaa
