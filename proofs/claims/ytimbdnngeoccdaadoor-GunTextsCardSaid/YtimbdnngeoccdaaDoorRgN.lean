/-
  The law range_s of text RgS inside a round of another range over a function: one block of book-keeping.
-/
import Derived.Test.YtimbdnngeoccdaaDoorRgS
import Derived.RangeFuncNested
namespace Go.Proofs.YtimbdnngeoccdaaDoor
open Go.RowKit Go.Shelf
set_option linter.unusedVariables false
theorem range_sn {l0 : Nat} {r0 : Loop} {P : Program} {α : Type} {g : Operand} {ps : Array Tmp} {assign body : Code} {Q : Exit → Act → World → Prop} {a : Act} {w : World} {n : Nat} {gf : Nat} {lb : Array Value}
    (hl0 : w.heap[l0]? = some (.loop r0)) (hg : a.eval g = .func (.func gf) #[] lb) (eg : ∀ args w, (callFunc gf args).run P w = .ok (.enter gf args) w) {encs : α → Array Value} {S Sp : List α → Prop} {Kp Ow : Nat → Prop} {w0 : World}
    (hseq : SeqS P gf lb encs S Sp Kp Ow w0) (hOw : ∀ b, Ow b → b < w.heap.size) (hb0 : Below w0.heap.size w0 w) (hk1 : Kp w.heap.size) (hps : ∀ x, (encs x).size = ps.size)
    (I : List α → World → Prop) (Ix : Code → List α → World → Prop) (hI : ∀ s A A', I s A → Below A.heap.size A A' → I s A') (hIx : ∀ c s A A', Ix c s A → Below A.heap.size A A' → Ix c s A') (hP : ∀ s A o, I s A → I s (A.putObj w.heap.size o)) (hPx : ∀ c s A o, Ix c s A → Ix c s (A.putObj w.heap.size o)) (hO : ∀ s A (p : Addr) u, Ow p.block → I s A → I s (A.setCell p u)) (h0 : I [] w)
    (Ax : α → Act → World → Prop) (hAx : ∀ x a' A l r o, Ax x a' A → A.heap[l]? = some (.loop r) → Ax x a' (A.putObj l o))
    (hassign : ∀ (l : Nat) (pre : List α) (x : α) (W : World) (K : Act → World → Prop), I pre W → w.heap.size ≤ W.heap.size → (∀ a' W', KT Kp W W' → I pre W' → Ax x a' W' → K a' W') →
      assign.wpIn (Fence.wide.inRound l) n P (Exit.then K (fun _ _ _ => False)) { tmps := (ps.zip (encs x)).foldl (fun t (p, v) => t.setIfInBounds p v) a.tmps, defers := [] } W)
    (hbody : ∀ (l : Nat) (pre : List α) (x : α) (a' : Act) (W : World), l = w.heap.size → (∃ r, W.heap[l]? = some (.loop r)) → I pre W → Ax x a' W → Sp (pre ++ [x]) → body.wpIn (Fence.wide.inRound l) n P (postS Kp I Ix (pre ++ [x]) W) a' W)
    (hdone : ∀ (xs : List α) (W : World), S xs → I xs W → Q .normal a W)
    (hstop : ∀ (c : Code) (pre : List α) (W : World), Sp pre → Ix c pre W → c.wpIn (Fence.wide.inRound l0) (n + 2) P Q a W) :
    (Code.rangeFunc g ps assign body).wpIn (Fence.wide.inRound l0) (n + 2) P Q a w := by
  refine wpIn_rangeFunc fun fn hfn => ?_
  -- the two blocks of book-keeping, and the world in which the iterator is called
  let rec' : LoopState → Option Code → Loop := fun st pe => { state := st, pending := pe, fn, tmps := a.tmps, params := ps, assign, body, defers := r0.defers }
  obtain ⟨V, hV⟩ : ∃ V, w.alloc (.loop (rec' .ready none)) = V := ⟨_, rfl⟩
  have vsz : V.heap.size = w.heap.size + 1 := by rw [← hV]; simp
  have vl : V.heap[w.heap.size]? = some (.loop (rec' .ready none)) := by
    rw [← hV]
    exact World.alloc_heap_new w _
  have vb : Below w.heap.size w V := by
    rw [← hV]
    exact (Below.refl _ w).alloc (Nat.le_refl _) _
  refine ⟨w.heap.size, [], V, { target := .fn (.func gf) lb, args := #[.func (.yield w.heap.size) #[] #[]] }, V, gf, #[.func (.yield w.heap.size) #[] #[]] ++ lb, V, ?_, ?_, fun _ _ => trivial, ?_, fun _ => by omega, ?_⟩
  · rw [← hV]; exact run_enterLoop_inner hl0 _ _ _ _ _
  · simp only [resolve, hg]; simp [go_sem]
  · simp [invoke, go_sem, eg]
  -- what the iterator is given: the caller's word, and the two blocks
  have keep : ∀ {A A' : World} {k : Nat} {o : Obj}, k < w.heap.size + 1 → Below A.heap.size A A' → A.heap[k]? = some o → A'.heap[k]? = some o := fun hk hb ho => (hb.block _ (Array.getElem?_eq_some_iff.1 ho).1).trans ho
  refine (hseq n w.heap.size (fun s A => I s A ∧ A.heap[w.heap.size]? = some (.loop (rec' .ready none)))
    (fun s A => ∃ c, Ix c s A ∧ A.heap[w.heap.size]? = some (.loop (rec' .done (some c))))
    V (hb0.trans (vb.mono hb0.size)) (fun s A A' h hb => ⟨hI s A A' h.1 hb, keep (by omega) hb h.2⟩)
    (fun s A A' h hb => by obtain ⟨c, h1, h2⟩ := h; exact ⟨c, hIx c s A A' h1 hb, keep (by omega) hb h2⟩)
    (fun s A p u hp h => ⟨hO s A p u hp h.1, (Below.heap_setCell _ _ _ _ (by have := hOw _ hp; omega)).trans h.2⟩) ?_ ⟨hI _ _ _ h0 vb, vl⟩).mono ?_
  · rintro pre x W ⟨wi, wl⟩ hok
    have wlt : w.heap.size < W.heap.size := (Array.getElem?_eq_some_iff.1 wl).1
    refine ⟨fn, _, assign, body, run_yield wl (by exact hps x), roundIn_of_wpIn hfn (hassign _ pre x W _ wi (by omega) ?_)⟩
    intro a' X kx xi xa
    have xl : X.heap[w.heap.size]? = some (.loop (rec' .ready none)) := (kx.block _ wlt hk1).trans wl
    have xlt : w.heap.size < X.heap.size := (Array.getElem?_eq_some_iff.1 xl).1
    obtain ⟨Y, hY⟩ : ∃ Y, X.putObj w.heap.size (.loop { rec' .ready none with state := .busy }) = Y := ⟨_, rfl⟩
    refine ⟨Y, by rw [← hY]; exact run_beginRound xl rfl, ?_⟩
    have yl : Y.heap[w.heap.size]? = some (.loop { rec' .ready none with state := .busy }) := by rw [← hY]; exact World.putObj_heap_same xlt
    have yi : I pre Y := by rw [← hY]; exact hP _ _ _ xi
    have ya : Ax x a' Y := by rw [← hY]; exact hAx _ _ _ _ _ _ xa xl
    have ylt : w.heap.size < Y.heap.size := (Array.getElem?_eq_some_iff.1 yl).1
    -- the round's end
    have ends : ∀ (jump : Option Code) (Z : World), KT Kp Y Z → ∃ Z', (Instr.endRound w.heap.size jump).run P Z = .ok (.bool jump.isNone) Z' ∧ (∃ o, Z' = Z.putObj w.heap.size o) ∧ Z'.heap[w.heap.size]? = some (.loop (rec' (if jump.isNone then .ready else .done) jump)) ∧ (∀ k, k ≠ w.heap.size → Z'.heap[k]? = Z.heap[k]?) := fun jump Z kz => by
      have zl : Z.heap[w.heap.size]? = some (.loop { rec' .ready none with state := .busy }) := (kz.block _ ylt hk1).trans yl
      refine ⟨_, run_endRound jump zl, ⟨_, rfl⟩, World.putObj_heap_same (Array.getElem?_eq_some_iff.1 zl).1, fun k hk => World.putObj_heap_other (by omega)⟩
    refine wpIn_mono (hbody _ pre x a' Y rfl ⟨_, yl⟩ yi ya hok) ?_
    have left : ∀ (c : Code) (Z : World), KT Kp Y Z → Ix c (pre ++ [x]) Z → ∃ Z', (Instr.endRound w.heap.size (some c)).run P Z = .ok (.bool false) Z' ∧ ∃ c', Ix c' (pre ++ [x]) Z' ∧ Z'.heap[w.heap.size]? = some (.loop (rec' .done (some c'))) := fun c Z kz hz => by
      obtain ⟨Z', hr, ⟨o, rfl⟩, h1, _⟩ := ends (some c) Z kz
      exact ⟨_, hr, c, hPx _ _ _ _ hz, h1⟩
    rintro e a3 Z hp
    cases e with
    | normal =>
      obtain ⟨kz, zi⟩ := hp
      obtain ⟨Z', hr, ⟨o, rfl⟩, h1, h3⟩ := ends none Z kz
      refine ⟨_, _, hr, .inl ⟨rfl, ⟨hP _ _ _ zi, h1⟩, ?_⟩⟩
      refine ⟨Nat.le_trans kx.size (Nat.le_trans (by rw [← hY]; simp) (Nat.le_trans kz.size (by simp))), fun k hk hr' => ?_⟩
      by_cases hkl : k = w.heap.size
      · subst hkl; rw [h1, wl]; rfl
      have hr2 : Kp k := hr'
      have hkX : k < X.heap.size := Nat.lt_of_lt_of_le hk kx.size
      rw [h3 k hkl, kz.block k (by rw [← hY]; simpa using hkX) hr2, ← hY, World.putObj_heap_other (by omega), kx.block k hk hr2]
    | ret => obtain ⟨Z', hr, c, h⟩ := left .ret Z hp.1 hp.2; exact ⟨_, Z', hr, .inr ⟨rfl, c, h⟩⟩
    | exit id => obtain ⟨Z', hr, c, h⟩ := left (.exit id) Z hp.1 hp.2; exact ⟨_, Z', hr, .inr ⟨rfl, c, h⟩⟩
    | goto t => obtain ⟨Z', hr, c, h⟩ := left (.goto t) Z hp.1 hp.2; exact ⟨_, Z', hr, .inr ⟨rfl, c, h⟩⟩
    | panic ch => exact hp.elim
    | outgrown => exact hp.elim
  · rintro e Z ⟨⟨v, rfl⟩, ⟨xs, hS, hi, hl⟩ | ⟨pre, hSp, c, hi, hl⟩⟩
    · exact ⟨none, _, run_endLoop hl (by simp [rec']), hdone xs _ hS (hP _ _ _ hi)⟩
    · exact ⟨some c, _, run_endLoop hl (by simp [rec']), hstop c pre _ hSp (hPx _ _ _ _ hi)⟩
end Go.Proofs.YtimbdnngeoccdaaDoor
