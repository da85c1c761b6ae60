/-
  rights of the reference. No conditions.
-/
import Derived.Test.YtomgaiokmdcjmaaNt28
import Derived.Test.YtomgaiokmdcjmaaNt17
namespace Go.Proofs.Ytomgaiokmdcjmaa
open Go.RowKit Go.Deep
set_option linter.unusedVariables false
set_option linter.unusedSimpArgs false
/-- Appending a whole list. -/
theorem app_spread {α : Type} {t e : TypeId} {enc : α → List Value} {sz : Nat} (H : AppE t e enc sz) (l l2 : List α) (n m : Nat) (hn : l.length = n) (hm : l2.length = m) (hl : n + m ≤ 100000) (W : World) (base : Nat) (v : Value)
    (hrow : W.ownsRow base e sz v n (l.flatMap enc)) (hb : base ≤ W.heap.size) (A : Option Addr) (cap : Nat) (hr : RdL W W.heap.size enc sz A l2) (hz : A = none → cap = 0) :
    ∃ v' w', (Builtin.append_ #[t, t] t #[v, .slice A m cap]).run Try.prog W = .ok v' w' ∧ (w'.ownsRow base e sz v' (n + m) ((l ++ l2).flatMap enc) ∧ W.grownBy w' v.ownBlock ∧ (v'.ownBlock = v.ownBlock ∨ v'.ownBlock = some W.heap.size)) := by
  obtain ⟨i, z, bytes, h1, h2, h3, h4, h5, h6⟩ := H.info
  cases A with
  | none =>
    have h0 := hr.none_len rfl
    have hc := hz rfl
    subst hc
    obtain rfl : l2 = [] := List.eq_nil_of_length_eq_zero h0
    obtain rfl : m = 0 := by rw [← hm]; rfl
    refine ⟨v, W, run_append_owned_none (P := Try.prog) W base t t e i sz H.ht h1 v n _ hrow, ?_, ⟨rfl, rfl, rfl, Nat.le_refl _, fun _ _ _ => rfl⟩, .inl rfl⟩
    rw [List.append_nil]
    exact hrow
  | some b =>
    obtain ⟨v', w', hrun, r1, r2, -, r4⟩ := run_append_own_at (P := Try.prog) (w := W) base t t e i z sz bytes H.ht h1 h2 h3 h4 h5 H.pos v n (l.flatMap enc) hrow b m cap (l2.flatMap enc) (by rw [flat_len enc sz H.len, hm]) (hr.olds H.len H.pos (Below.refl _ _) b rfl)
      (fun u hu => by obtain ⟨x, _, hx⟩ := List.mem_flatMap.1 hu; exact H.one x u hx) (by unfold maxLen; omega)
      (by have := Nat.mul_le_mul (show n + m ≤ 100000 by omega) h6; omega) hb
    exact ⟨v', w', hrun, by rw [List.flatMap_append]; exact r1, r2, r4⟩
/-- What is found so far. -/
structure RtsAt (w0 W : World) (g : Nat) (v : Value) (n : Nat) (b : SlL) (ls : List SlL) : Prop where
  own : W.ownsRow w0.heap.size 26 1 v ls.length (ls.flatMap slE)
  vb : v.ownBlock = some g
  lt : g < W.heap.size
  ge : w0.heap.size ≤ g
  at' : ∀ s ∈ ls, s = b ∨ (SlAt W n s ∧ ∃ b' off, s.A = some ⟨b', off, none⟩ ∧ w0.heap.size ≤ b' ∧ b' < W.heap.size ∧ b' ≠ g)
theorem RtsAt.step {w0 W W' : World} {g : Nat} {v : Value} {n : Nat} {b : SlL} {ls : List SlL} (h : RtsAt w0 W g v n b ls) (hb : Below W.heap.size W W') : RtsAt w0 W' g v n b ls :=
  ⟨h.own.kept (row := none) ⟨hb.os, hb.tape, hb.output, hb.size, fun i hi _ => hb.block i hi⟩ (.inr (by rw [h.vb]; simp)), h.vb, by have := hb.size; have := h.lt; omega, h.ge, fun s hs => by
    rcases h.at' s hs with h | ⟨h1, b', off, e, h2, h3, h4⟩
    · exact .inl h
    · exact .inr ⟨h1.step hb, b', off, e, h2, by have := hb.size; omega, h4⟩⟩
theorem RtsAt.one (w0 : World) (n : Nat) (b : SlL) (W : World) (hW : w0.heap.size ≤ W.heap.size) : RtsAt w0 (W.alloc (.cells #[slV b] 26)) W.heap.size (.slice (some ⟨W.heap.size, 0, none⟩) 1 1) n b [b] :=
  ⟨World.ownsRow_lit (base := w0.heap.size) W #[slV b] 1 hW (by unfold maxLen; omega) (by simp), rfl, by simp, hW, fun s hs => by simp at hs; exact .inl hs⟩
theorem rts_app {w0 W : World} {g : Nat} {v : Value} {n : Nat} {b : SlL} {ls : List SlL} (h : RtsAt w0 W g v n b ls) (hl : ls.length ≤ 1000) (ls2 : List SlL) (hl2 : ls2.length ≤ 1000) (A2 : Option Addr) (c2 : Nat) (hA : A2 ≠ none) (hr : RdL W W.heap.size slE 1 A2 ls2)
    (h2 : ∀ s ∈ ls2, SlAt W n s ∧ ∃ b' off, s.A = some ⟨b', off, none⟩ ∧ w0.heap.size ≤ b' ∧ b' < W.heap.size ∧ b' ≠ g) :
    ∃ v' w', (Builtin.append_ #[96, 96] 96 #[v, .slice A2 ls2.length c2]).run Try.prog W = .ok v' w' ∧ ((∃ g', RtsAt w0 w' g' v' n b (ls ++ ls2)) ∧ Below w0.heap.size W w') := by
  obtain ⟨v', w', hrun, r1, r2, r3⟩ := app_spread appSl ls ls2 ls.length ls2.length rfl rfl (by omega) W w0.heap.size v h.own (by have := h.ge; have := h.lt; omega) A2 c2 hr (fun e => absurd e hA)
  have hlt := h.lt
  have hge := h.ge
  rw [h.vb] at r2 r3
  have hown : w'.ownsRow w0.heap.size 26 1 v' (ls ++ ls2).length ((ls ++ ls2).flatMap slE) := by rw [List.length_append]; exact r1
  have helem : ∀ s ∈ ls ++ ls2, s = b ∨ (SlAt W n s ∧ ∃ b' off, s.A = some ⟨b', off, none⟩ ∧ w0.heap.size ≤ b' ∧ b' < W.heap.size ∧ b' ≠ g) := fun s hs => by
    rcases List.mem_append.1 hs with hs | hs
    · exact h.at' s hs
    · exact .inr (h2 s hs)
  have hsz := r2.size
  have hat : ∀ s ∈ ls ++ ls2, s = b ∨ (SlAt w' n s ∧ ∃ b' off, s.A = some ⟨b', off, none⟩ ∧ w0.heap.size ≤ b' ∧ b' < W.heap.size ∧ b' ≠ g) := fun s hs => by
    rcases helem s hs with h | ⟨k1, b', off, k2, k3, k4, k5⟩
    · exact .inl h
    · refine .inr ⟨⟨?_, k1.i, k1.l, k1.c⟩, b', off, k2, k3, k4, k5⟩
      have := k1.r
      rw [k2] at this ⊢
      exact this.grown r2 (by simp [k5])
  refine ⟨v', w', hrun, ?_, Below.grown (Below.refl _ _) r2 (by omega) (fun k ek => by cases ek; omega)⟩
  rcases r3 with r3 | r3
  · exact ⟨g, hown, r3, by omega, hge, fun s hs => by
      rcases hat s hs with h | ⟨k1, b', off, k2, k3, k4, k5⟩
      · exact .inl h
      · exact .inr ⟨k1, b', off, k2, k3, by omega, k5⟩⟩
  · have hnew := hown.lt _ r3
    exact ⟨_, hown, r3, hnew.2, hnew.1, fun s hs => by
      rcases hat s hs with h | ⟨k1, b', off, k2, k3, k4, k5⟩
      · exact .inl h
      · exact .inr ⟨k1, b', off, k2, k3, by omega, by omega⟩⟩
def nxt (r : List Nat) : Nat := if r.length = 0 then 0 else lastN r + 1
theorem nxt_snoc (p : List Nat) (k : Nat) : nxt (p ++ [k]) = k + 1 := by
  unfold nxt; rw [if_neg (by simp), lastN_snoc]
theorem lastN_lt {n : Nat} {r : List Nat} (h : ∀ i ∈ r, i < n) (h0 : 0 < r.length) : lastN r < n := h _ (atN_mem (by omega))
/-- A found row, as the caller sees it. -/
structure RtsOut (w W : World) (n : Nat) (b : SlL) (A' : Option Addr) (ls : List SlL) : Prop where
  r : RdL W W.heap.size slE 1 A' ls
  s : ∀ s ∈ ls, SlAt W n s ∧ (s = b ∨ ∃ b' off, s.A = some ⟨b', off, none⟩ ∧ w.heap.size ≤ b' ∧ b' < W.heap.size)
  a : A' ≠ none
theorem rts_join {w V w6 w7 : World} {g : Nat} {v : Value} {n : Nat} {b b' : SlL} {ls : List SlL} (h : RtsAt w V g v n b ls) (hl : ls.length ≤ 512) (hb6 : Below V.heap.size V w6) (hb7 : Below w6.heap.size w6 w7) {g6 : Nat} (e6 : b'.A = some ⟨g6, 0, none⟩) (h6 : V.heap.size ≤ g6) (h6' : g6 < w6.heap.size)
    {A' : Option Addr} {ls2 : List SlL} (ho : RtsOut w6 w7 n b' A' ls2) (hl2 : ls2.length ≤ 512) (c2 : Nat) :
    ∃ v' w', (Builtin.append_ #[96, 96] 96 #[v, .slice A' ls2.length c2]).run Try.prog w7 = .ok v' w' ∧ ((∃ g', RtsAt w w' g' v' n b (ls ++ ls2)) ∧ Below w.heap.size w7 w') := by
  have hlt := h.lt
  have hge := h.ge
  have hs6 := hb6.size
  have hs7 := hb7.size
  refine rts_app ((h.step hb6).step hb7) (by omega) ls2 (by omega) A' c2 ho.a ho.r (fun s hs => ?_)
  obtain ⟨k1, k2⟩ := ho.s s hs
  refine ⟨k1, ?_⟩
  rcases k2 with rfl | ⟨b', off, e, k3, k4⟩
  · exact ⟨g6, 0, e6, by omega, by omega, by omega⟩
  · exact ⟨b', off, e, by omega, k4, by omega⟩
theorem app_empty (xs : List Nat) (m : Nat) (hm : xs.length = m) (hl : m ≤ 1000) (V : World) (A : Option Addr) (cap : Nat) (hr : RdL V V.heap.size inE 1 A (xs.map Int.ofNat)) (hz : A = none → cap = 0) :
    ∃ v' w', (Builtin.append_ #[26, 26] 26 #[.slice (some ⟨V.heap.size, 0, none⟩) 0 0, .slice A m cap]).run Try.prog (V.alloc (.cells #[] 3)) = .ok v' w' ∧ (w'.ownsRow V.heap.size 3 1 v' m ((xs.map Int.ofNat).flatMap inE) ∧ Below V.heap.size V w') := by
  have hb : Below V.heap.size V (V.alloc (.cells #[] 3)) := Below.allocS (Below.refl _ _) _
  obtain ⟨v', w', hrun, r1, r2, -⟩ := app_spread appI [] (xs.map Int.ofNat) 0 m rfl (by rw [List.length_map]; exact hm) (by omega) (V.alloc (.cells #[] 3)) V.heap.size (.slice (some ⟨V.heap.size, 0, none⟩) 0 0)
    (World.ownsRow_lit (base := V.heap.size) V #[] 0 (Nat.le_refl _) (Nat.zero_le _) rfl) (by simp) A cap (hr.step hb) hz
  refine ⟨v', w', hrun, ?_, Below.grown hb r2 (by simp) (fun k e => by cases e; exact Nat.le_refl _)⟩
  rw [Nat.zero_add, List.nil_append] at r1
  exact r1
set_option maxHeartbeats 8000000 in
set_option maxRecDepth 100000 in
theorem rights_c (l : List Ch) (A : Option Addr) (cap : Nat) (L : List Cl) (B : Option Addr) (cb : Nat) (per : Int) (hp : PlanOk l per) (hn9 : l.length ≤ 9) (f : Nat) : ∀ (b : SlL) (w : World) (h : InAt w l A cap L B cb) (hs : SlAt w l.length b) (hz : b.A = none → b.c = 0) (hf : f ≤ l.length) (hx : nxt b.xs = l.length - f) (hbl : b.xs.length ≤ l.length - f),
    Calls Try.prog 84 #[.slice A l.length cap, .slice B L.length cb, .int .i64 per, .slice b.A b.xs.length b.c] w fun e w' => (∃ A' c' ls, e = .returned (.slice A' (rtsF l L per f b.xs).length.succ c') ∧ RtsOut w w' l.length b A' ls ∧ ls.map (·.xs) = b.xs :: rtsF l L per f b.xs) ∧ Below w.heap.size w w' := by
  induction f using Nat.strongRecOn with
  | _ f IH0 =>
  intro b w h hs hz hf hx hbl
  have HIN := Lib.hid h
  have HSB := Lib.hid hs
  have HP := Lib.hid hp
  have HNX := Lib.hid hx
  have HZ := Lib.hid hz
  obtain ⟨n, hn⟩ : ∃ n, n = l.length := ⟨_, rfl⟩
  have HN := Lib.hid hn
  have IH := Lib.hid IH0
  have HC := Lib.hid (fun W (hb : Below w.heap.size w W) i (hi : i < l.length) => isClear_c (l.getD i ch0) L B cb (by have := h.hL; omega) W (h.hR.step hb))
  have HF := Lib.hid (fun W i j (hi : i < l.length) (hj : j < l.length) => rfollows_c (l.getD i ch0) (l.getD j ch0) per (hp.t _ (mem_getD hi)) (hp.t _ (mem_getD hj)) hp.p (hp.b _ (mem_getD hi)) W)
  have HT : Hid (∀ f', rtsF l L per (f' + 1) b.xs = (if okN l L per b.xs (l.length - (f' + 1)) = true then (b.xs ++ [l.length - (f' + 1)]) :: rtsF l L per f' (b.xs ++ [l.length - (f' + 1)]) else []) ++ rtsF l L per f' b.xs) := Lib.hid (fun f' => by rw [rtsF])
  have HTL := Lib.hid (fun f' x => rts_len l L per f' x)
  rw [← hn] at hf hx hbl hn9 HC HF HT ⊢
  obtain ⟨bl, hbl2⟩ : ∃ k, k = b.xs.length := ⟨_, rfl⟩
  have HBL := Lib.hid hbl2
  rw [← hbl2] at hbl ⊢
  generalize L.length = nL at *
  have hnx2 : nxt b.xs ≤ n := by omega
  clear h hs hp hn hz IH0 hbl2
  obtain ⟨bA, hbA⟩ : ∃ k, k = b.A := ⟨_, rfl⟩
  have HBA := Lib.hid hbA
  rw [← hbA]
  clear hbA
  by_cases h0 : bl = 0
  case pos =>
    have HNZ : Hid (nxt b.xs = 0) := Lib.hid (by unfold nxt; rw [if_pos (by rw [← HBL.out]; exact h0)])
    have HLA : Hid (∀ k, okN l L per b.xs k = clB l L k) := Lib.hid (fun k => by unfold okN; rw [decide_eq_true (by rw [← HBL.out]; exact h0)]; simp)
    have g0 : decide ((bl : Int) > 0) = false := decide_eq_false (by omega)
    have g1 : decide (0 < (bl : Int)) = false := decide_eq_false (by omega)
    have g2 : decide (0 < bl) = false := decide_eq_false (by omega)
    have g3 : ((bl : Int) == 0) = true := by simp; omega
    have g4 : decide ((bl : Int) = 0) = true := decide_eq_true (by omega)
    have g5 : (bl == 0) = true := by simp; omega
    have g6 : decide (bl = 0) = true := decide_eq_true h0
    clear h0
    go_enter Try.func84, Try.ntmps84
    go_wp2_with fail
    go_loopw [9, 11] (fun out i wr => ∃ (k : Nat) (ls : List SlL) (g : Nat) (A9 : Option Addr) (c9 : Nat), nxt b.xs ≤ k ∧ k ≤ n ∧ i = .int .i64 k ∧ out = .slice A9 ls.length c9 ∧ RtsAt w wr g (.slice A9 ls.length c9) n b ls ∧ ls.map (·.xs) ++ rtsF l L per (n - k) b.xs = b.xs :: rtsF l L per f b.xs ∧ Below w.heap.size w wr) (fun _ i _ => n - (intOf i).toNat)
    case atStart =>
      have h1 := RtsAt.one w n b w (Nat.le_refl _)
      unfold slV at h1
      rw [← HBA.out, ← HBL.out] at h1
      exact ⟨nxt b.xs, [b], w.heap.size, _, 1, Nat.le_refl _, hnx2, by rw [HNZ.out]; rfl, rfl, h1, by rw [show n - nxt b.xs = f by omega]; rfl, by (repeat (first | (with_reducible exact Below.refl _ _) | (with_reducible assumption) | (with_reducible refine Below.drew ?_) | (with_reducible refine Below.allocS ?_ _) | (with_reducible refine Below.setCell ?_ ?_ _) | (with_reducible refine Below.step ?_ (by assumption)) | (with_reducible refine Below.drewN' ?_ _))); (try any_goals (first | (with_reducible assumption) | (simp; done) | (simp; omega) | omega))⟩
    case round =>
      rename World => U
      obtain ⟨k, ls, g, A9, c9, hkx, hk, rfl, rfl, hrt, hmx, hbw⟩ := hrel
      have HRT := Lib.hid hrt
      have HMX := Lib.hid hmx
      have hlen : ls.length ≤ 512 := by
        have h1 := congrArg List.length hmx
        rw [List.length_append, List.length_map, List.length_cons] at h1
        have h2 := HTL.out f b.xs
        have hpw := Nat.pow_le_pow_right (n := 2) (by omega) (show f ≤ 9 by omega)
        omega
      clear hrt hmx
      obtain ⟨ln, hln⟩ : ∃ ln, ln = ls.length := ⟨_, rfl⟩
      have HLN := Lib.hid hln
      rw [← hln] at hlen HRT ⊢
      clear hln
      by_cases hlt : k < n
      · obtain ⟨f', hf2⟩ : ∃ f', n - k = f' + 1 := ⟨n - k - 1, by omega⟩
        have hf3 : n - (k + 1) = f' := by omega
        have HFK := Lib.hid (show k = n - (f' + 1) by omega)
        have HF2 := Lib.hid hf2
        have HF3 := Lib.hid hf3
        have hff : f' < f ∧ f' ≤ n ∧ k + 1 = n - f' ∧ bl ≤ k := by omega
        have HFF := Lib.hid hff
        clear hf2 hf3 hff
        have hkl : k < l.length := by rw [← HN.out]; exact hlt
        obtain ⟨b1, off1, rfl, hb1, hch⟩ := ch_cells HIN.out.hr (by omega)
        obtain ⟨q0, q1, q2, q3, q4⟩ := hch U hbw _ hkl
        have yb := cell?_lt q1
        have z1 : (0 : Int) ≤ (k : Int) := by omega
        have z2 : (k : Int) < (n : Int) := by omega
        have u1 : decide ((k : Int) < (n : Int)) = true := decide_eq_true (by omega)
        have u3 : IntKind.i64.wrap ((k : Int) + 1) = (k : Int) + 1 := IntWalk.i64_in _ (by omega)
        have HCO := Lib.hid (fun W (hb : Below w.heap.size w W) => HC.out W hb _ hlt)
        have HCB : Hid (clB l L k = !covB (l.getD k ch0) L) := Lib.hid rfl
        have HOK := Lib.hid (HLA.out k)
        rw [HCB.out] at HOK
        clear hch HCB
        generalize covB (l.getD k ch0) L = X at *
        generalize l.getD k ch0 = c at *
        cases X
        case true =>
          go_wp2_with fail
          refine region_below (by kernel_rfl) (by kernel_rfl) ?_
          (first | go_big_quiet_skip | (go_big_quiet_want; refine quiet_val (v := ?_) ?_ ?_; rotate_left 1; (· (intro Wq hWq; obtain ⟨hWc, hWf⟩ := bcell hWq; go_simp; (try with_reducible rfl))); go_big_quiet_on; (try simp only [Act.put, List.setIfInBounds_toArray, List.set_cons_zero, List.set_cons_succ])))
          (first | go_big_quiet_skip | (go_big_quiet_want; refine quiet_val (v := ?_) ?_ ?_; rotate_left 1; (· (intro Wq hWq; obtain ⟨hWc, hWf⟩ := bcell hWq; go_simp; (try with_reducible rfl))); go_big_quiet_on; (try simp only [Act.put, List.setIfInBounds_toArray, List.set_cons_zero, List.set_cons_succ])))
          (first | go_big_quiet_skip | (go_big_quiet_want; refine quiet_val (v := ?_) ?_ ?_; rotate_left 1; (· (intro Wq hWq; obtain ⟨hWc, hWf⟩ := bcell hWq; go_simp; (try with_reducible rfl))); go_big_quiet_on; (try simp only [Act.put, List.setIfInBounds_toArray, List.set_cons_zero, List.set_cons_succ])))
          (first | go_big_quiet_skip | (go_big_quiet_want; refine quiet_val (v := ?_) ?_ ?_; rotate_left 1; (· (intro Wq hWq; obtain ⟨hWc, hWf⟩ := bcell hWq; go_simp; (try with_reducible rfl))); go_big_quiet_on; (try simp only [Act.put, List.setIfInBounds_toArray, List.set_cons_zero, List.set_cons_succ])))
          (first | go_big_quiet_skip | (go_big_quiet_want; refine quiet_val (v := ?_) ?_ ?_; rotate_left 1; (· (intro Wq hWq; obtain ⟨hWc, hWf⟩ := bcell hWq; go_simp; (try with_reducible rfl))); go_big_quiet_on; (try simp only [Act.put, List.setIfInBounds_toArray, List.set_cons_zero, List.set_cons_succ])))
          go_big_quiet_want; refine quiet_callB (f := 61) (args := ?_) (v := ?_) ?_ ?_ ?_; rotate_left 2
          · (intro Wq hWq; obtain ⟨hWc, hWf⟩ := bcell hWq; go_simp; (first | with_reducible rfl | exact ⟨rfl, rfl⟩))
          · (intro Wq hWq; exact HCO.out _ (Below.step hbw hWq))
          go_big_quiet_on; (try simp only [Act.put, List.setIfInBounds_toArray, List.set_cons_zero, List.set_cons_succ])
          (first | go_big_quiet_skip | (go_big_quiet_want; refine quiet_val (v := ?_) ?_ ?_; rotate_left 1; (· (intro Wq hWq; obtain ⟨hWc, hWf⟩ := bcell hWq; go_simp; (try with_reducible rfl))); go_big_quiet_on; (try simp only [Act.put, List.setIfInBounds_toArray, List.set_cons_zero, List.set_cons_succ])))
          (first | go_big_quiet_skip | (go_big_quiet_want; refine quiet_val (v := ?_) ?_ ?_; rotate_left 1; (· (intro Wq hWq; obtain ⟨hWc, hWf⟩ := bcell hWq; go_simp; (try with_reducible rfl))); go_big_quiet_on; (try simp only [Act.put, List.setIfInBounds_toArray, List.set_cons_zero, List.set_cons_succ])))
          (first | go_big_quiet_skip | (go_big_quiet_want; refine quiet_val (v := ?_) ?_ ?_; rotate_left 1; (· (intro Wq hWq; obtain ⟨hWc, hWf⟩ := bcell hWq; go_simp; (try with_reducible rfl))); go_big_quiet_on; (try simp only [Act.put, List.setIfInBounds_toArray, List.set_cons_zero, List.set_cons_succ])))
          (first | go_big_quiet_skip | (go_big_quiet_want; refine quiet_val (v := ?_) ?_ ?_; rotate_left 1; (· (intro Wq hWq; obtain ⟨hWc, hWf⟩ := bcell hWq; go_simp; (try with_reducible rfl))); go_big_quiet_on; (try simp only [Act.put, List.setIfInBounds_toArray, List.set_cons_zero, List.set_cons_succ])))
          (first | go_big_quiet_skip | (go_big_quiet_want; refine quiet_val (v := ?_) ?_ ?_; rotate_left 1; (· (intro Wq hWq; obtain ⟨hWc, hWf⟩ := bcell hWq; go_simp; (try with_reducible rfl))); go_big_quiet_on; (try simp only [Act.put, List.setIfInBounds_toArray, List.set_cons_zero, List.set_cons_succ])))
          (first | go_big_quiet_skip | (go_big_quiet_want; refine quiet_val (v := ?_) ?_ ?_; rotate_left 1; (· (intro Wq hWq; obtain ⟨hWc, hWf⟩ := bcell hWq; go_simp; (try with_reducible rfl))); go_big_quiet_on; (try simp only [Act.put, List.setIfInBounds_toArray, List.set_cons_zero, List.set_cons_succ])))
          (first | go_big_quiet_skip | (go_big_quiet_want; refine quiet_val (v := ?_) ?_ ?_; rotate_left 1; (· (intro Wq hWq; obtain ⟨hWc, hWf⟩ := bcell hWq; go_simp; (try with_reducible rfl))); go_big_quiet_on; (try simp only [Act.put, List.setIfInBounds_toArray, List.set_cons_zero, List.set_cons_succ])))
          (first | go_big_quiet_skip | (go_big_quiet_want; refine quiet_val (v := ?_) ?_ ?_; rotate_left 1; (· (intro Wq hWq; obtain ⟨hWc, hWf⟩ := bcell hWq; go_simp; (try with_reducible rfl))); go_big_quiet_on; (try simp only [Act.put, List.setIfInBounds_toArray, List.set_cons_zero, List.set_cons_succ])))
          (first | go_big_quiet_skip | (go_big_quiet_want; refine quiet_val (v := ?_) ?_ ?_; rotate_left 1; (· (intro Wq hWq; obtain ⟨hWc, hWf⟩ := bcell hWq; go_simp; (try with_reducible rfl))); go_big_quiet_on; (try simp only [Act.put, List.setIfInBounds_toArray, List.set_cons_zero, List.set_cons_succ])))
          (first | go_big_quiet_skip | (go_big_quiet_want; refine quiet_val (v := ?_) ?_ ?_; rotate_left 1; (· (intro Wq hWq; obtain ⟨hWc, hWf⟩ := bcell hWq; go_simp; (try with_reducible rfl))); go_big_quiet_on; (try simp only [Act.put, List.setIfInBounds_toArray, List.set_cons_zero, List.set_cons_succ])))
          (first | go_big_quiet_skip | (go_big_quiet_want; refine quiet_val (v := ?_) ?_ ?_; rotate_left 1; (· (intro Wq hWq; obtain ⟨hWc, hWf⟩ := bcell hWq; go_simp; (try with_reducible rfl))); go_big_quiet_on; (try simp only [Act.put, List.setIfInBounds_toArray, List.set_cons_zero, List.set_cons_succ])))
          (first | go_big_quiet_skip | (go_big_quiet_want; refine quiet_val (v := ?_) ?_ ?_; rotate_left 1; (· (intro Wq hWq; obtain ⟨hWc, hWf⟩ := bcell hWq; go_simp; (try with_reducible rfl))); go_big_quiet_on; (try simp only [Act.put, List.setIfInBounds_toArray, List.set_cons_zero, List.set_cons_succ])))
          (first | go_big_quiet_skip | (go_big_quiet_want; refine quiet_val (v := ?_) ?_ ?_; rotate_left 1; (· (intro Wq hWq; obtain ⟨hWc, hWf⟩ := bcell hWq; go_simp; (try with_reducible rfl))); go_big_quiet_on; (try simp only [Act.put, List.setIfInBounds_toArray, List.set_cons_zero, List.set_cons_succ])))
          (first | go_big_quiet_skip | (go_big_quiet_want; refine quiet_val (v := ?_) ?_ ?_; rotate_left 1; (· (intro Wq hWq; obtain ⟨hWc, hWf⟩ := bcell hWq; go_simp; (try with_reducible rfl))); go_big_quiet_on; (try simp only [Act.put, List.setIfInBounds_toArray, List.set_cons_zero, List.set_cons_succ])))
          (first | go_big_quiet_skip | (go_big_quiet_want; refine quiet_val (v := ?_) ?_ ?_; rotate_left 1; (· (intro Wq hWq; obtain ⟨hWc, hWf⟩ := bcell hWq; go_simp; (try with_reducible rfl))); go_big_quiet_on; (try simp only [Act.put, List.setIfInBounds_toArray, List.set_cons_zero, List.set_cons_succ])))
          (first | go_big_quiet_skip | (go_big_quiet_want; refine quiet_val (v := ?_) ?_ ?_; rotate_left 1; (· (intro Wq hWq; obtain ⟨hWc, hWf⟩ := bcell hWq; go_simp; (try with_reducible rfl))); go_big_quiet_on; (try simp only [Act.put, List.setIfInBounds_toArray, List.set_cons_zero, List.set_cons_succ])))
          (first | go_big_quiet_skip | (go_big_quiet_want; refine quiet_val (v := ?_) ?_ ?_; rotate_left 1; (· (intro Wq hWq; obtain ⟨hWc, hWf⟩ := bcell hWq; go_simp; (try with_reducible rfl))); go_big_quiet_on; (try simp only [Act.put, List.setIfInBounds_toArray, List.set_cons_zero, List.set_cons_succ])))
          (first | go_big_quiet_skip | (go_big_quiet_want; refine quiet_val (v := ?_) ?_ ?_; rotate_left 1; (· (intro Wq hWq; obtain ⟨hWc, hWf⟩ := bcell hWq; go_simp; (try with_reducible rfl))); go_big_quiet_on; (try simp only [Act.put, List.setIfInBounds_toArray, List.set_cons_zero, List.set_cons_succ])))
          (first | go_big_quiet_skip | (go_big_quiet_want; refine quiet_val (v := ?_) ?_ ?_; rotate_left 1; (· (intro Wq hWq; obtain ⟨hWc, hWf⟩ := bcell hWq; go_simp; (try with_reducible rfl))); go_big_quiet_on; (try simp only [Act.put, List.setIfInBounds_toArray, List.set_cons_zero, List.set_cons_succ])))
          (first | go_big_quiet_skip | (go_big_quiet_want; refine quiet_val (v := ?_) ?_ ?_; rotate_left 1; (· (intro Wq hWq; obtain ⟨hWc, hWf⟩ := bcell hWq; go_simp; (try with_reducible rfl))); go_big_quiet_on; (try simp only [Act.put, List.setIfInBounds_toArray, List.set_cons_zero, List.set_cons_succ])))
          (first | go_big_quiet_skip | (go_big_quiet_want; refine quiet_val (v := ?_) ?_ ?_; rotate_left 1; (· (intro Wq hWq; obtain ⟨hWc, hWf⟩ := bcell hWq; go_simp; (try with_reducible rfl))); go_big_quiet_on; (try simp only [Act.put, List.setIfInBounds_toArray, List.set_cons_zero, List.set_cons_succ])))
          (first | go_big_quiet_skip | (go_big_quiet_want; refine quiet_val (v := ?_) ?_ ?_; rotate_left 1; (· (intro Wq hWq; obtain ⟨hWc, hWf⟩ := bcell hWq; go_simp; (try with_reducible rfl))); go_big_quiet_on; (try simp only [Act.put, List.setIfInBounds_toArray, List.set_cons_zero, List.set_cons_succ])))
          refine wpQuiet_nil ?_; intro V hbV
          have hbwV := Below.step hbw hbV
          have HNM : Hid (ls.map (·.xs) ++ rtsF l L per (n - (k + 1)) b.xs = b.xs :: rtsF l L per f b.xs) := Lib.hid (by
            rw [← HMX.out, HF2.out, HT.out f', if_neg (by rw [← HFK.out, HOK.out]; simp), HF3.out]; rfl)
          have HRV := Lib.hid (HRT.out.step hbV)
          go_wp2
          go_roundw
          case rel => exact ⟨k + 1, ls, g, A9, c9, by omega, by omega, by go_num, by rw [← HLN.out], by rw [← HLN.out]; exact HRV.out, HNM.out, hbwV⟩
          case measure => simp [intOf]; omega
        go_wp2_with fail
        refine region_below (by kernel_rfl) (by kernel_rfl) ?_
        (first | go_big_quiet_skip | (go_big_quiet_want; refine quiet_val (v := ?_) ?_ ?_; rotate_left 1; (· (intro Wq hWq; obtain ⟨hWc, hWf⟩ := bcell hWq; go_simp; (try with_reducible rfl))); go_big_quiet_on; (try simp only [Act.put, List.setIfInBounds_toArray, List.set_cons_zero, List.set_cons_succ])))
        (first | go_big_quiet_skip | (go_big_quiet_want; refine quiet_val (v := ?_) ?_ ?_; rotate_left 1; (· (intro Wq hWq; obtain ⟨hWc, hWf⟩ := bcell hWq; go_simp; (try with_reducible rfl))); go_big_quiet_on; (try simp only [Act.put, List.setIfInBounds_toArray, List.set_cons_zero, List.set_cons_succ])))
        (first | go_big_quiet_skip | (go_big_quiet_want; refine quiet_val (v := ?_) ?_ ?_; rotate_left 1; (· (intro Wq hWq; obtain ⟨hWc, hWf⟩ := bcell hWq; go_simp; (try with_reducible rfl))); go_big_quiet_on; (try simp only [Act.put, List.setIfInBounds_toArray, List.set_cons_zero, List.set_cons_succ])))
        (first | go_big_quiet_skip | (go_big_quiet_want; refine quiet_val (v := ?_) ?_ ?_; rotate_left 1; (· (intro Wq hWq; obtain ⟨hWc, hWf⟩ := bcell hWq; go_simp; (try with_reducible rfl))); go_big_quiet_on; (try simp only [Act.put, List.setIfInBounds_toArray, List.set_cons_zero, List.set_cons_succ])))
        (first | go_big_quiet_skip | (go_big_quiet_want; refine quiet_val (v := ?_) ?_ ?_; rotate_left 1; (· (intro Wq hWq; obtain ⟨hWc, hWf⟩ := bcell hWq; go_simp; (try with_reducible rfl))); go_big_quiet_on; (try simp only [Act.put, List.setIfInBounds_toArray, List.set_cons_zero, List.set_cons_succ])))
        go_big_quiet_want; refine quiet_callB (f := 61) (args := ?_) (v := ?_) ?_ ?_ ?_; rotate_left 2
        · (intro Wq hWq; obtain ⟨hWc, hWf⟩ := bcell hWq; go_simp; (first | with_reducible rfl | exact ⟨rfl, rfl⟩))
        · (intro Wq hWq; exact HCO.out _ (Below.step hbw hWq))
        go_big_quiet_on; (try simp only [Act.put, List.setIfInBounds_toArray, List.set_cons_zero, List.set_cons_succ])
        (first | go_big_quiet_skip | (go_big_quiet_want; refine quiet_val (v := ?_) ?_ ?_; rotate_left 1; (· (intro Wq hWq; obtain ⟨hWc, hWf⟩ := bcell hWq; go_simp; (try with_reducible rfl))); go_big_quiet_on; (try simp only [Act.put, List.setIfInBounds_toArray, List.set_cons_zero, List.set_cons_succ])))
        (first | go_big_quiet_skip | (go_big_quiet_want; refine quiet_val (v := ?_) ?_ ?_; rotate_left 1; (· (intro Wq hWq; obtain ⟨hWc, hWf⟩ := bcell hWq; go_simp; (try with_reducible rfl))); go_big_quiet_on; (try simp only [Act.put, List.setIfInBounds_toArray, List.set_cons_zero, List.set_cons_succ])))
        (first | go_big_quiet_skip | (go_big_quiet_want; refine quiet_val (v := ?_) ?_ ?_; rotate_left 1; (· (intro Wq hWq; obtain ⟨hWc, hWf⟩ := bcell hWq; go_simp; (try with_reducible rfl))); go_big_quiet_on; (try simp only [Act.put, List.setIfInBounds_toArray, List.set_cons_zero, List.set_cons_succ])))
        (first | go_big_quiet_skip | (go_big_quiet_want; refine quiet_val (v := ?_) ?_ ?_; rotate_left 1; (· (intro Wq hWq; obtain ⟨hWc, hWf⟩ := bcell hWq; go_simp; (try with_reducible rfl))); go_big_quiet_on; (try simp only [Act.put, List.setIfInBounds_toArray, List.set_cons_zero, List.set_cons_succ])))
        (first | go_big_quiet_skip | (go_big_quiet_want; refine quiet_val (v := ?_) ?_ ?_; rotate_left 1; (· (intro Wq hWq; obtain ⟨hWc, hWf⟩ := bcell hWq; go_simp; (try with_reducible rfl))); go_big_quiet_on; (try simp only [Act.put, List.setIfInBounds_toArray, List.set_cons_zero, List.set_cons_succ])))
        (first | go_big_quiet_skip | (go_big_quiet_want; refine quiet_val (v := ?_) ?_ ?_; rotate_left 1; (· (intro Wq hWq; obtain ⟨hWc, hWf⟩ := bcell hWq; go_simp; (try with_reducible rfl))); go_big_quiet_on; (try simp only [Act.put, List.setIfInBounds_toArray, List.set_cons_zero, List.set_cons_succ])))
        (first | go_big_quiet_skip | (go_big_quiet_want; refine quiet_val (v := ?_) ?_ ?_; rotate_left 1; (· (intro Wq hWq; obtain ⟨hWc, hWf⟩ := bcell hWq; go_simp; (try with_reducible rfl))); go_big_quiet_on; (try simp only [Act.put, List.setIfInBounds_toArray, List.set_cons_zero, List.set_cons_succ])))
        (first | go_big_quiet_skip | (go_big_quiet_want; refine quiet_val (v := ?_) ?_ ?_; rotate_left 1; (· (intro Wq hWq; obtain ⟨hWc, hWf⟩ := bcell hWq; go_simp; (try with_reducible rfl))); go_big_quiet_on; (try simp only [Act.put, List.setIfInBounds_toArray, List.set_cons_zero, List.set_cons_succ])))
        (first | go_big_quiet_skip | (go_big_quiet_want; refine quiet_val (v := ?_) ?_ ?_; rotate_left 1; (· (intro Wq hWq; obtain ⟨hWc, hWf⟩ := bcell hWq; go_simp; (try with_reducible rfl))); go_big_quiet_on; (try simp only [Act.put, List.setIfInBounds_toArray, List.set_cons_zero, List.set_cons_succ])))
        (first | go_big_quiet_skip | (go_big_quiet_want; refine quiet_val (v := ?_) ?_ ?_; rotate_left 1; (· (intro Wq hWq; obtain ⟨hWc, hWf⟩ := bcell hWq; go_simp; (try with_reducible rfl))); go_big_quiet_on; (try simp only [Act.put, List.setIfInBounds_toArray, List.set_cons_zero, List.set_cons_succ])))
        (first | go_big_quiet_skip | (go_big_quiet_want; refine quiet_val (v := ?_) ?_ ?_; rotate_left 1; (· (intro Wq hWq; obtain ⟨hWc, hWf⟩ := bcell hWq; go_simp; (try with_reducible rfl))); go_big_quiet_on; (try simp only [Act.put, List.setIfInBounds_toArray, List.set_cons_zero, List.set_cons_succ])))
        (first | go_big_quiet_skip | (go_big_quiet_want; refine quiet_val (v := ?_) ?_ ?_; rotate_left 1; (· (intro Wq hWq; obtain ⟨hWc, hWf⟩ := bcell hWq; go_simp; (try with_reducible rfl))); go_big_quiet_on; (try simp only [Act.put, List.setIfInBounds_toArray, List.set_cons_zero, List.set_cons_succ])))
        (first | go_big_quiet_skip | (go_big_quiet_want; refine quiet_val (v := ?_) ?_ ?_; rotate_left 1; (· (intro Wq hWq; obtain ⟨hWc, hWf⟩ := bcell hWq; go_simp; (try with_reducible rfl))); go_big_quiet_on; (try simp only [Act.put, List.setIfInBounds_toArray, List.set_cons_zero, List.set_cons_succ])))
        (first | go_big_quiet_skip | (go_big_quiet_want; refine quiet_val (v := ?_) ?_ ?_; rotate_left 1; (· (intro Wq hWq; obtain ⟨hWc, hWf⟩ := bcell hWq; go_simp; (try with_reducible rfl))); go_big_quiet_on; (try simp only [Act.put, List.setIfInBounds_toArray, List.set_cons_zero, List.set_cons_succ])))
        (first | go_big_quiet_skip | (go_big_quiet_want; refine quiet_val (v := ?_) ?_ ?_; rotate_left 1; (· (intro Wq hWq; obtain ⟨hWc, hWf⟩ := bcell hWq; go_simp; (try with_reducible rfl))); go_big_quiet_on; (try simp only [Act.put, List.setIfInBounds_toArray, List.set_cons_zero, List.set_cons_succ])))
        (first | go_big_quiet_skip | (go_big_quiet_want; refine quiet_val (v := ?_) ?_ ?_; rotate_left 1; (· (intro Wq hWq; obtain ⟨hWc, hWf⟩ := bcell hWq; go_simp; (try with_reducible rfl))); go_big_quiet_on; (try simp only [Act.put, List.setIfInBounds_toArray, List.set_cons_zero, List.set_cons_succ])))
        (first | go_big_quiet_skip | (go_big_quiet_want; refine quiet_val (v := ?_) ?_ ?_; rotate_left 1; (· (intro Wq hWq; obtain ⟨hWc, hWf⟩ := bcell hWq; go_simp; (try with_reducible rfl))); go_big_quiet_on; (try simp only [Act.put, List.setIfInBounds_toArray, List.set_cons_zero, List.set_cons_succ])))
        (first | go_big_quiet_skip | (go_big_quiet_want; refine quiet_val (v := ?_) ?_ ?_; rotate_left 1; (· (intro Wq hWq; obtain ⟨hWc, hWf⟩ := bcell hWq; go_simp; (try with_reducible rfl))); go_big_quiet_on; (try simp only [Act.put, List.setIfInBounds_toArray, List.set_cons_zero, List.set_cons_succ])))
        (first | go_big_quiet_skip | (go_big_quiet_want; refine quiet_val (v := ?_) ?_ ?_; rotate_left 1; (· (intro Wq hWq; obtain ⟨hWc, hWf⟩ := bcell hWq; go_simp; (try with_reducible rfl))); go_big_quiet_on; (try simp only [Act.put, List.setIfInBounds_toArray, List.set_cons_zero, List.set_cons_succ])))
        (first | go_big_quiet_skip | (go_big_quiet_want; refine quiet_val (v := ?_) ?_ ?_; rotate_left 1; (· (intro Wq hWq; obtain ⟨hWc, hWf⟩ := bcell hWq; go_simp; (try with_reducible rfl))); go_big_quiet_on; (try simp only [Act.put, List.setIfInBounds_toArray, List.set_cons_zero, List.set_cons_succ])))
        (first | go_big_quiet_skip | (go_big_quiet_want; refine quiet_val (v := ?_) ?_ ?_; rotate_left 1; (· (intro Wq hWq; obtain ⟨hWc, hWf⟩ := bcell hWq; go_simp; (try with_reducible rfl))); go_big_quiet_on; (try simp only [Act.put, List.setIfInBounds_toArray, List.set_cons_zero, List.set_cons_succ])))
        (first | go_big_quiet_skip | (go_big_quiet_want; refine quiet_val (v := ?_) ?_ ?_; rotate_left 1; (· (intro Wq hWq; obtain ⟨hWc, hWf⟩ := bcell hWq; go_simp; (try with_reducible rfl))); go_big_quiet_on; (try simp only [Act.put, List.setIfInBounds_toArray, List.set_cons_zero, List.set_cons_succ])))
        refine wpQuiet_nil ?_; intro V hbV
        have hbwV := Below.step hbw hbV
        have hs9 := hbwV.size
        have HRV := Lib.hid (HRT.out.step hbV)
        have HAP1 := Lib.hid (app_empty b.xs bl HBL.out.symm (by omega) V bA b.c (by rw [HBA.out]; exact (HSB.out.step hbwV).r) (fun e => HZ.out (by rw [← HBA.out]; exact e)))
        have HAP2 := Lib.hid (fun (w5 : World) (v5 : Value) (ho : w5.ownsRow V.heap.size 3 1 v5 bl ((b.xs.map Int.ofNat).flatMap inE)) (hs : V.heap.size ≤ w5.heap.size) => app_run appI (b.xs.map Int.ofNat) (k : Int) bl (by rw [List.length_map]; exact HBL.out.symm) (by omega) (w5.alloc (.cells #[.int .i64 k] 3)) V.heap.size w5.heap.size v5 (ho.alloc _) (by simp; omega) (one_cell rfl (by simp [go_sem])))
        have HREC : Hid (∀ (w6 : World) (g6 c6 : Nat), Below w.heap.size w w6 → w6.ownsRow V.heap.size 3 1 (.slice (some ⟨g6, 0, none⟩) (bl + 1) c6) (bl + 1) ((b.xs.map Int.ofNat ++ [(k : Int)]).flatMap inE) → bl + 1 ≤ c6 ∧ c6 ≤ maxLen →
            Calls Try.prog 84 #[.slice (some ⟨b1, off1, none⟩) n cap, .slice B nL cb, .int .i64 per, .slice (some ⟨g6, 0, none⟩) (bl + 1) c6] w6 fun e w' => (∃ A' c' ls2, e = .returned (.slice A' ls2.length c') ∧ (RtsOut w6 w' n ⟨some ⟨g6, 0, none⟩, c6, b.xs ++ [k]⟩ A' ls2 ∧ ls2.length ≤ 512) ∧ ls2.map (·.xs) = (b.xs ++ [k]) :: rtsF l L per f' (b.xs ++ [k])) ∧ Below w6.heap.size w6 w') := Lib.hid (fun w6 g6 c6 hb6 ho hk6 => by
          have hsl : SlAt w6 l.length ⟨some ⟨g6, 0, none⟩, c6, b.xs ++ [k]⟩ := by
            refine ⟨?_, fun j hj => ?_, ?_, ?_⟩
            · show RdL w6 w6.heap.size inE 1 (some ⟨g6, 0, none⟩) ((b.xs ++ [k]).map Int.ofNat)
              rw [List.map_append]
              exact RdL.of_own (enc := inE) (fun _ => rfl) ho (by rw [List.length_append, List.length_map, ← HBL.out]; rfl)
            · rcases List.mem_append.1 hj with h | h
              · exact HSB.out.i j h
              · simp at h; omega
            · have := HBL.out; simp; omega
            · have := HBL.out; simp; omega
          have := IH.out f' HFF.out.1 ⟨some ⟨g6, 0, none⟩, c6, b.xs ++ [k]⟩ w6 (HIN.out.step hb6) hsl (fun e => by cases e) (by rw [← HN.out]; exact HFF.out.2.1) (by show nxt (b.xs ++ [k]) = _; rw [nxt_snoc, ← HN.out]; exact HFF.out.2.2.1) (by show (b.xs ++ [k]).length ≤ _; have := HFF.out; rw [List.length_append, ← HBL.out, ← HN.out]; simp; omega)
          have hl1 : (b.xs ++ [k]).length = bl + 1 := by rw [List.length_append, ← HBL.out]; rfl
          simp only [hl1] at this
          rw [← HN.out] at this
          refine this.mono ?_
          rintro e w' ⟨⟨A', c', ls2, rfl, ho, hm⟩, hb⟩
          have hlen : ls2.length = (rtsF l L per f' (b.xs ++ [k])).length.succ := by rw [← List.length_map (f := fun x : SlL => x.xs), hm]; rfl
          have hbd := HTL.out f' (b.xs ++ [k])
          have hpw := Nat.pow_le_pow_right (n := 2) (by omega) (show f' ≤ 9 by have := HFF.out; omega)
          exact ⟨⟨A', c', ls2, by rw [hlen], ⟨ho, by rw [hlen]; omega⟩, hm⟩, hb⟩)
        have HJOIN := Lib.hid (fun (w6 w7 : World) (hb6 : Below V.heap.size V w6) (hb7 : Below w6.heap.size w6 w7) (b' : SlL) (g6 : Nat) (e6 : b'.A = some ⟨g6, 0, none⟩) (h6 : V.heap.size ≤ g6) (h6' : g6 < w6.heap.size) (A' : Option Addr) (ls2 : List SlL) (ho : RtsOut w6 w7 n b' A' ls2) (hl2 : ls2.length ≤ 512) (c2 : Nat) => rts_join HRV.out (by rw [← HLN.out]; exact hlen) hb6 hb7 e6 h6 h6' ho hl2 c2)
        go_wp2_with (first
          | (at_builtin; refine wpList_app rfl (.tmp 63) (.tmp 64) 26 rfl _ _ rfl rfl HAP1.out ?_; rintro v5 W5 ⟨hown5, hb5⟩; have HO5 := Lib.hid hown5; have HAP2' := Lib.hid (HAP2.out W5 v5 HO5.out hb5.size); clear hown5)
          | (at_builtin; refine wpList_app rfl (.tmp 65) (.tmp 67) 26 rfl _ _ rfl rfl HAP2'.out ?_; rintro v6 W6 ⟨hown6, hb6⟩; obtain ⟨A6, c6, rfl, k6, m6⟩ := row_form hown6; have hA6 := own_addr hown6 (by omega); obtain ⟨g6, rfl⟩ := hA6; have HO6 := Lib.hid hown6; have hlo6 := hown6.lt g6 rfl; have hbV6 : Below V.heap.size V W6 := Below.low (Below.allocS hb5 _) hb6 (Nat.le_refl _); have HREC' := Lib.hid (HREC.out W6 g6 c6 (Below.low hbwV hbV6 hs9) HO6.out ⟨k6, m6⟩); clear hown6 hb6 hb5 k6 m6)
          | (go_at_call 84; refine HREC'.out.mono ?_; rintro e W7 ⟨⟨A7, c7, ls2, rfl, ho7, hm7⟩, hb7⟩; have HO7 := Lib.hid ho7; have HM7 := Lib.hid hm7; have HJ7 := Lib.hid (HJOIN.out _ _ hbV6 hb7 ⟨some ⟨g6, 0, none⟩, c6, b.xs ++ [k]⟩ g6 rfl hlo6.1 hlo6.2 _ _ HO7.out.1 HO7.out.2 c7); clear ho7 hm7)
          | (at_builtin; refine wpList_app rfl (.tmp 59) (.tmp 69) 96 rfl _ _ rfl rfl HJ7.out ?_; rintro v8 W8 ⟨⟨g8, hr8⟩, hb8⟩; obtain ⟨A8, c8, rfl, -, -⟩ := row_form hr8.own; have HR8 := Lib.hid hr8; clear hr8))
        have hbw8 : Below w.heap.size w W8 := Below.low (Below.low (Below.low hbwV hbV6 hs9) hb7 (by have := hbV6.size; omega)) hb8 (Nat.le_refl _)
        have HNM : Hid ((ls ++ ls2).map (·.xs) ++ rtsF l L per (n - (k + 1)) b.xs = b.xs :: rtsF l L per f b.xs) := Lib.hid (by
          rw [← HMX.out, List.map_append, HM7.out, List.append_assoc, HF2.out, HT.out f', if_pos (by first | (rw [← HFK.out, HOK.out]; done) | (rw [← HFK.out, HOK.out]; rfl)), ← HFK.out, HF3.out]; try simp)
        clear hlo6 hb7 hb8 hbV6
        go_roundw
        case rel => exact ⟨k + 1, ls ++ ls2, g8, A8, c8, by omega, by omega, by go_num, by rw [List.length_append], HR8.out, HNM.out, hbw8⟩
        case measure => simp [intOf]; omega
      · obtain rfl : k = n := by omega
        have u1 : decide ((k : Int) < (k : Int)) = false := decide_eq_false (by omega)
        have HMX2 : Hid (ls.map (·.xs) = b.xs :: rtsF l L per f b.xs) := Lib.hid (by have := HMX.out; rw [Nat.sub_self] at this; simpa [rtsF] using this)
        have HL2 : Hid ((rtsF l L per f b.xs).length.succ = ln) := Lib.hid (by rw [HLN.out, ← List.length_map (f := fun x : SlL => x.xs), HMX2.out]; rfl)
        have HOUT : Hid (RtsOut w U k b A9 ls) := Lib.hid ⟨RdL.of_own (enc := slE) (fun _ => rfl) (by have := HRT.out.own; rw [← HLN.out] at this; exact this) HLN.out.symm, fun s hs => by
          rcases HRT.out.at' s hs with rfl | ⟨k1, b', off, k2, k3, k4, k5⟩
          · exact ⟨by rw [HN.out]; exact HSB.out.step hbw, .inl rfl⟩
          · exact ⟨k1, .inr ⟨b', off, k2, k3, k4⟩⟩, fun e => by have := HRT.out.vb; rw [e] at this; simp [Value.ownBlock] at this⟩
        go_wp2
        go_ret
        exact ⟨⟨A9, c9, ls, by rw [HL2.out]; rfl, HOUT.out, HMX2.out⟩, hbw⟩
  have HNZ : Hid (nxt b.xs = lastN b.xs + 1) := Lib.hid (by unfold nxt; rw [if_neg (by rw [← HBL.out]; exact h0)])
  have HLA : Hid (∀ k, okN l L per b.xs k = (clB l L k && folC (l.getD (lastN b.xs) ch0) (l.getD k ch0) per)) := Lib.hid (fun k => by unfold okN; rw [decide_eq_false (by rw [← HBL.out]; exact h0)]; rfl)
  have hll : lastN b.xs < n := by rw [HN.out]; exact lastN_lt HSB.out.i (by rw [← HBL.out]; omega)
  obtain ⟨bb, boff, hbe, hbb, hbc⟩ := int_cell HSB.out.r (Below.refl _ _) (k := bl - 1) (by rw [List.length_map, ← HBL.out]; omega)
  have cl0 : w.cell? ⟨bb, boff + (bl - 1), none⟩ = some (.int .i64 (lastN b.xs)) := by
    have := hbc (bl - 1) (by rw [List.length_map, ← HBL.out]; omega)
    rw [atI_nat] at this
    rw [this]
    unfold lastN
    rw [← HBL.out]
  rw [← HBA.out] at hbe
  subst hbe
  clear hbc
  have g0 : decide ((bl : Int) > 0) = true := decide_eq_true (by omega)
  have g1 : decide (0 < (bl : Int)) = true := decide_eq_true (by omega)
  have g2 : decide (0 < bl) = true := decide_eq_true (by omega)
  have g3 : ((bl : Int) == 0) = false := by simp; omega
  have g4 : decide ((bl : Int) = 0) = false := decide_eq_false (by omega)
  have g5 : (bl == 0) = false := by simp; omega
  have g6 : decide (bl = 0) = false := decide_eq_false h0
  have s1 : IntKind.i64.wrap ((bl : Int) - 1) = ((bl - 1 : Nat) : Int) := (IntWalk.i64_in _ (by omega)).trans (by omega)
  have s2 : (0 : Int) ≤ ((bl - 1 : Nat) : Int) := by omega
  have s3 : ((bl - 1 : Nat) : Int) < (bl : Int) := by omega
  have s4 : IntKind.i64.wrap ((lastN b.xs : Int) + 1) = ((lastN b.xs + 1 : Nat) : Int) := (IntWalk.i64_in _ (by omega)).trans (by omega)
  clear h0
  generalize bl - 1 = bm at *
  go_enter Try.func84, Try.ntmps84
  go_wp2_with fail
  go_loopw [9, 11] (fun out i wr => ∃ (k : Nat) (ls : List SlL) (g : Nat) (A9 : Option Addr) (c9 : Nat), nxt b.xs ≤ k ∧ k ≤ n ∧ i = .int .i64 k ∧ out = .slice A9 ls.length c9 ∧ RtsAt w wr g (.slice A9 ls.length c9) n b ls ∧ ls.map (·.xs) ++ rtsF l L per (n - k) b.xs = b.xs :: rtsF l L per f b.xs ∧ Below w.heap.size w wr) (fun _ i _ => n - (intOf i).toNat)
  case atStart =>
    have h1 := RtsAt.one w n b w (Nat.le_refl _)
    unfold slV at h1
    rw [← HBA.out, ← HBL.out] at h1
    exact ⟨nxt b.xs, [b], w.heap.size, _, 1, Nat.le_refl _, hnx2, by rw [HNZ.out]; rfl, rfl, h1, by rw [show n - nxt b.xs = f by omega]; rfl, by (repeat (first | (with_reducible exact Below.refl _ _) | (with_reducible assumption) | (with_reducible refine Below.drew ?_) | (with_reducible refine Below.allocS ?_ _) | (with_reducible refine Below.setCell ?_ ?_ _) | (with_reducible refine Below.step ?_ (by assumption)) | (with_reducible refine Below.drewN' ?_ _))); (try any_goals (first | (with_reducible assumption) | (simp; done) | (simp; omega) | omega))⟩
  case round =>
    rename World => U
    obtain ⟨k, ls, g, A9, c9, hkx, hk, rfl, rfl, hrt, hmx, hbw⟩ := hrel
    have HRT := Lib.hid hrt
    have HMX := Lib.hid hmx
    have hlen : ls.length ≤ 512 := by
      have h1 := congrArg List.length hmx
      rw [List.length_append, List.length_map, List.length_cons] at h1
      have h2 := HTL.out f b.xs
      have hpw := Nat.pow_le_pow_right (n := 2) (by omega) (show f ≤ 9 by omega)
      omega
    clear hrt hmx
    obtain ⟨ln, hln⟩ : ∃ ln, ln = ls.length := ⟨_, rfl⟩
    have HLN := Lib.hid hln
    rw [← hln] at hlen HRT ⊢
    clear hln
    by_cases hlt : k < n
    · obtain ⟨f', hf2⟩ : ∃ f', n - k = f' + 1 := ⟨n - k - 1, by omega⟩
      have hf3 : n - (k + 1) = f' := by omega
      have HFK := Lib.hid (show k = n - (f' + 1) by omega)
      have HF2 := Lib.hid hf2
      have HF3 := Lib.hid hf3
      have hff : f' < f ∧ f' ≤ n ∧ k + 1 = n - f' ∧ bl ≤ k := by omega
      have HFF := Lib.hid hff
      clear hf2 hf3 hff
      have hkl : k < l.length := by rw [← HN.out]; exact hlt
      obtain ⟨b1, off1, rfl, hb1, hch⟩ := ch_cells HIN.out.hr (by omega)
      obtain ⟨q0, q1, q2, q3, q4⟩ := hch U hbw _ hkl
      have yb := cell?_lt q1
      have z1 : (0 : Int) ≤ (k : Int) := by omega
      have z2 : (k : Int) < (n : Int) := by omega
      have u1 : decide ((k : Int) < (n : Int)) = true := decide_eq_true (by omega)
      have u3 : IntKind.i64.wrap ((k : Int) + 1) = (k : Int) + 1 := IntWalk.i64_in _ (by omega)
      have HCO := Lib.hid (fun W (hb : Below w.heap.size w W) => HC.out W hb _ hlt)
      have HCB : Hid (clB l L k = !covB (l.getD k ch0) L) := Lib.hid rfl
      obtain ⟨r0, r1, r2, r3, r4⟩ := hch U hbw (lastN b.xs) (by rw [← HN.out]; exact hll)
      have HFO := Lib.hid (fun W => HF.out W _ _ hll hlt)
      have e0 := keep_cell hbw cl0
      have ye := cell?_lt e0
      have yd := cell?_lt r1
      have z3 : (0 : Int) ≤ (lastN b.xs : Int) := by omega
      have z4 : (lastN b.xs : Int) < (n : Int) := by omega
      have HOK := Lib.hid (HLA.out k)
      rw [HCB.out] at HOK
      clear hch HCB
      generalize covB (l.getD k ch0) L = X at *
      generalize folC (l.getD (lastN b.xs) ch0) (l.getD k ch0) per = Y at *
      generalize l.getD (lastN b.xs) ch0 = d at *
      generalize lastN b.xs = la at *
      generalize l.getD k ch0 = c at *
      cases X
      case true =>
        go_wp2_with fail
        refine region_below (by kernel_rfl) (by kernel_rfl) ?_
        (first | go_big_quiet_skip | (go_big_quiet_want; refine quiet_val (v := ?_) ?_ ?_; rotate_left 1; (· (intro Wq hWq; obtain ⟨hWc, hWf⟩ := bcell hWq; go_simp; (try with_reducible rfl))); go_big_quiet_on; (try simp only [Act.put, List.setIfInBounds_toArray, List.set_cons_zero, List.set_cons_succ])))
        (first | go_big_quiet_skip | (go_big_quiet_want; refine quiet_val (v := ?_) ?_ ?_; rotate_left 1; (· (intro Wq hWq; obtain ⟨hWc, hWf⟩ := bcell hWq; go_simp; (try with_reducible rfl))); go_big_quiet_on; (try simp only [Act.put, List.setIfInBounds_toArray, List.set_cons_zero, List.set_cons_succ])))
        (first | go_big_quiet_skip | (go_big_quiet_want; refine quiet_val (v := ?_) ?_ ?_; rotate_left 1; (· (intro Wq hWq; obtain ⟨hWc, hWf⟩ := bcell hWq; go_simp; (try with_reducible rfl))); go_big_quiet_on; (try simp only [Act.put, List.setIfInBounds_toArray, List.set_cons_zero, List.set_cons_succ])))
        (first | go_big_quiet_skip | (go_big_quiet_want; refine quiet_val (v := ?_) ?_ ?_; rotate_left 1; (· (intro Wq hWq; obtain ⟨hWc, hWf⟩ := bcell hWq; go_simp; (try with_reducible rfl))); go_big_quiet_on; (try simp only [Act.put, List.setIfInBounds_toArray, List.set_cons_zero, List.set_cons_succ])))
        (first | go_big_quiet_skip | (go_big_quiet_want; refine quiet_val (v := ?_) ?_ ?_; rotate_left 1; (· (intro Wq hWq; obtain ⟨hWc, hWf⟩ := bcell hWq; go_simp; (try with_reducible rfl))); go_big_quiet_on; (try simp only [Act.put, List.setIfInBounds_toArray, List.set_cons_zero, List.set_cons_succ])))
        go_big_quiet_want; refine quiet_callB (f := 61) (args := ?_) (v := ?_) ?_ ?_ ?_; rotate_left 2
        · (intro Wq hWq; obtain ⟨hWc, hWf⟩ := bcell hWq; go_simp; (first | with_reducible rfl | exact ⟨rfl, rfl⟩))
        · (intro Wq hWq; exact HCO.out _ (Below.step hbw hWq))
        go_big_quiet_on; (try simp only [Act.put, List.setIfInBounds_toArray, List.set_cons_zero, List.set_cons_succ])
        (first | go_big_quiet_skip | (go_big_quiet_want; refine quiet_val (v := ?_) ?_ ?_; rotate_left 1; (· (intro Wq hWq; obtain ⟨hWc, hWf⟩ := bcell hWq; go_simp; (try with_reducible rfl))); go_big_quiet_on; (try simp only [Act.put, List.setIfInBounds_toArray, List.set_cons_zero, List.set_cons_succ])))
        (first | go_big_quiet_skip | (go_big_quiet_want; refine quiet_val (v := ?_) ?_ ?_; rotate_left 1; (· (intro Wq hWq; obtain ⟨hWc, hWf⟩ := bcell hWq; go_simp; (try with_reducible rfl))); go_big_quiet_on; (try simp only [Act.put, List.setIfInBounds_toArray, List.set_cons_zero, List.set_cons_succ])))
        (first | go_big_quiet_skip | (go_big_quiet_want; refine quiet_val (v := ?_) ?_ ?_; rotate_left 1; (· (intro Wq hWq; obtain ⟨hWc, hWf⟩ := bcell hWq; go_simp; (try with_reducible rfl))); go_big_quiet_on; (try simp only [Act.put, List.setIfInBounds_toArray, List.set_cons_zero, List.set_cons_succ])))
        (first | go_big_quiet_skip | (go_big_quiet_want; refine quiet_val (v := ?_) ?_ ?_; rotate_left 1; (· (intro Wq hWq; obtain ⟨hWc, hWf⟩ := bcell hWq; go_simp; (try with_reducible rfl))); go_big_quiet_on; (try simp only [Act.put, List.setIfInBounds_toArray, List.set_cons_zero, List.set_cons_succ])))
        (first | go_big_quiet_skip | (go_big_quiet_want; refine quiet_val (v := ?_) ?_ ?_; rotate_left 1; (· (intro Wq hWq; obtain ⟨hWc, hWf⟩ := bcell hWq; go_simp; (try with_reducible rfl))); go_big_quiet_on; (try simp only [Act.put, List.setIfInBounds_toArray, List.set_cons_zero, List.set_cons_succ])))
        (first | go_big_quiet_skip | (go_big_quiet_want; refine quiet_val (v := ?_) ?_ ?_; rotate_left 1; (· (intro Wq hWq; obtain ⟨hWc, hWf⟩ := bcell hWq; go_simp; (try with_reducible rfl))); go_big_quiet_on; (try simp only [Act.put, List.setIfInBounds_toArray, List.set_cons_zero, List.set_cons_succ])))
        (first | go_big_quiet_skip | (go_big_quiet_want; refine quiet_val (v := ?_) ?_ ?_; rotate_left 1; (· (intro Wq hWq; obtain ⟨hWc, hWf⟩ := bcell hWq; go_simp; (try with_reducible rfl))); go_big_quiet_on; (try simp only [Act.put, List.setIfInBounds_toArray, List.set_cons_zero, List.set_cons_succ])))
        (first | go_big_quiet_skip | (go_big_quiet_want; refine quiet_val (v := ?_) ?_ ?_; rotate_left 1; (· (intro Wq hWq; obtain ⟨hWc, hWf⟩ := bcell hWq; go_simp; (try with_reducible rfl))); go_big_quiet_on; (try simp only [Act.put, List.setIfInBounds_toArray, List.set_cons_zero, List.set_cons_succ])))
        (first | go_big_quiet_skip | (go_big_quiet_want; refine quiet_val (v := ?_) ?_ ?_; rotate_left 1; (· (intro Wq hWq; obtain ⟨hWc, hWf⟩ := bcell hWq; go_simp; (try with_reducible rfl))); go_big_quiet_on; (try simp only [Act.put, List.setIfInBounds_toArray, List.set_cons_zero, List.set_cons_succ])))
        (first | go_big_quiet_skip | (go_big_quiet_want; refine quiet_val (v := ?_) ?_ ?_; rotate_left 1; (· (intro Wq hWq; obtain ⟨hWc, hWf⟩ := bcell hWq; go_simp; (try with_reducible rfl))); go_big_quiet_on; (try simp only [Act.put, List.setIfInBounds_toArray, List.set_cons_zero, List.set_cons_succ])))
        (first | go_big_quiet_skip | (go_big_quiet_want; refine quiet_val (v := ?_) ?_ ?_; rotate_left 1; (· (intro Wq hWq; obtain ⟨hWc, hWf⟩ := bcell hWq; go_simp; (try with_reducible rfl))); go_big_quiet_on; (try simp only [Act.put, List.setIfInBounds_toArray, List.set_cons_zero, List.set_cons_succ])))
        (first | go_big_quiet_skip | (go_big_quiet_want; refine quiet_val (v := ?_) ?_ ?_; rotate_left 1; (· (intro Wq hWq; obtain ⟨hWc, hWf⟩ := bcell hWq; go_simp; (try with_reducible rfl))); go_big_quiet_on; (try simp only [Act.put, List.setIfInBounds_toArray, List.set_cons_zero, List.set_cons_succ])))
        (first | go_big_quiet_skip | (go_big_quiet_want; refine quiet_val (v := ?_) ?_ ?_; rotate_left 1; (· (intro Wq hWq; obtain ⟨hWc, hWf⟩ := bcell hWq; go_simp; (try with_reducible rfl))); go_big_quiet_on; (try simp only [Act.put, List.setIfInBounds_toArray, List.set_cons_zero, List.set_cons_succ])))
        (first | go_big_quiet_skip | (go_big_quiet_want; refine quiet_val (v := ?_) ?_ ?_; rotate_left 1; (· (intro Wq hWq; obtain ⟨hWc, hWf⟩ := bcell hWq; go_simp; (try with_reducible rfl))); go_big_quiet_on; (try simp only [Act.put, List.setIfInBounds_toArray, List.set_cons_zero, List.set_cons_succ])))
        (first | go_big_quiet_skip | (go_big_quiet_want; refine quiet_val (v := ?_) ?_ ?_; rotate_left 1; (· (intro Wq hWq; obtain ⟨hWc, hWf⟩ := bcell hWq; go_simp; (try with_reducible rfl))); go_big_quiet_on; (try simp only [Act.put, List.setIfInBounds_toArray, List.set_cons_zero, List.set_cons_succ])))
        (first | go_big_quiet_skip | (go_big_quiet_want; refine quiet_val (v := ?_) ?_ ?_; rotate_left 1; (· (intro Wq hWq; obtain ⟨hWc, hWf⟩ := bcell hWq; go_simp; (try with_reducible rfl))); go_big_quiet_on; (try simp only [Act.put, List.setIfInBounds_toArray, List.set_cons_zero, List.set_cons_succ])))
        (first | go_big_quiet_skip | (go_big_quiet_want; refine quiet_val (v := ?_) ?_ ?_; rotate_left 1; (· (intro Wq hWq; obtain ⟨hWc, hWf⟩ := bcell hWq; go_simp; (try with_reducible rfl))); go_big_quiet_on; (try simp only [Act.put, List.setIfInBounds_toArray, List.set_cons_zero, List.set_cons_succ])))
        (first | go_big_quiet_skip | (go_big_quiet_want; refine quiet_val (v := ?_) ?_ ?_; rotate_left 1; (· (intro Wq hWq; obtain ⟨hWc, hWf⟩ := bcell hWq; go_simp; (try with_reducible rfl))); go_big_quiet_on; (try simp only [Act.put, List.setIfInBounds_toArray, List.set_cons_zero, List.set_cons_succ])))
        (first | go_big_quiet_skip | (go_big_quiet_want; refine quiet_val (v := ?_) ?_ ?_; rotate_left 1; (· (intro Wq hWq; obtain ⟨hWc, hWf⟩ := bcell hWq; go_simp; (try with_reducible rfl))); go_big_quiet_on; (try simp only [Act.put, List.setIfInBounds_toArray, List.set_cons_zero, List.set_cons_succ])))
        (first | go_big_quiet_skip | (go_big_quiet_want; refine quiet_val (v := ?_) ?_ ?_; rotate_left 1; (· (intro Wq hWq; obtain ⟨hWc, hWf⟩ := bcell hWq; go_simp; (try with_reducible rfl))); go_big_quiet_on; (try simp only [Act.put, List.setIfInBounds_toArray, List.set_cons_zero, List.set_cons_succ])))
        (first | go_big_quiet_skip | (go_big_quiet_want; refine quiet_val (v := ?_) ?_ ?_; rotate_left 1; (· (intro Wq hWq; obtain ⟨hWc, hWf⟩ := bcell hWq; go_simp; (try with_reducible rfl))); go_big_quiet_on; (try simp only [Act.put, List.setIfInBounds_toArray, List.set_cons_zero, List.set_cons_succ])))
        (first | go_big_quiet_skip | (go_big_quiet_want; refine quiet_val (v := ?_) ?_ ?_; rotate_left 1; (· (intro Wq hWq; obtain ⟨hWc, hWf⟩ := bcell hWq; go_simp; (try with_reducible rfl))); go_big_quiet_on; (try simp only [Act.put, List.setIfInBounds_toArray, List.set_cons_zero, List.set_cons_succ])))
        refine wpQuiet_nil ?_; intro V hbV
        have hbwV := Below.step hbw hbV
        have HNM : Hid (ls.map (·.xs) ++ rtsF l L per (n - (k + 1)) b.xs = b.xs :: rtsF l L per f b.xs) := Lib.hid (by
          rw [← HMX.out, HF2.out, HT.out f', if_neg (by rw [← HFK.out, HOK.out]; simp), HF3.out]; rfl)
        have HRV := Lib.hid (HRT.out.step hbV)
        go_wp2
        go_roundw
        case rel => exact ⟨k + 1, ls, g, A9, c9, by omega, by omega, by go_num, by rw [← HLN.out], by rw [← HLN.out]; exact HRV.out, HNM.out, hbwV⟩
        case measure => simp [intOf]; omega
      cases Y
      case false =>
        go_wp2_with fail
        refine region_below (by kernel_rfl) (by kernel_rfl) ?_
        (first | go_big_quiet_skip | (go_big_quiet_want; refine quiet_val (v := ?_) ?_ ?_; rotate_left 1; (· (intro Wq hWq; obtain ⟨hWc, hWf⟩ := bcell hWq; go_simp; (try with_reducible rfl))); go_big_quiet_on; (try simp only [Act.put, List.setIfInBounds_toArray, List.set_cons_zero, List.set_cons_succ])))
        (first | go_big_quiet_skip | (go_big_quiet_want; refine quiet_val (v := ?_) ?_ ?_; rotate_left 1; (· (intro Wq hWq; obtain ⟨hWc, hWf⟩ := bcell hWq; go_simp; (try with_reducible rfl))); go_big_quiet_on; (try simp only [Act.put, List.setIfInBounds_toArray, List.set_cons_zero, List.set_cons_succ])))
        (first | go_big_quiet_skip | (go_big_quiet_want; refine quiet_val (v := ?_) ?_ ?_; rotate_left 1; (· (intro Wq hWq; obtain ⟨hWc, hWf⟩ := bcell hWq; go_simp; (try with_reducible rfl))); go_big_quiet_on; (try simp only [Act.put, List.setIfInBounds_toArray, List.set_cons_zero, List.set_cons_succ])))
        (first | go_big_quiet_skip | (go_big_quiet_want; refine quiet_val (v := ?_) ?_ ?_; rotate_left 1; (· (intro Wq hWq; obtain ⟨hWc, hWf⟩ := bcell hWq; go_simp; (try with_reducible rfl))); go_big_quiet_on; (try simp only [Act.put, List.setIfInBounds_toArray, List.set_cons_zero, List.set_cons_succ])))
        (first | go_big_quiet_skip | (go_big_quiet_want; refine quiet_val (v := ?_) ?_ ?_; rotate_left 1; (· (intro Wq hWq; obtain ⟨hWc, hWf⟩ := bcell hWq; go_simp; (try with_reducible rfl))); go_big_quiet_on; (try simp only [Act.put, List.setIfInBounds_toArray, List.set_cons_zero, List.set_cons_succ])))
        go_big_quiet_want; refine quiet_callB (f := 61) (args := ?_) (v := ?_) ?_ ?_ ?_; rotate_left 2
        · (intro Wq hWq; obtain ⟨hWc, hWf⟩ := bcell hWq; go_simp; (first | with_reducible rfl | exact ⟨rfl, rfl⟩))
        · (intro Wq hWq; exact HCO.out _ (Below.step hbw hWq))
        go_big_quiet_on; (try simp only [Act.put, List.setIfInBounds_toArray, List.set_cons_zero, List.set_cons_succ])
        (first | go_big_quiet_skip | (go_big_quiet_want; refine quiet_val (v := ?_) ?_ ?_; rotate_left 1; (· (intro Wq hWq; obtain ⟨hWc, hWf⟩ := bcell hWq; go_simp; (try with_reducible rfl))); go_big_quiet_on; (try simp only [Act.put, List.setIfInBounds_toArray, List.set_cons_zero, List.set_cons_succ])))
        (first | go_big_quiet_skip | (go_big_quiet_want; refine quiet_val (v := ?_) ?_ ?_; rotate_left 1; (· (intro Wq hWq; obtain ⟨hWc, hWf⟩ := bcell hWq; go_simp; (try with_reducible rfl))); go_big_quiet_on; (try simp only [Act.put, List.setIfInBounds_toArray, List.set_cons_zero, List.set_cons_succ])))
        (first | go_big_quiet_skip | (go_big_quiet_want; refine quiet_val (v := ?_) ?_ ?_; rotate_left 1; (· (intro Wq hWq; obtain ⟨hWc, hWf⟩ := bcell hWq; go_simp; (try with_reducible rfl))); go_big_quiet_on; (try simp only [Act.put, List.setIfInBounds_toArray, List.set_cons_zero, List.set_cons_succ])))
        (first | go_big_quiet_skip | (go_big_quiet_want; refine quiet_val (v := ?_) ?_ ?_; rotate_left 1; (· (intro Wq hWq; obtain ⟨hWc, hWf⟩ := bcell hWq; go_simp; (try with_reducible rfl))); go_big_quiet_on; (try simp only [Act.put, List.setIfInBounds_toArray, List.set_cons_zero, List.set_cons_succ])))
        (first | go_big_quiet_skip | (go_big_quiet_want; refine quiet_val (v := ?_) ?_ ?_; rotate_left 1; (· (intro Wq hWq; obtain ⟨hWc, hWf⟩ := bcell hWq; go_simp; (try with_reducible rfl))); go_big_quiet_on; (try simp only [Act.put, List.setIfInBounds_toArray, List.set_cons_zero, List.set_cons_succ])))
        (first | go_big_quiet_skip | (go_big_quiet_want; refine quiet_val (v := ?_) ?_ ?_; rotate_left 1; (· (intro Wq hWq; obtain ⟨hWc, hWf⟩ := bcell hWq; go_simp; (try with_reducible rfl))); go_big_quiet_on; (try simp only [Act.put, List.setIfInBounds_toArray, List.set_cons_zero, List.set_cons_succ])))
        (first | go_big_quiet_skip | (go_big_quiet_want; refine quiet_val (v := ?_) ?_ ?_; rotate_left 1; (· (intro Wq hWq; obtain ⟨hWc, hWf⟩ := bcell hWq; go_simp; (try with_reducible rfl))); go_big_quiet_on; (try simp only [Act.put, List.setIfInBounds_toArray, List.set_cons_zero, List.set_cons_succ])))
        (first | go_big_quiet_skip | (go_big_quiet_want; refine quiet_val (v := ?_) ?_ ?_; rotate_left 1; (· (intro Wq hWq; obtain ⟨hWc, hWf⟩ := bcell hWq; go_simp; (try with_reducible rfl))); go_big_quiet_on; (try simp only [Act.put, List.setIfInBounds_toArray, List.set_cons_zero, List.set_cons_succ])))
        (first | go_big_quiet_skip | (go_big_quiet_want; refine quiet_val (v := ?_) ?_ ?_; rotate_left 1; (· (intro Wq hWq; obtain ⟨hWc, hWf⟩ := bcell hWq; go_simp; (try with_reducible rfl))); go_big_quiet_on; (try simp only [Act.put, List.setIfInBounds_toArray, List.set_cons_zero, List.set_cons_succ])))
        (first | go_big_quiet_skip | (go_big_quiet_want; refine quiet_val (v := ?_) ?_ ?_; rotate_left 1; (· (intro Wq hWq; obtain ⟨hWc, hWf⟩ := bcell hWq; go_simp; (try with_reducible rfl))); go_big_quiet_on; (try simp only [Act.put, List.setIfInBounds_toArray, List.set_cons_zero, List.set_cons_succ])))
        (first | go_big_quiet_skip | (go_big_quiet_want; refine quiet_val (v := ?_) ?_ ?_; rotate_left 1; (· (intro Wq hWq; obtain ⟨hWc, hWf⟩ := bcell hWq; go_simp; (try with_reducible rfl))); go_big_quiet_on; (try simp only [Act.put, List.setIfInBounds_toArray, List.set_cons_zero, List.set_cons_succ])))
        (first | go_big_quiet_skip | (go_big_quiet_want; refine quiet_val (v := ?_) ?_ ?_; rotate_left 1; (· (intro Wq hWq; obtain ⟨hWc, hWf⟩ := bcell hWq; go_simp; (try with_reducible rfl))); go_big_quiet_on; (try simp only [Act.put, List.setIfInBounds_toArray, List.set_cons_zero, List.set_cons_succ])))
        (first | go_big_quiet_skip | (go_big_quiet_want; refine quiet_val (v := ?_) ?_ ?_; rotate_left 1; (· (intro Wq hWq; obtain ⟨hWc, hWf⟩ := bcell hWq; go_simp; (try with_reducible rfl))); go_big_quiet_on; (try simp only [Act.put, List.setIfInBounds_toArray, List.set_cons_zero, List.set_cons_succ])))
        (first | go_big_quiet_skip | (go_big_quiet_want; refine quiet_val (v := ?_) ?_ ?_; rotate_left 1; (· (intro Wq hWq; obtain ⟨hWc, hWf⟩ := bcell hWq; go_simp; (try with_reducible rfl))); go_big_quiet_on; (try simp only [Act.put, List.setIfInBounds_toArray, List.set_cons_zero, List.set_cons_succ])))
        (first | go_big_quiet_skip | (go_big_quiet_want; refine quiet_val (v := ?_) ?_ ?_; rotate_left 1; (· (intro Wq hWq; obtain ⟨hWc, hWf⟩ := bcell hWq; go_simp; (try with_reducible rfl))); go_big_quiet_on; (try simp only [Act.put, List.setIfInBounds_toArray, List.set_cons_zero, List.set_cons_succ])))
        (first | go_big_quiet_skip | (go_big_quiet_want; refine quiet_val (v := ?_) ?_ ?_; rotate_left 1; (· (intro Wq hWq; obtain ⟨hWc, hWf⟩ := bcell hWq; go_simp; (try with_reducible rfl))); go_big_quiet_on; (try simp only [Act.put, List.setIfInBounds_toArray, List.set_cons_zero, List.set_cons_succ])))
        (first | go_big_quiet_skip | (go_big_quiet_want; refine quiet_val (v := ?_) ?_ ?_; rotate_left 1; (· (intro Wq hWq; obtain ⟨hWc, hWf⟩ := bcell hWq; go_simp; (try with_reducible rfl))); go_big_quiet_on; (try simp only [Act.put, List.setIfInBounds_toArray, List.set_cons_zero, List.set_cons_succ])))
        (first | go_big_quiet_skip | (go_big_quiet_want; refine quiet_val (v := ?_) ?_ ?_; rotate_left 1; (· (intro Wq hWq; obtain ⟨hWc, hWf⟩ := bcell hWq; go_simp; (try with_reducible rfl))); go_big_quiet_on; (try simp only [Act.put, List.setIfInBounds_toArray, List.set_cons_zero, List.set_cons_succ])))
        (first | go_big_quiet_skip | (go_big_quiet_want; refine quiet_val (v := ?_) ?_ ?_; rotate_left 1; (· (intro Wq hWq; obtain ⟨hWc, hWf⟩ := bcell hWq; go_simp; (try with_reducible rfl))); go_big_quiet_on; (try simp only [Act.put, List.setIfInBounds_toArray, List.set_cons_zero, List.set_cons_succ])))
        go_big_quiet_want; refine quiet_callB (f := 64) (args := ?_) (v := ?_) ?_ ?_ ?_; rotate_left 2
        · (intro Wq hWq; obtain ⟨hWc, hWf⟩ := bcell hWq; go_simp; (first | with_reducible rfl | exact ⟨rfl, rfl⟩))
        · (intro Wq hWq; exact HFO.out _)
        go_big_quiet_on; (try simp only [Act.put, List.setIfInBounds_toArray, List.set_cons_zero, List.set_cons_succ])
        (first | go_big_quiet_skip | (go_big_quiet_want; refine quiet_val (v := ?_) ?_ ?_; rotate_left 1; (· (intro Wq hWq; obtain ⟨hWc, hWf⟩ := bcell hWq; go_simp; (try with_reducible rfl))); go_big_quiet_on; (try simp only [Act.put, List.setIfInBounds_toArray, List.set_cons_zero, List.set_cons_succ])))
        (first | go_big_quiet_skip | (go_big_quiet_want; refine quiet_val (v := ?_) ?_ ?_; rotate_left 1; (· (intro Wq hWq; obtain ⟨hWc, hWf⟩ := bcell hWq; go_simp; (try with_reducible rfl))); go_big_quiet_on; (try simp only [Act.put, List.setIfInBounds_toArray, List.set_cons_zero, List.set_cons_succ])))
        refine wpQuiet_nil ?_; intro V hbV
        have hbwV := Below.step hbw hbV
        have HNM : Hid (ls.map (·.xs) ++ rtsF l L per (n - (k + 1)) b.xs = b.xs :: rtsF l L per f b.xs) := Lib.hid (by
          rw [← HMX.out, HF2.out, HT.out f', if_neg (by rw [← HFK.out, HOK.out]; simp), HF3.out]; rfl)
        have HRV := Lib.hid (HRT.out.step hbV)
        go_wp2
        go_roundw
        case rel => exact ⟨k + 1, ls, g, A9, c9, by omega, by omega, by go_num, by rw [← HLN.out], by rw [← HLN.out]; exact HRV.out, HNM.out, hbwV⟩
        case measure => simp [intOf]; omega
      go_wp2_with fail
      refine region_below (by kernel_rfl) (by kernel_rfl) ?_
      (first | go_big_quiet_skip | (go_big_quiet_want; refine quiet_val (v := ?_) ?_ ?_; rotate_left 1; (· (intro Wq hWq; obtain ⟨hWc, hWf⟩ := bcell hWq; go_simp; (try with_reducible rfl))); go_big_quiet_on; (try simp only [Act.put, List.setIfInBounds_toArray, List.set_cons_zero, List.set_cons_succ])))
      (first | go_big_quiet_skip | (go_big_quiet_want; refine quiet_val (v := ?_) ?_ ?_; rotate_left 1; (· (intro Wq hWq; obtain ⟨hWc, hWf⟩ := bcell hWq; go_simp; (try with_reducible rfl))); go_big_quiet_on; (try simp only [Act.put, List.setIfInBounds_toArray, List.set_cons_zero, List.set_cons_succ])))
      (first | go_big_quiet_skip | (go_big_quiet_want; refine quiet_val (v := ?_) ?_ ?_; rotate_left 1; (· (intro Wq hWq; obtain ⟨hWc, hWf⟩ := bcell hWq; go_simp; (try with_reducible rfl))); go_big_quiet_on; (try simp only [Act.put, List.setIfInBounds_toArray, List.set_cons_zero, List.set_cons_succ])))
      (first | go_big_quiet_skip | (go_big_quiet_want; refine quiet_val (v := ?_) ?_ ?_; rotate_left 1; (· (intro Wq hWq; obtain ⟨hWc, hWf⟩ := bcell hWq; go_simp; (try with_reducible rfl))); go_big_quiet_on; (try simp only [Act.put, List.setIfInBounds_toArray, List.set_cons_zero, List.set_cons_succ])))
      (first | go_big_quiet_skip | (go_big_quiet_want; refine quiet_val (v := ?_) ?_ ?_; rotate_left 1; (· (intro Wq hWq; obtain ⟨hWc, hWf⟩ := bcell hWq; go_simp; (try with_reducible rfl))); go_big_quiet_on; (try simp only [Act.put, List.setIfInBounds_toArray, List.set_cons_zero, List.set_cons_succ])))
      go_big_quiet_want; refine quiet_callB (f := 61) (args := ?_) (v := ?_) ?_ ?_ ?_; rotate_left 2
      · (intro Wq hWq; obtain ⟨hWc, hWf⟩ := bcell hWq; go_simp; (first | with_reducible rfl | exact ⟨rfl, rfl⟩))
      · (intro Wq hWq; exact HCO.out _ (Below.step hbw hWq))
      go_big_quiet_on; (try simp only [Act.put, List.setIfInBounds_toArray, List.set_cons_zero, List.set_cons_succ])
      (first | go_big_quiet_skip | (go_big_quiet_want; refine quiet_val (v := ?_) ?_ ?_; rotate_left 1; (· (intro Wq hWq; obtain ⟨hWc, hWf⟩ := bcell hWq; go_simp; (try with_reducible rfl))); go_big_quiet_on; (try simp only [Act.put, List.setIfInBounds_toArray, List.set_cons_zero, List.set_cons_succ])))
      (first | go_big_quiet_skip | (go_big_quiet_want; refine quiet_val (v := ?_) ?_ ?_; rotate_left 1; (· (intro Wq hWq; obtain ⟨hWc, hWf⟩ := bcell hWq; go_simp; (try with_reducible rfl))); go_big_quiet_on; (try simp only [Act.put, List.setIfInBounds_toArray, List.set_cons_zero, List.set_cons_succ])))
      (first | go_big_quiet_skip | (go_big_quiet_want; refine quiet_val (v := ?_) ?_ ?_; rotate_left 1; (· (intro Wq hWq; obtain ⟨hWc, hWf⟩ := bcell hWq; go_simp; (try with_reducible rfl))); go_big_quiet_on; (try simp only [Act.put, List.setIfInBounds_toArray, List.set_cons_zero, List.set_cons_succ])))
      (first | go_big_quiet_skip | (go_big_quiet_want; refine quiet_val (v := ?_) ?_ ?_; rotate_left 1; (· (intro Wq hWq; obtain ⟨hWc, hWf⟩ := bcell hWq; go_simp; (try with_reducible rfl))); go_big_quiet_on; (try simp only [Act.put, List.setIfInBounds_toArray, List.set_cons_zero, List.set_cons_succ])))
      (first | go_big_quiet_skip | (go_big_quiet_want; refine quiet_val (v := ?_) ?_ ?_; rotate_left 1; (· (intro Wq hWq; obtain ⟨hWc, hWf⟩ := bcell hWq; go_simp; (try with_reducible rfl))); go_big_quiet_on; (try simp only [Act.put, List.setIfInBounds_toArray, List.set_cons_zero, List.set_cons_succ])))
      (first | go_big_quiet_skip | (go_big_quiet_want; refine quiet_val (v := ?_) ?_ ?_; rotate_left 1; (· (intro Wq hWq; obtain ⟨hWc, hWf⟩ := bcell hWq; go_simp; (try with_reducible rfl))); go_big_quiet_on; (try simp only [Act.put, List.setIfInBounds_toArray, List.set_cons_zero, List.set_cons_succ])))
      (first | go_big_quiet_skip | (go_big_quiet_want; refine quiet_val (v := ?_) ?_ ?_; rotate_left 1; (· (intro Wq hWq; obtain ⟨hWc, hWf⟩ := bcell hWq; go_simp; (try with_reducible rfl))); go_big_quiet_on; (try simp only [Act.put, List.setIfInBounds_toArray, List.set_cons_zero, List.set_cons_succ])))
      (first | go_big_quiet_skip | (go_big_quiet_want; refine quiet_val (v := ?_) ?_ ?_; rotate_left 1; (· (intro Wq hWq; obtain ⟨hWc, hWf⟩ := bcell hWq; go_simp; (try with_reducible rfl))); go_big_quiet_on; (try simp only [Act.put, List.setIfInBounds_toArray, List.set_cons_zero, List.set_cons_succ])))
      (first | go_big_quiet_skip | (go_big_quiet_want; refine quiet_val (v := ?_) ?_ ?_; rotate_left 1; (· (intro Wq hWq; obtain ⟨hWc, hWf⟩ := bcell hWq; go_simp; (try with_reducible rfl))); go_big_quiet_on; (try simp only [Act.put, List.setIfInBounds_toArray, List.set_cons_zero, List.set_cons_succ])))
      (first | go_big_quiet_skip | (go_big_quiet_want; refine quiet_val (v := ?_) ?_ ?_; rotate_left 1; (· (intro Wq hWq; obtain ⟨hWc, hWf⟩ := bcell hWq; go_simp; (try with_reducible rfl))); go_big_quiet_on; (try simp only [Act.put, List.setIfInBounds_toArray, List.set_cons_zero, List.set_cons_succ])))
      (first | go_big_quiet_skip | (go_big_quiet_want; refine quiet_val (v := ?_) ?_ ?_; rotate_left 1; (· (intro Wq hWq; obtain ⟨hWc, hWf⟩ := bcell hWq; go_simp; (try with_reducible rfl))); go_big_quiet_on; (try simp only [Act.put, List.setIfInBounds_toArray, List.set_cons_zero, List.set_cons_succ])))
      (first | go_big_quiet_skip | (go_big_quiet_want; refine quiet_val (v := ?_) ?_ ?_; rotate_left 1; (· (intro Wq hWq; obtain ⟨hWc, hWf⟩ := bcell hWq; go_simp; (try with_reducible rfl))); go_big_quiet_on; (try simp only [Act.put, List.setIfInBounds_toArray, List.set_cons_zero, List.set_cons_succ])))
      (first | go_big_quiet_skip | (go_big_quiet_want; refine quiet_val (v := ?_) ?_ ?_; rotate_left 1; (· (intro Wq hWq; obtain ⟨hWc, hWf⟩ := bcell hWq; go_simp; (try with_reducible rfl))); go_big_quiet_on; (try simp only [Act.put, List.setIfInBounds_toArray, List.set_cons_zero, List.set_cons_succ])))
      (first | go_big_quiet_skip | (go_big_quiet_want; refine quiet_val (v := ?_) ?_ ?_; rotate_left 1; (· (intro Wq hWq; obtain ⟨hWc, hWf⟩ := bcell hWq; go_simp; (try with_reducible rfl))); go_big_quiet_on; (try simp only [Act.put, List.setIfInBounds_toArray, List.set_cons_zero, List.set_cons_succ])))
      (first | go_big_quiet_skip | (go_big_quiet_want; refine quiet_val (v := ?_) ?_ ?_; rotate_left 1; (· (intro Wq hWq; obtain ⟨hWc, hWf⟩ := bcell hWq; go_simp; (try with_reducible rfl))); go_big_quiet_on; (try simp only [Act.put, List.setIfInBounds_toArray, List.set_cons_zero, List.set_cons_succ])))
      (first | go_big_quiet_skip | (go_big_quiet_want; refine quiet_val (v := ?_) ?_ ?_; rotate_left 1; (· (intro Wq hWq; obtain ⟨hWc, hWf⟩ := bcell hWq; go_simp; (try with_reducible rfl))); go_big_quiet_on; (try simp only [Act.put, List.setIfInBounds_toArray, List.set_cons_zero, List.set_cons_succ])))
      (first | go_big_quiet_skip | (go_big_quiet_want; refine quiet_val (v := ?_) ?_ ?_; rotate_left 1; (· (intro Wq hWq; obtain ⟨hWc, hWf⟩ := bcell hWq; go_simp; (try with_reducible rfl))); go_big_quiet_on; (try simp only [Act.put, List.setIfInBounds_toArray, List.set_cons_zero, List.set_cons_succ])))
      (first | go_big_quiet_skip | (go_big_quiet_want; refine quiet_val (v := ?_) ?_ ?_; rotate_left 1; (· (intro Wq hWq; obtain ⟨hWc, hWf⟩ := bcell hWq; go_simp; (try with_reducible rfl))); go_big_quiet_on; (try simp only [Act.put, List.setIfInBounds_toArray, List.set_cons_zero, List.set_cons_succ])))
      (first | go_big_quiet_skip | (go_big_quiet_want; refine quiet_val (v := ?_) ?_ ?_; rotate_left 1; (· (intro Wq hWq; obtain ⟨hWc, hWf⟩ := bcell hWq; go_simp; (try with_reducible rfl))); go_big_quiet_on; (try simp only [Act.put, List.setIfInBounds_toArray, List.set_cons_zero, List.set_cons_succ])))
      go_big_quiet_want; refine quiet_callB (f := 64) (args := ?_) (v := ?_) ?_ ?_ ?_; rotate_left 2
      · (intro Wq hWq; obtain ⟨hWc, hWf⟩ := bcell hWq; go_simp; (first | with_reducible rfl | exact ⟨rfl, rfl⟩))
      · (intro Wq hWq; exact HFO.out _)
      go_big_quiet_on; (try simp only [Act.put, List.setIfInBounds_toArray, List.set_cons_zero, List.set_cons_succ])
      (first | go_big_quiet_skip | (go_big_quiet_want; refine quiet_val (v := ?_) ?_ ?_; rotate_left 1; (· (intro Wq hWq; obtain ⟨hWc, hWf⟩ := bcell hWq; go_simp; (try with_reducible rfl))); go_big_quiet_on; (try simp only [Act.put, List.setIfInBounds_toArray, List.set_cons_zero, List.set_cons_succ])))
      (first | go_big_quiet_skip | (go_big_quiet_want; refine quiet_val (v := ?_) ?_ ?_; rotate_left 1; (· (intro Wq hWq; obtain ⟨hWc, hWf⟩ := bcell hWq; go_simp; (try with_reducible rfl))); go_big_quiet_on; (try simp only [Act.put, List.setIfInBounds_toArray, List.set_cons_zero, List.set_cons_succ])))
      refine wpQuiet_nil ?_; intro V hbV
      have hbwV := Below.step hbw hbV
      clear q0 q1 q2 q3 q4 r0 r1 r2 r3 r4 e0
      have hs9 := hbwV.size
      have HRV := Lib.hid (HRT.out.step hbV)
      have HAP1 := Lib.hid (app_empty b.xs bl HBL.out.symm (by omega) V (some ⟨bb, boff, none⟩) b.c (by rw [HBA.out]; exact (HSB.out.step hbwV).r) (fun e => HZ.out (by rw [← HBA.out]; exact e)))
      have HAP2 := Lib.hid (fun (w5 : World) (v5 : Value) (ho : w5.ownsRow V.heap.size 3 1 v5 bl ((b.xs.map Int.ofNat).flatMap inE)) (hs : V.heap.size ≤ w5.heap.size) => app_run appI (b.xs.map Int.ofNat) (k : Int) bl (by rw [List.length_map]; exact HBL.out.symm) (by omega) (w5.alloc (.cells #[.int .i64 k] 3)) V.heap.size w5.heap.size v5 (ho.alloc _) (by simp; omega) (one_cell rfl (by simp [go_sem])))
      have HREC : Hid (∀ (w6 : World) (g6 c6 : Nat), Below w.heap.size w w6 → w6.ownsRow V.heap.size 3 1 (.slice (some ⟨g6, 0, none⟩) (bl + 1) c6) (bl + 1) ((b.xs.map Int.ofNat ++ [(k : Int)]).flatMap inE) → bl + 1 ≤ c6 ∧ c6 ≤ maxLen →
          Calls Try.prog 84 #[.slice (some ⟨b1, off1, none⟩) n cap, .slice B nL cb, .int .i64 per, .slice (some ⟨g6, 0, none⟩) (bl + 1) c6] w6 fun e w' => (∃ A' c' ls2, e = .returned (.slice A' ls2.length c') ∧ (RtsOut w6 w' n ⟨some ⟨g6, 0, none⟩, c6, b.xs ++ [k]⟩ A' ls2 ∧ ls2.length ≤ 512) ∧ ls2.map (·.xs) = (b.xs ++ [k]) :: rtsF l L per f' (b.xs ++ [k])) ∧ Below w6.heap.size w6 w') := Lib.hid (fun w6 g6 c6 hb6 ho hk6 => by
        have hsl : SlAt w6 l.length ⟨some ⟨g6, 0, none⟩, c6, b.xs ++ [k]⟩ := by
          refine ⟨?_, fun j hj => ?_, ?_, ?_⟩
          · show RdL w6 w6.heap.size inE 1 (some ⟨g6, 0, none⟩) ((b.xs ++ [k]).map Int.ofNat)
            rw [List.map_append]
            exact RdL.of_own (enc := inE) (fun _ => rfl) ho (by rw [List.length_append, List.length_map, ← HBL.out]; rfl)
          · rcases List.mem_append.1 hj with h | h
            · exact HSB.out.i j h
            · simp at h; omega
          · have := HBL.out; simp; omega
          · have := HBL.out; simp; omega
        have := IH.out f' HFF.out.1 ⟨some ⟨g6, 0, none⟩, c6, b.xs ++ [k]⟩ w6 (HIN.out.step hb6) hsl (fun e => by cases e) (by rw [← HN.out]; exact HFF.out.2.1) (by show nxt (b.xs ++ [k]) = _; rw [nxt_snoc, ← HN.out]; exact HFF.out.2.2.1) (by show (b.xs ++ [k]).length ≤ _; have := HFF.out; rw [List.length_append, ← HBL.out, ← HN.out]; simp; omega)
        have hl1 : (b.xs ++ [k]).length = bl + 1 := by rw [List.length_append, ← HBL.out]; rfl
        simp only [hl1] at this
        rw [← HN.out] at this
        refine this.mono ?_
        rintro e w' ⟨⟨A', c', ls2, rfl, ho, hm⟩, hb⟩
        have hlen : ls2.length = (rtsF l L per f' (b.xs ++ [k])).length.succ := by rw [← List.length_map (f := fun x : SlL => x.xs), hm]; rfl
        have hbd := HTL.out f' (b.xs ++ [k])
        have hpw := Nat.pow_le_pow_right (n := 2) (by omega) (show f' ≤ 9 by have := HFF.out; omega)
        exact ⟨⟨A', c', ls2, by rw [hlen], ⟨ho, by rw [hlen]; omega⟩, hm⟩, hb⟩)
      have HJOIN := Lib.hid (fun (w6 w7 : World) (hb6 : Below V.heap.size V w6) (hb7 : Below w6.heap.size w6 w7) (b' : SlL) (g6 : Nat) (e6 : b'.A = some ⟨g6, 0, none⟩) (h6 : V.heap.size ≤ g6) (h6' : g6 < w6.heap.size) (A' : Option Addr) (ls2 : List SlL) (ho : RtsOut w6 w7 n b' A' ls2) (hl2 : ls2.length ≤ 512) (c2 : Nat) => rts_join HRV.out (by rw [← HLN.out]; exact hlen) hb6 hb7 e6 h6 h6' ho hl2 c2)
      go_wp2_with (first
        | (at_builtin; refine wpList_app rfl (.tmp 63) (.tmp 64) 26 rfl _ _ rfl rfl HAP1.out ?_; rintro v5 W5 ⟨hown5, hb5⟩; have HO5 := Lib.hid hown5; have HAP2' := Lib.hid (HAP2.out W5 v5 HO5.out hb5.size); clear hown5)
        | (at_builtin; refine wpList_app rfl (.tmp 65) (.tmp 67) 26 rfl _ _ rfl rfl HAP2'.out ?_; rintro v6 W6 ⟨hown6, hb6⟩; obtain ⟨A6, c6, rfl, k6, m6⟩ := row_form hown6; have hA6 := own_addr hown6 (by omega); obtain ⟨g6, rfl⟩ := hA6; have HO6 := Lib.hid hown6; have hlo6 := hown6.lt g6 rfl; have hbV6 : Below V.heap.size V W6 := Below.low (Below.allocS hb5 _) hb6 (Nat.le_refl _); have HREC' := Lib.hid (HREC.out W6 g6 c6 (Below.low hbwV hbV6 hs9) HO6.out ⟨k6, m6⟩); clear hown6 hb6 hb5 k6 m6)
        | (go_at_call 84; refine HREC'.out.mono ?_; rintro e W7 ⟨⟨A7, c7, ls2, rfl, ho7, hm7⟩, hb7⟩; have HO7 := Lib.hid ho7; have HM7 := Lib.hid hm7; have HJ7 := Lib.hid (HJOIN.out _ _ hbV6 hb7 ⟨some ⟨g6, 0, none⟩, c6, b.xs ++ [k]⟩ g6 rfl hlo6.1 hlo6.2 _ _ HO7.out.1 HO7.out.2 c7); clear ho7 hm7)
        | (at_builtin; refine wpList_app rfl (.tmp 59) (.tmp 69) 96 rfl _ _ rfl rfl HJ7.out ?_; rintro v8 W8 ⟨⟨g8, hr8⟩, hb8⟩; obtain ⟨A8, c8, rfl, -, -⟩ := row_form hr8.own; have HR8 := Lib.hid hr8; clear hr8))
      have hbw8 : Below w.heap.size w W8 := Below.low (Below.low (Below.low hbwV hbV6 hs9) hb7 (by have := hbV6.size; omega)) hb8 (Nat.le_refl _)
      have HNM : Hid ((ls ++ ls2).map (·.xs) ++ rtsF l L per (n - (k + 1)) b.xs = b.xs :: rtsF l L per f b.xs) := Lib.hid (by
        rw [← HMX.out, List.map_append, HM7.out, List.append_assoc, HF2.out, HT.out f', if_pos (by first | (rw [← HFK.out, HOK.out]; done) | (rw [← HFK.out, HOK.out]; rfl)), ← HFK.out, HF3.out]; try simp)
      clear hlo6 hb7 hb8 hbV6
      go_roundw
      case rel => exact ⟨k + 1, ls ++ ls2, g8, A8, c8, by omega, by omega, by go_num, by rw [List.length_append], HR8.out, HNM.out, hbw8⟩
      case measure => simp [intOf]; omega
    · obtain rfl : k = n := by omega
      have u1 : decide ((k : Int) < (k : Int)) = false := decide_eq_false (by omega)
      have HMX2 : Hid (ls.map (·.xs) = b.xs :: rtsF l L per f b.xs) := Lib.hid (by have := HMX.out; rw [Nat.sub_self] at this; simpa [rtsF] using this)
      have HL2 : Hid ((rtsF l L per f b.xs).length.succ = ln) := Lib.hid (by rw [HLN.out, ← List.length_map (f := fun x : SlL => x.xs), HMX2.out]; rfl)
      have HOUT : Hid (RtsOut w U k b A9 ls) := Lib.hid ⟨RdL.of_own (enc := slE) (fun _ => rfl) (by have := HRT.out.own; rw [← HLN.out] at this; exact this) HLN.out.symm, fun s hs => by
        rcases HRT.out.at' s hs with rfl | ⟨k1, b', off, k2, k3, k4, k5⟩
        · exact ⟨by rw [HN.out]; exact HSB.out.step hbw, .inl rfl⟩
        · exact ⟨k1, .inr ⟨b', off, k2, k3, k4⟩⟩, fun e => by have := HRT.out.vb; rw [e] at this; simp [Value.ownBlock] at this⟩
      go_wp2
      go_ret
      exact ⟨⟨A9, c9, ls, by rw [HL2.out]; rfl, HOUT.out, HMX2.out⟩, hbw⟩
end Go.Proofs.Ytomgaiokmdcjmaa
