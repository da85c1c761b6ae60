/-
  Bundle KN2: Nt43, Nt44, Nt45, Nt46, Nt47, Nt48. Printed by bundle.py.
-/
import Derived.Test.YtomgaiokmdcjmaaKN1
import Derived.Deep.LoopGhost
import Derived.Laws.OwnMore
namespace Go.Proofs.Ytomgaiokmdcjmaa
open Go.RowKit Go.Deep
set_option linter.unusedVariables false
set_option linter.unusedSimpArgs false
/-- What is known is reached by its way. -/
structure HInv (l : List Sg) (n : Nat) (K : Nat → Option Hb) : Prop where
  dom : ∀ o h, K o = some h → o < n ∧ h.f < n ∧ Pth l h.f o h.s.xs h.v ∧ h.s.xs.length < cntK K n
theorem pth_bd {l : List Sg} {n : Nat} (hd : VdP n l) {f o : Nat} {w : List Nat} {v : Int} (h : Pth l f o w v) : -1000000 * (w.length : Int) ≤ v ∧ v ≤ 1000000 * (w.length : Int) := by
  induction h with
  | nil => simp
  | snoc h1 h2 h3 ih =>
    have := tk_bd hd h2
    rw [List.length_append, List.length_cons, List.length_nil]
    omega
theorem HInv.bd {l : List Sg} {n : Nat} (hd : VdP n l) {K : Nat → Option Hb} (h : HInv l n K) : ∀ o x, K o = some x → (-100000000 ≤ x.v ∧ x.v ≤ 100000000) ∧ x.s.xs.length ≤ 50 := by
  intro o x hx
  obtain ⟨-, -, hp, hl⟩ := h.dom o x hx
  have h1 := cntK_le K n
  have h2 := hd.n8
  have h3 := pth_bd hd hp
  omega
/-- The search, in front of the k-th try of the head. -/
structure Bfs (l : List Sg) (n first : Nat) (K0 K : Nat → Option Hb) (Q : List Nat) (k : Nat) : Prop where
  inv : HInv l n K
  ext : ∀ o h, K0 o = some h → K o = some h
  new : ∀ o h, K o = some h → K0 o = none → h.f = first
  q : ∀ o ∈ Q, K o ≠ none ∧ K0 o = none
  dn : ∀ o, K o ≠ none → o ∉ Q → ∀ k, k < 2 * l.length → frN l k = o → K (toN l k) ≠ none
  hd : ∀ q0 Qr, Q = q0 :: Qr → ∀ k', k' < k → frN l k' = q0 → K (toN l k') ≠ none
  fst : K first = some ⟨0, first, sl0⟩
theorem Bfs.step {l : List Sg} {n first : Nat} (hv : VdP n l) (hf : first < n) {K0 K K' : Nat → Option Hb} {q0 : Nat} {Qr Q' : List Nat} {k : Nat} (hk : k < 2 * l.length) (h : Bfs l n first K0 K (q0 :: Qr) k) (ht : Tried l first k q0 K K' (q0 :: Qr) Q') :
    ∃ Qr', Q' = q0 :: Qr' ∧ Bfs l n first K0 K' (q0 :: Qr') (k + 1) ∧ (n - cntK K' n) + Qr'.length = (n - cntK K n) + Qr.length := by
  rcases ht with ⟨rfl, rfl, h1⟩ | ⟨h1, h2, x, s', hx, hs, rfl, rfl⟩
  · refine ⟨Qr, rfl, ⟨h.inv, h.ext, h.new, h.q, h.dn, fun q Q hq k' hk' he => ?_, h.fst⟩, rfl⟩
    rcases Nat.lt_succ_iff_lt_or_eq.1 hk' with h3 | rfl
    · exact h.hd q Q hq k' h3 he
    · injection hq with e1 e2; subst e1; exact h1 he
  · have hb := tk_bd hv hk
    have hK0T : K0 (toN l k) = none := by
      cases hc : K0 (toN l k) with
      | none => rfl
      | some y => rw [h.ext _ _ hc] at h2; cases h2
    have hq0 := (h.q q0 (by simp)).2
    have hxf := h.new _ _ hx hq0
    obtain ⟨hx1, hx2, hx3, hx4⟩ := h.inv.dom _ _ hx
    have hcnt := cntK_put ⟨x.v + tkV l k, first, s'⟩ h2 n hb.2.2.2.1
    have hle := cntK_le (upd K (toN l k) ⟨x.v + tkV l k, first, s'⟩) n
    refine ⟨Qr ++ [toN l k], rfl, ⟨⟨fun o y hy => ?_⟩, fun o y hy => ?_, fun o y hy h0 => ?_, fun o ho => ?_, fun o ho hoq j hj he => ?_, fun q Q hq k' hk' he => ?_, ?_⟩, by rw [List.length_append, hcnt]; simp; omega⟩
    · by_cases hot : o = toN l k
      · subst hot
        rw [upd_same] at hy
        cases hy
        refine ⟨hb.2.2.2.1, hf, ?_, by rw [hcnt, hs, List.length_append]; simp; omega⟩
        show Pth l first (toN l k) s'.xs (x.v + tkV l k)
        rw [hs]
        rw [hxf] at hx3
        exact Pth.snoc hx3 hk h1
      · rw [upd_other _ hot] at hy
        obtain ⟨a1, a2, a3, a4⟩ := h.inv.dom _ _ hy
        exact ⟨a1, a2, a3, by omega⟩
    · rw [upd_other _ (fun e => by subst e; rw [hK0T] at hy; cases hy)]; exact h.ext _ _ hy
    · by_cases hot : o = toN l k
      · subst hot; rw [upd_same] at hy; cases hy; rfl
      · rw [upd_other _ hot] at hy; exact h.new _ _ hy h0
    · by_cases hot : o = toN l k
      · subst hot; rw [upd_same]; exact ⟨by simp, hK0T⟩
      · rw [upd_other _ hot]
        refine h.q o ?_
        rw [List.mem_cons, List.mem_append] at ho
        rcases ho with h | h | h
        · rw [h]; simp
        · exact List.mem_cons_of_mem _ h
        · simp at h; exact absurd h hot
    · have hot : o ≠ toN l k := fun e => hoq (by rw [e]; simp)
      rw [upd_other _ hot] at ho
      have := h.dn o ho (fun hm => hoq (by
        rcases List.mem_cons.1 hm with h | h
        · rw [h]; simp
        · exact List.mem_cons_of_mem _ (List.mem_append_left _ h))) j hj he
      by_cases hjt : toN l j = toN l k
      · rw [hjt, upd_same]; simp
      · rw [upd_other _ hjt]; exact this
    · injection hq with e1 e2
      subst e1
      by_cases hjt : toN l k' = toN l k
      · rw [hjt, upd_same]; simp
      · rw [upd_other _ hjt]
        rcases Nat.lt_succ_iff_lt_or_eq.1 hk' with h3 | rfl
        · exact h.hd q0 Qr rfl k' h3 he
        · exact absurd rfl hjt
    · rw [upd_other _ (fun e => by rw [← e, h.fst] at h2; cases h2)]; exact h.fst
theorem Bfs.pop {l : List Sg} {n first : Nat} {K0 K : Nat → Option Hb} {q0 : Nat} {Qr : List Nat} (h : Bfs l n first K0 K (q0 :: Qr) (2 * l.length)) : Bfs l n first K0 K Qr 0 :=
  ⟨h.inv, h.ext, h.new, fun o ho => h.q o (List.mem_cons_of_mem _ ho), fun o ho hoq k hk he => by
    by_cases hq : o = q0
    · exact h.hd q0 Qr rfl k hk (by rw [he, hq])
    · exact h.dn o ho (fun hm => by rcases List.mem_cons.1 hm with e | e; exact hq e; exact hoq e) k hk he, fun q Q hq k' hk' => absurd hk' (Nat.not_lt_zero _), h.fst⟩
/-- All groups that are known are closed. -/
structure HOk (l : List Sg) (n : Nat) (K : Nat → Option Hb) : Prop where
  inv : HInv l n K
  cl : ∀ k, k < 2 * l.length → K (frN l k) ≠ none → K (toN l k) ≠ none
  sm : ∀ k, k < 2 * l.length → ∀ h h', K (frN l k) = some h → K (toN l k) = some h' → h.f = h'.f
theorem Bfs.start {l : List Sg} {n first : Nat} {K0 : Nat → Option Hb} (h : HOk l n K0) (hf : first < n) (h0 : K0 first = none) : Bfs l n first K0 (upd K0 first ⟨0, first, sl0⟩) [first] 0 := by
  have hcnt := cntK_put ⟨0, first, sl0⟩ h0 n hf
  refine ⟨⟨fun o y hy => ?_⟩, fun o y hy => ?_, fun o y hy hk => ?_, fun o ho => ?_, fun o ho hoq k hk he => ?_, fun q Q hq k' hk' => absurd hk' (Nat.not_lt_zero _), upd_same _ _ _⟩
  · by_cases hot : o = first
    · subst hot
      rw [upd_same] at hy
      cases hy
      exact ⟨hf, hf, Pth.nil, by rw [hcnt]; simp [sl0]⟩
    · rw [upd_other _ hot] at hy
      obtain ⟨a1, a2, a3, a4⟩ := h.inv.dom _ _ hy
      exact ⟨a1, a2, a3, by omega⟩
  · rw [upd_other _ (fun e => by subst e; rw [h0] at hy; cases hy)]; exact hy
  · by_cases hot : o = first
    · subst hot; rw [upd_same] at hy; cases hy; rfl
    · rw [upd_other _ hot] at hy; rw [hk] at hy; cases hy
  · obtain rfl : o = first := by simpa using ho
    rw [upd_same]; exact ⟨by simp, h0⟩
  · have hot : o ≠ first := fun e => hoq (by rw [e]; simp)
    rw [upd_other _ hot] at ho
    have := h.cl k hk (by rw [he]; exact ho)
    by_cases hjt : toN l k = first
    · rw [hjt, upd_same]; simp
    · rw [upd_other _ hjt]; exact this
theorem Bfs.done {l : List Sg} {n first : Nat} {K0 K : Nat → Option Hb} (h0 : HOk l n K0) (h : Bfs l n first K0 K [] 0) : HOk l n K := by
  have hcl : ∀ k, k < 2 * l.length → K (frN l k) ≠ none → K (toN l k) ≠ none := fun k hk hne => h.dn _ hne (by simp) k hk rfl
  refine ⟨h.inv, hcl, fun k hk x x' hx hx' => ?_⟩
  have hbk := bk_tk l k
  have hf : frN l (bk k) = toN l k := by unfold frN toN; rw [hbk.1]
  have ht : toN l (bk k) = frN l k := by unfold frN toN; rw [hbk.2.1]
  cases h1 : K0 (frN l k) with
  | some y =>
    cases h2 : K0 (toN l k) with
    | some y' =>
      have e1 := h.ext _ _ h1
      have e2 := h.ext _ _ h2
      rw [hx] at e1; cases e1
      rw [hx'] at e2; cases e2
      exact h0.sm k hk _ _ h1 h2
    | none => exact absurd h2 (h0.cl k hk (by rw [h1]; simp))
  | none =>
    cases h2 : K0 (toN l k) with
    | some y' => exact absurd h1 (by have := h0.cl (bk k) (bk_lt hk) (by rw [hf, h2]; simp); rwa [ht] at this)
    | none => rw [h.new _ _ hx h1, h.new _ _ hx' h2]
/-- Behind a pop. -/
theorem SpSt.pop {w W : World} {A : Option Addr} {m cap Bm first n : Nat} {K : Nat → Option Hb} {g off cq q0 : Nat} {Qr : List Nat} {qb : Nat} (h : SpSt w W A m cap Bm first n K g off cq (q0 :: Qr) qb) :
    ∃ off', (if cq = 1 then (some ⟨g, off, none⟩ : Option Addr) else some ⟨g, off + 1, none⟩) = some ⟨g, off', none⟩ ∧ SpSt w (W.setCell ⟨qb, 0, none⟩ (.slice (some ⟨g, off', none⟩) Qr.length (cq - 1))) A m cap Bm first n K g off' (cq - 1) Qr qb := by
  have hbm := h.bm
  have hqge := h.qge
  have hgq := h.gq
  have hgge := h.q.ge
  have hqb : qb < W.heap.size := cell?_lt h.b6
  have hle : Qr.length + 1 ≤ cq := h.q.le
  have main : ∀ off', (Qr = [] ∨ off' = off + 1) → (cq - 1 = 0 ∨ off' = off + 1) → SpSt w (W.setCell ⟨qb, 0, none⟩ (.slice (some ⟨g, off', none⟩) Qr.length (cq - 1))) A m cap Bm first n K g off' (cq - 1) Qr qb := by
    intro off' ho ho2
    have hset : W.grownBy (W.setCell ⟨qb, 0, none⟩ (.slice (some ⟨g, off', none⟩) Qr.length (cq - 1))) (some qb) := ⟨rfl, rfl, rfl, by simp, fun k _ hk => Below.heap_setCell _ _ _ _ (by first | exact fun e => hk (by rw [e]) | exact fun e => hk (by rw [← e]))⟩
    have hcell : ∀ b o v, W.cell? ⟨b, o, none⟩ = some v → b ≠ qb → (W.setCell ⟨qb, 0, none⟩ (.slice (some ⟨g, off', none⟩) Qr.length (cq - 1))).cell? ⟨b, o, none⟩ = some v := fun b o v hv hb => grown_cell hset hv (by simp [hb])
    refine ⟨⟨hset.os.trans h.fr.os, hset.tape.trans h.fr.tape, hset.output.trans h.fr.output, Nat.le_trans h.fr.size hset.size, fun i hi hb => (hset.block i (by have := h.fr.size; omega) (by simp; omega)).trans (h.fr.block i hi hb)⟩, h.mp.kept hset (by simp; omega), hbm, hcell _ _ _ h.b3 (by omega), hcell _ _ _ h.b4 (by omega), hcell _ _ _ h.b5 (by omega), World.cell?_setCell_same _ _ _ h.b6, by rw [World.frozen?_setCell]; exact h.f6, ?_, hgq, hqge, fun o y hy => ?_⟩
    · have hq : QAt W (w.heap.size + 3) g off' Qr (cq - 1) := by
        refine ⟨h.q.ge, h.q.lt, fun j hj => ?_, fun j hj => ?_, by omega, by have := h.q.mx; omega⟩
        · rcases ho with e | e
          · rw [e] at hj; simp at hj
          · have := h.q.c (j + 1) (by simpa using hj)
            rw [e, show off + 1 + j = off + (j + 1) by omega]
            exact this
        · rcases ho2 with e | e
          · omega
          · have := h.q.t (j + 1) (by omega)
            rw [e, show off + 1 + j = off + (j + 1) by omega]
            exact this
      exact hq.kept (hset.block g h.q.lt (by simp; exact hgq)) hset.size
    · obtain ⟨h1, h2, h3⟩ := h.ws o y hy
      exact ⟨slat_kept h1 hset (fun b o' e => ⟨(h3 b o' e).1, by have := h3 b o' e; simp; omega⟩), h2, fun b o' e => by have := h3 b o' e; simp; omega⟩
  by_cases hc : cq = 1
  · exact ⟨off, by rw [if_pos hc], main off (.inl (List.eq_nil_of_length_eq_zero (by omega))) (.inl (by omega))⟩
  · exact ⟨off + 1, by rw [if_neg hc], main (off + 1) (.inr rfl) (.inr rfl)⟩
end Go.Proofs.Ytomgaiokmdcjmaa
namespace Go.Proofs.Ytomgaiokmdcjmaa
open Go.RowKit Go.Deep
set_option linter.unusedVariables false
set_option linter.unusedSimpArgs false
/-- What the known habits are in memory. -/
structure KnAt (W : World) (Bm n : Nat) (K : Nat → Option Hb) : Prop where
  mp : MapF Try.prog 3 W Bm (cntK K n) (hF K)
  ws : ∀ o h, K o = some h → SlAt W 60 h.s ∧ (h.s.A = none → h.s.c = 0) ∧ ∀ b off, h.s.A = some ⟨b, off, none⟩ → b < W.heap.size
theorem KnAt.step {W W' : World} {Bm n : Nat} {K : Nat → Option Hb} (h : KnAt W Bm n K) (hb : Below W.heap.size W W') : KnAt W' Bm n K :=
  ⟨h.mp.step hb, fun o x hx => ⟨(h.ws o x hx).1.step hb, (h.ws o x hx).2.1, fun b off e => by have := (h.ws o x hx).2.2 b off e; have := hb.size; omega⟩⟩
theorem KnAt.of_st {w W : World} {A : Option Addr} {m cap Bm first n : Nat} {K : Nat → Option Hb} {g off cq : Nat} {Q : List Nat} {qb : Nat} (h : SpSt w W A m cap Bm first n K g off cq Q qb) : KnAt W Bm n K :=
  ⟨h.mp, fun o x hx => ⟨(h.ws o x hx).1, (h.ws o x hx).2.1, fun b off e => ((h.ws o x hx).2.2 b off e).1⟩⟩
theorem sp_start {w W0 W1 : World} {A : Option Addr} {m cap Bm first n : Nat} {K0 : Nat → Option Hb} (hn : first < n) (hk : KnAt w Bm n K0) (hbm : Bm < w.heap.size) (h0 : K0 first = none) (hb0 : Below w.heap.size w W0) (hs0 : W0.heap.size = w.heap.size + 3)
    (c3 : W0.cell? ⟨w.heap.size, 0, none⟩ = some (.slice A m cap)) (c4 : W0.cell? ⟨w.heap.size + 1, 0, none⟩ = some (.map (some Bm))) (c5 : W0.cell? ⟨w.heap.size + 2, 0, none⟩ = some (.int .i64 first))
    (hm : MapF Try.prog 3 W1 Bm (cntK K0 n + 1) (putF (hF K0) (.int .i64 (first : Int)) (.agg #[.int .i64 0, .int .i64 first, .slice none 0 0]))) (hg : W0.grownBy W1 (some Bm)) :
    SpSt w ((W1.alloc (.cells #[.int .i64 first] 3)).alloc (.cells #[.slice (some ⟨W1.heap.size, 0, none⟩) 1 1] 26)) A m cap Bm first n (upd K0 first ⟨0, first, sl0⟩) W1.heap.size 0 1 [first] (W1.heap.size + 1) := by
  have hsz := hg.size
  have hb1 : Below W1.heap.size W1 ((W1.alloc (.cells #[.int .i64 first] 3)).alloc (.cells #[.slice (some ⟨W1.heap.size, 0, none⟩) 1 1] 26)) := Below.allocS (Below.allocS (Below.refl _ _) _) _
  have hw0 : w.grownBy W0 (some Bm) := ⟨hb0.os, hb0.tape, hb0.output, hb0.size, fun i hi _ => hb0.block i hi⟩
  have k0 := hk.step hb0
  refine ⟨grown_below (grown_trans hw0 hg) hb1, ?_, hbm, keep_cell hb1 (grown_cell hg c3 (by simp; omega)), keep_cell hb1 (grown_cell hg c4 (by simp; omega)), keep_cell hb1 (grown_cell hg c5 (by simp; omega)), by simp [go_sem], by simp [go_sem], ⟨by omega, by simp; omega, fun j hj => ?_, fun j hj => ?_, Nat.le_refl _, by unfold maxLen; omega⟩, by omega, by omega, fun o y hy => ?_⟩
  · rw [cntK_put _ h0 n hn, hF_put]
    exact hm.step hb1
  · obtain rfl : j = 0 := by simpa using hj
    simp [go_sem, atN]
  · obtain rfl : j = 0 := by omega
    exact ⟨by simp [go_sem], by simp [go_sem]⟩
  · by_cases ho : o = first
    · subst ho
      rw [upd_same] at hy
      cases hy
      exact ⟨SlAt.nil _ _, fun _ => rfl, fun b off e => by cases e⟩
    · rw [upd_other _ ho] at hy
      obtain ⟨h1, h2, h3⟩ := k0.ws o y hy
      have h4 := (hk.ws o y hy).2.2
      exact ⟨(slat_map h1 k0.mp hg).step hb1, h2, fun b off e => by have := h4 b off e; simp; omega⟩
set_option maxHeartbeats 4000000 in
set_option maxRecDepth 100000 in
theorem spread_c (l : List Sg) (A : Option Addr) (cap Bm first n : Nat) (hd : VdP n l) (w : World) (hA : RdL w w.heap.size sgE 5 A l) (hl : l.length = 0 ∨ ∃ b off, A = some ⟨b, off, none⟩ ∧ b ≠ Bm) (K0 : Nat → Option Hb) (hf : first < n) (hK : HOk l n K0) (h0 : K0 first = none) (hk : KnAt w Bm n K0) (hbm : Bm < w.heap.size) :
    Calls Try.prog 111 #[.slice A l.length cap, .map (some Bm), .int .i64 first] w fun e w' => (∃ u, e = .returned u) ∧ ∃ K, w.grownBy w' (some Bm) ∧ KnAt w' Bm n K ∧ HOk l n K ∧ (∀ o h, K0 o = some h → K o = some h) ∧ K first = some ⟨0, first, sl0⟩ := by
  have HD := Lib.hid hd
  have HRE := Lib.hid (fun (K : Nat → Option Hb) (g off cq q0 : Nat) (Qr : List Nat) (qb : Nat) hQ hv hq0 k hk W h => reach_c l A cap Bm first n hd w hA hl K g off cq q0 Qr qb hQ hv hq0 k hk W h)
  have HKN := Lib.hid hk
  have HOK := Lib.hid hK
  have H0 := Lib.hid h0
  have hn8 := hd.n8
  have h30 := hd.len
  have HST := Lib.hid (fun (W0 W1 : World) hb0 hs0 c3 c4 c5 hm hg => sp_start (A := A) (m := l.length) (cap := cap) (W0 := W0) (W1 := W1) hf hk hbm h0 hb0 hs0 c3 c4 c5 hm hg)
  have HB0 := Lib.hid (Bfs.start hK hf h0)
  have HKF := Lib.hid (Maps.keyOf_int_mk (P := Try.prog) Try.underlying3 (wf_small (k := first) (by omega)))
  have HPF := Lib.hid hf
  clear hd hA hl hK h0 hk hf
  obtain ⟨m, hm⟩ : ∃ m, m = l.length := ⟨_, rfl⟩
  have HM := Lib.hid hm
  rw [← hm] at h30 HRE HST ⊢
  clear hm
  have s0 : IntKind.i64.wrap (2 * (m : Int)) = 2 * (m : Int) := IntWalk.i64_in _ (by omega)
  have HMP := Lib.hid (HKN.out.step (Below.allocS (Below.allocS (Below.allocS (Below.refl _ w) (.cells #[.slice A m cap] 51)) (.cells #[.map (some Bm)] 87)) (.cells #[.int .i64 first] 3)))
  go_enter Try.func111, Try.ntmps111
  go_wp2_with (at_mapUpdate; refine wpList_storeF rfl (.tmp 9) (.tmp 10) (.tmp 12) 87 rfl _ 3 91 (Maps.int_keyed Try.underlying3) Try.underlying87 Bm (cntK K0 n) _ rfl HMP.out.mp (by have := cntK_le K0 n; unfold maxLen; omega) _ _ _ rfl rfl HKF.out ?_; intro W1 hM1 hg1; have HS := Lib.hid (HST.out _ W1 (by (repeat (first | (with_reducible exact Below.refl _ _) | (with_reducible assumption) | (with_reducible refine Below.drew ?_) | (with_reducible refine Below.allocS ?_ _) | (with_reducible refine Below.setCell ?_ ?_ _) | (with_reducible refine Below.step ?_ (by assumption)) | (with_reducible refine Below.drewN' ?_ _))); (try any_goals (first | (with_reducible assumption) | (simp; done) | (simp; omega) | omega))) (by simp) (by simp [go_sem]) (by simp [go_sem]) (by simp [go_sem]) hM1 hg1); have x3 : W1.cell? ⟨w.heap.size, 0, none⟩ = some (.slice A m cap) := grown_cell hg1 (by simp [go_sem]) (by simp; omega); have x4 : W1.cell? ⟨w.heap.size + 1, 0, none⟩ = some (.map (some Bm)) := grown_cell hg1 (by simp [go_sem]) (by simp; omega); have x5 : W1.cell? ⟨w.heap.size + 1 + 1, 0, none⟩ = some (.int .i64 first) := grown_cell hg1 (by simp [go_sem]) (by simp; omega); have y5 : w.heap.size + 1 + 1 < W1.heap.size := cell?_lt x5; clear hM1 hg1)
  have HB1 := Lib.hid HB0.out
  clear x3 x4 x5 HB0 HST HMP HKF
  go_loopg [] (n + 1) (fun gk wr => ∃ (K : Nat → Option Hb) (g off cq : Nat) (Q : List Nat) (qb : Nat), gk ≤ n + 1 ∧ (n - cntK K n) + Q.length ≤ gk ∧ SpSt w wr A m cap Bm first n K g off cq Q qb ∧ Bfs l n first K0 K Q 0 ∧ qb = W1.heap.size + 1)
  case atStart =>
    exact ⟨_, _, _, _, _, _, Nat.le_refl _, by show _ + 1 ≤ n + 1; omega, HS.out, HB1.out, rfl⟩
  case round =>
    obtain ⟨K, g, off, cq, Q, qb, hgn, hgk, hst, hbf, rfl⟩ := hrel
    have HS1 := Lib.hid hst
    have HB := Lib.hid hbf
    have b6 := hst.b6
    have b3 := hst.b3
    have yq : W1.heap.size + 1 < wr.heap.size := cell?_lt b6
    have yw : w.heap.size + 1 + 1 < wr.heap.size := by omega
    clear hst hbf
    cases Q with
    | nil =>
      have b6' : wr.cell? ⟨W1.heap.size + 1, 0, none⟩ = some (.slice (some ⟨g, off, none⟩) 0 cq) := b6
      clear b6
      go_wp2
      go_end0
      exact ⟨⟨_, rfl⟩, K, HS1.out.fr, KnAt.of_st HS1.out, Bfs.done HOK.out HB.out, HB.out.ext, HB.out.fst⟩
    | cons q0 Qr =>
      have b6' : wr.cell? ⟨W1.heap.size + 1, 0, none⟩ = some (.slice (some ⟨g, off, none⟩) (Qr.length + 1) cq) := b6
      have hgk' : (n - cntK K n) + Qr.length + 1 ≤ gk := hgk
      have HGK := Lib.hid hgk'
      clear b6 hgk hgk'
      go_wp2_with fail
      go_loopw [24] (fun i wx => ∃ (k : Nat) (K : Nat → Option Hb) (g off cq : Nat) (Qr : List Nat), k ≤ 2 * m ∧ i = .int .i64 k ∧ (n - cntK K n) + Qr.length + 1 ≤ gk ∧ SpSt w wx A m cap Bm first n K g off cq (q0 :: Qr) (W1.heap.size + 1) ∧ Bfs l n first K0 K (q0 :: Qr) k) (fun i _ => 2 * m - (intOf i).toNat)
      case atStart => exact ⟨0, K, g, off, cq, Qr, Nat.zero_le _, rfl, HGK.out, HS1.out, HB.out⟩
      case round =>
        rename World => X
        obtain ⟨k, K, g, off, cq, Qr, hk, rfl, hgk, hst, hbf⟩ := hrel
        have HGK := Lib.hid hgk
        have HS1 := Lib.hid hst
        have HB := Lib.hid hbf
        have b6 : X.cell? ⟨W1.heap.size + 1, 0, none⟩ = some (.slice (some ⟨g, off, none⟩) (Qr.length + 1) cq) := hst.b6
        have f6 := hst.f6
        have yq : W1.heap.size + 1 < X.heap.size := cell?_lt b6
        clear hgk hst hbf b6' b3
        by_cases hlt : k < 2 * m
        · have u1 : decide ((k : Int) < 2 * (m : Int)) = true := decide_eq_true (by omega)
          have u3 : IntKind.i64.wrap ((k : Int) + 1) = (k : Int) + 1 := IntWalk.i64_in _ (by omega)
          have hgg := HGK.out
          have HR1 := Lib.hid (HRE.out K g off cq q0 Qr (W1.heap.size + 1) (by show Qr.length + 1 ≤ 100; omega) (HB.out.inv.bd HD.out) ((HB.out.q q0 (by simp)).1) k hlt X HS1.out)
          clear hgg
          go_wp2_with fail
          refine HR1.out.mono ?_
          rintro e Y ⟨⟨u, rfl⟩, K', g', off', cq', Q', hst', htr⟩
          obtain ⟨Qr', rfl, hb', hcn⟩ := Bfs.step HD.out HPF.out (by rw [← HM.out]; exact hlt) HB.out htr
          have HS' := Lib.hid hst'
          have HB' := Lib.hid hb'
          have HC' := Lib.hid hcn
          clear hst' htr hb' hcn
          go_wp2
          go_roundw
          case rel => exact ⟨k + 1, K', g', off', cq', Qr', by omega, by go_num, by have := HC'.out; have := HGK.out; omega, HS'.out, HB'.out⟩
          case measure => simp [intOf]; omega
        · obtain rfl : k = 2 * m := by omega
          have u1 : decide (((2 * m : Nat) : Int) < 2 * (m : Int)) = false := decide_eq_false (by omega)
          have u2 : decide (2 * (m : Int) < 2 * (m : Int)) = false := decide_eq_false (by omega)
          obtain ⟨off', hif, hst'⟩ := HS1.out.pop
          have HS' := Lib.hid hst'
          have HB' := Lib.hid (Bfs.pop (by have := HB.out; rw [HM.out] at this; exact this))
          have hc1 : Qr.length + 1 ≤ cq := HS1.out.q.le
          have j1 : (1 : Int) ≤ (Qr.length : Int) + 1 := by omega
          have j2 : 1 ≤ cq := by omega
          have HGG := Lib.hid (show 0 < gk by have := HGK.out; omega)
          clear hst' hc1
          go_wp2
          go_roundg (gk - 1)
          case rel => exact ⟨K, g, off', cq - 1, Qr, _, by omega, by have := HGK.out; omega, HS'.out, HB'.out, rfl⟩
          case measure => have := HGG.out; omega
end Go.Proofs.Ytomgaiokmdcjmaa
namespace Go.Proofs.Ytomgaiokmdcjmaa
open Go.RowKit Go.Deep
set_option linter.unusedVariables false
set_option linter.unusedSimpArgs false
/-- All habits are known. -/
structure HAll (l : List Sg) (n : Nat) (K : Nat → Option Hb) : Prop where
  ok : HOk l n K
  all : ∀ o, o < n → K o ≠ none
  zero : K 0 = some ⟨0, 0, sl0⟩
def valK (K : Nat → Option Hb) (o : Nat) : Int := match K o with | some h => h.v | none => 0
def fstK (K : Nat → Option Hb) (o : Nat) : Nat := match K o with | some h => h.f | none => 0
theorem HAll.spec {l : List Sg} {n : Nat} (hd : VdP n l) {K : Nat → Option Hb} (h : HAll l n K) : HabSpec l n (valK K) (fstK K) := by
  refine ⟨fun o ho => ?_, fun k hk => ?_, ?_⟩
  · cases hc : K o with
    | none => exact absurd hc (h.all o ho)
    | some x =>
      obtain ⟨-, h2, h3, -⟩ := h.ok.inv.dom o x hc
      unfold valK fstK
      rw [hc]
      exact ⟨h2, _, h3⟩
  · have hb := tk_bd hd hk
    cases h1 : K (frN l k) with
    | none => exact absurd h1 (h.all _ hb.2.2.1)
    | some x =>
      cases h2 : K (toN l k) with
      | none => exact absurd h2 (h.all _ hb.2.2.2.1)
      | some y =>
        unfold fstK
        rw [h1, h2]
        exact h.ok.sm k hk x y h1 h2
  · unfold fstK; rw [h.zero]
/-- There are habits that keep all differences. -/
def SatE (l : List Sg) (n : Nat) : Prop := ∃ v f, HabSpec l n v f ∧ Sat l v
theorem satE_iff {l : List Sg} {n : Nat} (hd : VdP n l) {v : Nat → Int} {f : Nat → Nat} (h : HabSpec l n v f) : Sat l v ↔ SatE l n :=
  ⟨fun hs => ⟨v, f, h, hs⟩, fun ⟨_, _, h', hs⟩ => sat_iff hd h' h hs⟩
/-- All are joined to the first one. -/
def JoinE (l : List Sg) (n : Nat) : Prop := ∀ o, o < n → ∃ w v, Pth l 0 o w v
theorem joinE_iff {l : List Sg} {n : Nat} {v : Nat → Int} {f : Nat → Nat} (h : HabSpec l n v f) : (∀ o, o < n → f o = 0) ↔ JoinE l n := by
  constructor
  · intro hf o ho
    obtain ⟨-, w, p⟩ := h.path o ho
    rw [hf o ho] at p
    exact ⟨w, _, p⟩
  · intro hj o ho
    obtain ⟨w, v', p⟩ := hj o ho
    rw [pth_same h.same p]
    exact h.zero
open Classical in
noncomputable def habE (n : Int) (l : List Sg) : Int := if vdB n l = true then (if SatE l n.toNat then (if JoinE l n.toNat then 0 else 8) else 9) else 7
open Classical in
noncomputable def habR (n : Int) (l : List Sg) : List Int := if h : SatE l n.toNat then (if habE n l = 0 then (List.range n.toNat).map (Classical.choose h) else []) else []
theorem habR_eq {n : Nat} {l : List Sg} (hd : VdP n l) (hE : habE (n : Int) l = 0) {v : Nat → Int} {f : Nat → Nat} (h : HabSpec l n v f) (hs : Sat l v) (hf : ∀ o, o < n → f o = 0) : habR (n : Int) l = (List.range n).map v := by
  have hse : SatE l n := ⟨v, f, h, hs⟩
  have hse' : SatE l (n : Int).toNat := by rw [Int.toNat_natCast]; exact hse
  unfold habR
  rw [dif_pos hse', if_pos hE]
  show List.map (Classical.choose hse') (List.range n) = _
  obtain ⟨f', h', hs'⟩ := Classical.choose_spec hse'
  have h'' : HabSpec l n (Classical.choose hse') f' := h'
  refine List.map_congr_left fun o ho => ?_
  have ho := List.mem_range.1 ho
  exact hab_eq (by have := hd.n1; omega) h'' h hs' hs ho (zero_iff h h'' ho (hf o ho))
set_option maxHeartbeats 2000000 in
set_option maxRecDepth 100000 in
theorem habits_c (l : List Sg) (A : Option Addr) (cap n : Nat) (hd : VdP n l) (w : World) (hA : RdL w w.heap.size sgE 5 A l) (hA2 : l.length = 0 ∨ ∃ b off, A = some ⟨b, off, none⟩ ∧ b < w.heap.size) :
    Calls Try.prog 79 #[.int .i64 n, .slice A l.length cap] w fun e w' => (∃ Bm K, e = .returned (.map (some Bm)) ∧ KnAt w' Bm n K ∧ HAll l n K) ∧ Below w.heap.size w w' := by
  have HD := Lib.hid hd
  have HSP := Lib.hid (fun (Bm first : Nat) (W : World) hA hl (K0 : Nat → Option Hb) hf hK h0 hk hbm => spread_c l A cap Bm first n hd W hA hl K0 hf hK h0 hk hbm)
  have HA := Lib.hid hA
  have HA2 := Lib.hid hA2
  have hn8 := hd.n8
  have hn1 := hd.n1
  have hmm := @run_makeMap Try.prog
  have HE : Hid (HOk l n (fun _ => none)) := Lib.hid ⟨⟨fun o h hc => by cases hc⟩, fun k hk hc => absurd rfl hc, fun k hk h h' hc => by cases hc⟩
  clear hA hd hA2
  generalize l.length = m at *
  have HZ : Hid (∀ j, cntK (fun _ => none) j = 0) := Lib.hid (fun j => by
    induction j with
    | zero => rfl
    | succ j ih => unfold cntK; rw [ih]; rfl)
  have HM0 : Hid (MapF Try.prog 3 (w.alloc (.map #[] 0)) w.heap.size (cntK (fun _ => none) n) (hF (fun _ => none))) := Lib.hid (by
    have h0 := MapF.made w Try.prog 3
    have e : hF (fun _ => none) = fun _ => none := by
      funext kl
      unfold hF
      split
      · split <;> rfl
      · rfl
    rw [e, HZ.out]
    exact h0)
  go_enter Try.func79, Try.ntmps79
  go_wp2
  go_loopw [11] (fun i wr => ∃ (k : Nat) (K : Nat → Option Hb), k ≤ n ∧ i = .int .i64 k ∧ KnAt wr w.heap.size n K ∧ HOk l n K ∧ (∀ o, o < k → K o ≠ none) ∧ ((1 ≤ k → K 0 = some ⟨0, 0, sl0⟩) ∧ (k = 0 → K 0 = none)) ∧ Below w.heap.size w wr) (fun i _ => n - (intOf i).toNat)
  case atStart => exact ⟨0, fun _ => none, Nat.zero_le _, rfl, ⟨HM0.out, fun o h hc => by cases hc⟩, HE.out, fun o ho => absurd ho (Nat.not_lt_zero _), ⟨fun h => absurd h (by omega), fun _ => rfl⟩, by (repeat (first | (with_reducible exact Below.refl _ _) | (with_reducible assumption) | (with_reducible refine Below.drew ?_) | (with_reducible refine Below.allocS ?_ _) | (with_reducible refine Below.setCell ?_ ?_ _) | (with_reducible refine Below.step ?_ (by assumption)) | (with_reducible refine Below.drewN' ?_ _))); (try any_goals (first | (with_reducible assumption) | (simp; done) | (simp; omega) | omega))⟩
  case round =>
    rename World => U
    obtain ⟨k, K, hk, rfl, hkn, hok, hall, hz, hbw⟩ := hrel
    have HKN := Lib.hid hkn
    have HOK := Lib.hid hok
    have HAL := Lib.hid hall
    have HZ0 := Lib.hid hz
    have yM : w.heap.size < U.heap.size := hkn.mp.lt
    clear hkn hok hall hz hmm
    by_cases hlt : k < n
    · have HKK := Lib.hid (Maps.keyOf_int_mk (P := Try.prog) Try.underlying3 (wf_small (k := k) (by omega)))
      have hlk := HKN.out.mp.look_ok (Maps.int_keyed Try.underlying3) Try.underlying87 (zero_hab U) HKK.out
      rw [hF_get] at hlk
      have u1 : decide ((k : Int) < (n : Int)) = true := decide_eq_true (by omega)
      have u3 : IntKind.i64.wrap ((k : Int) + 1) = (k : Int) + 1 := IntWalk.i64_in _ (by omega)
      cases hkk : K k with
      | some h =>
        rw [hkk] at hlk
        have hlk2 : (Instr.lookup 87 (.map (some w.heap.size)) (.int .i64 k) true).run Try.prog U = .ok (.tuple #[.agg #[.int .i64 h.v, .int .i64 h.f, .slice h.s.A h.s.xs.length h.s.c], .bool true]) U := hlk
        have HN := Lib.hid hkk
        clear hlk hkk
        go_wp2
        go_roundw
        case rel => exact ⟨k + 1, K, by omega, by go_num, HKN.out.step (by (repeat (first | (with_reducible exact Below.refl _ _) | (with_reducible assumption) | (with_reducible refine Below.drew ?_) | (with_reducible refine Below.allocS ?_ _) | (with_reducible refine Below.setCell ?_ ?_ _) | (with_reducible refine Below.step ?_ (by assumption)) | (with_reducible refine Below.drewN' ?_ _))); (try any_goals (first | (with_reducible assumption) | (simp; done) | (simp; omega) | omega))), HOK.out, fun o ho => (by rcases Nat.lt_succ_iff_lt_or_eq.1 ho with h | rfl; exact HAL.out o h; rw [HN.out]; simp), ⟨fun _ => (by
          rcases Nat.eq_zero_or_pos k with h0 | h0
          · subst h0; have := HN.out; rw [HZ0.out.2 rfl] at this; cases this
          · exact HZ0.out.1 h0), fun h => absurd h (by omega)⟩, by (repeat (first | (with_reducible exact Below.refl _ _) | (with_reducible assumption) | (with_reducible refine Below.drew ?_) | (with_reducible refine Below.allocS ?_ _) | (with_reducible refine Below.setCell ?_ ?_ _) | (with_reducible refine Below.step ?_ (by assumption)) | (with_reducible refine Below.drewN' ?_ _))); (try any_goals (first | (with_reducible assumption) | (simp; done) | (simp; omega) | omega))⟩
        case measure => simp [intOf]; omega
      | none =>
        rw [hkk] at hlk
        have hlk2 : (Instr.lookup 87 (.map (some w.heap.size)) (.int .i64 k) true).run Try.prog U = .ok (.tuple #[.agg #[.int .i64 0, .int .i64 0, .slice none 0 0], .bool false]) U := hlk
        have HN := Lib.hid hkk
        have hbU : Below w.heap.size w (U.alloc (.cells #[.int .i64 0, .int .i64 0, .slice none 0 0] 91)) := Below.allocS hbw _
        have HSP1 := Lib.hid (HSP.out w.heap.size k (U.alloc (.cells #[.int .i64 0, .int .i64 0, .slice none 0 0] 91)) (HA.out.step hbU) (by
          rcases HA2.out with h | ⟨b, off, e, hb⟩
          · exact .inl h
          · exact .inr ⟨b, off, e, by omega⟩) K hlt HOK.out hkk (HKN.out.step (Below.allocS (Below.refl _ _) _)) (by simp; omega))
        clear hlk hkk hbU
        go_wp2_with fail
        refine HSP1.out.mono ?_
        rintro e X ⟨⟨u, rfl⟩, K', hg, hkn', hok', hext, hfst⟩
        have hbX : Below w.heap.size w X := Below.grown (Below.allocS hbw _) hg (by have := hbw.size; simp; omega) (fun j e => by cases e; exact Nat.le_refl _)
        have HKN' := Lib.hid hkn'
        have HOK' := Lib.hid hok'
        have HEX := Lib.hid hext
        have HFS := Lib.hid hfst
        clear hg hkn' hok' hext hfst
        go_wp2
        go_roundw
        case rel => exact ⟨k + 1, K', by omega, by go_num, HKN'.out, HOK'.out, fun o ho => (by
          rcases Nat.lt_succ_iff_lt_or_eq.1 ho with h | rfl
          · cases hc : K o with
            | none => exact absurd hc (HAL.out o h)
            | some y => rw [HEX.out _ _ hc]; simp
          · rw [HFS.out]; simp), ⟨fun _ => (by
          rcases Nat.eq_zero_or_pos k with h0 | h0
          · subst h0; exact HFS.out
          · exact HEX.out _ _ (HZ0.out.1 h0)), fun h => absurd h (by omega)⟩, hbX⟩
        case measure => simp [intOf]; omega
    · obtain rfl : k = n := by omega
      have u1 : decide ((k : Int) < (k : Int)) = false := decide_eq_false (by omega)
      go_wp2
      go_ret
      exact ⟨⟨w.heap.size, K, rfl, HKN.out, HOK.out, HAL.out, HZ0.out.1 hn1⟩, hbw⟩
theorem field_v (v f : Int) (A : Option Addr) (n c : Nat) (W : World) : (Instr.field 91 (.agg #[.int .i64 v, .int .i64 f, .slice A n c]) 0).run Try.prog W = .ok (.int .i64 v) W := by kernel_rfl
theorem field_f (v f : Int) (A : Option Addr) (n c : Nat) (W : World) : (Instr.field 91 (.agg #[.int .i64 v, .int .i64 f, .slice A n c]) 1).run Try.prog W = .ok (.int .i64 f) W := by kernel_rfl
theorem field_w (v f : Int) (A : Option Addr) (n c : Nat) (W : World) : (Instr.field 91 (.agg #[.int .i64 v, .int .i64 f, .slice A n c]) 2).run Try.prog W = .ok (.slice A n c) W := by kernel_rfl
set_option maxHeartbeats 2000000 in
set_option maxRecDepth 100000 in
theorem broken_c (l : List Sg) (A : Option Addr) (cap n : Nat) (hd : VdP n l) (Bm : Nat) (K : Nat → Option Hb) (hall : HAll l n K) (w : World) (hA : RdL w w.heap.size sgE 5 A l) (hk : KnAt w Bm n K) :
    Calls Try.prog 80 #[.slice A l.length cap, .map (some Bm)] w fun e w' => (∃ r : Int, e = .returned (.int .i64 r) ∧ ((r = -1 ∧ Sat l (valK K)) ∨ (∃ i : Nat, i < l.length ∧ r = 2 * (i : Int) ∧ valK K (toN l (2 * i)) - valK K (frN l (2 * i)) ≠ tkV l (2 * i)))) ∧ Below w.heap.size w w' := by
  have h30 := hd.len
  have HKN := Lib.hid hk
  have HR := Lib.hid hA
  have HK1 : Hid (∀ o : Nat, o < n → ∃ h, K o = some h ∧ h.v = valK K o ∧ -100000000 ≤ h.v ∧ h.v ≤ 100000000) := Lib.hid (fun o ho => by
    cases hc : K o with
    | none => exact absurd hc (hall.all o ho)
    | some h =>
      have := hall.ok.inv.bd hd o h hc
      exact ⟨h, rfl, by unfold valK; rw [hc], this.1.1, this.1.2⟩)
  have HTK := Lib.hid (fun k hk => tk_bd hd (k := k) hk)
  have HLO := Lib.hid (fun i hi => And.intro (hd.a i hi) (And.intro (hd.b i hi) (hd.lo i hi)))
  have hn8 := hd.n8
  clear hall hA hk hd
  obtain ⟨m, hm⟩ : ∃ m, m = l.length := ⟨_, rfl⟩
  have HM := Lib.hid hm
  rw [← hm] at h30 HTK HLO ⊢
  clear hm
  go_enter Try.func80, Try.ntmps80
  go_wp2
  go_loopw [9] (fun i wr => ∃ k : Nat, k ≤ m ∧ i = .int .i64 k ∧ (∀ j, j < k → valK K (l.getD j sg0).a.toNat - valK K (l.getD j sg0).b.toNat = (l.getD j sg0).lo) ∧ Below w.heap.size w wr) (fun i _ => m - (intOf i).toNat)
  case atStart => exact ⟨0, Nat.zero_le _, rfl, fun j hj => absurd hj (Nat.not_lt_zero _), Below.refl _ _⟩
  case round =>
    rename World => U
    obtain ⟨k, hk, rfl, hj, hbw⟩ := hrel
    have HJ := Lib.hid hj
    clear hj
    by_cases hlt : k < m
    · obtain ⟨b, off, rfl, hb0, hch⟩ := sg_cells HR.out (by rw [← HM.out]; omega)
      obtain ⟨q0, q1, q2, q3, q4⟩ := hch U hbw k (by rw [← HM.out]; exact hlt)
      have hlo := HLO.out k hlt
      have HT2 : Hid (toN l (2 * k) = (l.getD k sg0).a.toNat ∧ frN l (2 * k) = (l.getD k sg0).b.toNat ∧ tkV l (2 * k) = (l.getD k sg0).lo) := Lib.hid (by
        unfold toN frN tkT tkF tkV
        have h1 : 2 * k % 2 = 0 := by omega
        have h2 : 2 * k / 2 = k := by omega
        simp only [if_pos h1, h2]
        exact ⟨trivial, trivial, trivial⟩)
      obtain ⟨a, ha⟩ : ∃ a : Nat, (l.getD k sg0).a = (a : Int) := ⟨_, (Int.toNat_of_nonneg hlo.1.1).symm⟩
      obtain ⟨c, hc⟩ : ∃ c : Nat, (l.getD k sg0).b = (c : Int) := ⟨_, (Int.toNat_of_nonneg hlo.2.1.1).symm⟩
      rw [ha] at q1
      rw [hc] at q2
      have HAC : Hid ((l.getD k sg0).a.toNat = a ∧ (l.getD k sg0).b.toNat = c) := Lib.hid ⟨by rw [ha, Int.toNat_natCast], by rw [hc, Int.toNat_natCast]⟩
      have han : a < n := by omega
      have hcn : c < n := by omega
      obtain ⟨x, hx, hx1, hx2⟩ := HK1.out a han
      obtain ⟨y, hy, hy1, hy2⟩ := HK1.out c hcn
      have HKA := Lib.hid (Maps.keyOf_int_mk (P := Try.prog) Try.underlying3 (wf_small (k := a) (by omega)))
      have HKC := Lib.hid (Maps.keyOf_int_mk (P := Try.prog) Try.underlying3 (wf_small (k := c) (by omega)))
      have HLA : Hid (∀ W, Below w.heap.size w W → (Instr.lookup 87 (.map (some Bm)) (.int .i64 a) false).run Try.prog W = .ok (.agg #[.int .i64 x.v, .int .i64 x.f, .slice x.s.A x.s.xs.length x.s.c]) W) := Lib.hid (fun W hb => by
        have := (HKN.out.step hb).mp.look (Maps.int_keyed Try.underlying3) Try.underlying87 (zero_hab W) HKA.out
        rw [hF_get, hx] at this
        exact this)
      have HLC : Hid (∀ W, Below w.heap.size w W → (Instr.lookup 87 (.map (some Bm)) (.int .i64 c) false).run Try.prog W = .ok (.agg #[.int .i64 y.v, .int .i64 y.f, .slice y.s.A y.s.xs.length y.s.c]) W) := Lib.hid (fun W hb => by
        have := (HKN.out.step hb).mp.look (Maps.int_keyed Try.underlying3) Try.underlying87 (zero_hab W) HKC.out
        rw [hF_get, hy] at this
        exact this)
      have HXY := Lib.hid (And.intro hx1 hy1)
      have u3 : IntKind.i64.wrap ((k : Int) + 1) = (k : Int) + 1 := IntWalk.i64_in _ (by omega)
      have u4 : IntKind.i64.wrap (x.v - y.v) = x.v - y.v := IntWalk.i64_in _ (by omega)
      have u5 : IntKind.i64.wrap (2 * (k : Int)) = 2 * (k : Int) := IntWalk.i64_in _ (by omega)
      have yb : b < U.heap.size := cell?_lt q1
      have HLOV : Hid ((l.getD k sg0).lo = (l.getD k sg0).lo) := Lib.hid rfl
      clear hch hx hy hx1 hy1 hx2 hy2 ha hc hlo han hcn
      generalize hs : l.getD k sg0 = s at *
      have HS := Lib.hid hs
      clear hs
      have la := HLA.out (U.alloc (.cells #[.int .i64 s.t, .int .i64 a, .int .i64 c, .int .i64 s.lo, .int .i64 s.hi] 54)) (Below.allocS hbw _)
      have lc := HLC.out (U.alloc (.cells #[.int .i64 s.t, .int .i64 a, .int .i64 c, .int .i64 s.lo, .int .i64 s.hi] 54)) (Below.allocS hbw _)
      generalize x.s.xs.length = xl at *
      generalize y.s.xs.length = yl at *
      have fv := field_v
      by_cases heq : x.v - y.v = s.lo
      · have d1 : (x.v - y.v != s.lo) = false := by simp [heq]
        have HE := Lib.hid heq
        clear heq
        go_wp2
        go_roundw
        case rel => exact ⟨k + 1, by omega, by go_num, fun j hj => (by
          rcases Nat.lt_succ_iff_lt_or_eq.1 hj with h | rfl
          · exact HJ.out j h
          · rw [HS.out, HAC.out.1, HAC.out.2, ← HXY.out.1, ← HXY.out.2]; exact HE.out), by (repeat (first | (with_reducible exact Below.refl _ _) | (with_reducible assumption) | (with_reducible refine Below.drew ?_) | (with_reducible refine Below.allocS ?_ _) | (with_reducible refine Below.setCell ?_ ?_ _) | (with_reducible refine Below.step ?_ (by assumption)) | (with_reducible refine Below.drewN' ?_ _))); (try any_goals (first | (with_reducible assumption) | (simp; done) | (simp; omega) | omega))⟩
        case measure => simp [intOf]; omega
      · have d1 : (x.v - y.v != s.lo) = true := by simp [heq]
        have HE := Lib.hid heq
        clear heq
        go_wp2
        go_ret
        exact ⟨⟨_, rfl, .inr ⟨k, hlt, rfl, by rw [HT2.out.1, HT2.out.2.1, HT2.out.2.2, HAC.out.1, HAC.out.2, ← HXY.out.1, ← HXY.out.2]; exact HE.out⟩⟩, by (repeat (first | (with_reducible exact Below.refl _ _) | (with_reducible assumption) | (with_reducible refine Below.drew ?_) | (with_reducible refine Below.allocS ?_ _) | (with_reducible refine Below.setCell ?_ ?_ _) | (with_reducible refine Below.step ?_ (by assumption)) | (with_reducible refine Below.drewN' ?_ _))); (try any_goals (first | (with_reducible assumption) | (simp; done) | (simp; omega) | omega))⟩
    · obtain rfl : k = m := by omega
      have HS := Lib.hid (Sat.even (l := l) (v := valK K) (fun i hi => HJ.out i (by rw [HM.out]; exact hi)))
      go_wp2
      go_ret
      exact ⟨⟨-1, rfl, .inl ⟨rfl, HS.out⟩⟩, hbw⟩
end Go.Proofs.Ytomgaiokmdcjmaa
namespace Go.Proofs.Ytomgaiokmdcjmaa
open Go.RowKit Go.Deep
set_option linter.unusedVariables false
set_option linter.unusedSimpArgs false
theorem habE_7 {n : Int} {l : List Sg} (h : vdB n l = false) : habE n l = 7 := by unfold habE; rw [if_neg (by rw [h]; simp)]
theorem habE_9 {n : Nat} {l : List Sg} (h : vdB (n : Int) l = true) (hs : ¬ SatE l n) : habE (n : Int) l = 9 := by
  unfold habE; rw [if_pos h, if_neg (by rw [Int.toNat_natCast]; exact hs)]
theorem habE_8 {n : Nat} {l : List Sg} (h : vdB (n : Int) l = true) (hs : SatE l n) (hj : ¬ JoinE l n) : habE (n : Int) l = 8 := by
  unfold habE; rw [if_pos h, if_pos (by rw [Int.toNat_natCast]; exact hs), if_neg (by rw [Int.toNat_natCast]; exact hj)]
theorem habE_0 {n : Nat} {l : List Sg} (h : vdB (n : Int) l = true) (hs : SatE l n) (hj : JoinE l n) : habE (n : Int) l = 0 := by
  unfold habE; rw [if_pos h, if_pos (by rw [Int.toNat_natCast]; exact hs), if_pos (by rw [Int.toNat_natCast]; exact hj)]
theorem habR_nil {n : Int} {l : List Sg} (h : habE n l ≠ 0) : habR n l = [] := by
  unfold habR
  split <;> first | rfl | (rw [if_neg h])
theorem vd_nat {n : Int} {l : List Sg} (h : vdB n l = true) : ∃ k : Nat, n = (k : Int) := by
  unfold vdB at h
  rw [Bool.and_eq_true] at h
  have := within_true h.1
  exact ⟨n.toNat, by omega⟩
theorem not_sat {l : List Sg} {v : Nat → Int} (h : ∃ i : Nat, i < l.length ∧ v (toN l (2 * i)) - v (frN l (2 * i)) ≠ tkV l (2 * i)) : ¬ Sat l v := by
  rintro hs
  obtain ⟨i, hi, hne⟩ := h
  exact hne (hs _ (by omega))
set_option maxHeartbeats 4000000 in
set_option maxRecDepth 100000 in
theorem Habits_c (n : Int) (l : List Sg) (A : Option Addr) (cap : Nat) (hl : l.length ≤ 9223372036854775807) (w : World) (hA : RdL w w.heap.size sgE 5 A l) (hA2 : l.length = 0 ∨ ∃ b off, A = some ⟨b, off, none⟩ ∧ b < w.heap.size) :
    Calls Try.prog 36 #[.int .i64 n, .slice A l.length cap] w fun e w' => (∃ A' c', e = .returned (.tuple #[.slice A' (habR n l).length c', .int .i64 (habE n l)]) ∧ RdL w' w'.heap.size inE 1 A' (habR n l)) ∧ Below w.heap.size w w' := by
  have HV := Lib.hid (fun W (hb : Below w.heap.size w W) => validDifferences_c n l A cap hl W (hA.step hb))
  cases hvd : vdB n l with
  | false =>
    have HE := Lib.hid (habE_7 hvd)
    have HR := Lib.hid (habR_nil (n := n) (l := l) (by rw [HE.out]; omega))
    rw [hvd] at HV
    clear hA hA2 hvd
    generalize l.length = m at *
    go_enter Try.func36, Try.ntmps36
    go_wp2_with fail
    refine (HV.out _ (by (repeat (first | exact Below.refl _ _ | refine Below.drew ?_ | refine Below.allocS ?_ _ | refine Below.step ?_ (by assumption) | refine Below.setCell ?_ (by simp <;> omega) _ | refine Below.drewN' ?_ _)))).mono ?_
    rintro e w1 ⟨rfl, hb1⟩
    have g1 : Below w.heap.size w w1 := by (repeat (first | exact Below.refl _ _ | refine Below.drew ?_ | refine Below.allocS ?_ _ | refine Below.step ?_ (by assumption) | refine Below.setCell ?_ (by simp <;> omega) _ | refine Below.drewN' ?_ _))
    clear hb1
    go_wp2
    go_ret2
    rw [HE.out, HR.out]
    exact ⟨⟨none, 0, rfl, RdL.nil⟩, by (repeat (first | exact Below.refl _ _ | refine Below.drew ?_ | refine Below.allocS ?_ _ | refine Below.step ?_ (by assumption) | refine Below.setCell ?_ (by simp <;> omega) _ | refine Below.drewN' ?_ _))⟩
  | true =>
    rw [hvd] at HV
    obtain ⟨n, rfl⟩ := vd_nat hvd
    have hd := VdP.of hvd
    have HVD := Lib.hid hvd
    have HD := Lib.hid hd
    have HH := Lib.hid (fun W (hb : Below w.heap.size w W) => habits_c l A cap n hd W (hA.step hb) (by
      rcases hA2 with h | ⟨b, off, e, h⟩
      · exact .inl h
      · exact .inr ⟨b, off, e, by have := hb.size; omega⟩))
    have HBK := Lib.hid (fun W (hb : Below w.heap.size w W) Bm K (hall : HAll l n K) hk => broken_c l A cap n hd Bm K hall W (hA.step hb) hk)
    have hn8 := hd.n8
    have hn1 := hd.n1
    clear hA hA2 hvd hd
    obtain ⟨m, hm⟩ : ∃ m, m = l.length := ⟨_, rfl⟩
    have HM := Lib.hid hm
    rw [← hm] at HV HH HBK ⊢
    clear hm
    go_enter Try.func36, Try.ntmps36
    go_wp2_with fail
    refine (HV.out _ (by (repeat (first | exact Below.refl _ _ | refine Below.drew ?_ | refine Below.allocS ?_ _ | refine Below.step ?_ (by assumption) | refine Below.setCell ?_ (by simp <;> omega) _ | refine Below.drewN' ?_ _)))).mono ?_
    rintro e w1 ⟨rfl, hb1⟩
    have g1 : Below w.heap.size w w1 := by (repeat (first | exact Below.refl _ _ | refine Below.drew ?_ | refine Below.allocS ?_ _ | refine Below.step ?_ (by assumption) | refine Below.setCell ?_ (by simp <;> omega) _ | refine Below.drewN' ?_ _))
    clear hb1
    go_wp2_with fail
    refine (HH.out _ (by (repeat (first | exact Below.refl _ _ | refine Below.drew ?_ | refine Below.allocS ?_ _ | refine Below.step ?_ (by assumption) | refine Below.setCell ?_ (by simp <;> omega) _ | refine Below.drewN' ?_ _)))).mono ?_
    rintro e w2 ⟨⟨Bm, K, rfl, hkn, hall⟩, hb2⟩
    have g2 : Below w.heap.size w w2 := by (repeat (first | exact Below.refl _ _ | refine Below.drew ?_ | refine Below.allocS ?_ _ | refine Below.step ?_ (by assumption) | refine Below.setCell ?_ (by simp <;> omega) _ | refine Below.drewN' ?_ _))
    have HKN := Lib.hid hkn
    have HAL := Lib.hid hall
    have HSP := Lib.hid (hall.spec HD.out)
    have HB1 := Lib.hid (HBK.out w2 g2 Bm K hall hkn)
    clear hkn hall hb2
    go_wp2_with fail
    refine HB1.out.mono ?_
    rintro e w3 ⟨⟨r, rfl, hr⟩, hb3⟩
    have g3 : Below w.heap.size w w3 := Below.step g2 hb3
    have HK3 := Lib.hid (HKN.out.step hb3)
    clear hb3
    rcases hr with ⟨rfl, hs⟩ | ⟨i, hi, rfl, hne⟩
    case inr =>
      have HE := Lib.hid (habE_9 HVD.out (fun h => not_sat ⟨i, by rw [← HM.out]; exact hi, hne⟩ ((satE_iff HD.out HSP.out).2 h)))
      have HR := Lib.hid (habR_nil (n := (n : Int)) (l := l) (by rw [HE.out]; omega))
      have d1 : decide (2 * (i : Int) ≥ 0) = true := decide_eq_true (by omega)
      have d2 : decide (0 ≤ 2 * (i : Int)) = true := decide_eq_true (by omega)
      clear hi hne
      go_wp2
      go_ret2
      rw [HE.out, HR.out]
      exact ⟨⟨none, 0, rfl, RdL.nil⟩, g3⟩
    have HSE := Lib.hid ((satE_iff HD.out HSP.out).1 hs)
    have HS := Lib.hid hs
    clear hs
    have HKL : Hid (∀ o : Nat, o < n → ∃ h, K o = some h ∧ h.v = valK K o ∧ h.f = fstK K o) := Lib.hid (fun o ho => by
      cases hc : K o with
      | none => exact absurd hc (HAL.out.all o ho)
      | some h => exact ⟨h, rfl, by unfold valK; rw [hc], by unfold fstK; rw [hc]⟩)
    have HNIL : Hid (((List.range 0).map (valK K)).flatMap inE = []) := Lib.hid rfl
    go_wp2_with fail
    go_loopw [7, 21] (fun u i wr => ∃ (k : Nat) (v7 : Value), v7 = u ∧ k ≤ n ∧ i = .int .i64 k ∧ (∀ o, o < k → fstK K o = 0) ∧ wr.ownsRow w3.heap.size 3 1 v7 k (((List.range k).map (valK K)).flatMap inE) ∧ Below w3.heap.size w3 wr) (fun _ i _ => n - (intOf i).toNat)
    case atStart => exact ⟨0, _, rfl, Nat.zero_le _, rfl, fun o h => absurd h (Nat.not_lt_zero _), World.ownsRow_nil _ _ _ _, Below.refl _ _⟩
    case round =>
      rename World => U
      obtain ⟨k, v7, rfl, hk, rfl, hf, hown, hbw⟩ := hrel
      obtain ⟨A7, c7, rfl, -, -⟩ := row_form hown
      have HO := Lib.hid hown
      have HF := Lib.hid hf
      clear hown hf
      by_cases hlt : k < n
      · obtain ⟨x, hx, hx1, hx2⟩ := HKL.out k hlt
        have HKK := Lib.hid (Maps.keyOf_int_mk (P := Try.prog) Try.underlying3 (wf_small (k := k) (by omega)))
        have HLA : Hid (∀ W, Below w3.heap.size w3 W → (Instr.lookup 87 (.map (some Bm)) (.int .i64 k) false).run Try.prog W = .ok (.agg #[.int .i64 x.v, .int .i64 x.f, .slice x.s.A x.s.xs.length x.s.c]) W) := Lib.hid (fun W hb => by
          have := (HK3.out.step hb).mp.look (Maps.int_keyed Try.underlying3) Try.underlying87 (zero_hab W) HKK.out
          rw [hF_get, hx] at this
          exact this)
        have hla := HLA.out U hbw
        have fv := field_v
        have ff := field_f
        have u3 : IntKind.i64.wrap ((k : Int) + 1) = (k : Int) + 1 := IntWalk.i64_in _ (by omega)
        have u1 : decide ((k : Int) < (n : Int)) = true := decide_eq_true (by omega)
        generalize x.s.xs.length = xl at *
        have HX := Lib.hid (And.intro hx1 hx2)
        clear hx hx1 hx2
        by_cases h0 : x.f = 0
        · have d1 : ((x.f : Int) != 0) = false := by rw [h0]; rfl
          have HF1 := Lib.hid (show ∀ o, o < k + 1 → fstK K o = 0 from fun o ho => by
            rcases Nat.lt_succ_iff_lt_or_eq.1 ho with h | rfl
            · exact HF.out o h
            · rw [← HX.out.2]; exact h0)
          have HAP := Lib.hid (app_run appI ((List.range k).map (valK K)) x.v k (by simp) (by omega) (U.alloc (.cells #[.int .i64 x.v] 3)) w3.heap.size U.heap.size _ (HO.out.alloc _) (by have := hbw.size; simp; omega) (one_cell rfl (by simp [go_sem])))
          have HRG : Hid ((List.range k).map (valK K) ++ [x.v] = (List.range (k + 1)).map (valK K)) := Lib.hid (by rw [List.range_succ, List.map_append, HX.out.1]; rfl)
          rw [HRG.out] at HAP
          have hxf : x.f = 0 := h0
          clear h0
          go_wp2_with (at_builtin; refine wpList_app rfl (.tmp 29) (.tmp 34) 26 rfl _ _ rfl rfl HAP.out ?_; rintro v5 W5 ⟨hown5, hbel5⟩; obtain ⟨A5, c5, rfl, -, -⟩ := row_form hown5; have HO5 := Lib.hid hown5; have hB5 : Below w3.heap.size w3 W5 := Below.low (Below.allocS hbw _) hbel5 (Nat.le_refl _); clear hown5 hbel5)
          go_roundw
          case rel => exact ⟨k + 1, _, rfl, by omega, by go_num, HF1.out, HO5.out, hB5⟩
          case measure => simp [intOf]; omega
        · have d1 : ((x.f : Int) != 0) = true := by simp; omega
          have HE := Lib.hid (habE_8 HVD.out HSE.out (fun hj => h0 (by rw [HX.out.2]; exact (joinE_iff HSP.out).2 hj k hlt)))
          have HR := Lib.hid (habR_nil (n := (n : Int)) (l := l) (by rw [HE.out]; omega))
          clear h0
          go_wp2
          go_ret2
          rw [HE.out, HR.out]
          exact ⟨⟨none, 0, rfl, RdL.nil⟩, Below.step g3 hbw⟩
      · obtain rfl : k = n := by omega
        have u1 : decide ((k : Int) < (k : Int)) = false := decide_eq_false (by omega)
        have HE := Lib.hid (habE_0 HVD.out HSE.out ((joinE_iff HSP.out).1 HF.out))
        have HR := Lib.hid (habR_eq HD.out HE.out HSP.out HS.out HF.out)
        have HRL : Hid ((habR (k : Int) l).length = k) := Lib.hid (by rw [HR.out]; simp)
        have HRD : Hid (RdL U U.heap.size inE 1 A7 (habR (k : Int) l)) := Lib.hid (by rw [HR.out]; exact RdL.of_own (enc := inE) (fun _ => rfl) HO.out (by simp))
        go_wp2
        go_ret2
        rw [HRL.out, HE.out]
        exact ⟨⟨A7, c7, rfl, HRD.out⟩, Below.step g3 hbw⟩
end Go.Proofs.Ytomgaiokmdcjmaa
namespace Go.Proofs.Ytomgaiokmdcjmaa
open Go.RowKit Go.Deep
set_option linter.unusedVariables false
set_option linter.unusedSimpArgs false
theorem okS_no {n : Int} {s : Sg} (h : s.a < 0 ∨ n ≤ s.a ∨ s.b < 0 ∨ n ≤ s.b ∨ s.a = s.b ∨ s.lo ≠ s.hi ∨ s.lo < -1000000 ∨ 1000000 < s.lo) : okS n s = false := by
  unfold okS within
  simp only [Bool.and_eq_false_iff, decide_eq_false_iff_not]
  omega
theorem okS_yes {n : Int} {s : Sg} (h1 : ¬ s.a < 0) (h2 : ¬ n ≤ s.a) (h3 : ¬ s.b < 0) (h4 : ¬ n ≤ s.b) (h5 : ¬ s.a = s.b) (h6 : s.lo = s.hi) (h7 : ¬ s.lo < -1000000) (h8 : ¬ 1000000 < s.lo) : okS n s = true := by
  unfold okS within
  simp only [Bool.and_eq_true, decide_eq_true_eq]
  omega
theorem vdB_no {n : Int} {l : List Sg} (h : n < 1 ∨ 8 < n ∨ 30 < l.length) : vdB n l = false := by
  unfold vdB within
  simp only [Bool.and_eq_false_iff, decide_eq_false_iff_not]
  omega
theorem vdB_at {n : Int} {l : List Sg} {k : Nat} (hk : k < l.length) (h : okS n (l.getD k sg0) = false) : vdB n l = false := by
  unfold vdB
  have : l.all (okS n) = false := by
    rw [List.all_eq_false]
    exact ⟨_, sg_mem hk, by rw [h]; simp⟩
  rw [this, Bool.and_false, Bool.and_false]
theorem vdB_yes {n : Int} {l : List Sg} (h1 : ¬ n < 1) (h2 : ¬ 8 < n) (h3 : ¬ 30 < l.length) (h : ∀ j, j < l.length → okS n (l.getD j sg0) = true) : vdB n l = true := by
  unfold vdB within
  simp only [Bool.and_eq_true, decide_eq_true_eq, List.all_eq_true]
  refine ⟨by omega, by omega, fun s hs => ?_⟩
  obtain ⟨i, hi, rfl⟩ := List.mem_iff_getElem.1 hs
  have := h i hi
  rwa [List.getD_eq_getElem?_getD, List.getElem?_eq_getElem hi] at this
def seenE (n : Int) (l : List Sg) : Int := if vdB n l = true then 0 else 7
theorem seenE_no {n : Int} {l : List Sg} (h : vdB n l = false) : seenE n l = 7 := by unfold seenE; rw [h]; rfl
theorem seenE_yes {n : Int} {l : List Sg} (h : vdB n l = true) : seenE n l = 0 := by unfold seenE; rw [h]; rfl
set_option maxHeartbeats 4000000 in
theorem seen_c (n : Int) (l : List Sg) (A : Option Addr) (cap : Nat) (hl : l.length ≤ 9223372036854775807) (w : World) (hr : RdL w w.heap.size sgE 5 A l) :
    Calls Try.prog 81 #[.int .i64 n, .slice A l.length cap] w fun e w' => e = .returned (.int .i64 (seenE n l)) ∧ Below w.heap.size w w' := by
  have HR := Lib.hid hr
  have HNO := Lib.hid (fun h => seenE_no (@vdB_no n l h))
  have HAT := Lib.hid (fun (k : Nat) hk h => seenE_no (@vdB_at n l k hk h))
  have HYES := Lib.hid (fun h1 h2 h3 h => seenE_yes (@vdB_yes n l h1 h2 h3 h))
  obtain ⟨m, hm⟩ : ∃ m, m = l.length := ⟨_, rfl⟩
  have HM := Lib.hid hm
  rw [← hm] at hl HNO HAT HYES ⊢
  clear hr hm
  generalize seenE n l = V at *
  by_cases b0 : n < 1
  case pos =>
    have d0 : decide (n < 1) = true := decide_eq_true (by omega)
    have HB := Lib.hid (show V = 7 from HNO.out (by omega))
    clear b0
    go_enter Try.func81, Try.ntmps81
    go_wp2
    go_ret
    exact ⟨by rw [HB.out]; rfl, by (repeat (first | (with_reducible exact Below.refl _ _) | (with_reducible assumption) | (with_reducible refine Below.drew ?_) | (with_reducible refine Below.allocS ?_ _) | (with_reducible refine Below.setCell ?_ ?_ _) | (with_reducible refine Below.step ?_ (by assumption)) | (with_reducible refine Below.drewN' ?_ _))); (try any_goals (first | (with_reducible assumption) | (simp; done) | (simp; omega) | omega))⟩
  have d0 : decide (n < 1) = false := decide_eq_false (by omega)
  by_cases b1 : 8 < n
  case pos =>
    have d1 : decide (n > 8) = true := decide_eq_true (by omega)
    have e1 : decide (8 < n) = true := decide_eq_true (by omega)
    have HB := Lib.hid (show V = 7 from HNO.out (by omega))
    clear b0 b1
    go_enter Try.func81, Try.ntmps81
    go_wp2
    go_ret
    exact ⟨by rw [HB.out]; rfl, by (repeat (first | (with_reducible exact Below.refl _ _) | (with_reducible assumption) | (with_reducible refine Below.drew ?_) | (with_reducible refine Below.allocS ?_ _) | (with_reducible refine Below.setCell ?_ ?_ _) | (with_reducible refine Below.step ?_ (by assumption)) | (with_reducible refine Below.drewN' ?_ _))); (try any_goals (first | (with_reducible assumption) | (simp; done) | (simp; omega) | omega))⟩
  have d1 : decide (n > 8) = false := decide_eq_false (by omega)
  have e1 : decide (8 < n) = false := decide_eq_false (by omega)
  by_cases b2 : 30 < m
  case pos =>
    have d2 : decide ((m : Int) > 30) = true := decide_eq_true (by omega)
    have e2 : decide (30 < (m : Int)) = true := decide_eq_true (by omega)
    have HB := Lib.hid (show V = 7 from HNO.out (by omega))
    clear b0 b1 b2
    go_enter Try.func81, Try.ntmps81
    go_wp2
    go_ret
    exact ⟨by rw [HB.out]; rfl, by (repeat (first | (with_reducible exact Below.refl _ _) | (with_reducible assumption) | (with_reducible refine Below.drew ?_) | (with_reducible refine Below.allocS ?_ _) | (with_reducible refine Below.setCell ?_ ?_ _) | (with_reducible refine Below.step ?_ (by assumption)) | (with_reducible refine Below.drewN' ?_ _))); (try any_goals (first | (with_reducible assumption) | (simp; done) | (simp; omega) | omega))⟩
  have d2 : decide ((m : Int) > 30) = false := decide_eq_false (by omega)
  have e2 : decide (30 < (m : Int)) = false := decide_eq_false (by omega)
  have B0 := Lib.hid b0
  have B1 := Lib.hid b1
  have B2 := Lib.hid b2
  clear b0 b1 b2
  go_enter Try.func81, Try.ntmps81
  go_wp2
  go_loopw [20] (fun i wr => ∃ k : Nat, k ≤ m ∧ i = .int .i64 k ∧ (∀ j, j < k → okS n (l.getD j sg0) = true) ∧ Below w.heap.size w wr) (fun i _ => m - (intOf i).toNat)
  case atStart => exact ⟨0, Nat.zero_le _, rfl, fun j hj => absurd hj (Nat.not_lt_zero j), by (repeat (first | (with_reducible exact Below.refl _ _) | (with_reducible assumption) | (with_reducible refine Below.drew ?_) | (with_reducible refine Below.allocS ?_ _) | (with_reducible refine Below.setCell ?_ ?_ _) | (with_reducible refine Below.step ?_ (by assumption)) | (with_reducible refine Below.drewN' ?_ _))); (try any_goals (first | (with_reducible assumption) | (simp; done) | (simp; omega) | omega))⟩
  case round =>
    rename World => U
    obtain ⟨k, hk, rfl, hj, hbw⟩ := hrel
    have HJ := Lib.hid hj
    have yU := hbw.size
    clear hj
    by_cases hlt : k < m
    case neg =>
      obtain rfl : k = m := by omega
      have HB := Lib.hid (show V = 0 from HYES.out B0.out B1.out B2.out HJ.out)
      have u1 : decide ((k : Int) < (k : Int)) = false := decide_eq_false (by omega)
      go_wp2
      go_ret
      exact ⟨by rw [HB.out]; rfl, hbw⟩
    have u1 : decide ((k : Int) < (m : Int)) = true := decide_eq_true (by omega)
    have u3 : IntKind.i64.wrap ((k : Int) + 1) = (k : Int) + 1 := IntWalk.i64_in _ (by omega)
    obtain ⟨b, off, rfl, hb0, hch⟩ := sg_cells HR.out (by rw [← HM.out]; omega)
    obtain ⟨q0, q1, q2, q3, q4⟩ := hch U hbw k (by rw [← HM.out]; exact hlt)
    have HAT1 := Lib.hid (HAT.out k hlt)
    have HNO1 := Lib.hid (@okS_no n (l.getD k sg0))
    have HYS1 := Lib.hid (@okS_yes n (l.getD k sg0))
    have HJ1 := Lib.hid (show okS n (l.getD k sg0) = true → ∀ j, j < k + 1 → okS n (l.getD j sg0) = true from fun h j hj => by rcases Nat.lt_succ_iff_lt_or_eq.1 hj with h' | rfl; exact HJ.out j h'; exact h)
    have yb : b < U.heap.size := cell?_lt q0
    clear hch HAT HYES HJ
    generalize l.getD k sg0 = s at *
    by_cases a0 : s.a < 0
    case pos =>
      have d10 : decide (s.a < 0) = true := decide_eq_true (by omega)
      have HB := Lib.hid (show V = 7 from HAT1.out (HNO1.out (by omega)))
      clear a0
      go_wp2
      go_ret
      exact ⟨by rw [HB.out]; rfl, by (repeat (first | (with_reducible exact Below.refl _ _) | (with_reducible assumption) | (with_reducible refine Below.drew ?_) | (with_reducible refine Below.allocS ?_ _) | (with_reducible refine Below.setCell ?_ ?_ _) | (with_reducible refine Below.step ?_ (by assumption)) | (with_reducible refine Below.drewN' ?_ _))); (try any_goals (first | (with_reducible assumption) | (simp; done) | (simp; omega) | omega))⟩
    have d10 : decide (s.a < 0) = false := decide_eq_false (by omega)
    by_cases a1 : n ≤ s.a
    case pos =>
      have d11 : decide (s.a ≥ n) = true := decide_eq_true (by omega)
      have e11 : decide (n ≤ s.a) = true := decide_eq_true (by omega)
      have HB := Lib.hid (show V = 7 from HAT1.out (HNO1.out (by omega)))
      clear a0 a1
      go_wp2
      go_ret
      exact ⟨by rw [HB.out]; rfl, by (repeat (first | (with_reducible exact Below.refl _ _) | (with_reducible assumption) | (with_reducible refine Below.drew ?_) | (with_reducible refine Below.allocS ?_ _) | (with_reducible refine Below.setCell ?_ ?_ _) | (with_reducible refine Below.step ?_ (by assumption)) | (with_reducible refine Below.drewN' ?_ _))); (try any_goals (first | (with_reducible assumption) | (simp; done) | (simp; omega) | omega))⟩
    have d11 : decide (s.a ≥ n) = false := decide_eq_false (by omega)
    have e11 : decide (n ≤ s.a) = false := decide_eq_false (by omega)
    by_cases a2 : s.b < 0
    case pos =>
      have d12 : decide (s.b < 0) = true := decide_eq_true (by omega)
      have HB := Lib.hid (show V = 7 from HAT1.out (HNO1.out (by omega)))
      clear a0 a1 a2
      go_wp2
      go_ret
      exact ⟨by rw [HB.out]; rfl, by (repeat (first | (with_reducible exact Below.refl _ _) | (with_reducible assumption) | (with_reducible refine Below.drew ?_) | (with_reducible refine Below.allocS ?_ _) | (with_reducible refine Below.setCell ?_ ?_ _) | (with_reducible refine Below.step ?_ (by assumption)) | (with_reducible refine Below.drewN' ?_ _))); (try any_goals (first | (with_reducible assumption) | (simp; done) | (simp; omega) | omega))⟩
    have d12 : decide (s.b < 0) = false := decide_eq_false (by omega)
    by_cases a3 : n ≤ s.b
    case pos =>
      have d13 : decide (s.b ≥ n) = true := decide_eq_true (by omega)
      have e13 : decide (n ≤ s.b) = true := decide_eq_true (by omega)
      have HB := Lib.hid (show V = 7 from HAT1.out (HNO1.out (by omega)))
      clear a0 a1 a2 a3
      go_wp2
      go_ret
      exact ⟨by rw [HB.out]; rfl, by (repeat (first | (with_reducible exact Below.refl _ _) | (with_reducible assumption) | (with_reducible refine Below.drew ?_) | (with_reducible refine Below.allocS ?_ _) | (with_reducible refine Below.setCell ?_ ?_ _) | (with_reducible refine Below.step ?_ (by assumption)) | (with_reducible refine Below.drewN' ?_ _))); (try any_goals (first | (with_reducible assumption) | (simp; done) | (simp; omega) | omega))⟩
    have d13 : decide (s.b ≥ n) = false := decide_eq_false (by omega)
    have e13 : decide (n ≤ s.b) = false := decide_eq_false (by omega)
    by_cases a4 : s.a = s.b
    case pos =>
      have d14 : (s.a == s.b) = true := by simp; omega
      have HB := Lib.hid (show V = 7 from HAT1.out (HNO1.out (by omega)))
      clear a0 a1 a2 a3 a4
      go_wp2
      go_ret
      exact ⟨by rw [HB.out]; rfl, by (repeat (first | (with_reducible exact Below.refl _ _) | (with_reducible assumption) | (with_reducible refine Below.drew ?_) | (with_reducible refine Below.allocS ?_ _) | (with_reducible refine Below.setCell ?_ ?_ _) | (with_reducible refine Below.step ?_ (by assumption)) | (with_reducible refine Below.drewN' ?_ _))); (try any_goals (first | (with_reducible assumption) | (simp; done) | (simp; omega) | omega))⟩
    have d14 : (s.a == s.b) = false := by simp; omega
    by_cases a5 : s.lo ≠ s.hi
    case pos =>
      have d15 : (s.lo != s.hi) = true := by simp; omega
      have HB := Lib.hid (show V = 7 from HAT1.out (HNO1.out (by omega)))
      clear a0 a1 a2 a3 a4 a5
      go_wp2
      go_ret
      exact ⟨by rw [HB.out]; rfl, by (repeat (first | (with_reducible exact Below.refl _ _) | (with_reducible assumption) | (with_reducible refine Below.drew ?_) | (with_reducible refine Below.allocS ?_ _) | (with_reducible refine Below.setCell ?_ ?_ _) | (with_reducible refine Below.step ?_ (by assumption)) | (with_reducible refine Below.drewN' ?_ _))); (try any_goals (first | (with_reducible assumption) | (simp; done) | (simp; omega) | omega))⟩
    have d15 : (s.lo != s.hi) = false := by simp; omega
    by_cases a6 : s.lo < -1000000
    case pos =>
      have d16 : decide (s.lo < -1000000) = true := decide_eq_true (by omega)
      have HB := Lib.hid (show V = 7 from HAT1.out (HNO1.out (by omega)))
      clear a0 a1 a2 a3 a4 a5 a6
      go_wp2
      go_ret
      exact ⟨by rw [HB.out]; rfl, by (repeat (first | (with_reducible exact Below.refl _ _) | (with_reducible assumption) | (with_reducible refine Below.drew ?_) | (with_reducible refine Below.allocS ?_ _) | (with_reducible refine Below.setCell ?_ ?_ _) | (with_reducible refine Below.step ?_ (by assumption)) | (with_reducible refine Below.drewN' ?_ _))); (try any_goals (first | (with_reducible assumption) | (simp; done) | (simp; omega) | omega))⟩
    have d16 : decide (s.lo < -1000000) = false := decide_eq_false (by omega)
    by_cases a7 : 1000000 < s.lo
    case pos =>
      have d17 : decide (s.lo > 1000000) = true := decide_eq_true (by omega)
      have e17 : decide (1000000 < s.lo) = true := decide_eq_true (by omega)
      have HB := Lib.hid (show V = 7 from HAT1.out (HNO1.out (by omega)))
      clear a0 a1 a2 a3 a4 a5 a6 a7
      go_wp2
      go_ret
      exact ⟨by rw [HB.out]; rfl, by (repeat (first | (with_reducible exact Below.refl _ _) | (with_reducible assumption) | (with_reducible refine Below.drew ?_) | (with_reducible refine Below.allocS ?_ _) | (with_reducible refine Below.setCell ?_ ?_ _) | (with_reducible refine Below.step ?_ (by assumption)) | (with_reducible refine Below.drewN' ?_ _))); (try any_goals (first | (with_reducible assumption) | (simp; done) | (simp; omega) | omega))⟩
    have d17 : decide (s.lo > 1000000) = false := decide_eq_false (by omega)
    have e17 : decide (1000000 < s.lo) = false := decide_eq_false (by omega)
    have HB := Lib.hid (HJ1.out (HYS1.out a0 a1 a2 a3 a4 (by omega) a6 a7))
    clear a0 a1 a2 a3 a4 a5 a6 a7
    go_wp2
    go_roundw
    case rel => exact ⟨k + 1, by omega, by go_num, HB.out, by (repeat (first | (with_reducible exact Below.refl _ _) | (with_reducible assumption) | (with_reducible refine Below.drew ?_) | (with_reducible refine Below.allocS ?_ _) | (with_reducible refine Below.setCell ?_ ?_ _) | (with_reducible refine Below.step ?_ (by assumption)) | (with_reducible refine Below.drewN' ?_ _))); (try any_goals (first | (with_reducible assumption) | (simp; done) | (simp; omega) | omega))⟩
    case measure => simp [intOf]; omega
end Go.Proofs.Ytomgaiokmdcjmaa
namespace Go.Proofs.Ytomgaiokmdcjmaa
open Go.RowKit Go.Deep
set_option linter.unusedVariables false
set_option linter.unusedSimpArgs false
/-- A row of numbers of the call's own. -/
structure ArN (W : World) (base g n : Nat) (f : Nat → Int) : Prop where
  ge : base ≤ g
  lt : g < W.heap.size
  c : ∀ j, j < n → W.cell? ⟨g, j, none⟩ = some (.int .i64 (f j))
  fz : ∀ j, j < n → W.frozen? ⟨g, j, none⟩ = false
theorem ArN.step {W W' : World} {base g n : Nat} {f : Nat → Int} (h : ArN W base g n f) (hb : Below W.heap.size W W') : ArN W' base g n f :=
  ⟨h.ge, by have := hb.size; have := h.lt; omega, fun j hj => keep_cell hb (h.c j hj), fun j hj => keep_frozen hb h.lt (h.fz j hj)⟩
theorem ArN.put {W : World} {base g n : Nat} {f f' : Nat → Int} (h : ArN W base g n f) {k : Nat} {v : Int} (hf : ∀ j, j < n → f' j = if j = k then v else f j) : ArN (W.setCell ⟨g, k, none⟩ (.int .i64 v)) base g n f' := by
  refine ⟨h.ge, by simpa using h.lt, fun j hj => ?_, fun j hj => by rw [World.frozen?_setCell]; exact h.fz j hj⟩
  rw [hf j hj]
  by_cases e : j = k
  · subst e; rw [if_pos rfl]; exact World.cell?_setCell_same _ _ _ (h.c j hj)
  · rw [if_neg e, World.cell?_setCell_other _ _ _ _ (by intro e'; injection e' with e1 e2; omega)]; exact h.c j hj
theorem ArN.other {W : World} {base g n : Nat} {f : Nat → Int} (h : ArN W base g n f) {b o : Nat} {v : Value} (hne : b ≠ g) : ArN (W.setCell ⟨b, o, none⟩ v) base g n f := by
  refine ⟨h.ge, by simpa using h.lt, fun j hj => ?_, fun j hj => by rw [World.frozen?_setCell]; exact h.fz j hj⟩
  rw [World.cell?_setCell_other _ _ _ _ (by intro e'; injection e' with e1 e2; omega)]; exact h.c j hj
theorem made_at (n j : Nat) (hj : j < n) : (madeCells #[.int .i64 0] n)[j]? = some (.int .i64 0) := by
  have := toList_madeCells_one (.int .i64 0) n
  rw [← Array.getElem?_toList, this, List.getElem?_replicate, if_pos hj]
theorem ArN.made {W : World} {base n : Nat} (hb : base ≤ W.heap.size) : ArN (W.alloc (.cells (madeCells #[.int .i64 0] n) 3)) base W.heap.size n (fun _ => 0) :=
  ⟨hb, by simp, fun j hj => by rw [World.cell?_alloc_new]; exact made_at n j hj, fun j hj => World.frozen?_alloc_new W _ _ _⟩
theorem two_made (w : World) (n : Nat) : ArN ((w.alloc (.cells (madeCells #[.int .i64 0] n) 3)).alloc (.cells (madeCells #[.int .i64 0] n) 3)) w.heap.size w.heap.size n (fun _ => 0) ∧ ArN ((w.alloc (.cells (madeCells #[.int .i64 0] n) 3)).alloc (.cells (madeCells #[.int .i64 0] n) 3)) w.heap.size (w.heap.size + 1) n (fun _ => 0) := by
  refine ⟨(ArN.made (Nat.le_refl _)).step (Below.allocS (Below.refl _ _) _), ?_⟩
  have := @ArN.made (w.alloc (.cells (madeCells #[.int .i64 0] n) 3)) w.heap.size n (by simp)
  simpa using this
theorem info_int : ∃ i : TypeInfo, Try.prog.info? 3 = some i ∧ i.zero = some (.int .i64 0) ∧ i.size = 1 ∧ i.bytes = 8 := by
  have h : (Try.prog.info? 3).map (fun i => (i.zero, i.size, i.bytes)) = some (some (.int .i64 0), 1, 8) := by kernel_rfl
  cases hi : Try.prog.info? 3 with
  | none => rw [hi] at h; cases h
  | some i =>
    rw [hi] at h
    simp at h
    exact ⟨i, rfl, h.1, h.2.1, h.2.2⟩
theorem make_int (n : Nat) (hn : n ≤ 100) (W : World) : (Instr.makeSlice 26 (.int .i64 n) (.int .i64 n)).run Try.prog W = .ok (.slice (some ⟨W.heap.size, 0, none⟩) n n) (W.alloc (.cells (madeCells #[.int .i64 0] n) 3)) := by
  obtain ⟨i, h1, h2, h3, h4⟩ := info_int
  have h := run_make (P := Try.prog) W 26 3 i (.int .i64 0) appI.ht h1 h2 .i64 .i64 n n (by omega) (Int.le_refl _) (by rw [h4]; omega) (by omega)
  rw [h, h3, Nat.mul_one, Int.toNat_natCast]
  rfl
/-- The group of an observer: -1 if there is none. -/
def gN (K : Nat → Option Hb) (o : Nat) : Int := match K o with | some h => (h.f : Int) | none => -1
theorem gN_none {K : Nat → Option Hb} {o : Nat} (h : K o = none) : gN K o = -1 := by unfold gN; rw [h]
theorem gN_some {K : Nat → Option Hb} {o : Nat} {x : Hb} (h : K o = some x) : gN K o = (x.f : Int) := by unfold gN; rw [h]
theorem gN_neg {K : Nat → Option Hb} {o : Nat} : gN K o < 0 ↔ K o = none := by
  cases h : K o with
  | none => rw [gN_none h]; simp
  | some x => rw [gN_some h]; simp
theorem gN_eq {K : Nat → Option Hb} {o k : Nat} : gN K o = (k : Int) ↔ ∃ h, K o = some h ∧ h.f = k := by
  cases h : K o with
  | none => rw [gN_none h]; simp; try omega
  | some x => rw [gN_some h]; simp; try omega
theorem gN_upd (K : Nat → Option Hb) (k : Nat) (h : Hb) (j : Nat) : gN (upd K k h) j = if j = k then (h.f : Int) else gN K j := by
  by_cases e : j = k
  · subst e; rw [if_pos rfl, gN_some (upd_same _ _ _)]
  · rw [if_neg e]; unfold gN; rw [upd_other h e]
theorem valK_upd (K : Nat → Option Hb) (k : Nat) (h : Hb) (j : Nat) : valK (upd K k h) j = if j = k then h.v else valK K j := by
  by_cases e : j = k
  · subst e; rw [if_pos rfl]; unfold valK; rw [upd_same]
  · rw [if_neg e]; unfold valK; rw [upd_other h e]
theorem two_put {W : World} {base H G n : Nat} {K : Nat → Option Hb} (hH : ArN W base H n (valK K)) (hG : ArN W base G n (gN K)) (hne : H ≠ G) (b : Nat) (h : Hb) :
    (ArN ((W.setCell ⟨G, b, none⟩ (.int .i64 h.f)).setCell ⟨H, b, none⟩ (.int .i64 h.v)) base H n (valK (upd K b h)) ∧ ArN ((W.setCell ⟨G, b, none⟩ (.int .i64 h.f)).setCell ⟨H, b, none⟩ (.int .i64 h.v)) base G n (gN (upd K b h))) ∧
    ArN ((W.setCell ⟨H, b, none⟩ (.int .i64 h.v)).setCell ⟨G, b, none⟩ (.int .i64 h.f)) base H n (valK (upd K b h)) ∧ ArN ((W.setCell ⟨H, b, none⟩ (.int .i64 h.v)).setCell ⟨G, b, none⟩ (.int .i64 h.f)) base G n (gN (upd K b h)) :=
  ⟨⟨(hH.other (fun e => hne e.symm)).put (fun j _ => valK_upd K b h j), (hG.put (fun j _ => gN_upd K b h j)).other hne⟩, ⟨(hH.put (fun j _ => valK_upd K b h j)).other (fun e => hne e.symm), (hG.other hne).put (fun j _ => gN_upd K b h j)⟩⟩
/-- The search of the reference from `first`, K0 known ahead, K1 with the first one. -/
structure Fx (l : List Sg) (n first : Nat) (K0 K1 K : Nat → Option Hb) : Prop where
  inv : HInv l n K
  ext : ∀ o h, K1 o = some h → K o = some h
  new : ∀ o h, K o = some h → K0 o = none → h.f = first
  e0 : ∀ o h, K0 o = some h → K1 o = some h
theorem Fx.step {l : List Sg} {n first : Nat} (hv : VdP n l) (hf : first < n) {K0 K1 K : Nat → Option Hb} (h : Fx l n first K0 K1 K) {k : Nat} (hk : k < 2 * l.length) {x : Hb} (hx : K (frN l k) = some x) (hxf : x.f = first) (h2 : K (toN l k) = none) :
    Fx l n first K0 K1 (upd K (toN l k) ⟨x.v + tkV l k, first, ⟨none, 0, x.s.xs ++ [k]⟩⟩) ∧ cntK (upd K (toN l k) ⟨x.v + tkV l k, first, ⟨none, 0, x.s.xs ++ [k]⟩⟩) n = cntK K n + 1 := by
  have hb := tk_bd hv hk
  have hcnt := cntK_put ⟨x.v + tkV l k, first, ⟨none, 0, x.s.xs ++ [k]⟩⟩ h2 n hb.2.2.2.1
  obtain ⟨hx1, hx2, hx3, hx4⟩ := h.inv.dom _ _ hx
  refine ⟨⟨⟨fun o y hy => ?_⟩, fun o y hy => ?_, fun o y hy h0 => ?_, h.e0⟩, hcnt⟩
  · by_cases hot : o = toN l k
    · subst hot
      rw [upd_same] at hy
      cases hy
      refine ⟨hb.2.2.2.1, hf, ?_, by rw [hcnt]; simp; omega⟩
      rw [hxf] at hx3
      exact Pth.snoc hx3 hk rfl
    · rw [upd_other _ hot] at hy
      obtain ⟨a1, a2, a3, a4⟩ := h.inv.dom _ _ hy
      exact ⟨a1, a2, a3, by omega⟩
  · rw [upd_other _ (fun e => by subst e; rw [h.ext _ _ hy] at h2; cases h2)]; exact h.ext _ _ hy
  · by_cases hot : o = toN l k
    · subst hot; rw [upd_same] at hy; cases hy; rfl
    · rw [upd_other _ hot] at hy; exact h.new _ _ hy h0
/-- A difference changes nothing. -/
def QJ (l : List Sg) (first : Nat) (K : Nat → Option Hb) (j : Nat) : Prop := ¬ (gN K (toN l (2 * j)) = (first : Int) ∧ gN K (frN l (2 * j)) < 0) ∧ ¬ (gN K (frN l (2 * j)) = (first : Int) ∧ gN K (toN l (2 * j)) < 0)
theorem bk_fr (l : List Sg) (k : Nat) : frN l (bk k) = toN l k ∧ toN l (bk k) = frN l k := by
  have := bk_tk l k
  unfold frN toN
  rw [this.1, this.2.1]
  exact ⟨rfl, rfl⟩
theorem odd_tk (l : List Sg) (j : Nat) : frN l (2 * j + 1) = toN l (2 * j) ∧ toN l (2 * j + 1) = frN l (2 * j) ∧ tkV l (2 * j + 1) = - tkV l (2 * j) := by
  have e : bk (2 * j) = 2 * j + 1 := by unfold bk; rw [if_pos (by omega)]
  have h1 := bk_fr l (2 * j)
  have h2 := (bk_tk l (2 * j)).2.2
  rw [e] at h1 h2
  exact ⟨h1.1, h1.2, h2⟩
theorem quiet_all {l : List Sg} {first : Nat} {K : Nat → Option Hb} (h : ∀ j, j < l.length → QJ l first K j) {k : Nat} (hk : k < 2 * l.length) {x : Hb} (hx : K (frN l k) = some x) (hf : x.f = first) : K (toN l k) ≠ none := by
  intro hn
  have hq := h (k / 2) (by omega)
  have ho := odd_tk l (k / 2)
  rcases Nat.mod_two_eq_zero_or_one k with e | e
  · have e2 : 2 * (k / 2) = k := by omega
    rw [QJ, e2] at hq
    exact hq.2 ⟨gN_eq.2 ⟨x, hx, hf⟩, gN_neg.2 hn⟩
  · have e2 : 2 * (k / 2) + 1 = k := by omega
    rw [e2] at ho
    rw [QJ, ← ho.1, ← ho.2.1] at hq
    exact hq.1 ⟨gN_eq.2 ⟨x, hx, hf⟩, gN_neg.2 hn⟩
/-- In front of the k-th observer. -/
structure RO (l : List Sg) (n k : Nat) (K : Nat → Option Hb) : Prop where
  ok : HOk l n K
  all : ∀ o, o < k → K o ≠ none
  lt : ∀ o h, K o = some h → h.f < k
  z1 : 1 ≤ k → K 0 = some ⟨0, 0, sl0⟩
theorem Fx.done {l : List Sg} {n k : Nat} (hv : VdP n l) {K0 K1 K : Nat → Option Hb} (h : Fx l n k K0 K1 K) (h0 : RO l n k K0) (h1 : K1 k ≠ none) (hz : k = 0 → K1 0 = some ⟨0, 0, sl0⟩) (hq : ∀ j, j < l.length → QJ l k K j) : RO l n (k + 1) K := by
  have ext : ∀ o y, K0 o = some y → K o = some y := fun o y hy => h.ext _ _ (h.e0 _ _ hy)
  have hdn : ∀ j, j < 2 * l.length → ∀ x, K (frN l j) = some x → K (toN l j) ≠ none := fun j hj x hx hc => by
    cases h3 : K0 (frN l j) with
    | none => exact quiet_all hq hj hx (h.new _ _ hx h3) hc
    | some y =>
      cases h4 : K0 (toN l j) with
      | none => exact h0.ok.cl j hj (by rw [h3]; simp) h4
      | some z => rw [ext _ _ h4] at hc; cases hc
  refine ⟨⟨h.inv, fun j hj hx => ?_, fun j hj x y hx hy => ?_⟩, fun o ho => ?_, fun o x hx => ?_, fun _ => ?_⟩
  · cases h3 : K (frN l j) with
    | none => exact absurd h3 hx
    | some x => exact hdn j hj x h3
  · have hbk := bk_fr l j
    cases h3 : K0 (frN l j) with
    | none =>
      cases h4 : K0 (toN l j) with
      | none => rw [h.new _ _ hx h3, h.new _ _ hy h4]
      | some z =>
        exfalso
        exact h0.ok.cl (bk j) (bk_lt hj) (by rw [hbk.1, h4]; simp) (by rw [hbk.2]; exact h3)
    | some y' =>
      cases h4 : K0 (toN l j) with
      | none => exact absurd h4 (h0.ok.cl j hj (by rw [h3]; simp))
      | some z' =>
        have e1 := ext _ _ h3
        have e2 := ext _ _ h4
        rw [e1] at hx
        rw [e2] at hy
        cases hx
        cases hy
        exact h0.ok.sm j hj _ _ h3 h4
  · rcases Nat.lt_succ_iff_lt_or_eq.1 ho with h3 | rfl
    · cases h4 : K0 o with
      | none => exact absurd h4 (h0.all o h3)
      | some y => rw [ext _ _ h4]; simp
    · cases h4 : K1 o with
      | none => exact absurd h4 h1
      | some y => rw [h.ext _ _ h4]; simp
  · cases h4 : K0 o with
    | none => rw [h.new _ _ hx h4]; omega
    | some y =>
      have := ext _ _ h4
      rw [this] at hx
      cases hx
      have := h0.lt _ _ h4
      omega
  · rcases Nat.eq_zero_or_pos k with e | e
    · exact h.ext _ _ (hz e)
    · exact ext _ _ (h0.z1 e)
theorem Fx.new1 {l : List Sg} {n k : Nat} {K0 : Nat → Option Hb} (h0 : RO l n k K0) (hk : k < n) (hn : K0 k = none) : Fx l n k K0 (upd K0 k ⟨0, k, sl0⟩) (upd K0 k ⟨0, k, sl0⟩) :=
  have b := Bfs.start h0.ok hk hn
  ⟨b.inv, fun _ _ h => h, b.new, b.ext⟩
theorem Fx.old {l : List Sg} {n k : Nat} {K0 : Nat → Option Hb} (h0 : RO l n k K0) : Fx l n k K0 K0 K0 :=
  ⟨h0.ok.inv, fun _ _ h => h, fun o h hk hn => (by rw [hn] at hk; cases hk), fun _ _ h => h⟩
theorem RO.hall {l : List Sg} {n : Nat} {K : Nat → Option Hb} (h : RO l n n K) (hn : 1 ≤ n) : HAll l n K := ⟨h.ok, h.all, h.z1 hn⟩
end Go.Proofs.Ytomgaiokmdcjmaa
