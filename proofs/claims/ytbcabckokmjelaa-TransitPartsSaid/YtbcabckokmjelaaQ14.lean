/-
  The iterator over the pairs of sides.
-/
import Derived.Test.YtbcabckokmjelaaK5
import Derived.Test.YtbcabckokmjelaaRange
import Derived.Deep.DeepCutAuto
import Derived.Deep.RegionHeld3
namespace Go.Proofs.Ytbcabckokmjelaa
open Go.RowKit Go.Shelf Go.Deep
attribute [local go_sem] Oper.semAt_some
set_option linter.unusedVariables false
set_option linter.unusedSimpArgs false
def lvOf (s : Sp) : Int := if s.s < 0 then s.hi else s.lo
def uvOf (t : Sp) : Int := if t.s < 0 then t.lo else t.hi
def cellP (s t : Sp) : List (Sp × Sp) := if s.s ≠ 0 ∧ t.s ≠ 0 then [(s, t)] else []
def rowP (l : List Sp) (s : Sp) : List (Sp × Sp) := l.flatMap (cellP s)
def pairsOf (l : List Sp) : List (Sp × Sp) := l.flatMap (rowP l)
def encP (p : Sp × Sp) : Array Value := #[.agg #[.int .i64 (lvOf p.1), .int .i64 p.1.s], .agg #[.int .i64 (uvOf p.2), .int .i64 p.2.s]]
theorem take_flat {α β : Type} (f : α → List β) (l : List α) (k : Nat) (h : k < l.length) : (l.take (k + 1)).flatMap f = (l.take k).flatMap f ++ f l[k] := by
  rw [List.take_succ_eq_append_getElem h, List.flatMap_append]; simp
theorem flat_split {α β : Type} (f : α → List β) (l : List α) (k : Nat) (h : k < l.length) : l.flatMap f = (l.take k).flatMap f ++ (f l[k] ++ (l.drop (k + 1)).flatMap f) := by
  conv => lhs; rw [← List.take_append_drop k l]
  rw [List.flatMap_append, List.drop_eq_getElem_cons h, List.flatMap_cons]
theorem pairs_bd {l : List Sp} {k j : Nat} (hk : k < l.length) (hj : j < l.length) (h : l[k].s ≠ 0 ∧ l[j].s ≠ 0) :
    ((l.take k).flatMap (rowP l) ++ (l.take j).flatMap (cellP l[k])).length < (pairsOf l).length ∧ ((l.take k).flatMap (rowP l) ++ (l.take j).flatMap (cellP l[k])) ++ [(l[k], l[j])] <+: pairsOf l := by
  have e1 : pairsOf l = (l.take k).flatMap (rowP l) ++ ((l.take j).flatMap (cellP l[k]) ++ ([(l[k], l[j])] ++ (l.drop (j + 1)).flatMap (cellP l[k])) ++ (l.drop (k + 1)).flatMap (rowP l)) := by
    unfold pairsOf
    rw [flat_split (rowP l) l k hk]
    congr 1
    congr 1
    show l.flatMap (cellP l[k]) = _
    rw [flat_split (cellP l[k]) l j hj]
    congr 2
    unfold cellP
    rw [if_pos h]
  constructor
  · rw [e1]; simp
  · rw [e1]
    exact ⟨(l.drop (j + 1)).flatMap (cellP l[k]) ++ (l.drop (k + 1)).flatMap (rowP l), by simp [List.append_assoc]⟩
theorem pre_get {l pre : List (Sp × Sp)} {x d : Sp × Sp} (h : pre ++ [x] <+: l) : l.getD pre.length d = x := by
  obtain ⟨m, rfl⟩ := h
  simp
set_option maxHeartbeats 4000000 in
set_option maxRecDepth 100000 in
theorem sides_stops (l : List Sp) (n0 : Nat) (hln : l.length = n0) (hn : n0 ≤ 1000) (A : Option Addr) (cap lo hi bl : Nat) (w : World) (hlo : lo ≤ w.heap.size) (hbl : hi ≤ bl) (hbl' : bl < w.heap.size)
    (cl : w.cell? ⟨bl, 0, none⟩ = some (.slice A n0 cap)) (hr : RdL w lo stE 3 A l) :
    SeqB Try.prog 117 #[.pointer (some ⟨bl, 0, none⟩)] (fun i => encP ((pairsOf l).getD i (⟨0, 0, 0⟩, ⟨0, 0, 0⟩))) (fun xs => xs = List.range (pairsOf l).length) (fun pre => True) (pairsOf l).length lo hi w := by
  intro n l0 J0 Jx W hW hJ0 hJx hY h00
  obtain ⟨J, hJe⟩ : ∃ J : List (Sp × Sp) → World → Prop, J = fun xs W => J0 (List.range xs.length) W := ⟨_, rfl⟩
  have HJE := Lib.hid (show ∀ xs X, J xs X ↔ J0 (List.range xs.length) X from fun xs X => by rw [hJe])
  have hJ : ∀ s A A', J s A → Below W.heap.size A A' → J s A' := fun s A A' h hb => (HJE.out _ _).2 (hJ0 _ _ _ ((HJE.out _ _).1 h) hb)
  have h0 : J [] W := (HJE.out _ _).2 h00
  clear hJe hJ0 h00
  refine callsIn_of_wp Try.func117 rfl trivial ?_ rfl
  simp only [Try.ntmps117, List.size_toArray, List.length_cons, List.length_nil, Nat.reduceAdd, Nat.reduceSub, Array.replicate_succ, Array.replicate_zero, List.push_toArray, List.append_toArray, List.nil_append, List.cons_append]
  have hmo : Try.prog.follows Departure.mixedOrders = true := by kernel_rfl
  have k0 := (hW.cell (p := ⟨bl, 0, none⟩) hbl').trans cl
  have yl : bl < W.heap.size := Nat.lt_of_lt_of_le hbl' hW.size
  have yo : lo ≤ W.heap.size := Nat.le_trans hlo hW.size
  have yh : hi ≤ W.heap.size := by omega
  have HR := Lib.hid hr
  have HN := Lib.hid hln
  clear hr cl hln
  gi_wp2
  gi_loopw [11] (fun i wr => ∃ (k : Nat), k ≤ n0 ∧ i = .int .i64 k ∧ J ((l.take k).flatMap (rowP l)) wr ∧ KB lo hi W wr) (fun i _ => n0 - (intOf i).toNat)
  case atStart => exact ⟨0, Nat.zero_le _, rfl, h0, KB.refl _ _ _⟩
  case round =>
    rename World => V
    obtain ⟨k, hk, rfl, hj, hkb⟩ := hrel
    have HJ := Lib.hid hj
    clear hj
    have hsz := hkb.size
    have kl := (World.cell?_of_block (a := ⟨bl, 0, none⟩) (hkb.block bl yl (Or.inr hbl))).trans k0
    have yl2 : bl < V.heap.size := by omega
    by_cases hlt : k < n0
    · have hltl : k < l.length := by rw [HN.out]; exact hlt
      obtain ⟨b, off, rfl, hb0, hc⟩ := HR.out (by omega)
      have HC := Lib.hid hc
      have e0 := (World.cell?_of_block (a := ⟨b, _, none⟩) (hkb.block b (by omega) (Or.inl hb0))).trans ((hW.cell (p := ⟨b, _, none⟩) (by show b < _; omega)).trans (hc k hltl 0 _ rfl))
      have e1 := (World.cell?_of_block (a := ⟨b, _, none⟩) (hkb.block b (by omega) (Or.inl hb0))).trans ((hW.cell (p := ⟨b, _, none⟩) (by show b < _; omega)).trans (hc k hltl 1 _ rfl))
      have e2 := (World.cell?_of_block (a := ⟨b, _, none⟩) (hkb.block b (by omega) (Or.inl hb0))).trans ((hW.cell (p := ⟨b, _, none⟩) (by show b < _; omega)).trans (hc k hltl 2 _ rfl))
      clear hc
      simp at e0
      have yb : b < V.heap.size := by omega
      have HT := Lib.hid (take_flat (rowP l) l k hltl)
      have HBD := Lib.hid (fun j (h : j < l.length) => pairs_bd hltl h)
      generalize l[k] = s at *
      gi_wp2
      obtain ⟨W1, hW1⟩ : ∃ W, W = V.alloc (.cells #[.int .i64 s.s, .int .i64 s.lo, .int .i64 s.hi] 99) := ⟨_, rfl⟩
      have t0 : W1.cell? ⟨V.heap.size, 0, none⟩ = some (.int .i64 s.s) := by rw [hW1]; simp [go_sem]
      have t1 : W1.cell? ⟨V.heap.size, 1, none⟩ = some (.int .i64 s.lo) := by rw [hW1]; simp [go_sem]
      have t2 : W1.cell? ⟨V.heap.size, 2, none⟩ = some (.int .i64 s.hi) := by rw [hW1]; simp [go_sem]
      have g1 : Below V.heap.size V W1 := by rw [hW1]; (repeat (first | exact Below.refl _ _ | refine Below.drew ?_ | refine Below.allocS ?_ _ | refine Below.step ?_ (by assumption) | refine Below.setCell ?_ (by simp <;> omega) _ | refine Below.drewN' ?_ _))
      have hs1 : W1.heap.size = V.heap.size + 1 := by rw [hW1]; simp
      rw [← hW1]
      clear hW1 e0 e1 e2
      gi_loopw [17] (fun i wi => ∃ (j : Nat), j ≤ n0 ∧ i = .int .i64 j ∧ J ((l.take k).flatMap (rowP l) ++ (l.take j).flatMap (cellP s)) wi ∧ KB lo hi W1 wi) (fun i _ => n0 - (intOf i).toNat)
      case atStart => exact ⟨0, Nat.zero_le _, rfl, by simpa using hJ _ _ _ HJ.out (g1.mono hsz), KB.refl _ _ _⟩
      case round =>
        obtain ⟨j, hj, rfl, hji, hki⟩ := hrel
        have HJI := Lib.hid hji
        clear hji
        have hsi := hki.size
        have hyv : V.heap.size < W1.heap.size := by omega
        have q0 := (World.cell?_of_block (a := ⟨V.heap.size, 0, none⟩) (hki.block V.heap.size hyv (Or.inr (by omega)))).trans t0
        have q1 := (World.cell?_of_block (a := ⟨V.heap.size, 1, none⟩) (hki.block V.heap.size hyv (Or.inr (by omega)))).trans t1
        have q2 := (World.cell?_of_block (a := ⟨V.heap.size, 2, none⟩) (hki.block V.heap.size hyv (Or.inr (by omega)))).trans t2
        have hkw : KB lo hi W wr := (hkb.step g1).trans hki
        have yv : V.heap.size < wr.heap.size := by omega
        have yw : W.heap.size ≤ wr.heap.size := by omega
        by_cases hltj : j < n0
        · have hltl' : j < l.length := by rw [HN.out]; exact hltj
          have d0 := (World.cell?_of_block (a := ⟨b, _, none⟩) (hkw.block b (by omega) (Or.inl hb0))).trans ((hW.cell (p := ⟨b, _, none⟩) (by show b < _; omega)).trans (HC.out j hltl' 0 _ rfl))
          have d1 := (World.cell?_of_block (a := ⟨b, _, none⟩) (hkw.block b (by omega) (Or.inl hb0))).trans ((hW.cell (p := ⟨b, _, none⟩) (by show b < _; omega)).trans (HC.out j hltl' 1 _ rfl))
          have d2 := (World.cell?_of_block (a := ⟨b, _, none⟩) (hkw.block b (by omega) (Or.inl hb0))).trans ((hW.cell (p := ⟨b, _, none⟩) (by show b < _; omega)).trans (HC.out j hltl' 2 _ rfl))
          simp at d0
          have ybr : b < wr.heap.size := by omega
          have HT2 := Lib.hid (take_flat (cellP s) l j hltl')
          have HB2 := Lib.hid (fun h => HBD.out j hltl' h)
          generalize l[j] = t at *
          gi_wp2
          obtain ⟨WA, hWA⟩ : ∃ W, W = wr.alloc (.cells #[.int .i64 t.s, .int .i64 t.lo, .int .i64 t.hi] 99) := ⟨_, rfl⟩
          have gA : Below wr.heap.size wr WA := by rw [hWA]; (repeat (first | exact Below.refl _ _ | refine Below.drew ?_ | refine Below.allocS ?_ _ | refine Below.step ?_ (by assumption) | refine Below.setCell ?_ (by simp <;> omega) _ | refine Below.drewN' ?_ _))
          have sA : wr.heap.size < WA.heap.size := by rw [hWA]; simp
          have hP0 : ∀ X, Below WA.heap.size WA X → X.cell? ⟨V.heap.size, 0, none⟩ = some (.int .i64 s.s) := fun X h => keep_cell h (keep_cell gA q0)
          have hP1 : ∀ X, Below WA.heap.size WA X → X.cell? ⟨V.heap.size, 1, none⟩ = some (.int .i64 s.lo) := fun X h => keep_cell h (keep_cell gA q1)
          have hP2 : ∀ X, Below WA.heap.size WA X → X.cell? ⟨V.heap.size, 2, none⟩ = some (.int .i64 s.hi) := fun X h => keep_cell h (keep_cell gA q2)
          have hP3 : ∀ X, Below WA.heap.size WA X → X.cell? ⟨wr.heap.size, 0, none⟩ = some (.int .i64 t.s) := fun X h => keep_cell h (by rw [hWA]; simp [go_sem])
          have hP4 : ∀ X, Below WA.heap.size WA X → X.cell? ⟨wr.heap.size, 1, none⟩ = some (.int .i64 t.lo) := fun X h => keep_cell h (by rw [hWA]; simp [go_sem])
          have hP5 : ∀ X, Below WA.heap.size WA X → X.cell? ⟨wr.heap.size, 2, none⟩ = some (.int .i64 t.hi) := fun X h => keep_cell h (by rw [hWA]; simp [go_sem])
          rw [← hWA]
          clear hWA
          refine wpIn_wide.2 ?_
          go_cut [7, 8] (fun s7 s8 w2 => (∃ b7 b8 : Nat, s7 = .pointer (some ⟨b7, 0, none⟩) ∧ s8 = .pointer (some ⟨b8, 0, none⟩) ∧ b7 ≠ b8 ∧ WA.heap.size ≤ b7 ∧ WA.heap.size ≤ b8 ∧ w2.cell? ⟨b7, 0, none⟩ = some (.int .i64 s.lo) ∧ w2.cell? ⟨b7, 1, none⟩ = some (.int .i64 s.s) ∧ w2.cell? ⟨b8, 0, none⟩ = some (.int .i64 t.hi) ∧ w2.cell? ⟨b8, 1, none⟩ = some (.int .i64 t.s) ∧ w2.frozen? ⟨b7, 0, none⟩ = false ∧ w2.frozen? ⟨b8, 0, none⟩ = false) ∧ Below WA.heap.size WA w2)
          case first =>
            refine wp_region_held_drew (S := (fun X => Below WA.heap.size WA X)) (by kernel_rfl) ?_ (fun hHeld => ?_); (· exact Below.drew (Below.refl _ _))
            (first | (refine wpAnyH_take (i := 0) (oi := ⟨_, _, _, _, _, _⟩) (v := ?_) rfl (by kernel_rfl) (by kernel_rfl) (by kernel_rfl) (fun _ _ _ h => h) (Or.inl ⟨by rfl, ?_⟩) (by assumption) ?_; rotate_left 1; (· (intro w0 hSw; (try dsimp only at hSw); go_simp; (try with_reducible rfl)))) | (refine wpAnyH_take (i := 0) (oi := ⟨_, _, _, _, _, _⟩) (v := undef) rfl (by kernel_rfl) (by kernel_rfl) (by kernel_rfl) (fun _ _ _ h => h) (Or.inr ⟨by rfl, rfl⟩) (by assumption) ?_)); (try simp only [Act.put, List.setIfInBounds_toArray, List.set_cons_zero, List.set_cons_succ])
            (first | (refine wpAnyH_take (i := 1) (oi := ⟨_, _, _, _, _, _⟩) (v := ?_) rfl (by kernel_rfl) (by kernel_rfl) (by kernel_rfl) (fun _ _ _ h => h) (Or.inl ⟨by rfl, ?_⟩) (by assumption) ?_; rotate_left 1; (· (intro w0 hSw; (try dsimp only at hSw); go_simp; (try with_reducible rfl)))) | (refine wpAnyH_take (i := 1) (oi := ⟨_, _, _, _, _, _⟩) (v := undef) rfl (by kernel_rfl) (by kernel_rfl) (by kernel_rfl) (fun _ _ _ h => h) (Or.inr ⟨by rfl, rfl⟩) (by assumption) ?_)); (try simp only [Act.put, List.setIfInBounds_toArray, List.set_cons_zero, List.set_cons_succ])
            (first | (refine wpAnyH_take (i := 2) (oi := ⟨_, _, _, _, _, _⟩) (v := ?_) rfl (by kernel_rfl) (by kernel_rfl) (by kernel_rfl) (fun _ _ _ h => h) (Or.inl ⟨by rfl, ?_⟩) (by assumption) ?_; rotate_left 1; (· (intro w0 hSw; (try dsimp only at hSw); go_simp; (try with_reducible rfl)))) | (refine wpAnyH_take (i := 2) (oi := ⟨_, _, _, _, _, _⟩) (v := undef) rfl (by kernel_rfl) (by kernel_rfl) (by kernel_rfl) (fun _ _ _ h => h) (Or.inr ⟨by rfl, rfl⟩) (by assumption) ?_)); (try simp only [Act.put, List.setIfInBounds_toArray, List.set_cons_zero, List.set_cons_succ])
            (first | (refine wpAnyH_take (i := 3) (oi := ⟨_, _, _, _, _, _⟩) (v := ?_) rfl (by kernel_rfl) (by kernel_rfl) (by kernel_rfl) (fun _ _ _ h => h) (Or.inl ⟨by rfl, ?_⟩) (by assumption) ?_; rotate_left 1; (· (intro w0 hSw; (try dsimp only at hSw); go_simp; (try with_reducible rfl)))) | (refine wpAnyH_take (i := 3) (oi := ⟨_, _, _, _, _, _⟩) (v := undef) rfl (by kernel_rfl) (by kernel_rfl) (by kernel_rfl) (fun _ _ _ h => h) (Or.inr ⟨by rfl, rfl⟩) (by assumption) ?_)); (try simp only [Act.put, List.setIfInBounds_toArray, List.set_cons_zero, List.set_cons_succ])
            (first | (refine wpAnyH_take (i := 4) (oi := ⟨_, _, _, _, _, _⟩) (v := ?_) rfl (by kernel_rfl) (by kernel_rfl) (by kernel_rfl) (fun _ _ _ h => h) (Or.inl ⟨by rfl, ?_⟩) (by assumption) ?_; rotate_left 1; (· (intro w0 hSw; (try dsimp only at hSw); go_simp; (try with_reducible rfl)))) | (refine wpAnyH_take (i := 4) (oi := ⟨_, _, _, _, _, _⟩) (v := undef) rfl (by kernel_rfl) (by kernel_rfl) (by kernel_rfl) (fun _ _ _ h => h) (Or.inr ⟨by rfl, rfl⟩) (by assumption) ?_)); (try simp only [Act.put, List.setIfInBounds_toArray, List.set_cons_zero, List.set_cons_succ])
            (first | (refine wpAnyH_take (i := 5) (oi := ⟨_, _, _, _, _, _⟩) (v := ?_) rfl (by kernel_rfl) (by kernel_rfl) (by kernel_rfl) (fun _ _ _ h => h) (Or.inl ⟨by rfl, ?_⟩) (by assumption) ?_; rotate_left 1; (· (intro w0 hSw; (try dsimp only at hSw); go_simp; (try with_reducible rfl)))) | (refine wpAnyH_take (i := 5) (oi := ⟨_, _, _, _, _, _⟩) (v := undef) rfl (by kernel_rfl) (by kernel_rfl) (by kernel_rfl) (fun _ _ _ h => h) (Or.inr ⟨by rfl, rfl⟩) (by assumption) ?_)); (try simp only [Act.put, List.setIfInBounds_toArray, List.set_cons_zero, List.set_cons_succ])
            (first | (refine wpAnyH_take (i := 6) (oi := ⟨_, _, _, _, _, _⟩) (v := ?_) rfl (by kernel_rfl) (by kernel_rfl) (by kernel_rfl) (fun _ _ _ h => h) (Or.inl ⟨by rfl, ?_⟩) (by assumption) ?_; rotate_left 1; (· (intro w0 hSw; (try dsimp only at hSw); go_simp; (try with_reducible rfl)))) | (refine wpAnyH_take (i := 6) (oi := ⟨_, _, _, _, _, _⟩) (v := undef) rfl (by kernel_rfl) (by kernel_rfl) (by kernel_rfl) (fun _ _ _ h => h) (Or.inr ⟨by rfl, rfl⟩) (by assumption) ?_)); (try simp only [Act.put, List.setIfInBounds_toArray, List.set_cons_zero, List.set_cons_succ])
            (first | (refine wpAnyH_take (i := 7) (oi := ⟨_, _, _, _, _, _⟩) (v := ?_) rfl (by kernel_rfl) (by kernel_rfl) (by kernel_rfl) (fun _ _ _ h => h) (Or.inl ⟨by rfl, ?_⟩) (by assumption) ?_; rotate_left 1; (· (intro w0 hSw; (try dsimp only at hSw); go_simp; (try with_reducible rfl)))) | (refine wpAnyH_take (i := 7) (oi := ⟨_, _, _, _, _, _⟩) (v := undef) rfl (by kernel_rfl) (by kernel_rfl) (by kernel_rfl) (fun _ _ _ h => h) (Or.inr ⟨by rfl, rfl⟩) (by assumption) ?_)); (try simp only [Act.put, List.setIfInBounds_toArray, List.set_cons_zero, List.set_cons_succ])
            (first | (refine wpAnyH_take (i := 8) (oi := ⟨_, _, _, _, _, _⟩) (v := ?_) rfl (by kernel_rfl) (by kernel_rfl) (by kernel_rfl) (fun _ _ _ h => h) (Or.inl ⟨by rfl, ?_⟩) (by assumption) ?_; rotate_left 1; (· (intro w0 hSw; (try dsimp only at hSw); go_simp; (try with_reducible rfl)))) | (refine wpAnyH_take (i := 8) (oi := ⟨_, _, _, _, _, _⟩) (v := undef) rfl (by kernel_rfl) (by kernel_rfl) (by kernel_rfl) (fun _ _ _ h => h) (Or.inr ⟨by rfl, rfl⟩) (by assumption) ?_)); (try simp only [Act.put, List.setIfInBounds_toArray, List.set_cons_zero, List.set_cons_succ])
            (first | (refine wpAnyH_take (i := 9) (oi := ⟨_, _, _, _, _, _⟩) (v := ?_) rfl (by kernel_rfl) (by kernel_rfl) (by kernel_rfl) (fun _ _ _ h => h) (Or.inl ⟨by rfl, ?_⟩) (by assumption) ?_; rotate_left 1; (· (intro w0 hSw; (try dsimp only at hSw); go_simp; (try with_reducible rfl)))) | (refine wpAnyH_take (i := 9) (oi := ⟨_, _, _, _, _, _⟩) (v := undef) rfl (by kernel_rfl) (by kernel_rfl) (by kernel_rfl) (fun _ _ _ h => h) (Or.inr ⟨by rfl, rfl⟩) (by assumption) ?_)); (try simp only [Act.put, List.setIfInBounds_toArray, List.set_cons_zero, List.set_cons_succ])
            refine wpAnyH_ready (rs := [10, 11]) (by kernel_rfl) (by simp) ?_
            refine AllReadyH.cons (o := ⟨_, _, _, _, _, _⟩) rfl (fun K hK => ?_) ?_
            · go_simp
              refine hK.out _ _ ?_ (fun hHeld => ?_)
              · exact Below.allocS (by assumption) _
              clear hK K
              (try simp only [Act.put, List.setIfInBounds_toArray, List.set_cons_zero, List.set_cons_succ])
              refine wpAnyH_ready (rs := [11]) (by kernel_rfl) (by simp) ?_
              refine AllReadyH.cons (o := ⟨_, _, _, _, _, _⟩) rfl (fun K hK => ?_) AllReadyH.nil
              go_simp
              refine hK.out _ _ ?_ (fun hHeld => ?_)
              · exact Below.allocS (by assumption) _
              clear hK K
              (try simp only [Act.put, List.setIfInBounds_toArray, List.set_cons_zero, List.set_cons_succ])
              refine wpAnyH_ready (rs := [12]) (by kernel_rfl) (by simp) ?_
              refine AllReadyH.cons (o := ⟨_, _, _, _, _, _⟩) rfl (fun K hK => ?_) AllReadyH.nil
              go_simp
              refine hK.out _ _ ?_ (fun hHeld => ?_)
              · first | exact Below.setCell (Below.setCell (by assumption) (by first | (simp; done) | (simp; omega) | omega) _) (by first | (simp; done) | (simp; omega) | omega) _ | (repeat (first | (with_reducible exact Below.refl _ _) | (with_reducible assumption) | (with_reducible refine Below.drew ?_) | (with_reducible refine Below.allocS ?_ _) | (with_reducible refine Below.setCell ?_ ?_ _) | (with_reducible refine Below.step ?_ (by assumption)) | (with_reducible refine Below.drewN' ?_ _))); (try any_goals (first | (with_reducible assumption) | (simp; done) | (simp; omega) | omega))
              clear hK K
              (try simp only [Act.put, List.setIfInBounds_toArray, List.set_cons_zero, List.set_cons_succ])
              refine wpAnyH_ready (rs := [13]) (by kernel_rfl) (by simp) ?_
              refine AllReadyH.cons (o := ⟨_, _, _, _, _, _⟩) rfl (fun K hK => ?_) AllReadyH.nil
              go_simp
              refine hK.out _ _ ?_ (fun hHeld => ?_)
              · first | exact Below.setCell (Below.setCell (by assumption) (by first | (simp; done) | (simp; omega) | omega) _) (by first | (simp; done) | (simp; omega) | omega) _ | (repeat (first | (with_reducible exact Below.refl _ _) | (with_reducible assumption) | (with_reducible refine Below.drew ?_) | (with_reducible refine Below.allocS ?_ _) | (with_reducible refine Below.setCell ?_ ?_ _) | (with_reducible refine Below.step ?_ (by assumption)) | (with_reducible refine Below.drewN' ?_ _))); (try any_goals (first | (with_reducible assumption) | (simp; done) | (simp; omega) | omega))
              clear hK K
              (try simp only [Act.put, List.setIfInBounds_toArray, List.set_cons_zero, List.set_cons_succ])
              refine wpAnyH_done (by kernel_rfl) ?_ _
              go_wp2_with fail
              go_meet
              exact ⟨⟨_, _, rfl, rfl, by simp, by simp, by simp, by simp [go_sem], by simp [go_sem], by simp [go_sem], by simp [go_sem], by simp [go_sem], by simp [go_sem]⟩, by first | exact hHeld | (repeat (first | (with_reducible exact Below.refl _ _) | (with_reducible assumption) | (with_reducible refine Below.drew ?_) | (with_reducible refine Below.allocS ?_ _) | (with_reducible refine Below.setCell ?_ ?_ _) | (with_reducible refine Below.step ?_ (by assumption)) | (with_reducible refine Below.drewN' ?_ _))); (try any_goals (first | (with_reducible assumption) | (simp; done) | (simp; omega) | omega))⟩
            · refine AllReadyH.cons (o := ⟨_, _, _, _, _, _⟩) rfl (fun K hK => ?_) AllReadyH.nil
              go_simp
              refine hK.out _ _ ?_ (fun hHeld => ?_)
              · exact Below.allocS (by assumption) _
              clear hK K
              (try simp only [Act.put, List.setIfInBounds_toArray, List.set_cons_zero, List.set_cons_succ])
              refine wpAnyH_ready (rs := [10]) (by kernel_rfl) (by simp) ?_
              refine AllReadyH.cons (o := ⟨_, _, _, _, _, _⟩) rfl (fun K hK => ?_) AllReadyH.nil
              go_simp
              refine hK.out _ _ ?_ (fun hHeld => ?_)
              · exact Below.allocS (by assumption) _
              clear hK K
              (try simp only [Act.put, List.setIfInBounds_toArray, List.set_cons_zero, List.set_cons_succ])
              refine wpAnyH_ready (rs := [12]) (by kernel_rfl) (by simp) ?_
              refine AllReadyH.cons (o := ⟨_, _, _, _, _, _⟩) rfl (fun K hK => ?_) AllReadyH.nil
              go_simp
              refine hK.out _ _ ?_ (fun hHeld => ?_)
              · first | exact Below.setCell (Below.setCell (by assumption) (by first | (simp; done) | (simp; omega) | omega) _) (by first | (simp; done) | (simp; omega) | omega) _ | (repeat (first | (with_reducible exact Below.refl _ _) | (with_reducible assumption) | (with_reducible refine Below.drew ?_) | (with_reducible refine Below.allocS ?_ _) | (with_reducible refine Below.setCell ?_ ?_ _) | (with_reducible refine Below.step ?_ (by assumption)) | (with_reducible refine Below.drewN' ?_ _))); (try any_goals (first | (with_reducible assumption) | (simp; done) | (simp; omega) | omega))
              clear hK K
              (try simp only [Act.put, List.setIfInBounds_toArray, List.set_cons_zero, List.set_cons_succ])
              refine wpAnyH_ready (rs := [13]) (by kernel_rfl) (by simp) ?_
              refine AllReadyH.cons (o := ⟨_, _, _, _, _, _⟩) rfl (fun K hK => ?_) AllReadyH.nil
              go_simp
              refine hK.out _ _ ?_ (fun hHeld => ?_)
              · first | exact Below.setCell (Below.setCell (by assumption) (by first | (simp; done) | (simp; omega) | omega) _) (by first | (simp; done) | (simp; omega) | omega) _ | (repeat (first | (with_reducible exact Below.refl _ _) | (with_reducible assumption) | (with_reducible refine Below.drew ?_) | (with_reducible refine Below.allocS ?_ _) | (with_reducible refine Below.setCell ?_ ?_ _) | (with_reducible refine Below.step ?_ (by assumption)) | (with_reducible refine Below.drewN' ?_ _))); (try any_goals (first | (with_reducible assumption) | (simp; done) | (simp; omega) | omega))
              clear hK K
              (try simp only [Act.put, List.setIfInBounds_toArray, List.set_cons_zero, List.set_cons_succ])
              refine wpAnyH_done (by kernel_rfl) ?_ _
              go_wp2_with fail
              go_meet
              exact ⟨⟨_, _, rfl, rfl, by simp, by simp, by simp, by simp [go_sem], by simp [go_sem], by simp [go_sem], by simp [go_sem], by simp [go_sem], by simp [go_sem]⟩, by first | exact hHeld | (repeat (first | (with_reducible exact Below.refl _ _) | (with_reducible assumption) | (with_reducible refine Below.drew ?_) | (with_reducible refine Below.allocS ?_ _) | (with_reducible refine Below.setCell ?_ ?_ _) | (with_reducible refine Below.step ?_ (by assumption)) | (with_reducible refine Below.drewN' ?_ _))); (try any_goals (first | (with_reducible assumption) | (simp; done) | (simp; omega) | omega))⟩
          case rest =>
            obtain ⟨⟨b7, b8, rfl, rfl, hne, h7, h8, a0, a1, e0, e1, f7, f8⟩, hbw⟩ := hcut
            have p0 := hP0 _ hbw
            have p1 := hP1 _ hbw
            have p2 := hP2 _ hbw
            have p3 := hP3 _ hbw
            have p4 := hP4 _ hbw
            have p5 := hP5 _ hbw
            clear hP0 hP1 hP2 hP3 hP4 hP5
            have kw := (hki.step gA).step hbw
            have hbj : Below W.heap.size wr wc := (gA.mono yw).trans (hbw.mono (by omega))
            have HJW := Lib.hid (hJ _ _ _ HJI.out hbj)
            have hne' : b8 ≠ b7 := fun h => hne h.symm
            have l7 : b7 < wc.heap.size := cell?_lt a0
            have l8 : b8 < wc.heap.size := cell?_lt e0
            have w7 : W.heap.size ≤ b7 := by omega
            have w8 : W.heap.size ≤ b8 := by omega
            have x7 : W1.heap.size ≤ b7 := by omega
            have x8 : W1.heap.size ≤ b8 := by omega
            clear hbw hbj gA q0 q1 q2 d0 d1 d2 HJI
            rcases Int.lt_trichotomy s.s 0 with hs | hs | hs
            · rcases Int.lt_trichotomy t.s 0 with ht | ht | ht
              · have g1' : (s.s != 0) = true := by simp; omega
                have hl : lvOf s = s.hi := by unfold lvOf; rw [if_pos hs]
                have g3' : (t.s != 0) = true := by simp; omega
                have hu : uvOf t = t.lo := by unfold uvOf; rw [if_pos ht]
                have kX : KB lo hi W1 ((wc.setCell ⟨b7, 0, none⟩ (.int .i64 s.hi)).setCell ⟨b8, 0, none⟩ (.int .i64 t.lo)) := ((kw.setNew (p := ⟨b7, 0, none⟩) x7 _).setNew (p := ⟨b8, 0, none⟩) x8 _)
                have jX := hJ _ _ ((wc.setCell ⟨b7, 0, none⟩ (.int .i64 s.hi)).setCell ⟨b8, 0, none⟩ (.int .i64 t.lo)) HJW.out (Below.setCell (Below.setCell (Below.refl _ _) (p := ⟨b7, 0, none⟩) w7 _) (p := ⟨b8, 0, none⟩) w8 _)
                have hc2 : cellP s t = [(s, t)] := by unfold cellP; rw [if_pos ⟨by omega, by omega⟩]
                have hT2 := HT2.out
                rw [hc2] at hT2
                have HT3 := Lib.hid hT2
                have hB2 := HB2.out ⟨by omega, by omega⟩
                have hgt := pre_get (d := (⟨0, 0, 0⟩, ⟨0, 0, 0⟩)) hB2.2
                have HJ1 := Lib.hid (fun X => (HJE.out (((l.take k).flatMap (rowP l) ++ (l.take j).flatMap (cellP s)) ++ [(s, t)]) X).2)
                rw [List.length_append, List.length_singleton, List.range_succ] at HJ1
                obtain ⟨fn, tmps, assign, body, hy, hR⟩ := hY _ (((l.take k).flatMap (rowP l) ++ (l.take j).flatMap (cellP s)).length) _ ((HJE.out _ _).1 jX) (by rw [List.length_range]; exact hB2.1)
                rw [hgt] at hy
                dsimp only [encP] at hy
                rw [hl, hu] at hy
                clear hc2 hT2 hB2 hl hu hgt
                gi_wp2
                refine hR.mono ?_
                rintro e W3 (⟨rfl, hJ3, hk3⟩ | ⟨rfl, hJx3⟩)
                · have HJ3 := Lib.hid hJ3
                  clear hJ3
                  gi_wp2
                  go_roundw
                  case rel => exact ⟨j + 1, by omega, by go_num, by rw [HT3.out, ← List.append_assoc]; exact HJ1.out _ HJ3.out, kX.trans hk3⟩
                  case measure => simp [intOf]; omega
                · have HJX := Lib.hid hJx3
                  clear hJx3
                  gi_wp2
                  refine bodyPost_ret (results_none rfl _ _ _) rfl ?_
                  exact ⟨⟨_, rfl⟩, .inr ⟨_, trivial, HJX.out⟩⟩
              · have g1' : (s.s != 0) = true := by simp; omega
                have hl : lvOf s = s.hi := by unfold lvOf; rw [if_pos hs]
                have g3' : (t.s != 0) = false := by simp [ht]
                have g4' : ¬ t.s < 0 := by omega
                have kX : KB lo hi W1 (wc.setCell ⟨b7, 0, none⟩ (.int .i64 s.hi)) := (kw.setNew (p := ⟨b7, 0, none⟩) x7 _)
                have jX := hJ _ _ (wc.setCell ⟨b7, 0, none⟩ (.int .i64 s.hi)) HJW.out (Below.setCell (Below.refl _ _) (p := ⟨b7, 0, none⟩) w7 _)
                have hc2 : cellP s t = [] := by unfold cellP; rw [if_neg (by omega)]
                have hT2 := HT2.out
                rw [hc2, List.append_nil] at hT2
                have HT3 := Lib.hid hT2
                have HJX := Lib.hid jX
                clear hc2 hT2 jX hY HB2
                gi_wp2
                refine ⟨(fun f h => by cases h), ?_⟩
                gi_wp2
                go_roundw
                case rel => exact ⟨j + 1, by omega, by go_num, by rw [HT3.out]; exact HJX.out, kX⟩
                case measure => simp [intOf]; omega
              · have g1' : (s.s != 0) = true := by simp; omega
                have hl : lvOf s = s.hi := by unfold lvOf; rw [if_pos hs]
                have g3' : (t.s != 0) = true := by simp; omega
                have g4' : ¬ t.s < 0 := by omega
                have hu : uvOf t = t.hi := by unfold uvOf; rw [if_neg (by omega)]
                have kX : KB lo hi W1 (wc.setCell ⟨b7, 0, none⟩ (.int .i64 s.hi)) := (kw.setNew (p := ⟨b7, 0, none⟩) x7 _)
                have jX := hJ _ _ (wc.setCell ⟨b7, 0, none⟩ (.int .i64 s.hi)) HJW.out (Below.setCell (Below.refl _ _) (p := ⟨b7, 0, none⟩) w7 _)
                have hc2 : cellP s t = [(s, t)] := by unfold cellP; rw [if_pos ⟨by omega, by omega⟩]
                have hT2 := HT2.out
                rw [hc2] at hT2
                have HT3 := Lib.hid hT2
                have hB2 := HB2.out ⟨by omega, by omega⟩
                have hgt := pre_get (d := (⟨0, 0, 0⟩, ⟨0, 0, 0⟩)) hB2.2
                have HJ1 := Lib.hid (fun X => (HJE.out (((l.take k).flatMap (rowP l) ++ (l.take j).flatMap (cellP s)) ++ [(s, t)]) X).2)
                rw [List.length_append, List.length_singleton, List.range_succ] at HJ1
                obtain ⟨fn, tmps, assign, body, hy, hR⟩ := hY _ (((l.take k).flatMap (rowP l) ++ (l.take j).flatMap (cellP s)).length) _ ((HJE.out _ _).1 jX) (by rw [List.length_range]; exact hB2.1)
                rw [hgt] at hy
                dsimp only [encP] at hy
                rw [hl, hu] at hy
                clear hc2 hT2 hB2 hl hu hgt
                gi_wp2
                refine hR.mono ?_
                rintro e W3 (⟨rfl, hJ3, hk3⟩ | ⟨rfl, hJx3⟩)
                · have HJ3 := Lib.hid hJ3
                  clear hJ3
                  gi_wp2
                  go_roundw
                  case rel => exact ⟨j + 1, by omega, by go_num, by rw [HT3.out, ← List.append_assoc]; exact HJ1.out _ HJ3.out, kX.trans hk3⟩
                  case measure => simp [intOf]; omega
                · have HJX := Lib.hid hJx3
                  clear hJx3
                  gi_wp2
                  refine bodyPost_ret (results_none rfl _ _ _) rfl ?_
                  exact ⟨⟨_, rfl⟩, .inr ⟨_, trivial, HJX.out⟩⟩
            · rcases Int.lt_trichotomy t.s 0 with ht | ht | ht
              · have g1' : (s.s != 0) = false := by simp [hs]
                have g2' : ¬ s.s < 0 := by omega
                have g3' : (t.s != 0) = true := by simp; omega
                have hu : uvOf t = t.lo := by unfold uvOf; rw [if_pos ht]
                have kX : KB lo hi W1 (wc.setCell ⟨b8, 0, none⟩ (.int .i64 t.lo)) := (kw.setNew (p := ⟨b8, 0, none⟩) x8 _)
                have jX := hJ _ _ (wc.setCell ⟨b8, 0, none⟩ (.int .i64 t.lo)) HJW.out (Below.setCell (Below.refl _ _) (p := ⟨b8, 0, none⟩) w8 _)
                have hc2 : cellP s t = [] := by unfold cellP; rw [if_neg (by omega)]
                have hT2 := HT2.out
                rw [hc2, List.append_nil] at hT2
                have HT3 := Lib.hid hT2
                have HJX := Lib.hid jX
                clear hc2 hT2 jX hY HB2 hs
                gi_wp2
                refine ⟨(fun f h => by cases h), ?_⟩
                gi_wp2
                go_roundw
                case rel => exact ⟨j + 1, by omega, by go_num, by rw [HT3.out]; exact HJX.out, kX⟩
                case measure => simp [intOf]; omega
              · have g1' : (s.s != 0) = false := by simp [hs]
                have g2' : ¬ s.s < 0 := by omega
                have g3' : (t.s != 0) = false := by simp [ht]
                have g4' : ¬ t.s < 0 := by omega
                have kX : KB lo hi W1 wc := kw
                have jX := hJ _ _ wc HJW.out (Below.refl _ _)
                have hc2 : cellP s t = [] := by unfold cellP; rw [if_neg (by omega)]
                have hT2 := HT2.out
                rw [hc2, List.append_nil] at hT2
                have HT3 := Lib.hid hT2
                have HJX := Lib.hid jX
                clear hc2 hT2 jX hY HB2 hs
                gi_wp2
                refine ⟨(fun f h => by cases h), ?_⟩
                gi_wp2
                go_roundw
                case rel => exact ⟨j + 1, by omega, by go_num, by rw [HT3.out]; exact HJX.out, kX⟩
                case measure => simp [intOf]; omega
              · have g1' : (s.s != 0) = false := by simp [hs]
                have g2' : ¬ s.s < 0 := by omega
                have g3' : (t.s != 0) = true := by simp; omega
                have g4' : ¬ t.s < 0 := by omega
                have hu : uvOf t = t.hi := by unfold uvOf; rw [if_neg (by omega)]
                have kX : KB lo hi W1 wc := kw
                have jX := hJ _ _ wc HJW.out (Below.refl _ _)
                have hc2 : cellP s t = [] := by unfold cellP; rw [if_neg (by omega)]
                have hT2 := HT2.out
                rw [hc2, List.append_nil] at hT2
                have HT3 := Lib.hid hT2
                have HJX := Lib.hid jX
                clear hc2 hT2 jX hY HB2 hs
                gi_wp2
                refine ⟨(fun f h => by cases h), ?_⟩
                gi_wp2
                go_roundw
                case rel => exact ⟨j + 1, by omega, by go_num, by rw [HT3.out]; exact HJX.out, kX⟩
                case measure => simp [intOf]; omega
            · rcases Int.lt_trichotomy t.s 0 with ht | ht | ht
              · have g1' : (s.s != 0) = true := by simp; omega
                have g2' : ¬ s.s < 0 := by omega
                have hl : lvOf s = s.lo := by unfold lvOf; rw [if_neg (by omega)]
                have g3' : (t.s != 0) = true := by simp; omega
                have hu : uvOf t = t.lo := by unfold uvOf; rw [if_pos ht]
                have kX : KB lo hi W1 (wc.setCell ⟨b8, 0, none⟩ (.int .i64 t.lo)) := (kw.setNew (p := ⟨b8, 0, none⟩) x8 _)
                have jX := hJ _ _ (wc.setCell ⟨b8, 0, none⟩ (.int .i64 t.lo)) HJW.out (Below.setCell (Below.refl _ _) (p := ⟨b8, 0, none⟩) w8 _)
                have hc2 : cellP s t = [(s, t)] := by unfold cellP; rw [if_pos ⟨by omega, by omega⟩]
                have hT2 := HT2.out
                rw [hc2] at hT2
                have HT3 := Lib.hid hT2
                have hB2 := HB2.out ⟨by omega, by omega⟩
                have hgt := pre_get (d := (⟨0, 0, 0⟩, ⟨0, 0, 0⟩)) hB2.2
                have HJ1 := Lib.hid (fun X => (HJE.out (((l.take k).flatMap (rowP l) ++ (l.take j).flatMap (cellP s)) ++ [(s, t)]) X).2)
                rw [List.length_append, List.length_singleton, List.range_succ] at HJ1
                obtain ⟨fn, tmps, assign, body, hy, hR⟩ := hY _ (((l.take k).flatMap (rowP l) ++ (l.take j).flatMap (cellP s)).length) _ ((HJE.out _ _).1 jX) (by rw [List.length_range]; exact hB2.1)
                rw [hgt] at hy
                dsimp only [encP] at hy
                rw [hl, hu] at hy
                clear hc2 hT2 hB2 hl hu hgt
                gi_wp2
                refine hR.mono ?_
                rintro e W3 (⟨rfl, hJ3, hk3⟩ | ⟨rfl, hJx3⟩)
                · have HJ3 := Lib.hid hJ3
                  clear hJ3
                  gi_wp2
                  go_roundw
                  case rel => exact ⟨j + 1, by omega, by go_num, by rw [HT3.out, ← List.append_assoc]; exact HJ1.out _ HJ3.out, kX.trans hk3⟩
                  case measure => simp [intOf]; omega
                · have HJX := Lib.hid hJx3
                  clear hJx3
                  gi_wp2
                  refine bodyPost_ret (results_none rfl _ _ _) rfl ?_
                  exact ⟨⟨_, rfl⟩, .inr ⟨_, trivial, HJX.out⟩⟩
              · have g1' : (s.s != 0) = true := by simp; omega
                have g2' : ¬ s.s < 0 := by omega
                have hl : lvOf s = s.lo := by unfold lvOf; rw [if_neg (by omega)]
                have g3' : (t.s != 0) = false := by simp [ht]
                have g4' : ¬ t.s < 0 := by omega
                have kX : KB lo hi W1 wc := kw
                have jX := hJ _ _ wc HJW.out (Below.refl _ _)
                have hc2 : cellP s t = [] := by unfold cellP; rw [if_neg (by omega)]
                have hT2 := HT2.out
                rw [hc2, List.append_nil] at hT2
                have HT3 := Lib.hid hT2
                have HJX := Lib.hid jX
                clear hc2 hT2 jX hY HB2
                gi_wp2
                refine ⟨(fun f h => by cases h), ?_⟩
                gi_wp2
                go_roundw
                case rel => exact ⟨j + 1, by omega, by go_num, by rw [HT3.out]; exact HJX.out, kX⟩
                case measure => simp [intOf]; omega
              · have g1' : (s.s != 0) = true := by simp; omega
                have g2' : ¬ s.s < 0 := by omega
                have hl : lvOf s = s.lo := by unfold lvOf; rw [if_neg (by omega)]
                have g3' : (t.s != 0) = true := by simp; omega
                have g4' : ¬ t.s < 0 := by omega
                have hu : uvOf t = t.hi := by unfold uvOf; rw [if_neg (by omega)]
                have kX : KB lo hi W1 wc := kw
                have jX := hJ _ _ wc HJW.out (Below.refl _ _)
                have hc2 : cellP s t = [(s, t)] := by unfold cellP; rw [if_pos ⟨by omega, by omega⟩]
                have hT2 := HT2.out
                rw [hc2] at hT2
                have HT3 := Lib.hid hT2
                have hB2 := HB2.out ⟨by omega, by omega⟩
                have hgt := pre_get (d := (⟨0, 0, 0⟩, ⟨0, 0, 0⟩)) hB2.2
                have HJ1 := Lib.hid (fun X => (HJE.out (((l.take k).flatMap (rowP l) ++ (l.take j).flatMap (cellP s)) ++ [(s, t)]) X).2)
                rw [List.length_append, List.length_singleton, List.range_succ] at HJ1
                obtain ⟨fn, tmps, assign, body, hy, hR⟩ := hY _ (((l.take k).flatMap (rowP l) ++ (l.take j).flatMap (cellP s)).length) _ ((HJE.out _ _).1 jX) (by rw [List.length_range]; exact hB2.1)
                rw [hgt] at hy
                dsimp only [encP] at hy
                rw [hl, hu] at hy
                clear hc2 hT2 hB2 hl hu hgt
                gi_wp2
                refine hR.mono ?_
                rintro e W3 (⟨rfl, hJ3, hk3⟩ | ⟨rfl, hJx3⟩)
                · have HJ3 := Lib.hid hJ3
                  clear hJ3
                  gi_wp2
                  go_roundw
                  case rel => exact ⟨j + 1, by omega, by go_num, by rw [HT3.out, ← List.append_assoc]; exact HJ1.out _ HJ3.out, kX.trans hk3⟩
                  case measure => simp [intOf]; omega
                · have HJX := Lib.hid hJx3
                  clear hJx3
                  gi_wp2
                  refine bodyPost_ret (results_none rfl _ _ _) rfl ?_
                  exact ⟨⟨_, rfl⟩, .inr ⟨_, trivial, HJX.out⟩⟩
        · obtain rfl : j = n0 := by omega
          have hT := HT.out
          have HJ2 := HJI
          rw [show l.take j = l from List.take_of_length_le (by rw [HN.out]; exact Nat.le_refl _)] at HJ2
          have HTT := Lib.hid (show (l.take (k + 1)).flatMap (rowP l) = (l.take k).flatMap (rowP l) ++ l.flatMap (cellP s) from hT)
          clear hT
          gi_wp2
          go_roundw
          case rel => exact ⟨k + 1, by omega, by go_num, by rw [HTT.out]; exact HJ2.out, hkw⟩
          case measure => simp [intOf]; omega
    · obtain rfl : k = n0 := by omega
      rw [List.take_of_length_le (by rw [HN.out]; exact Nat.le_refl _)] at HJ
      gi_wp2
      go_end0
      exact ⟨⟨_, rfl⟩, .inl ⟨_, rfl, (HJE.out _ _).1 HJ.out⟩⟩
end Go.Proofs.Ytbcabckokmjelaa
