/-
  What a reach takes in.
-/
import Derived.Test.YtbcabckokmjelaaQ2
namespace Go.Proofs.Ytbcabckokmjelaa
open Go.RowKit
set_option linter.unusedVariables false
set_option linter.unusedSimpArgs false
structure Rc where
  lo : Fr
  hi : Fr
  ok : Bool
structure RcOk (r : Rc) : Prop where
  lo : FrOk r.lo
  hi : FrOk r.hi
structure RcAt (W : World) (P : Nat) (r : Rc) : Prop where
  c0 : W.cell? ⟨P, 0, none⟩ = some (.int .i64 r.lo.n)
  c1 : W.cell? ⟨P, 1, none⟩ = some (.int .i64 r.lo.d)
  c2 : W.cell? ⟨P, 2, none⟩ = some (.int .i64 r.hi.n)
  c3 : W.cell? ⟨P, 3, none⟩ = some (.int .i64 r.hi.d)
  c4 : W.cell? ⟨P, 4, none⟩ = some (.bool r.ok)
  f0 : W.frozen? ⟨P, 0, none⟩ = false
  f1 : W.frozen? ⟨P, 1, none⟩ = false
  f2 : W.frozen? ⟨P, 2, none⟩ = false
  f3 : W.frozen? ⟨P, 3, none⟩ = false
  f4 : W.frozen? ⟨P, 4, none⟩ = false
theorem RcAt.lt {W : World} {P : Nat} {r : Rc} (h : RcAt W P r) : P < W.heap.size := cell?_lt h.c0
theorem RcAt.step {W W' : World} {P : Nat} {r : Rc} (h : RcAt W P r) (hb : Below W.heap.size W W') : RcAt W' P r :=
  ⟨keep_cell hb h.c0, keep_cell hb h.c1, keep_cell hb h.c2, keep_cell hb h.c3, keep_cell hb h.c4, keep_frozen hb h.lt h.f0, keep_frozen hb h.lt h.f1, keep_frozen hb h.lt h.f2, keep_frozen hb h.lt h.f3, keep_frozen hb h.lt h.f4⟩
theorem RcAt.setLo {W : World} {P : Nat} {r : Rc} (h : RcAt W P r) (y : Fr) : RcAt ((W.setCell ⟨P, 0, none⟩ (.int .i64 y.n)).setCell ⟨P, 1, none⟩ (.int .i64 y.d)) P ⟨y, r.hi, r.ok⟩ := by
  obtain ⟨c0, c1, c2, c3, c4, f0, f1, f2, f3, f4⟩ := h
  refine ⟨?_, ?_, ?_, ?_, ?_, ?_, ?_, ?_, ?_, ?_⟩ <;> simp [go_sem, *]
theorem RcAt.setHi {W : World} {P : Nat} {r : Rc} (h : RcAt W P r) (y : Fr) : RcAt ((W.setCell ⟨P, 2, none⟩ (.int .i64 y.n)).setCell ⟨P, 3, none⟩ (.int .i64 y.d)) P ⟨r.lo, y, r.ok⟩ := by
  obtain ⟨c0, c1, c2, c3, c4, f0, f1, f2, f3, f4⟩ := h
  refine ⟨?_, ?_, ?_, ?_, ?_, ?_, ?_, ?_, ?_, ?_⟩ <;> simp [go_sem, *]
theorem RcAt.setOk {W : World} {P : Nat} {r : Rc} (h : RcAt W P r) (y : Bool) : RcAt (W.setCell ⟨P, 4, none⟩ (.bool y)) P ⟨r.lo, r.hi, y⟩ := by
  obtain ⟨c0, c1, c2, c3, c4, f0, f1, f2, f3, f4⟩ := h
  refine ⟨?_, ?_, ?_, ?_, ?_, ?_, ?_, ?_, ?_, ?_⟩ <;> simp [go_sem, *]
/-- n is at most d times what the reach is of. -/
def askR (r : Rc) (n d : Int) : Rc :=
  if 0 < d then ⟨keepG r.lo (overF n d), r.hi, r.ok⟩ else if d < 0 then ⟨r.lo, keepL r.hi (overF n d), r.ok⟩ else if 0 < n then ⟨r.lo, r.hi, false⟩ else r
theorem overB {n d : Int} (hn : -10000000000000 ≤ n ∧ n ≤ 10000000000000) (hd : -100000 ≤ d ∧ d ≤ 100000) : FrB (overF n d) := by
  unfold overF FrB
  split <;> simp only <;> omega
theorem overOk {n d : Int} (hn : -10000000000000 ≤ n ∧ n ≤ 10000000000000) (hd : -100000 ≤ d ∧ d ≤ 100000) (h0 : d ≠ 0) : FrOk (overF n d) :=
  ⟨overB hn hd, by unfold overF; split <;> simp only <;> omega⟩
theorem keepOk {x y : Fr} {c : Bool} (hx : FrOk x) (hy : FrOk y) : FrOk (if c = true then y else x) := by split <;> assumption
theorem askOk {r : Rc} (h : RcOk r) {n d : Int} (hn : -10000000000000 ≤ n ∧ n ≤ 10000000000000) (hd : -100000 ≤ d ∧ d ≤ 100000) : RcOk (askR r n d) := by
  unfold askR
  split
  · exact ⟨keepOk h.lo (overOk hn hd (by omega)), h.hi⟩
  · split
    · exact ⟨h.lo, keepOk h.hi (overOk hn hd (by omega))⟩
    · split
      · exact ⟨h.lo, h.hi⟩
      · exact h
set_option maxHeartbeats 1000000 in
theorem asks_c (r : Rc) (P : Nat) (n d : Int) (W : World) (h : RcAt W P r) (hr : RcOk r) (hn : -10000000000000 ≤ n ∧ n ≤ 10000000000000) (hd : -100000 ≤ d ∧ d ≤ 100000) :
    Calls Try.prog 97 #[.pointer (some ⟨P, 0, none⟩), .int .i64 n, .int .i64 d] W fun e w' => (∃ u, e = .returned u) ∧ RcAt w' P (askR r n d) ∧ Exc P W w' := by
  have HR := Lib.hid h
  have y0 : P < W.heap.size := h.lt
  have HO := Lib.hid (fun W => over_c n d hn hd W)
  have HG := Lib.hid (fun W => keepG_c r.lo (overF n d) hr.lo (overB hn hd) W)
  have HL := Lib.hid (fun W => keepL_c r.hi (overF n d) hr.hi (overB hn hd) W)
  clear hn hd hr
  obtain ⟨c0, c1, c2, c3, c4, f0, f1, f2, f3, f4⟩ := h
  unfold askR
  by_cases h1 : 0 < d
  · rw [if_pos h1]
    unfold frV at *
    generalize overF n d = y at *
    generalize keepG r.lo y = z at *
    clear HL
    go_enter Try.func97, Try.ntmps97
    go_wp2_with fail
    refine region_below_tail 9 (by kernel_rfl) (by kernel_rfl) ?_; simp only [List.take_succ_cons, List.take_zero, List.drop_succ_cons, List.drop_zero]
    (first | go_big_quiet_skip | (go_big_quiet_want; refine quiet_val (v := ?_) ?_ ?_; rotate_left 1; (· (intro Wq hWq; obtain ⟨hWc, hWf⟩ := bcell hWq; go_simp; (try with_reducible rfl))); go_big_quiet_on; (try simp only [Act.put, List.setIfInBounds_toArray, List.set_cons_zero, List.set_cons_succ])))
    (first | go_big_quiet_skip | (go_big_quiet_want; refine quiet_val (v := ?_) ?_ ?_; rotate_left 1; (· (intro Wq hWq; obtain ⟨hWc, hWf⟩ := bcell hWq; go_simp; (try with_reducible rfl))); go_big_quiet_on; (try simp only [Act.put, List.setIfInBounds_toArray, List.set_cons_zero, List.set_cons_succ])))
    (first | go_big_quiet_skip | (go_big_quiet_want; refine quiet_val (v := ?_) ?_ ?_; rotate_left 1; (· (intro Wq hWq; obtain ⟨hWc, hWf⟩ := bcell hWq; go_simp; (try with_reducible rfl))); go_big_quiet_on; (try simp only [Act.put, List.setIfInBounds_toArray, List.set_cons_zero, List.set_cons_succ])))
    (first | go_big_quiet_skip | (go_big_quiet_want; refine quiet_val (v := ?_) ?_ ?_; rotate_left 1; (· (intro Wq hWq; obtain ⟨hWc, hWf⟩ := bcell hWq; go_simp; (try with_reducible rfl))); go_big_quiet_on; (try simp only [Act.put, List.setIfInBounds_toArray, List.set_cons_zero, List.set_cons_succ])))
    (first | go_big_quiet_skip | (go_big_quiet_want; refine quiet_val (v := ?_) ?_ ?_; rotate_left 1; (· (intro Wq hWq; obtain ⟨hWc, hWf⟩ := bcell hWq; go_simp; (try with_reducible rfl))); go_big_quiet_on; (try simp only [Act.put, List.setIfInBounds_toArray, List.set_cons_zero, List.set_cons_succ])))
    (first | go_big_quiet_skip | (go_big_quiet_want; refine quiet_val (v := ?_) ?_ ?_; rotate_left 1; (· (intro Wq hWq; obtain ⟨hWc, hWf⟩ := bcell hWq; go_simp; (try with_reducible rfl))); go_big_quiet_on; (try simp only [Act.put, List.setIfInBounds_toArray, List.set_cons_zero, List.set_cons_succ])))
    (first | go_big_quiet_skip | (go_big_quiet_want; refine quiet_val (v := ?_) ?_ ?_; rotate_left 1; (· (intro Wq hWq; obtain ⟨hWc, hWf⟩ := bcell hWq; go_simp; (try with_reducible rfl))); go_big_quiet_on; (try simp only [Act.put, List.setIfInBounds_toArray, List.set_cons_zero, List.set_cons_succ])))
    go_big_quiet_want; refine quiet_callB (f := 115) (args := ?_) (v := ?_) ?_ ?_ ?_; rotate_left 2
    · (intro Wq hWq; obtain ⟨hWc, hWf⟩ := bcell hWq; go_simp; (first | with_reducible rfl | exact ⟨rfl, rfl⟩))
    · (intro Wq hWq; exact HO.out Wq)
    go_big_quiet_on; (try simp only [Act.put, List.setIfInBounds_toArray, List.set_cons_zero, List.set_cons_succ])
    go_big_quiet_want; refine quiet_callB (f := 114) (args := ?_) (v := ?_) ?_ ?_ ?_; rotate_left 2
    · (intro Wq hWq; obtain ⟨hWc, hWf⟩ := bcell hWq; go_simp; (first | with_reducible rfl | exact ⟨rfl, rfl⟩))
    · (intro Wq hWq; exact HG.out Wq)
    go_big_quiet_on; (try simp only [Act.put, List.setIfInBounds_toArray, List.set_cons_zero, List.set_cons_succ])
    refine wpQuiet_nil ?_; intro w4 hb4
    have R4 := HR.out.step hb4
    obtain ⟨d0, d1, d2, d3, d4, e0, e1, e2, e3, e4⟩ := R4
    have R4 := HR.out.step hb4
    go_wp2
    go_end0
    exact ⟨⟨_, rfl⟩, R4.setLo z, (Exc.set (Exc.set (Exc.of_below hb4) 0 _) 1 _)⟩
  rw [if_neg h1]
  by_cases h2 : d < 0
  · rw [if_pos h2]
    unfold frV at *
    generalize overF n d = y at *
    generalize keepL r.hi y = z at *
    clear HG
    go_enter Try.func97, Try.ntmps97
    go_wp2_with fail
    refine region_below_tail 9 (by kernel_rfl) (by kernel_rfl) ?_; simp only [List.take_succ_cons, List.take_zero, List.drop_succ_cons, List.drop_zero]
    (first | go_big_quiet_skip | (go_big_quiet_want; refine quiet_val (v := ?_) ?_ ?_; rotate_left 1; (· (intro Wq hWq; obtain ⟨hWc, hWf⟩ := bcell hWq; go_simp; (try with_reducible rfl))); go_big_quiet_on; (try simp only [Act.put, List.setIfInBounds_toArray, List.set_cons_zero, List.set_cons_succ])))
    (first | go_big_quiet_skip | (go_big_quiet_want; refine quiet_val (v := ?_) ?_ ?_; rotate_left 1; (· (intro Wq hWq; obtain ⟨hWc, hWf⟩ := bcell hWq; go_simp; (try with_reducible rfl))); go_big_quiet_on; (try simp only [Act.put, List.setIfInBounds_toArray, List.set_cons_zero, List.set_cons_succ])))
    (first | go_big_quiet_skip | (go_big_quiet_want; refine quiet_val (v := ?_) ?_ ?_; rotate_left 1; (· (intro Wq hWq; obtain ⟨hWc, hWf⟩ := bcell hWq; go_simp; (try with_reducible rfl))); go_big_quiet_on; (try simp only [Act.put, List.setIfInBounds_toArray, List.set_cons_zero, List.set_cons_succ])))
    (first | go_big_quiet_skip | (go_big_quiet_want; refine quiet_val (v := ?_) ?_ ?_; rotate_left 1; (· (intro Wq hWq; obtain ⟨hWc, hWf⟩ := bcell hWq; go_simp; (try with_reducible rfl))); go_big_quiet_on; (try simp only [Act.put, List.setIfInBounds_toArray, List.set_cons_zero, List.set_cons_succ])))
    (first | go_big_quiet_skip | (go_big_quiet_want; refine quiet_val (v := ?_) ?_ ?_; rotate_left 1; (· (intro Wq hWq; obtain ⟨hWc, hWf⟩ := bcell hWq; go_simp; (try with_reducible rfl))); go_big_quiet_on; (try simp only [Act.put, List.setIfInBounds_toArray, List.set_cons_zero, List.set_cons_succ])))
    (first | go_big_quiet_skip | (go_big_quiet_want; refine quiet_val (v := ?_) ?_ ?_; rotate_left 1; (· (intro Wq hWq; obtain ⟨hWc, hWf⟩ := bcell hWq; go_simp; (try with_reducible rfl))); go_big_quiet_on; (try simp only [Act.put, List.setIfInBounds_toArray, List.set_cons_zero, List.set_cons_succ])))
    (first | go_big_quiet_skip | (go_big_quiet_want; refine quiet_val (v := ?_) ?_ ?_; rotate_left 1; (· (intro Wq hWq; obtain ⟨hWc, hWf⟩ := bcell hWq; go_simp; (try with_reducible rfl))); go_big_quiet_on; (try simp only [Act.put, List.setIfInBounds_toArray, List.set_cons_zero, List.set_cons_succ])))
    go_big_quiet_want; refine quiet_callB (f := 115) (args := ?_) (v := ?_) ?_ ?_ ?_; rotate_left 2
    · (intro Wq hWq; obtain ⟨hWc, hWf⟩ := bcell hWq; go_simp; (first | with_reducible rfl | exact ⟨rfl, rfl⟩))
    · (intro Wq hWq; exact HO.out Wq)
    go_big_quiet_on; (try simp only [Act.put, List.setIfInBounds_toArray, List.set_cons_zero, List.set_cons_succ])
    go_big_quiet_want; refine quiet_callB (f := 114) (args := ?_) (v := ?_) ?_ ?_ ?_; rotate_left 2
    · (intro Wq hWq; obtain ⟨hWc, hWf⟩ := bcell hWq; go_simp; (first | with_reducible rfl | exact ⟨rfl, rfl⟩))
    · (intro Wq hWq; exact HL.out Wq)
    go_big_quiet_on; (try simp only [Act.put, List.setIfInBounds_toArray, List.set_cons_zero, List.set_cons_succ])
    refine wpQuiet_nil ?_; intro w4 hb4
    have R4 := HR.out.step hb4
    obtain ⟨d0, d1, d2, d3, d4, e0, e1, e2, e3, e4⟩ := R4
    have R4 := HR.out.step hb4
    go_wp2
    go_end0
    exact ⟨⟨_, rfl⟩, R4.setHi z, (Exc.set (Exc.set (Exc.of_below hb4) 2 _) 3 _)⟩
  rw [if_neg h2]
  obtain rfl : d = 0 := by omega
  clear HO HG HL h1 h2
  by_cases h3 : 0 < n
  · rw [if_pos h3]
    go_enter Try.func97, Try.ntmps97
    go_wp2
    go_end0
    exact ⟨⟨_, rfl⟩, HR.out.setOk false, Exc.set (Exc.refl _ _) 4 _⟩
  · rw [if_neg h3]
    go_enter Try.func97, Try.ntmps97
    go_wp2
    go_end0
    exact ⟨⟨_, rfl⟩, HR.out, Exc.refl _ _⟩
end Go.Proofs.Ytbcabckokmjelaa
