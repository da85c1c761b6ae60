/-
  errors of transit.
-/
import Derived.Test.YtbcabckokmjelaaQ16a
namespace Go.Proofs.Ytbcabckokmjelaa
open Go.RowKit Go.Shelf
attribute [local go_sem] Oper.semAt_some
set_option linter.unusedVariables false
set_option linter.unusedSimpArgs false
theorem sign_c (x : Int) (hx : -100000 ≤ x ∧ x ≤ 100000) (w : World) : Calls Try.prog 99 #[.int .i64 x] w fun e w' => e = .returned (.tuple #[.int .i64 (sg x), .int .i64 (mg x)]) ∧ w' = w := by
  have v1 : IntKind.i64.wrap (-x) = -x := IntWalk.i64_in _ (by omega)
  unfold sg mg
  by_cases h : x < 0
  · rw [if_pos h, if_pos h]
    go_enter Try.func99, Try.ntmps99
    go_wp2
    go_ret2
    exact ⟨rfl, rfl⟩
  · rw [if_neg h, if_neg h]
    go_enter Try.func99, Try.ntmps99
    go_wp2
    go_ret2
    exact ⟨rfl, rfl⟩
theorem sides_c (A : Option Addr) (n cap : Nat) (w : World) : Calls Try.prog 98 #[.slice A n cap] w fun e w' => e = .returned (.func (.func 117) #[] #[.pointer (some ⟨w.heap.size, 0, none⟩)]) ∧ w' = w.alloc (.cells #[.slice A n cap] 75) := by
  go_enter Try.func98, Try.ntmps98
  go_wp2
  go_ret
  exact ⟨rfl, rfl⟩
theorem RdL.keep {α : Type} {w W : World} {B sz : Nat} {enc : α → List Value} {A : Option Addr} {l : List α} (h : RdL w B enc sz A l) (hb : Below B w W) : RdL W B enc sz A l := by
  intro hl
  obtain ⟨b, off, e, hlt, hc⟩ := h hl
  exact ⟨b, off, e, hlt, fun i hi j v hv => (hb.cell (p := ⟨b, _, none⟩) hlt).trans (hc i hi j v hv)⟩
theorem RcAt.of_block {W W' : World} {P : Nat} {r : Rc} (h : RcAt W P r) (hb : W'.heap[P]? = W.heap[P]?) : RcAt W' P r := by
  have c := fun o => World.cell?_of_block (w := W) (w' := W') (a := ⟨P, o, none⟩) hb
  have f := fun o => World.frozen?_of_block (w := W) (w' := W') (a := ⟨P, o, none⟩) hb
  exact ⟨(c 0).trans h.c0, (c 1).trans h.c1, (c 2).trans h.c2, (c 3).trans h.c3, (c 4).trans h.c4, (f 0).trans h.f0, (f 1).trans h.f1, (f 2).trans h.f2, (f 3).trans h.f3, (f 4).trans h.f4⟩
theorem KB.of_exc {lo hi P : Nat} {A B : World} (h : Exc P A B) (h1 : lo ≤ P) (h2 : P < hi) : KB lo hi A B := ⟨h.size, fun k hk hr => h.block k hk (by omega)⟩
theorem map_range {α : Type} (l : List α) (d : α) : (List.range l.length).map (fun i => l.getD i d) = l := by
  apply List.ext_getElem
  · simp
  · intro i h1 h2
    simp [List.getD_eq_getElem?_getD, List.getElem?_eq_getElem h2]
def pr0 (l : List Sp) (i : Nat) : Sp × Sp := (pairsOf l).getD i (⟨0, 0, 0⟩, ⟨0, 0, 0⟩)
theorem pr0_ok {l : List Sp} (hl : ∀ x ∈ l, SpOk x) (i : Nat) : SpOk (pr0 l i).1 ∧ SpOk (pr0 l i).2 := by
  unfold pr0
  rcases Nat.lt_or_ge i (pairsOf l).length with h | h
  · rw [List.getD_eq_getElem?_getD, List.getElem?_eq_getElem h]
    simp only [Option.getD_some]
    have hm : (pairsOf l)[i] ∈ pairsOf l := List.getElem_mem h
    generalize (pairsOf l)[i] = p at *
    unfold pairsOf rowP at hm
    obtain ⟨s, hs, hm⟩ := List.mem_flatMap.1 hm
    obtain ⟨t, ht, hm⟩ := List.mem_flatMap.1 hm
    unfold cellP at hm
    split at hm
    · simp at hm; subst hm; exact ⟨hl s hs, hl t ht⟩
    · simp at hm
  · rw [List.getD_eq_getElem?_getD, List.getElem?_eq_none h]
    exact ⟨⟨by simp, by simp, by simp⟩, ⟨by simp, by simp, by simp⟩⟩
theorem sg_mul {x a : Int} {B : Int} (h : -B ≤ a ∧ a ≤ B) : -B ≤ a * sg x ∧ a * sg x ≤ B := by unfold sg; split <;> omega
theorem mg_bd {x : Int} (h : -10000 ≤ x ∧ x ≤ 10000) : 0 ≤ mg x ∧ mg x ≤ 10000 := by unfold mg; split <;> omega
theorem mul_mg {a m : Int} (h : -100000000 ≤ a ∧ a ≤ 100000000) (hm : 0 ≤ m ∧ m ≤ 10000) : -1000000000000 ≤ a * m ∧ a * m ≤ 1000000000000 := by
  have a1 : a * m ≤ 100000000 * m := Int.mul_le_mul_of_nonneg_right h.2 hm.1
  have a2 : (-100000000) * m ≤ a * m := Int.mul_le_mul_of_nonneg_right h.1 hm.1
  omega
theorem lv_bd {s : Sp} (h : SpOk s) : -100000000 ≤ lvOf s ∧ lvOf s ≤ 100000000 := by unfold lvOf; split; exact h.hi; exact h.lo
theorem uv_bd {s : Sp} (h : SpOk s) : -100000000 ≤ uvOf s ∧ uvOf s ≤ 100000000 := by unfold uvOf; split; exact h.lo; exact h.hi
theorem pr_bd {s t : Sp} (hs : SpOk s) (ht : SpOk t) : (-10000000000000 ≤ prN s t ∧ prN s t ≤ 10000000000000) ∧ -100000 ≤ prD s t ∧ prD s t ≤ 100000 := by
  have a1 := mul_mg (sg_mul (x := s.s) (lv_bd hs)) (mg_bd ht.s)
  have a2 := mul_mg (sg_mul (x := t.s) (uv_bd ht)) (mg_bd hs.s)
  have b1 := mg_bd ht.s
  have b2 := mg_bd hs.s
  have c1 := sg_mul (x := s.s) (a := mg t.s) (B := 10000) (by omega)
  have c2 := sg_mul (x := t.s) (a := mg s.s) (B := 10000) (by omega)
  unfold prN prD
  rw [Int.mul_comm (sg s.s), Int.mul_comm (sg t.s)]
  omega
theorem erOk {l : List Sp} (hl : ∀ x ∈ l, SpOk x) : RcOk (erR l) := by
  unfold erR
  have hz : RcOk (l.foldl erZ r00) := foldOk (fun r t ht hr => by
    unfold erZ
    split
    · have := (hl t ht).lo; have := (hl t ht).hi
      exact askOk (askOk hr (by omega) (by omega)) (by omega) (by omega)
    · exact hr) r00Ok
  have hp : ∀ p ∈ pairsOf l, SpOk p.1 ∧ SpOk p.2 := fun p hm => by
    unfold pairsOf rowP at hm
    obtain ⟨s, hs, hm⟩ := List.mem_flatMap.1 hm
    obtain ⟨t, ht, hm⟩ := List.mem_flatMap.1 hm
    unfold cellP at hm
    split at hm
    · simp at hm; subst hm; exact ⟨hl s hs, hl t ht⟩
    · simp at hm
  generalize pairsOf l = ps at *
  generalize l.foldl erZ r00 = r at *
  induction ps generalizing r with
  | nil => exact hz
  | cons p ps ih =>
    obtain ⟨h1, h2⟩ := hp p (by simp)
    exact ih (fun q hq => hp q (List.mem_cons_of_mem _ hq)) (erP r p) (askOk hz (pr_bd h1 h2).1 (pr_bd h1 h2).2)
/-- What holds between two rounds. -/
def ErI (w : World) (r1 : Rc) (l : List Sp) (pre : List Nat) (W : World) : Prop :=
  RcAt W (w.heap.size + 1) ((pre.map (pr0 l)).foldl erP r1) ∧ RcOk ((pre.map (pr0 l)).foldl erP r1) ∧ RcAt W w.heap.size ⟨⟨0, 0⟩, ⟨0, 0⟩, false⟩ ∧ Below w.heap.size w W
theorem ErI.keep {w A A' : World} {r1 : Rc} {l : List Sp} {B : Nat} {pre : List Nat} (h : ErI w r1 l pre A) (hb : Below B A A') (hB : w.heap.size + 1 < B) : ErI w r1 l pre A' := by
  obtain ⟨h1, h2, h3, h4⟩ := h
  exact ⟨h1.of_block (hb.block _ hB), h2, h3.of_block (hb.block _ (by omega)), h4.trans (hb.mono (by omega))⟩
set_option maxRecDepth 100000 in
set_option maxHeartbeats 1000000 in
theorem errors_c (l : List Sp) (n : Nat) (hln : l.length = n) (hn : n ≤ 1000) (hl : ∀ x ∈ l, SpOk x) (A : Option Addr) (cap : Nat) (w : World) (hr : RdL w w.heap.size stE 3 A l) :
    Calls Try.prog 69 #[.slice A n cap] w fun e w' => e = .returned (rcV (erR l)) ∧ Below w.heap.size w w' := by
  refine (callsIn_wide (n := 5)).1 ?_
  have hmo : Try.prog.follows Departure.mixedOrders = true := by kernel_rfl
  have HR := Lib.hid hr
  have HL := Lib.hid hl
  have HN := Lib.hid hln
  clear hr hl hln
  refine callsIn_of_wp_marks Try.func69 rfl trivial ?_ rfl
  simp only [Try.ntmps69, List.size_toArray, List.length_cons, List.length_nil, Nat.reduceAdd, Nat.reduceSub, Array.replicate_succ, Array.replicate_zero, List.push_toArray, List.append_toArray, List.nil_append, List.cons_append]
  refine wpIn_wide.2 ?_
  go_wp2
  obtain ⟨Z, hZ⟩ : ∃ Z, Z = erR l := ⟨_, rfl⟩
  have HZ := Lib.hid (show (pairsOf l).foldl erP (l.foldl erZ r00) = Z from hZ.symm)
  have HZZ := Lib.hid hZ
  clear hZ
  obtain ⟨W0, hW0⟩ : ∃ W, W = (w.alloc (.cells #[.int .i64 0, .int .i64 0, .int .i64 0, .int .i64 0, .bool false] 90)).alloc (.cells #[.int .i64 0, .int .i64 0, .int .i64 0, .int .i64 0, .bool true] 90) := ⟨_, rfl⟩
  have hQ : RcAt W0 w.heap.size ⟨⟨0, 0⟩, ⟨0, 0⟩, false⟩ := by
    rw [hW0]
    refine ⟨?_, ?_, ?_, ?_, ?_, ?_, ?_, ?_, ?_, ?_⟩ <;> simp [go_sem]
  have hP : RcAt W0 (w.heap.size + 1) r00 := by
    rw [hW0]
    unfold r00
    refine ⟨?_, ?_, ?_, ?_, ?_, ?_, ?_, ?_, ?_, ?_⟩ <;> simp [go_sem]
  have g0 : Below w.heap.size w W0 := by rw [hW0]; (repeat (first | exact Below.refl _ _ | refine Below.drew ?_ | refine Below.allocS ?_ _ | refine Below.step ?_ (by assumption) | refine Below.setCell ?_ (by simp <;> omega) _ | refine Below.drewN' ?_ _))
  have hs0 : w.heap.size + 1 < W0.heap.size := by rw [hW0]; simp
  rw [← hW0]
  clear hW0
  have HP := Lib.hid hP
  have HQ := Lib.hid hQ
  clear hP hQ
  go_loopw [15] (fun i wr => ∃ (k : Nat), k ≤ n ∧ i = .int .i64 k ∧ RcAt wr (w.heap.size + 1) ((l.take k).foldl erZ r00) ∧ RcOk ((l.take k).foldl erZ r00) ∧ Exc (w.heap.size + 1) W0 wr) (fun i _ => n - (intOf i).toNat)
  case atStart => exact ⟨0, Nat.zero_le _, rfl, HP.out, r00Ok, Exc.refl _ _⟩
  case round =>
    obtain ⟨k, hk, rfl, hrc, hok, hex⟩ := hrel
    have hbw : Below w.heap.size w wr := g0.trans (hex.below (by omega) (by omega))
    have hsw := hex.size
    have HRC := Lib.hid hrc
    have HOK := Lib.hid hok
    clear hrc hok
    by_cases hlt : k < n
    · have hltl : k < l.length := by rw [HN.out]; exact hlt
      obtain ⟨b, off, rfl, hb0, hc⟩ := HR.out (by omega)
      have c0 := (hbw.cell (p := ⟨b, _, none⟩) hb0).trans (hc k hltl 0 _ rfl)
      have c1 := (hbw.cell (p := ⟨b, _, none⟩) hb0).trans (hc k hltl 1 _ rfl)
      have c2 := (hbw.cell (p := ⟨b, _, none⟩) hb0).trans (hc k hltl 2 _ rfl)
      clear hc
      simp at c0
      have y0 : b < wr.heap.size := cell?_lt c0
      have hm := HL.out _ (List.getElem_mem hltl)
      have hT := take_fold erZ l r00 k hltl
      generalize (l.take k).foldl erZ r00 = r at *
      generalize l[k] = s at *
      have hslo := hm.lo
      have hshi := hm.hi
      clear hm
      by_cases h0 : s.s = 0
      · rw [show erZ r s = askR (askR r s.lo 1) (-s.hi) (-1) from by unfold erZ; rw [if_pos h0]] at hT
        have HT := Lib.hid hT
        clear hT
        have v1 : IntKind.i64.wrap (-s.hi) = -s.hi := IntWalk.i64_in _ (by omega)
        have HA := Lib.hid (fun W h => asks_c r (w.heap.size + 1) s.lo 1 W h HOK.out (by omega) (by omega))
        have HOK2 := Lib.hid (askOk HOK.out (n := s.lo) (d := 1) (by omega) (by omega))
        have HB := Lib.hid (fun W h => asks_c (askR r s.lo 1) (w.heap.size + 1) (-s.hi) (-1) W h HOK2.out (by omega) (by omega))
        have HOK3 := Lib.hid (askOk HOK2.out (n := -s.hi) (d := -1) (by omega) (by omega))
        have hba := fun o => Below.allocS (Below.refl wr.heap.size wr) o
        obtain ⟨W1, hW1⟩ : ∃ W, W = wr.alloc (.cells #[.int .i64 s.s, .int .i64 s.lo, .int .i64 s.hi] 99) := ⟨_, rfl⟩
        have t2 : W1.cell? ⟨wr.heap.size, 2, none⟩ = some (.int .i64 s.hi) := by rw [hW1]; simp [go_sem]
        have g1 : Below wr.heap.size wr W1 := by rw [hW1]; (repeat (first | exact Below.refl _ _ | refine Below.drew ?_ | refine Below.allocS ?_ _ | refine Below.step ?_ (by assumption) | refine Below.setCell ?_ (by simp <;> omega) _ | refine Below.drewN' ?_ _))
        go_wp2_with fail
        rw [h0] at hW1
        rw [← hW1]
        refine (HA.out _ (HRC.out.step g1)).mono ?_
        rintro e w4 ⟨⟨u, rfl⟩, hr4, he4⟩
        have q2 := he4.cell t2 (by omega)
        go_wp2_with fail
        refine (HB.out _ hr4).mono ?_
        rintro e w5 ⟨⟨u', rfl⟩, hr5, he5⟩
        go_wp2
        go_roundw
        case rel => exact ⟨k + 1, by omega, by go_num, by rw [HT.out]; exact hr5, by rw [HT.out]; exact HOK3.out, ((hex.step g1).trans he4).trans he5⟩
        case measure => simp [intOf]; omega
      · rw [show erZ r s = r from by unfold erZ; rw [if_neg h0]] at hT
        have HT := Lib.hid hT
        clear hT
        have hba := fun o => Below.allocS (Below.refl wr.heap.size wr) o
        go_wp2
        go_roundw
        case rel => exact ⟨k + 1, by omega, by go_num, by rw [HT.out]; exact HRC.out.step (hba _), by rw [HT.out]; exact HOK.out, hex.step (hba _)⟩
        case measure => simp [intOf]; omega
    · obtain rfl : k = n := by omega
      rw [List.take_of_length_le (by rw [HN.out]; exact Nat.le_refl _)] at HRC HOK
      go_wp2_with fail
      refine (sides_c A _ cap _).mono ?_
      rintro e w2 ⟨rfl, rfl⟩
      go_wp2_with fail
      obtain ⟨W2, hW2⟩ : ∃ W, W = wr.alloc (.cells #[.slice A k cap] 75) := ⟨_, rfl⟩
      have b2 : Below wr.heap.size wr W2 := by rw [hW2]; (repeat (first | exact Below.refl _ _ | refine Below.drew ?_ | refine Below.allocS ?_ _ | refine Below.step ?_ (by assumption) | refine Below.setCell ?_ (by simp <;> omega) _ | refine Below.drewN' ?_ _))
      have s2 : wr.heap.size < W2.heap.size := by rw [hW2]; simp
      have cl : W2.cell? ⟨wr.heap.size, 0, none⟩ = some (.slice A k cap) := by rw [hW2]; simp [go_sem]
      rw [← hW2]
      clear hW2
      have hw2 : Below w.heap.size w W2 := hbw.trans (b2.mono (by omega))
      have hne : w.heap.size ≠ w.heap.size + 1 := by omega
      have hq : RcAt W2 w.heap.size ⟨⟨0, 0⟩, ⟨0, 0⟩, false⟩ := (HQ.out.of_block (hex.block _ (by omega) hne)).step b2
      have i0 : ErI w (l.foldl erZ r00) l [] W2 := ⟨HRC.out.step b2, HOK.out, hq, hw2⟩
      have HPO := Lib.hid (fun i => pr0_ok HL.out i)
      clear hq
      refine (wpIn_wide (n := 5)).1 ?_
      refine range_wide (n := 3) (gf := 117) (lb := #[.pointer (some ⟨wr.heap.size, 0, none⟩)]) rfl (enters_of Try.func117 (by kernel_rfl) rfl)
        (sides_stops l k HN.out hn A cap w.heap.size (w.heap.size + 2) wr.heap.size W2 (by omega) (by omega) (by omega) cl (HR.out.keep hw2)) (Below.refl _ _) (by omega) (fun _ => rfl)
        (ErI w (l.foldl erZ r00) l) (fun _ _ _ => False) (fun s A A' h hb => h.keep hb (by omega)) (fun c s A A' h hb => h) i0
        (fun i a' X => ∃ B6 B7, X.heap[B6]? = some (.cells #[.int .i64 (lvOf (pr0 l i).1), .int .i64 (pr0 l i).1.s] 124 (0, 0)) ∧ X.heap[B7]? = some (.cells #[.int .i64 (uvOf (pr0 l i).2), .int .i64 (pr0 l i).2.s] 124 (0, 0)) ∧ w.heap.size + 1 < B6 ∧ w.heap.size + 1 < B7 ∧ a' = { tmps := #[.slice A k cap, undef, .pointer (some ⟨w.heap.size, 0, none⟩), .pointer (some ⟨w.heap.size + 1, 0, none⟩), undef, u5, .pointer (some ⟨B6, 0, none⟩), .pointer (some ⟨B7, 0, none⟩), undef, undef, undef, undef, .agg #[.int .i64 0, .int .i64 0, .int .i64 0, .int .i64 0, .bool true], .slice A k cap, .int .i64 (k : Int), .int .i64 (k : Int), .bool false, u17, u18, u19, u20, u21, u22, u23, u24, u25, u26, u27, u28, u29, .slice A k cap, .func (.func 117) #[] #[.pointer (some ⟨wr.heap.size, 0, none⟩)], .agg #[.int .i64 (lvOf (pr0 l i).1), .int .i64 (pr0 l i).1.s], .agg #[.int .i64 (uvOf (pr0 l i).2), .int .i64 (pr0 l i).2.s], undef, undef, undef, undef, undef, undef, undef, undef, undef, undef, undef, undef, undef, undef, undef, undef, undef, undef, undef, undef, undef, undef, undef, undef, undef, undef, undef, undef, undef, undef, undef, undef, undef, undef], defers := [] })
        (fun i a' X q r o h hk => by
          obtain ⟨B6, B7, h1, h2, h3, h4, h5⟩ := h
          refine ⟨B6, B7, ?_, ?_, h3, h4, h5⟩
          · rw [World.putObj_heap_other (by rintro rfl; rw [h1] at hk; cases hk)]; exact h1
          · rw [World.putObj_heap_other (by rintro rfl; rw [h2] at hk; cases hk)]; exact h2)
        ?assign ?body ?done ?stop
      case assign =>
        intro l0 pre i X K hi hs hK
        show Code.wpIn _ _ _ _ _ { tmps := (([32, 33].toArray : Array Tmp).zip (encP (pr0 l i))).foldl (fun t (p, v) => t.setIfInBounds p v) _, defers := [] } X
        unfold encP
        gi_wp2
        have e1 : Below X.heap.size X ((X.alloc (.cells #[.int .i64 (lvOf (pr0 l i).1), .int .i64 (pr0 l i).1.s] 124)).alloc (.cells #[.int .i64 (uvOf (pr0 l i).2), .int .i64 (pr0 l i).2.s] 124)) := by (repeat (first | exact Below.refl _ _ | refine Below.drew ?_ | refine Below.allocS ?_ _ | refine Below.step ?_ (by assumption) | refine Below.setCell ?_ (by simp <;> omega) _ | refine Below.drewN' ?_ _))
        refine hK _ _ (KB.of_below e1) (hi.keep e1 (by omega)) ⟨X.heap.size, X.heap.size + 1, ?_, ?_, by omega, by omega, rfl⟩
        · rw [Below.heap_alloc _ _ _ (by simp)]; exact World.alloc_heap_new _ _
        · have := World.alloc_heap_new (X.alloc (.cells #[.int .i64 (lvOf (pr0 l i).1), .int .i64 (pr0 l i).1.s] 124)) (.cells #[.int .i64 (uvOf (pr0 l i).2), .int .i64 (pr0 l i).2.s] 124)
          simpa using this
      case body =>
        rintro l0 pre i a' X hl' ⟨r', hr'⟩ ⟨hI1, hI2, hI3, hI4⟩ ⟨B6, B7, h6, h7, hB6, hB7, rfl⟩ hlen
        obtain ⟨ok1, ok2⟩ := HPO.out i
        have HI1 := Lib.hid hI1
        have HI2 := Lib.hid hI2
        have HI3 := Lib.hid hI3
        have hfold : ((pre ++ [i]).map (pr0 l)).foldl erP (l.foldl erZ r00) = askR ((pre.map (pr0 l)).foldl erP (l.foldl erZ r00)) (prN (pr0 l i).1 (pr0 l i).2) (prD (pr0 l i).1 (pr0 l i).2) := by
          rw [List.map_append, List.foldl_append]; rfl
        have HFO := Lib.hid hfold
        have hbd := pr_bd ok1 ok2
        have m1 := mg_bd ok1.s
        have m2 := mg_bd ok2.s
        have n1 := sg_mul (x := (pr0 l i).1.s) (lv_bd ok1)
        have n2 := sg_mul (x := (pr0 l i).2.s) (uv_bd ok2)
        have n3 := mul_mg n1 m2
        have n4 := mul_mg n2 m1
        have n5 := sg_mul (x := (pr0 l i).1.s) (a := mg (pr0 l i).2.s) (B := 10000) (by omega)
        have n6 := sg_mul (x := (pr0 l i).2.s) (a := mg (pr0 l i).1.s) (B := 10000) (by omega)
        have hs1 := ok1.s
        have hs2 := ok2.s
        have HSa := Lib.hid (fun W => sign_c (pr0 l i).1.s (by omega) W)
        have HSb := Lib.hid (fun W => sign_c (pr0 l i).2.s (by omega) W)
        have HAS := Lib.hid (fun W h => asks_c ((pre.map (pr0 l)).foldl erP (l.foldl erZ r00)) (w.heap.size + 1) (prN (pr0 l i).1 (pr0 l i).2) (prD (pr0 l i).1 (pr0 l i).2) W h HI2.out hbd.1 hbd.2)
        have HOK' := Lib.hid (askOk HI2.out hbd.1 hbd.2)
        unfold prN prD at HAS HFO HOK' hbd
        clear hfold hI1 hI2 hI3 ok1 ok2
        have d0 : X.cell? ⟨B6, 0, none⟩ = some (.int .i64 (lvOf (pr0 l i).1)) := by simp [World.cell?, h6]
        have d1 : X.cell? ⟨B6, 1, none⟩ = some (.int .i64 (pr0 l i).1.s) := by simp [World.cell?, h6]
        have e0 : X.cell? ⟨B7, 0, none⟩ = some (.int .i64 (uvOf (pr0 l i).2)) := by simp [World.cell?, h7]
        have e1 : X.cell? ⟨B7, 1, none⟩ = some (.int .i64 (pr0 l i).2.s) := by simp [World.cell?, h7]
        clear h6 h7
        generalize lvOf (pr0 l i).1 = lv at *
        generalize uvOf (pr0 l i).2 = uv at *
        generalize (pr0 l i).1.s = sa at *
        generalize (pr0 l i).2.s = sb at *
        generalize sg sa = f at *
        generalize sg sb = g at *
        generalize mg sa = ma at *
        generalize mg sb = mb at *
        have v1 : IntKind.i64.wrap (lv * f) = lv * f := IntWalk.i64_in _ (by omega)
        have v2 : IntKind.i64.wrap (lv * f * mb) = lv * f * mb := IntWalk.i64_in _ (by omega)
        have v3 : IntKind.i64.wrap (uv * g) = uv * g := IntWalk.i64_in _ (by omega)
        have v4 : IntKind.i64.wrap (uv * g * ma) = uv * g * ma := IntWalk.i64_in _ (by omega)
        have v5 : IntKind.i64.wrap (lv * f * mb - uv * g * ma) = lv * f * mb - uv * g * ma := IntWalk.i64_in _ (by omega)
        have v6 : IntKind.i64.wrap (f * mb) = f * mb := IntWalk.i64_in _ (by rw [Int.mul_comm]; omega)
        have v7 : IntKind.i64.wrap (g * ma) = g * ma := IntWalk.i64_in _ (by rw [Int.mul_comm]; omega)
        have v8 : IntKind.i64.wrap (f * mb - g * ma) = f * mb - g * ma := IntWalk.i64_in _ (by rw [Int.mul_comm f, Int.mul_comm g]; omega)
        clear n1 n2 n3 n4 n5 n6 m1 m2 hbd hs1 hs2
        generalize (pre.map (pr0 l)).foldl erP (l.foldl erZ r00) = r0 at *
        gi_wp2
        refine ⟨trivial, (callsIn_wide.2 (HSa.out _)).mono ?_⟩
        rintro e w' ⟨rfl, hw'⟩; replace hw' := hw'.symm; subst hw'
        gi_wp2
        refine ⟨trivial, (callsIn_wide.2 (HSb.out _)).mono ?_⟩
        rintro e w' ⟨rfl, hw'⟩; replace hw' := hw'.symm; subst hw'
        gi_wp2
        refine ⟨trivial, (callsIn_wide.2 (HAS.out _ HI1.out)).mono ?_⟩
        rintro e w' ⟨⟨u, rfl⟩, hr4, he4⟩
        gi_wp2
        have hXs : w.heap.size + 1 < X.heap.size := HI1.out.lt
        refine And.intro (KB.of_exc he4 (by omega) (by omega)) ⟨by rw [HFO.out]; exact hr4, by rw [HFO.out]; exact HOK'.out, HI3.out.of_block (he4.block _ (by omega) (by omega)), hI4.trans (he4.below (by omega) (by omega))⟩
      case done =>
        rintro D xs X hD hS ⟨hI1, hI2, hI3, hI4⟩ hK
        rw [hS, show (List.range (pairsOf l).length).map (pr0 l) = pairsOf l from map_range _ _, HZ.out] at hI1
        obtain ⟨p0, p1, p2, p3, p4, -, -, -, -, -⟩ := hI1
        obtain ⟨a0, a1, a2, a3, a4, e0, e1, e2, e3, e4⟩ := hI3
        have HK := Lib.hid hK
        clear hK hS hI2
        go_wp2
        (try simp only [Exit.inBlock, Exit.then])
        clear p0 p1 p2 p3 p4
        have hb5 : Below w.heap.size w (((((X.setCell ⟨w.heap.size, 0, none⟩ (.int .i64 Z.lo.n)).setCell ⟨w.heap.size, 1, none⟩ (.int .i64 Z.lo.d)).setCell ⟨w.heap.size, 2, none⟩ (.int .i64 Z.hi.n)).setCell ⟨w.heap.size, 3, none⟩ (.int .i64 Z.hi.d)).setCell ⟨w.heap.size, 4, none⟩ (.bool Z.ok)) := by (repeat (first | (with_reducible exact Below.refl _ _) | (with_reducible assumption) | (with_reducible refine Below.drew ?_) | (with_reducible refine Below.allocS ?_ _) | (with_reducible refine Below.setCell ?_ ?_ _) | (with_reducible refine Below.step ?_ (by assumption)) | (with_reducible refine Below.drewN' ?_ _))); (try any_goals (first | (with_reducible assumption) | (simp; done) | (simp; omega) | omega))
        have k5 : (((((X.setCell ⟨w.heap.size, 0, none⟩ (.int .i64 Z.lo.n)).setCell ⟨w.heap.size, 1, none⟩ (.int .i64 Z.lo.d)).setCell ⟨w.heap.size, 2, none⟩ (.int .i64 Z.hi.n)).setCell ⟨w.heap.size, 3, none⟩ (.int .i64 Z.hi.d)).setCell ⟨w.heap.size, 4, none⟩ (.bool Z.ok)).heap[D]? = some (.deferred (some [])) := by
          rw [Below.heap_setCell _ _ _ _ (by simp only; omega), Below.heap_setCell _ _ _ _ (by simp only; omega), Below.heap_setCell _ _ _ _ (by simp only; omega), Below.heap_setCell _ _ _ _ (by simp only; omega), Below.heap_setCell _ _ _ _ (by simp only; omega)]
          exact HK.out
        have q0 : (((((X.setCell ⟨w.heap.size, 0, none⟩ (.int .i64 Z.lo.n)).setCell ⟨w.heap.size, 1, none⟩ (.int .i64 Z.lo.d)).setCell ⟨w.heap.size, 2, none⟩ (.int .i64 Z.hi.n)).setCell ⟨w.heap.size, 3, none⟩ (.int .i64 Z.hi.d)).setCell ⟨w.heap.size, 4, none⟩ (.bool Z.ok)).cell? ⟨w.heap.size, 0, none⟩ = some (.int .i64 Z.lo.n) := by simp [go_sem, *]
        have q1 : (((((X.setCell ⟨w.heap.size, 0, none⟩ (.int .i64 Z.lo.n)).setCell ⟨w.heap.size, 1, none⟩ (.int .i64 Z.lo.d)).setCell ⟨w.heap.size, 2, none⟩ (.int .i64 Z.hi.n)).setCell ⟨w.heap.size, 3, none⟩ (.int .i64 Z.hi.d)).setCell ⟨w.heap.size, 4, none⟩ (.bool Z.ok)).cell? ⟨w.heap.size, 1, none⟩ = some (.int .i64 Z.lo.d) := by simp [go_sem, *]
        have q2 : (((((X.setCell ⟨w.heap.size, 0, none⟩ (.int .i64 Z.lo.n)).setCell ⟨w.heap.size, 1, none⟩ (.int .i64 Z.lo.d)).setCell ⟨w.heap.size, 2, none⟩ (.int .i64 Z.hi.n)).setCell ⟨w.heap.size, 3, none⟩ (.int .i64 Z.hi.d)).setCell ⟨w.heap.size, 4, none⟩ (.bool Z.ok)).cell? ⟨w.heap.size, 2, none⟩ = some (.int .i64 Z.hi.n) := by simp [go_sem, *]
        have q3 : (((((X.setCell ⟨w.heap.size, 0, none⟩ (.int .i64 Z.lo.n)).setCell ⟨w.heap.size, 1, none⟩ (.int .i64 Z.lo.d)).setCell ⟨w.heap.size, 2, none⟩ (.int .i64 Z.hi.n)).setCell ⟨w.heap.size, 3, none⟩ (.int .i64 Z.hi.d)).setCell ⟨w.heap.size, 4, none⟩ (.bool Z.ok)).cell? ⟨w.heap.size, 3, none⟩ = some (.int .i64 Z.hi.d) := by simp [go_sem, *]
        have q4 : (((((X.setCell ⟨w.heap.size, 0, none⟩ (.int .i64 Z.lo.n)).setCell ⟨w.heap.size, 1, none⟩ (.int .i64 Z.lo.d)).setCell ⟨w.heap.size, 2, none⟩ (.int .i64 Z.hi.n)).setCell ⟨w.heap.size, 3, none⟩ (.int .i64 Z.hi.d)).setCell ⟨w.heap.size, 4, none⟩ (.bool Z.ok)).cell? ⟨w.heap.size, 4, none⟩ = some (.bool Z.ok) := by simp [go_sem, *]
        clear a0 a1 a2 a3 a4 e0 e1 e2 e3 e4
        generalize (((((X.setCell ⟨w.heap.size, 0, none⟩ (.int .i64 Z.lo.n)).setCell ⟨w.heap.size, 1, none⟩ (.int .i64 Z.lo.d)).setCell ⟨w.heap.size, 2, none⟩ (.int .i64 Z.hi.n)).setCell ⟨w.heap.size, 3, none⟩ (.int .i64 Z.hi.d)).setCell ⟨w.heap.size, 4, none⟩ (.bool Z.ok)) = Y at *
        refine ⟨by simp, .inl ⟨_, _, rfl, run_takeDeferred k5, ?_⟩⟩
        have hD' : w.heap.size ≠ D := by omega
        have c := fun o => World.cell?_of_block (a := ⟨w.heap.size, o, none⟩) (World.putObj_heap_other (r := D) (o := .deferred none) (w := Y) (by show w.heap.size ≠ D; exact hD'))
        refine ⟨_, res_rc rfl _ _ w.heap.size (.int .i64 Z.lo.n) (.int .i64 Z.lo.d) (.int .i64 Z.hi.n) (.int .i64 Z.hi.d) (.bool Z.ok) rfl ((c 0).trans q0) ((c 1).trans q1) ((c 2).trans q2) ((c 3).trans q3) ((c 4).trans q4), ?_, hb5.trans (below_put Y (by omega) _)⟩
        rw [← HZZ.out]; rfl
      case stop =>
        intro D c pre X hD hS hI hK
        exact hI.elim
end Go.Proofs.Ytbcabckokmjelaa
