/-
  The azimuth's reach, and whether strips agree.
-/
import Derived.Test.YtbcabckokmjelaaQ4
namespace Go.Proofs.Ytbcabckokmjelaa
open Go.RowKit
set_option linter.unusedVariables false
set_option linter.unusedSimpArgs false
def r00 : Rc := ⟨⟨0, 0⟩, ⟨0, 0⟩, true⟩
/-- One pair of strips. -/
def azStep (s : Sp) (r : Rc) (t : Sp) : Rc := askR r (1000 * (s.lo - t.hi)) (s.s - t.s)
def azRow (l : List Sp) (r : Rc) (s : Sp) : Rc := l.foldl (azStep s) r
def azR (l : List Sp) : Rc := l.foldl (azRow l) r00
theorem r00Ok : RcOk r00 := ⟨⟨by unfold FrB r00; simp, fun _ => rfl⟩, ⟨by unfold FrB r00; simp, fun _ => rfl⟩⟩
theorem az_bd {s t : Sp} (hs : SpOk s) (ht : SpOk t) : (-10000000000000 ≤ 1000 * (s.lo - t.hi) ∧ 1000 * (s.lo - t.hi) ≤ 10000000000000) ∧ -100000 ≤ s.s - t.s ∧ s.s - t.s ≤ 100000 := by
  have := hs.s; have := hs.lo; have := ht.s; have := ht.hi; omega
theorem azStepOk {s t : Sp} {r : Rc} (hs : SpOk s) (ht : SpOk t) (hr : RcOk r) : RcOk (azStep s r t) := askOk hr (az_bd hs ht).1 (az_bd hs ht).2
theorem foldOk {l : List Sp} {f : Rc → Sp → Rc} (hf : ∀ r t, t ∈ l → RcOk r → RcOk (f r t)) {r : Rc} (hr : RcOk r) : RcOk (l.foldl f r) := by
  induction l generalizing r with
  | nil => exact hr
  | cons x l ih => exact ih (fun r t ht => hf r t (List.mem_cons_of_mem _ ht)) (hf r x (by simp) hr)
theorem take_fold {α β : Type} (f : β → α → β) (l : List α) (r : β) (k : Nat) (h : k < l.length) : (l.take (k + 1)).foldl f r = f ((l.take k).foldl f r) l[k] := by
  rw [List.take_succ_eq_append_getElem h, List.foldl_append]; rfl
def rcV (r : Rc) : Value := .agg #[.int .i64 r.lo.n, .int .i64 r.lo.d, .int .i64 r.hi.n, .int .i64 r.hi.d, .bool r.ok]
theorem res_rc {fn : Func} {p : Tmp} (h : fn.results = #[.cell p 90]) (tmps : Array Value) (w : World) (b : Nat) (v0 v1 v2 v3 v4 : Value) (hp : tmps.getD p undef = .pointer (some ⟨b, 0, none⟩))
    (c0 : w.cell? ⟨b, 0, none⟩ = some v0) (c1 : w.cell? ⟨b, 1, none⟩ = some v1) (c2 : w.cell? ⟨b, 2, none⟩ = some v2) (c3 : w.cell? ⟨b, 3, none⟩ = some v3) (c4 : w.cell? ⟨b, 4, none⟩ = some v4) :
    (results fn tmps).run Try.prog w = .ok (.agg #[v0, v1, v2, v3, v4]) w := by
  have e : (results fn tmps).run Try.prog w = ((asAddr (tmps.getD p undef)).run Try.prog w).andThen fun a w₁ => (loadVar 90 a).run Try.prog w₁ := by
    simp only [results, h]
    simp [Sem.run_bind, Result.andThen]
  rw [e, hp]
  simp only [asAddr, Sem.run_pure, Result.andThen_ok]
  simp [go_sem, *]
/-- .. and that was laid there just before. -/
theorem res_rc5 {fn : Func} {p : Tmp} (h : fn.results = #[.cell p 90]) (tmps : Array Value) (w : World) (b : Nat) (v0 v1 v2 v3 v4 : Value) (hp : tmps.getD p undef = .pointer (some ⟨b, 0, none⟩)) {o0 o1 o2 o3 o4 : Value}
    (c0 : w.cell? ⟨b, 0, none⟩ = some o0) (c1 : w.cell? ⟨b, 1, none⟩ = some o1) (c2 : w.cell? ⟨b, 2, none⟩ = some o2) (c3 : w.cell? ⟨b, 3, none⟩ = some o3) (c4 : w.cell? ⟨b, 4, none⟩ = some o4) :
    (results fn tmps).run Try.prog (((((w.setCell ⟨b, 0, none⟩ v0).setCell ⟨b, 1, none⟩ v1).setCell ⟨b, 2, none⟩ v2).setCell ⟨b, 3, none⟩ v3).setCell ⟨b, 4, none⟩ v4) =
      .ok (.agg #[v0, v1, v2, v3, v4]) (((((w.setCell ⟨b, 0, none⟩ v0).setCell ⟨b, 1, none⟩ v1).setCell ⟨b, 2, none⟩ v2).setCell ⟨b, 3, none⟩ v3).setCell ⟨b, 4, none⟩ v4) :=
  res_rc h tmps _ b v0 v1 v2 v3 v4 hp (by simp [go_sem, *]) (by simp [go_sem, *]) (by simp [go_sem, *]) (by simp [go_sem, *]) (by simp [go_sem, *])
set_option maxRecDepth 100000 in
set_option maxHeartbeats 2000000 in
theorem azimuths_c (l : List Sp) (n : Nat) (hln : l.length = n) (hn : n ≤ 100000) (hl : ∀ x ∈ l, SpOk x) (A : Option Addr) (cap : Nat) (w : World) (hr : RdL w w.heap.size stE 3 A l) :
    Calls Try.prog 72 #[.slice A n cap] w fun e w' => e = .returned (rcV (azR l)) ∧ Below w.heap.size w w' := by
  have HR := Lib.hid hr
  have HL := Lib.hid hl
  have HN := Lib.hid hln
  clear hr hl hln
  obtain ⟨Z, hZ⟩ : ∃ Z, Z = azR l := ⟨_, rfl⟩
  rw [← hZ]
  have HZ := Lib.hid (show l.foldl (azRow l) r00 = Z from hZ.symm)
  clear hZ
  unfold rcV
  go_enter Try.func72, Try.ntmps72
  go_wp2
  obtain ⟨W0, hW0⟩ : ∃ W, W = (w.alloc (.cells #[.int .i64 0, .int .i64 0, .int .i64 0, .int .i64 0, .bool false] 90)).alloc (.cells #[.int .i64 0, .int .i64 0, .int .i64 0, .int .i64 0, .bool true] 90) := ⟨_, rfl⟩
  have z0 : W0.cell? ⟨w.heap.size, 0, none⟩ = some (.int .i64 0) := by rw [hW0]; simp [go_sem]
  have z1 : W0.cell? ⟨w.heap.size, 1, none⟩ = some (.int .i64 0) := by rw [hW0]; simp [go_sem]
  have z2 : W0.cell? ⟨w.heap.size, 2, none⟩ = some (.int .i64 0) := by rw [hW0]; simp [go_sem]
  have z3 : W0.cell? ⟨w.heap.size, 3, none⟩ = some (.int .i64 0) := by rw [hW0]; simp [go_sem]
  have z4 : W0.cell? ⟨w.heap.size, 4, none⟩ = some (.bool false) := by rw [hW0]; simp [go_sem]
  have f0 : W0.frozen? ⟨w.heap.size, 0, none⟩ = false := by rw [hW0]; simp [go_sem]
  have f1 : W0.frozen? ⟨w.heap.size, 1, none⟩ = false := by rw [hW0]; simp [go_sem]
  have f2 : W0.frozen? ⟨w.heap.size, 2, none⟩ = false := by rw [hW0]; simp [go_sem]
  have f3 : W0.frozen? ⟨w.heap.size, 3, none⟩ = false := by rw [hW0]; simp [go_sem]
  have f4 : W0.frozen? ⟨w.heap.size, 4, none⟩ = false := by rw [hW0]; simp [go_sem]
  have hP : RcAt W0 (w.heap.size + 1) r00 := by
    rw [hW0]
    unfold r00
    refine ⟨?_, ?_, ?_, ?_, ?_, ?_, ?_, ?_, ?_, ?_⟩ <;> simp [go_sem]
  have g0 : Below w.heap.size w W0 := by rw [hW0]; (repeat (first | exact Below.refl _ _ | refine Below.drew ?_ | refine Below.allocS ?_ _ | refine Below.step ?_ (by assumption) | refine Below.setCell ?_ (by simp <;> omega) _ | refine Below.drewN' ?_ _))
  have hs0 : W0.heap.size = w.heap.size + 2 := by rw [hW0]; simp
  rw [← hW0]
  clear hW0
  have HP := Lib.hid hP
  clear hP
  go_loopw [11] (fun i wr => ∃ (k : Nat), k ≤ n ∧ i = .int .i64 k ∧ RcAt wr (w.heap.size + 1) ((l.take k).foldl (azRow l) r00) ∧ Exc (w.heap.size + 1) W0 wr) (fun i _ => n - (intOf i).toNat)
  case atStart => exact ⟨0, Nat.zero_le _, rfl, HP.out, Exc.refl _ _⟩
  case round =>
    rename World => V
    obtain ⟨k, hk, rfl, hrc, hex⟩ := hrel
    have hbw : Below w.heap.size w V := g0.trans (hex.below (by omega) (by omega))
    have hsw := hex.size
    have HRC := Lib.hid hrc
    clear hrc
    by_cases hlt : k < n
    · have hltl : k < l.length := by rw [HN.out]; exact hlt
      obtain ⟨b, off, rfl, hb0, hc⟩ := HR.out (by omega)
      have c0 := (hbw.cell (p := ⟨b, _, none⟩) hb0).trans (hc k hltl 0 _ rfl)
      have c1 := (hbw.cell (p := ⟨b, _, none⟩) hb0).trans (hc k hltl 1 _ rfl)
      have c2 := (hbw.cell (p := ⟨b, _, none⟩) hb0).trans (hc k hltl 2 _ rfl)
      have HC := Lib.hid hc
      clear hc
      simp at c0
      have y0 : b < V.heap.size := cell?_lt c0
      have hm := HL.out _ (List.getElem_mem hltl)
      have HT := Lib.hid (take_fold (azRow l) l r00 k hltl)
      have hOk : RcOk ((l.take k).foldl (azRow l) r00) := foldOk (fun r t ht hr => foldOk (fun r' t' ht' hr' => azStepOk (HL.out _ (List.mem_of_mem_take ht)) (HL.out _ ht') hr') hr) r00Ok
      have HOK := Lib.hid hOk
      clear hOk
      generalize (l.take k).foldl (azRow l) r00 = r at *
      generalize l[k] = s at *
      have HM := Lib.hid hm
      clear hm
      go_wp2
      obtain ⟨W1, hW1⟩ : ∃ W, W = V.alloc (.cells #[.int .i64 s.s, .int .i64 s.lo, .int .i64 s.hi] 99) := ⟨_, rfl⟩
      have t0 : W1.cell? ⟨V.heap.size, 0, none⟩ = some (.int .i64 s.s) := by rw [hW1]; simp [go_sem]
      have t1 : W1.cell? ⟨V.heap.size, 1, none⟩ = some (.int .i64 s.lo) := by rw [hW1]; simp [go_sem]
      have g1 : Below V.heap.size V W1 := by rw [hW1]; (repeat (first | exact Below.refl _ _ | refine Below.drew ?_ | refine Below.allocS ?_ _ | refine Below.step ?_ (by assumption) | refine Below.setCell ?_ (by simp <;> omega) _ | refine Below.drewN' ?_ _))
      have hs1 : W1.heap.size = V.heap.size + 1 := by rw [hW1]; simp
      rw [← hW1]
      clear hW1 c0 c1 c2
      go_loopw [17] (fun i wi => ∃ (j : Nat), j ≤ n ∧ i = .int .i64 j ∧ RcAt wi (w.heap.size + 1) ((l.take j).foldl (azStep s) r) ∧ Exc (w.heap.size + 1) W1 wi) (fun i _ => n - (intOf i).toNat)
      case atStart => exact ⟨0, Nat.zero_le _, rfl, HRC.out.step g1, Exc.refl _ _⟩
      case round =>
        obtain ⟨j, hj, rfl, hrci, hexi⟩ := hrel
        have hsi := hexi.size
        have hbi : Below w.heap.size w wr := (hbw.trans (g1.mono (by omega))).trans (hexi.below (by omega) (by omega))
        have HRI := Lib.hid hrci
        have q0 := hexi.cell t0 (by omega)
        have q1 := hexi.cell t1 (by omega)
        clear hrci
        by_cases hltj : j < n
        · have hltl' : j < l.length := by rw [HN.out]; exact hltj
          have d0 := (hbi.cell (p := ⟨b, _, none⟩) hb0).trans (HC.out j hltl' 0 _ rfl)
          have d1 := (hbi.cell (p := ⟨b, _, none⟩) hb0).trans (HC.out j hltl' 1 _ rfl)
          have d2 := (hbi.cell (p := ⟨b, _, none⟩) hb0).trans (HC.out j hltl' 2 _ rfl)
          simp at d0
          have HT2 := Lib.hid (take_fold (azStep s) l r j hltl')
          have hOk2 : RcOk ((l.take j).foldl (azStep s) r) := foldOk (fun r' t' ht' hr' => azStepOk HM.out (HL.out _ (List.mem_of_mem_take ht')) hr') HOK.out
          have hbd := az_bd HM.out (HL.out _ (List.getElem_mem hltl'))
          have HOK2 := Lib.hid hOk2
          clear hOk2
          generalize (l.take j).foldl (azStep s) r = r2 at *
          generalize l[j] = t at *
          have hs := HM.out.s
          have hslo := HM.out.lo
          have v1 : IntKind.i64.wrap (s.lo - t.hi) = s.lo - t.hi := IntWalk.i64_in _ (by omega)
          have v2 : IntKind.i64.wrap (1000 * (s.lo - t.hi)) = 1000 * (s.lo - t.hi) := IntWalk.i64_in _ (by omega)
          have v3 : IntKind.i64.wrap (s.s - t.s) = s.s - t.s := IntWalk.i64_in _ (by omega)
          have y1 : b < wr.heap.size := cell?_lt d0
          have y2 : V.heap.size < wr.heap.size := cell?_lt q0
          have HAS := Lib.hid (fun W h => asks_c r2 (w.heap.size + 1) (1000 * (s.lo - t.hi)) (s.s - t.s) W h HOK2.out hbd.1 hbd.2)
          clear hbd
          have hba := fun o => Below.allocS (Below.refl wr.heap.size wr) o
          go_wp2_with fail
          refine (HAS.out _ (HRI.out.step (hba _))).mono ?_
          rintro e w4 ⟨⟨u, rfl⟩, hr4, he4⟩
          go_wp2
          go_roundw
          case rel => exact ⟨j + 1, by omega, by go_num, by rw [HT2.out]; exact hr4, (hexi.step (hba _)).trans he4⟩
          case measure => simp [intOf]; omega
        · obtain rfl : j = n := by omega
          rw [List.take_of_length_le (by rw [HN.out]; exact Nat.le_refl _)] at HRI
          go_wp2
          go_roundw
          case rel => exact ⟨k + 1, by omega, by go_num, by rw [HT.out]; exact HRI.out, (hex.step g1).trans hexi⟩
          case measure => simp [intOf]; omega
    · obtain rfl : k = n := by omega
      rw [List.take_of_length_le (by rw [HN.out]; exact Nat.le_refl _), HZ.out] at HRC
      obtain ⟨p0, p1, p2, p3, p4, -, -, -, -, -⟩ := HRC.out
      have hw0 : w.heap.size < W0.heap.size := by omega
      have hne : w.heap.size ≠ w.heap.size + 1 := by omega
      have a0 := hex.cell z0 hne
      have a1 := hex.cell z1 hne
      have a2 := hex.cell z2 hne
      have a3 := hex.cell z3 hne
      have a4 := hex.cell z4 hne
      have e0 := hex.frozen hw0 f0 hne
      have e1 := hex.frozen hw0 f1 hne
      have e2 := hex.frozen hw0 f2 hne
      have e3 := hex.frozen hw0 f3 hne
      have e4 := hex.frozen hw0 f4 hne
      go_wp2
      (try simp only [Exit.inBlock, Exit.then])
      refine bodyPost_ret (res_rc5 rfl _ _ w.heap.size _ _ _ _ _ rfl a0 a1 a2 a3 a4) rfl ?_
      exact ⟨rfl, by (repeat (first | (with_reducible exact Below.refl _ _) | (with_reducible assumption) | (with_reducible refine Below.drew ?_) | (with_reducible refine Below.allocS ?_ _) | (with_reducible refine Below.setCell ?_ ?_ _) | (with_reducible refine Below.step ?_ (by assumption)) | (with_reducible refine Below.drewN' ?_ _))); (try any_goals (first | (with_reducible assumption) | (simp; done) | (simp; omega) | omega))⟩
def agB (r : Rc) : Bool := r.ok && (decide (r.lo.d = 0) || (decide (r.hi.d = 0) || !frLess r.hi r.lo))
theorem azOk {l : List Sp} (hl : ∀ x ∈ l, SpOk x) : RcOk (azR l) := foldOk (fun r t ht hr => foldOk (fun r' t' ht' hr' => azStepOk (hl _ ht) (hl _ ht') hr') hr) r00Ok
set_option maxHeartbeats 1000000 in
theorem agree_c (l : List Sp) (n : Nat) (hln : l.length = n) (hn : n ≤ 100000) (hl : ∀ x ∈ l, SpOk x) (A : Option Addr) (cap : Nat) (w : World) (hr : RdL w w.heap.size stE 3 A l) :
    Calls Try.prog 61 #[.slice A n cap] w fun e w' => e = .returned (.bool (agB (azR l))) ∧ Below w.heap.size w w' := by
  have H1 := Lib.hid (azimuths_c l n hln hn hl A cap w hr)
  have hOk := azOk hl
  have HL := Lib.hid (fun W => less_c (azR l).hi (azR l).lo hOk.hi.b hOk.lo.b W)
  clear hOk hr hl hln
  generalize azR l = r at *
  unfold rcV frV at *
  unfold agB
  generalize frLess r.hi r.lo = X at *
  cases ho : r.ok
  · rw [ho] at H1
    clear ho
    go_enter Try.func61, Try.ntmps61
    go_wp2_with fail
    refine H1.out.mono ?_
    rintro e w1 ⟨rfl, hb1⟩
    go_wp2
    go_ret
    exact ⟨rfl, by (repeat (first | exact Below.refl _ _ | refine Below.drew ?_ | refine Below.allocS ?_ _ | refine Below.step ?_ (by assumption) | refine Below.setCell ?_ (by simp <;> omega) _ | refine Below.drewN' ?_ _))⟩
  rw [ho] at H1
  clear ho
  by_cases h1 : r.lo.d = 0
  · rw [h1] at H1
    rw [decide_eq_true h1]
    clear h1
    go_enter Try.func61, Try.ntmps61
    go_wp2_with fail
    refine H1.out.mono ?_
    rintro e w1 ⟨rfl, hb1⟩
    go_wp2
    go_ret
    exact ⟨rfl, by (repeat (first | exact Below.refl _ _ | refine Below.drew ?_ | refine Below.allocS ?_ _ | refine Below.step ?_ (by assumption) | refine Below.setCell ?_ (by simp <;> omega) _ | refine Below.drewN' ?_ _))⟩
  rw [decide_eq_false h1]
  by_cases h2 : r.hi.d = 0
  · rw [h2] at H1
    rw [decide_eq_true h2]
    clear h2
    go_enter Try.func61, Try.ntmps61
    go_wp2_with fail
    refine H1.out.mono ?_
    rintro e w1 ⟨rfl, hb1⟩
    go_wp2
    go_ret
    exact ⟨rfl, by (repeat (first | exact Below.refl _ _ | refine Below.drew ?_ | refine Below.allocS ?_ _ | refine Below.step ?_ (by assumption) | refine Below.setCell ?_ (by simp <;> omega) _ | refine Below.drewN' ?_ _))⟩
  rw [decide_eq_false h2]
  go_enter Try.func61, Try.ntmps61
  go_wp2_with fail
  refine H1.out.mono ?_
  rintro e w1 ⟨rfl, hb1⟩
  go_wp2_with fail
  refine (HL.out _).mono ?_
  rintro e w2 ⟨rfl, hb2⟩
  go_wp2
  go_ret
  exact ⟨by first | rfl | simp [h1, h2], by (repeat (first | exact Below.refl _ _ | refine Below.drew ?_ | refine Below.allocS ?_ _ | refine Below.step ?_ (by assumption) | refine Below.setCell ?_ (by simp <;> omega) _ | refine Below.drewN' ?_ _))⟩
end Go.Proofs.Ytbcabckokmjelaa
