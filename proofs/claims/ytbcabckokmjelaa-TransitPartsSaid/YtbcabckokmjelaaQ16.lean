/-
  reach of the reference.
-/
import Derived.Test.YtbcabckokmjelaaQ16c
namespace Go.Proofs.Ytbcabckokmjelaa
open Go.RowKit
set_option linter.unusedVariables false
set_option linter.unusedSimpArgs false
theorem mg_ite (s : Int) : (if s < -s then -s else s) = mg s := by unfold mg; split <;> split <;> omega
theorem sg_div {s : Int} (h : s ≠ 0) : s.tdiv (mg s) = sg s := by
  unfold mg sg
  split
  · rw [Int.tdiv_neg, Int.tdiv_self h]
  · exact Int.tdiv_self h
theorem pr_ref {ww : Int} {s t : Sn} : prN (snSp ww s) (snSp ww t) = -(mg s.s * (sg t.s * t.d + ww) - mg t.s * (sg s.s * s.d - ww)) ∧ prD (snSp ww s) (snSp ww t) = -(mg s.s * sg t.s - mg t.s * sg s.s) := by
  have a : lvOf (snSp ww s) * sg s.s = sg s.s * s.d - ww := by
    unfold lvOf snSp sg
    simp only
    split <;> omega
  have b : uvOf (snSp ww t) * sg t.s = sg t.s * t.d + ww := by
    unfold uvOf snSp sg
    simp only
    split <;> omega
  constructor
  · unfold prN
    rw [show (snSp ww s).s = s.s from rfl, show (snSp ww t).s = t.s from rfl, a, b, Int.mul_comm (sg s.s * s.d - ww), Int.mul_comm (sg t.s * t.d + ww)]
    omega
  · unfold prD
    rw [show (snSp ww s).s = s.s from rfl, show (snSp ww t).s = t.s from rfl, Int.mul_comm (sg s.s), Int.mul_comm (sg t.s)]
    omega
theorem rrRowOk {l : List Sp} (hl : ∀ x ∈ l, SpOk x) {p : Sp} (hp : SpOk p) {r : Rc} (hr : RcOk r) : RcOk (rrRow l r p) := by
  unfold rrRow
  refine foldOk (fun r t ht hr => ?_) ?_
  · unfold rrP
    split
    · exact askOk hr (pr_bd hp (hl t ht)).1 (pr_bd hp (hl t ht)).2
    · exact hr
  · unfold rrZ
    have := hp.lo; have := hp.hi
    split
    · exact askOk (askOk hr (by omega) (by omega)) (by omega) (by omega)
    · exact hr
theorem rrOk {l : List Sp} (hl : ∀ x ∈ l, SpOk x) : RcOk (rrR l) := foldOk (fun r t ht hr => rrRowOk hl (hl t ht) hr) r00Ok
theorem mul_mg2 {a m : Int} (h : -60000000 ≤ a ∧ a ≤ 60000000) (hm : 0 ≤ m ∧ m ≤ 10000) : -600000000000 ≤ m * a ∧ m * a ≤ 600000000000 := by
  have a1 : a * m ≤ 60000000 * m := Int.mul_le_mul_of_nonneg_right h.2 hm.1
  have a2 : (-60000000) * m ≤ a * m := Int.mul_le_mul_of_nonneg_right h.1 hm.1
  rw [Int.mul_comm m]
  omega
theorem sg_mul2 {x a : Int} {B : Int} (h : -B ≤ a ∧ a ≤ B) : -B ≤ sg x * a ∧ sg x * a ≤ B := by rw [Int.mul_comm]; exact sg_mul h
set_option maxRecDepth 100000 in
set_option maxHeartbeats 2000000 in
theorem rreach_c (l : List Sn) (n : Nat) (hln : l.length = n) (hn : n ≤ 100000) (hl : ∀ x ∈ l, SnOk x) (ww : Int) (hw : 0 ≤ ww ∧ ww ≤ 1000000) (A : Option Addr) (cap : Nat) (w : World) (hr : RdL w w.heap.size snE 2 A l) :
    Calls Try.prog 71 #[.slice A n cap, .int .i64 ww] w fun e w' => ∃ P r0, e = .returned (.pointer (some ⟨P, 0, none⟩)) ∧ (RbAt w' P r0 ∧ RcOk r0 ∧ tl0 r0 = tl0 (erR (l.map (snSp ww)))) ∧ Below w.heap.size w w' := by
  have HR := Lib.hid hr
  have HL := Lib.hid hl
  have HN := Lib.hid hln
  have HM := Lib.hid (snSp_all hl hw)
  obtain ⟨M, hM⟩ : ∃ M, M = l.map (snSp ww) := ⟨_, rfl⟩
  have HNM : Hid (M.length = n) := Lib.hid (by rw [hM, List.length_map]; exact hln)
  have HE := Lib.hid (show ∀ j (h1 : j < M.length) (h2 : j < l.length), M[j] = snSp ww l[j] from fun j h1 h2 => by subst hM; rw [List.getElem_map])
  rw [← hM] at HM
  rw [← hM]
  clear hr hl hln hM
  have HZ := Lib.hid (show M.foldl (rrRow M) r00 = rrR M from rfl)
  have HTE := Lib.hid (rr_tell M)
  have HOR := Lib.hid (rrOk HM.out)
  obtain ⟨T, hT⟩ : ∃ T, T = tl0 (erR M) := ⟨_, rfl⟩
  rw [← hT]
  have HTT := Lib.hid hT
  clear hT
  go_enter Try.func71, Try.ntmps71
  go_wp2
  obtain ⟨W0, hW0⟩ : ∃ W, W = w.alloc (.cells #[.int .i64 0, .int .i64 0, .int .i64 0, .int .i64 0, .bool false, .bool false, .bool false] 130) := ⟨_, rfl⟩
  have hP : RbAt W0 w.heap.size r00 := by
    rw [hW0]
    unfold r00
    refine ⟨?_, ?_, ?_, ?_, ?_, ?_, ?_, ?_, ?_, ?_, ?_, ?_, ?_, ?_⟩ <;> simp [go_sem]
  have g0 : Below w.heap.size w W0 := by rw [hW0]; (repeat (first | exact Below.refl _ _ | refine Below.drew ?_ | refine Below.allocS ?_ _ | refine Below.step ?_ (by assumption) | refine Below.setCell ?_ (by simp <;> omega) _ | refine Below.drewN' ?_ _))
  have hs0 : w.heap.size < W0.heap.size := by rw [hW0]; simp
  rw [← hW0]
  clear hW0
  have HP := Lib.hid hP
  clear hP
  go_loopw [18] (fun i wr => ∃ (k : Nat), k ≤ n ∧ i = .int .i64 k ∧ RbAt wr w.heap.size ((M.take k).foldl (rrRow M) r00) ∧ Exc w.heap.size W0 wr) (fun i _ => n - (intOf i).toNat)
  case atStart => exact ⟨0, Nat.zero_le _, rfl, HP.out, Exc.refl _ _⟩
  case round =>
    rename World => V
    obtain ⟨k, hk, rfl, hrc, hex⟩ := hrel
    have hbw : Below w.heap.size w V := g0.trans (hex.below (by omega) (by omega))
    have hsw := hex.size
    have HRC := Lib.hid hrc
    clear hrc
    by_cases hlt : k < n
    · have hltl : k < l.length := by rw [HN.out]; exact hlt
      have hltm : k < M.length := by rw [HNM.out]; exact hlt
      obtain ⟨b, off, rfl, hb0, hc⟩ := HR.out (by omega)
      have c0 := (hbw.cell (p := ⟨b, _, none⟩) hb0).trans (hc k hltl 0 _ rfl)
      have c1 := (hbw.cell (p := ⟨b, _, none⟩) hb0).trans (hc k hltl 1 _ rfl)
      have HC := Lib.hid hc
      clear hc
      simp at c0
      have y0 : b < V.heap.size := cell?_lt c0
      have hm := HL.out _ (List.getElem_mem hltl)
      have hT := take_fold (rrRow M) M r00 k hltm
      rw [HE.out k hltm hltl] at hT
      have hOk : RcOk ((M.take k).foldl (rrRow M) r00) := foldOk (fun r t ht hr => rrRowOk HM.out (HM.out _ (List.mem_of_mem_take ht)) hr) r00Ok
      have HOK := Lib.hid hOk
      clear hOk
      have hsp := snSp_ok hm hw
      generalize (M.take k).foldl (rrRow M) r00 = r at *
      generalize l[k] = s at *
      obtain ⟨sd, ss⟩ := s
      have HSP := Lib.hid hsp
      have hss := hm.s
      have hsd := hm.d
      clear hm hsp
      simp only at hss hsd c0 c1
      obtain ⟨W1, hW1⟩ : ∃ W, W = V.alloc (.cells #[.int .i64 sd, .int .i64 ss] 106) := ⟨_, rfl⟩
      have t0 : W1.cell? ⟨V.heap.size, 0, none⟩ = some (.int .i64 sd) := by rw [hW1]; simp [go_sem]
      have t1 : W1.cell? ⟨V.heap.size, 1, none⟩ = some (.int .i64 ss) := by rw [hW1]; simp [go_sem]
      have g1 : Below V.heap.size V W1 := by rw [hW1]; (repeat (first | exact Below.refl _ _ | refine Below.drew ?_ | refine Below.allocS ?_ _ | refine Below.step ?_ (by assumption) | refine Below.setCell ?_ (by simp <;> omega) _ | refine Below.drewN' ?_ _))
      have hs1 : V.heap.size < W1.heap.size := by rw [hW1]; simp
      have HW1 := Lib.hid hW1.symm
      clear hW1
      by_cases h0 : ss = 0
      · subst h0
        have hz : rrZ r (snSp ww ⟨sd, 0⟩) = askR (askR r (-(sd + ww)) (-1)) (-(ww - sd)) (-(-1)) := by
          unfold rrZ snSp
          simp only [if_true]
          congr 1; omega
        have hrow : rrRow M r (snSp ww ⟨sd, 0⟩) = rrZ r (snSp ww ⟨sd, 0⟩) := by
          unfold rrRow
          have : ∀ (l : List Sp) (r : Rc), l.foldl (rrP (snSp ww ⟨sd, 0⟩)) r = r := fun l => by
            induction l with
            | nil => intro r; rfl
            | cons x l ih => intro r; rw [List.foldl_cons, ih]; unfold rrP snSp; simp
          exact this _ _
        rw [hrow, hz] at hT
        have HT := Lib.hid hT
        have v1 : IntKind.i64.wrap (sd + ww) = sd + ww := IntWalk.i64_in _ (by omega)
        have v2 : IntKind.i64.wrap (ww - sd) = ww - sd := IntWalk.i64_in _ (by omega)
        have HA := Lib.hid (fun W h => hold_c r w.heap.size 1 (sd + ww) W h HOK.out (by omega) (by omega))
        have HOK2 := Lib.hid (askOk HOK.out (n := -(sd + ww)) (d := -1) (by omega) (by omega))
        have HB := Lib.hid (fun W h => hold_c (askR r (-(sd + ww)) (-1)) w.heap.size (-1) (ww - sd) W h HOK2.out (by omega) (by omega))
        clear hT hz hrow
        go_wp2_with fail
        rw [HW1.out]
        refine (HA.out _ (HRC.out.step g1)).mono ?_
        rintro e w4 ⟨⟨u, rfl⟩, hr4, he4⟩
        have q0 := he4.cell t0 (by omega)
        have q1 := he4.cell t1 (by omega)
        go_wp2_with fail
        refine (HB.out _ hr4).mono ?_
        rintro e w5 ⟨⟨u', rfl⟩, hr5, he5⟩
        have d0 := he5.cell q0 (by omega)
        have d1 := he5.cell q1 (by omega)
        have hE5 : Exc w.heap.size W0 w5 := ((hex.step g1).trans he4).trans he5
        have hs5 := he5.size
        have hs4 := he4.size
        have HR5 := Lib.hid hr5
        clear hr5 hr4 q0 q1 t0 t1 he4 he5
        go_wp2
        go_loopw [39] (fun i wi => ∃ (j : Nat), j ≤ n ∧ i = .int .i64 j ∧ Below w5.heap.size w5 wi) (fun i _ => n - (intOf i).toNat)
        case atStart => exact ⟨0, Nat.zero_le _, rfl, Below.refl _ _⟩
        case round =>
          obtain ⟨j, hj, rfl, hbi⟩ := hrel
          have hbi2 : Below w.heap.size w wr := (g0.trans (hE5.below (by omega) (by omega))).trans (hbi.mono (by omega))
          have e0 := keep_cell hbi d0
          have e1 := keep_cell hbi d1
          by_cases hltj : j < n
          · have hltl' : j < l.length := by rw [HN.out]; exact hltj
            have f0 := (hbi2.cell (p := ⟨b, _, none⟩) hb0).trans (HC.out j hltl' 0 _ rfl)
            have f1 := (hbi2.cell (p := ⟨b, _, none⟩) hb0).trans (HC.out j hltl' 1 _ rfl)
            simp at f0
            have y1 : b < wr.heap.size := cell?_lt f0
            have y2 : V.heap.size < wr.heap.size := cell?_lt e0
            generalize l[j] = t at *
            go_wp2
            go_roundw
            case rel => exact ⟨j + 1, by omega, by go_num, Below.step hbi (by (repeat (first | exact Below.refl _ _ | refine Below.drew ?_ | refine Below.allocS ?_ _ | refine Below.step ?_ (by assumption) | refine Below.setCell ?_ (by simp <;> omega) _ | refine Below.drewN' ?_ _)))⟩
            case measure => simp [intOf]; omega
          · obtain rfl : j = n := by omega
            go_wp2
            go_roundw
            case rel => exact ⟨k + 1, by omega, by go_num, by rw [HT.out]; exact HR5.out.step hbi, hE5.step hbi⟩
            case measure => simp [intOf]; omega
      · have hz : rrZ r (snSp ww ⟨sd, ss⟩) = r := by
          unfold rrZ snSp
          simp only [if_neg h0]
        have hrow : rrRow M r (snSp ww ⟨sd, ss⟩) = M.foldl (rrP (snSp ww ⟨sd, ss⟩)) r := by unfold rrRow; rw [hz]
        rw [hrow] at hT
        have HT := Lib.hid hT
        have hz2 : (ss == 0) = false := by simp [h0]
        clear hT hz hrow
        go_wp2
        rw [HW1.out]
        clear c0 c1
        go_loopw [39] (fun i wi => ∃ (j : Nat), j ≤ n ∧ i = .int .i64 j ∧ RbAt wi w.heap.size ((M.take j).foldl (rrP (snSp ww ⟨sd, ss⟩)) r) ∧ Exc w.heap.size W1 wi) (fun i _ => n - (intOf i).toNat)
        case atStart => exact ⟨0, Nat.zero_le _, rfl, HRC.out.step g1, Exc.refl _ _⟩
        case round =>
          obtain ⟨j, hj, rfl, hrci, hexi⟩ := hrel
          have hsi := hexi.size
          have hbi : Below w.heap.size w wr := (hbw.trans (g1.mono (by omega))).trans (hexi.below (by omega) (by omega))
          have HRI := Lib.hid hrci
          have q0 := hexi.cell t0 (by omega)
          have q1 := hexi.cell t1 (by omega)
          clear hrci
          by_cases hltj : j < n
          · have hltl' : j < l.length := by rw [HN.out]; exact hltj
            have hltm' : j < M.length := by rw [HNM.out]; exact hltj
            have d0 := (hbi.cell (p := ⟨b, _, none⟩) hb0).trans (HC.out j hltl' 0 _ rfl)
            have d1 := (hbi.cell (p := ⟨b, _, none⟩) hb0).trans (HC.out j hltl' 1 _ rfl)
            simp at d0
            have hT2 := take_fold (rrP (snSp ww ⟨sd, ss⟩)) M r j hltm'
            rw [HE.out j hltm' hltl'] at hT2
            have hOk2 : RcOk ((M.take j).foldl (rrP (snSp ww ⟨sd, ss⟩)) r) := foldOk (fun r' t' ht' hr' => by
              unfold rrP
              split
              · exact askOk hr' (pr_bd HSP.out (HM.out _ (List.mem_of_mem_take ht'))).1 (pr_bd HSP.out (HM.out _ (List.mem_of_mem_take ht'))).2
              · exact hr') HOK.out
            have ht := HL.out _ (List.getElem_mem hltl')
            have HOK2 := Lib.hid hOk2
            clear hOk2
            generalize (M.take j).foldl (rrP (snSp ww ⟨sd, ss⟩)) r = r2 at *
            generalize l[j] = t at *
            obtain ⟨td, ts⟩ := t
            have hts := ht.s
            have htd := ht.d
            clear ht
            simp only at hts htd d0 d1
            have y1 : b < wr.heap.size := cell?_lt d0
            have y2 : V.heap.size < wr.heap.size := cell?_lt q0
            have hba := fun o => Below.allocS (Below.refl wr.heap.size wr) o
            by_cases h1 : ts = 0
            · subst h1
              have hp : rrP (snSp ww ⟨sd, ss⟩) r2 (snSp ww ⟨td, 0⟩) = r2 := by unfold rrP snSp; simp
              rw [hp] at hT2
              have HT2 := Lib.hid hT2
              clear hT2 hp
              go_wp2
              go_roundw
              case rel => exact ⟨j + 1, by omega, by go_num, by rw [HT2.out]; exact HRI.out.step (hba _), hexi.step (hba _)⟩
              case measure => simp [intOf]; omega
            · have hp : rrP (snSp ww ⟨sd, ss⟩) r2 (snSp ww ⟨td, ts⟩) = askR r2 (-(mg ss * (sg ts * td + ww) - mg ts * (sg ss * sd - ww))) (-(mg ss * sg ts - mg ts * sg ss)) := by
                have := pr_ref (ww := ww) (s := ⟨sd, ss⟩) (t := ⟨td, ts⟩)
                simp only at this
                unfold rrP
                rw [if_pos ⟨h0, h1⟩, this.1, this.2]
              rw [hp] at hT2
              have HT2 := Lib.hid hT2
              have hz3 : (ts == 0) = false := by simp [h1]
              have m1 := mg_bd hss
              have m2 := mg_bd hts
              have mz1 : mg ss ≠ 0 := by unfold mg; split <;> omega
              have mz2 : mg ts ≠ 0 := by unfold mg; split <;> omega
              have u1 := mg_ite ss
              have u2 := mg_ite ts
              have dv1 := sg_div h0
              have dv2 := sg_div h1
              have s1 := sg_mul (x := ss) (a := 1) (B := 1) (by omega)
              have s2 := sg_mul (x := ts) (a := 1) (B := 1) (by omega)
              have n1 := sg_mul2 (x := ts) (a := td) (B := 50000000) htd
              have n2 := sg_mul2 (x := ss) (a := sd) (B := 50000000) hsd
              have n3 := mul_mg2 (a := sg ts * td + ww) (by omega) m1
              have n4 := mul_mg2 (a := sg ss * sd - ww) (by omega) m2
              have n5 := sg_mul (x := ts) (a := mg ss) (B := 10000) (by omega)
              have n6 := sg_mul (x := ss) (a := mg ts) (B := 10000) (by omega)
              have HAS := Lib.hid (fun W h => hold_c r2 w.heap.size (mg ss * sg ts - mg ts * sg ss) (mg ss * (sg ts * td + ww) - mg ts * (sg ss * sd - ww)) W h HOK2.out (by omega) (by omega))
              clear hT2 hp
              generalize mg ss = ma at *
              generalize mg ts = mb at *
              generalize sg ss = f at *
              generalize sg ts = g at *
              have v0 : IntKind.i64.wrap (-ss) = -ss := IntWalk.i64_in _ (by omega)
              have v00 : IntKind.i64.wrap (-ts) = -ts := IntWalk.i64_in _ (by omega)
              have v1 : IntKind.i64.wrap (ss.tdiv ma) = f := by rw [dv1]; exact IntWalk.i64_in _ (by omega)
              have v2 : IntKind.i64.wrap (ts.tdiv mb) = g := by rw [dv2]; exact IntWalk.i64_in _ (by omega)
              have v3 : IntKind.i64.wrap (ma * g) = ma * g := IntWalk.i64_in _ (by omega)
              have v4 : IntKind.i64.wrap (mb * f) = mb * f := IntWalk.i64_in _ (by omega)
              have v5 : IntKind.i64.wrap (ma * g - mb * f) = ma * g - mb * f := IntWalk.i64_in _ (by omega)
              have v6 : IntKind.i64.wrap (g * td) = g * td := IntWalk.i64_in _ (by omega)
              have v7 : IntKind.i64.wrap (g * td + ww) = g * td + ww := IntWalk.i64_in _ (by omega)
              have v8 : IntKind.i64.wrap (ma * (g * td + ww)) = ma * (g * td + ww) := IntWalk.i64_in _ (by omega)
              have v9 : IntKind.i64.wrap (f * sd) = f * sd := IntWalk.i64_in _ (by omega)
              have v10 : IntKind.i64.wrap (f * sd - ww) = f * sd - ww := IntWalk.i64_in _ (by omega)
              have v11 : IntKind.i64.wrap (mb * (f * sd - ww)) = mb * (f * sd - ww) := IntWalk.i64_in _ (by omega)
              have v12 : IntKind.i64.wrap (ma * (g * td + ww) - mb * (f * sd - ww)) = ma * (g * td + ww) - mb * (f * sd - ww) := IntWalk.i64_in _ (by omega)
              clear n1 n2 n3 n4 n5 n6 m1 m2 s1 s2 dv1 dv2
              obtain ⟨W2, hW2⟩ : ∃ W, W = wr.alloc (.cells #[.int .i64 td, .int .i64 ts] 106) := ⟨_, rfl⟩
              have g2 : Below wr.heap.size wr W2 := by rw [hW2]; (repeat (first | exact Below.refl _ _ | refine Below.drew ?_ | refine Below.allocS ?_ _ | refine Below.step ?_ (by assumption) | refine Below.setCell ?_ (by simp <;> omega) _ | refine Below.drewN' ?_ _))
              have p0 : W2.cell? ⟨V.heap.size, 0, none⟩ = some (.int .i64 sd) := keep_cell g2 q0
              have p1 : W2.cell? ⟨V.heap.size, 1, none⟩ = some (.int .i64 ss) := keep_cell g2 q1
              have p2 : W2.cell? ⟨wr.heap.size, 0, none⟩ = some (.int .i64 td) := by rw [hW2]; simp [go_sem]
              have p3 : W2.cell? ⟨wr.heap.size, 1, none⟩ = some (.int .i64 ts) := by rw [hW2]; simp [go_sem]
              have y3 : V.heap.size < W2.heap.size := cell?_lt p0
              have y4 : wr.heap.size < W2.heap.size := cell?_lt p2
              go_wp2_with fail
              rw [← hW2]
              clear hW2
              refine region_below (by kernel_rfl) (by kernel_rfl) ?_
              (first | go_big_quiet_skip | (go_big_quiet_want; refine quiet_val (v := ?_) ?_ ?_; rotate_left 1; (· (intro Wq hWq; obtain ⟨hWc, hWf⟩ := bcell hWq; go_simp; (try with_reducible rfl))); go_big_quiet_on; (try simp only [Act.put, List.setIfInBounds_toArray, List.set_cons_zero, List.set_cons_succ])))
              (first | go_big_quiet_skip | (go_big_quiet_want; refine quiet_val (v := ?_) ?_ ?_; rotate_left 1; (· (intro Wq hWq; obtain ⟨hWc, hWf⟩ := bcell hWq; go_simp; (try with_reducible rfl))); go_big_quiet_on; (try simp only [Act.put, List.setIfInBounds_toArray, List.set_cons_zero, List.set_cons_succ])))
              (first | go_big_quiet_skip | (go_big_quiet_want; refine quiet_val (v := ?_) ?_ ?_; rotate_left 1; (· (intro Wq hWq; obtain ⟨hWc, hWf⟩ := bcell hWq; go_simp; (try with_reducible rfl))); go_big_quiet_on; (try simp only [Act.put, List.setIfInBounds_toArray, List.set_cons_zero, List.set_cons_succ])))
              (first | go_big_quiet_skip | (go_big_quiet_want; refine quiet_val (v := ?_) ?_ ?_; rotate_left 1; (· (intro Wq hWq; obtain ⟨hWc, hWf⟩ := bcell hWq; go_simp; (try with_reducible rfl))); go_big_quiet_on; (try simp only [Act.put, List.setIfInBounds_toArray, List.set_cons_zero, List.set_cons_succ])))
              (first | go_big_quiet_skip | (go_big_quiet_want; refine quiet_val (v := ?_) ?_ ?_; rotate_left 1; (· (intro Wq hWq; obtain ⟨hWc, hWf⟩ := bcell hWq; go_simp; (try with_reducible rfl))); go_big_quiet_on; (try simp only [Act.put, List.setIfInBounds_toArray, List.set_cons_zero, List.set_cons_succ])))
              (first | go_big_quiet_skip | (go_big_quiet_want; refine quiet_val (v := ?_) ?_ ?_; rotate_left 1; (· (intro Wq hWq; obtain ⟨hWc, hWf⟩ := bcell hWq; go_simp; (try with_reducible rfl))); go_big_quiet_on; (try simp only [Act.put, List.setIfInBounds_toArray, List.set_cons_zero, List.set_cons_succ])))
              (first | go_big_quiet_skip | (go_big_quiet_want; refine quiet_val (v := ?_) ?_ ?_; rotate_left 1; (· (intro Wq hWq; obtain ⟨hWc, hWf⟩ := bcell hWq; go_simp; (try with_reducible rfl))); go_big_quiet_on; (try simp only [Act.put, List.setIfInBounds_toArray, List.set_cons_zero, List.set_cons_succ])))
              (first | go_big_quiet_skip | (go_big_quiet_want; refine quiet_val (v := ?_) ?_ ?_; rotate_left 1; (· (intro Wq hWq; obtain ⟨hWc, hWf⟩ := bcell hWq; go_simp; (try with_reducible rfl))); go_big_quiet_on; (try simp only [Act.put, List.setIfInBounds_toArray, List.set_cons_zero, List.set_cons_succ])))
              (first | go_big_quiet_skip | (go_big_quiet_want; refine quiet_val (v := ?_) ?_ ?_; rotate_left 1; (· (intro Wq hWq; obtain ⟨hWc, hWf⟩ := bcell hWq; go_simp; (try with_reducible rfl))); go_big_quiet_on; (try simp only [Act.put, List.setIfInBounds_toArray, List.set_cons_zero, List.set_cons_succ])))
              (first | go_big_quiet_skip | (go_big_quiet_want; refine quiet_val (v := ?_) ?_ ?_; rotate_left 1; (· (intro Wq hWq; obtain ⟨hWc, hWf⟩ := bcell hWq; go_simp; (try with_reducible rfl))); go_big_quiet_on; (try simp only [Act.put, List.setIfInBounds_toArray, List.set_cons_zero, List.set_cons_succ])))
              (first | go_big_quiet_skip | (go_big_quiet_want; refine quiet_val (v := ?_) ?_ ?_; rotate_left 1; (· (intro Wq hWq; obtain ⟨hWc, hWf⟩ := bcell hWq; go_simp; (try with_reducible rfl))); go_big_quiet_on; (try simp only [Act.put, List.setIfInBounds_toArray, List.set_cons_zero, List.set_cons_succ])))
              (first | go_big_quiet_skip | (go_big_quiet_want; refine quiet_val (v := ?_) ?_ ?_; rotate_left 1; (· (intro Wq hWq; obtain ⟨hWc, hWf⟩ := bcell hWq; go_simp; (try with_reducible rfl))); go_big_quiet_on; (try simp only [Act.put, List.setIfInBounds_toArray, List.set_cons_zero, List.set_cons_succ])))
              (first | go_big_quiet_skip | (go_big_quiet_want; refine quiet_val (v := ?_) ?_ ?_; rotate_left 1; (· (intro Wq hWq; obtain ⟨hWc, hWf⟩ := bcell hWq; go_simp; (try with_reducible rfl))); go_big_quiet_on; (try simp only [Act.put, List.setIfInBounds_toArray, List.set_cons_zero, List.set_cons_succ])))
              (first | go_big_quiet_skip | (go_big_quiet_want; refine quiet_val (v := ?_) ?_ ?_; rotate_left 1; (· (intro Wq hWq; obtain ⟨hWc, hWf⟩ := bcell hWq; go_simp; (try with_reducible rfl))); go_big_quiet_on; (try simp only [Act.put, List.setIfInBounds_toArray, List.set_cons_zero, List.set_cons_succ])))
              refine wpQuiet_nil ?_; intro w4 hb4
              have o0 := keep_cell hb4 p0
              have o1 := keep_cell hb4 p1
              have o2 := keep_cell hb4 p2
              have o3 := keep_cell hb4 p3
              have y5 : V.heap.size < w4.heap.size := cell?_lt o0
              have y6 : wr.heap.size < w4.heap.size := cell?_lt o2
              go_wp2_with fail
              refine region_below (by kernel_rfl) (by kernel_rfl) ?_
              (first | go_big_quiet_skip | (go_big_quiet_want; refine quiet_val (v := ?_) ?_ ?_; rotate_left 1; (· (intro Wq hWq; obtain ⟨hWc, hWf⟩ := bcell hWq; go_simp; (try with_reducible rfl))); go_big_quiet_on; (try simp only [Act.put, List.setIfInBounds_toArray, List.set_cons_zero, List.set_cons_succ])))
              (first | go_big_quiet_skip | (go_big_quiet_want; refine quiet_val (v := ?_) ?_ ?_; rotate_left 1; (· (intro Wq hWq; obtain ⟨hWc, hWf⟩ := bcell hWq; go_simp; (try with_reducible rfl))); go_big_quiet_on; (try simp only [Act.put, List.setIfInBounds_toArray, List.set_cons_zero, List.set_cons_succ])))
              (first | go_big_quiet_skip | (go_big_quiet_want; refine quiet_val (v := ?_) ?_ ?_; rotate_left 1; (· (intro Wq hWq; obtain ⟨hWc, hWf⟩ := bcell hWq; go_simp; (try with_reducible rfl))); go_big_quiet_on; (try simp only [Act.put, List.setIfInBounds_toArray, List.set_cons_zero, List.set_cons_succ])))
              (first | go_big_quiet_skip | (go_big_quiet_want; refine quiet_val (v := ?_) ?_ ?_; rotate_left 1; (· (intro Wq hWq; obtain ⟨hWc, hWf⟩ := bcell hWq; go_simp; (try with_reducible rfl))); go_big_quiet_on; (try simp only [Act.put, List.setIfInBounds_toArray, List.set_cons_zero, List.set_cons_succ])))
              (first | go_big_quiet_skip | (go_big_quiet_want; refine quiet_val (v := ?_) ?_ ?_; rotate_left 1; (· (intro Wq hWq; obtain ⟨hWc, hWf⟩ := bcell hWq; go_simp; (try with_reducible rfl))); go_big_quiet_on; (try simp only [Act.put, List.setIfInBounds_toArray, List.set_cons_zero, List.set_cons_succ])))
              (first | go_big_quiet_skip | (go_big_quiet_want; refine quiet_val (v := ?_) ?_ ?_; rotate_left 1; (· (intro Wq hWq; obtain ⟨hWc, hWf⟩ := bcell hWq; go_simp; (try with_reducible rfl))); go_big_quiet_on; (try simp only [Act.put, List.setIfInBounds_toArray, List.set_cons_zero, List.set_cons_succ])))
              (first | go_big_quiet_skip | (go_big_quiet_want; refine quiet_val (v := ?_) ?_ ?_; rotate_left 1; (· (intro Wq hWq; obtain ⟨hWc, hWf⟩ := bcell hWq; go_simp; (try with_reducible rfl))); go_big_quiet_on; (try simp only [Act.put, List.setIfInBounds_toArray, List.set_cons_zero, List.set_cons_succ])))
              (first | go_big_quiet_skip | (go_big_quiet_want; refine quiet_val (v := ?_) ?_ ?_; rotate_left 1; (· (intro Wq hWq; obtain ⟨hWc, hWf⟩ := bcell hWq; go_simp; (try with_reducible rfl))); go_big_quiet_on; (try simp only [Act.put, List.setIfInBounds_toArray, List.set_cons_zero, List.set_cons_succ])))
              (first | go_big_quiet_skip | (go_big_quiet_want; refine quiet_val (v := ?_) ?_ ?_; rotate_left 1; (· (intro Wq hWq; obtain ⟨hWc, hWf⟩ := bcell hWq; go_simp; (try with_reducible rfl))); go_big_quiet_on; (try simp only [Act.put, List.setIfInBounds_toArray, List.set_cons_zero, List.set_cons_succ])))
              (first | go_big_quiet_skip | (go_big_quiet_want; refine quiet_val (v := ?_) ?_ ?_; rotate_left 1; (· (intro Wq hWq; obtain ⟨hWc, hWf⟩ := bcell hWq; go_simp; (try with_reducible rfl))); go_big_quiet_on; (try simp only [Act.put, List.setIfInBounds_toArray, List.set_cons_zero, List.set_cons_succ])))
              refine wpQuiet_nil ?_; intro w5 hb5
              have x0 := keep_cell hb5 o0
              have x1 := keep_cell hb5 o1
              have x2 := keep_cell hb5 o2
              have x3 := keep_cell hb5 o3
              have g5 : Below wr.heap.size wr w5 := Below.step (Below.step g2 hb4) hb5
              go_wp2_with fail
              refine (HAS.out _ (HRI.out.step g5)).mono ?_
              rintro e w6 ⟨⟨u, rfl⟩, hr6, he6⟩
              go_wp2
              go_roundw
              case rel => exact ⟨j + 1, by omega, by go_num, by rw [HT2.out]; exact hr6, (hexi.step g5).trans he6⟩
              case measure => simp [intOf]; omega
          · obtain rfl : j = n := by omega
            rw [List.take_of_length_le (by rw [HNM.out]; exact Nat.le_refl _)] at HRI
            go_wp2
            go_roundw
            case rel => exact ⟨k + 1, by omega, by go_num, by rw [HT.out]; exact HRI.out, (hex.step g1).trans hexi⟩
            case measure => simp [intOf]; omega
    · obtain rfl : k = n := by omega
      rw [List.take_of_length_le (by rw [HNM.out]; exact Nat.le_refl _), HZ.out] at HRC
      go_wp2
      go_ret
      exact ⟨_, rrR M, rfl, ⟨HRC.out, HOR.out, by rw [HTT.out]; exact HTE.out⟩, hbw⟩
end Go.Proofs.Ytbcabckokmjelaa
