/-
  Clashes of both. No conditions.
-/
import Derived.Test.YtomgaiokmdcjmaaNt19
import Derived.Test.YtomgaiokmdcjmaaQt
import Derived.ChangeKeysEq
namespace Go.Proofs.Ytomgaiokmdcjmaa
open Go.RowKit Go.Deep
set_option linter.unusedVariables false
set_option linter.unusedSimpArgs false
theorem app_run_at {α : Type} {t e : TypeId} {enc : α → List Value} {sz : Nat} (H : AppE t e enc sz) (l : List α) (x : α) (n : Nat) (hn : l.length = n) (hl : n ≤ 100000) (W : World) (base g : Nat) (v : Value)
    (hrow : W.ownsRow base e sz v n (l.flatMap enc)) (hb : base ≤ W.heap.size) (hc : ∀ j u, (enc x)[j]? = some u → W.cell? ⟨g, j, none⟩ = some u) :
    ∃ v' w', (Builtin.append_ #[t, t] t #[v, .slice (some ⟨g, 0, none⟩) 1 1]).run Try.prog W = .ok v' w' ∧ (w'.ownsRow base e sz v' (n + 1) ((l ++ [x]).flatMap enc) ∧ Below base W w' ∧ W.grownBy w' v.ownBlock ∧ (v'.ownBlock = v.ownBlock ∨ v'.ownBlock = some W.heap.size)) := by
  obtain ⟨i, z, bytes, h1, h2, h3, h4, h5, h6⟩ := H.info
  obtain ⟨v', w', hrun, r1, r2, -, r4⟩ := run_append_own_at (P := Try.prog) (w := W) base t t e i z sz bytes H.ht h1 h2 h3 h4 h5 H.pos v n (l.flatMap enc) hrow ⟨g, 0, none⟩ 1 1 (enc x) (by rw [H.len]; omega) (fun j u hu => by rw [add_none]; exact hc j u hu) (H.one x) (by unfold maxLen; omega)
    (by have := Nat.mul_le_mul (show n + 1 ≤ 100001 by omega) h6; omega) hb
  exact ⟨v', w', hrun, row_snoc (enc := enc) (y := x) r1 rfl, Below.grow (Below.refl base W) hrow r2 rfl hb, r2, r4⟩
def prE (x : Nat × Nat) : List Value := [.int .i64 x.1, .int .i64 x.2]
theorem appP : AppE 37 71 prE 2 where
  ht := Try.underlying37
  info := app_info (z := .agg #[.int .i64 0, .int .i64 0]) (bytes := 16) (by kernel_rfl) rfl (by decide)
  pos := by decide
  len := fun x => rfl
  one := fun x u hu => by
    unfold prE at hu
    simp at hu
    rcases hu with rfl | rfl <;> rfl
theorem two_pr {W : World} {g : Nat} {x : Nat × Nat} (h0 : W.cell? ⟨g, 0, none⟩ = some (.int .i64 x.1)) (h1 : W.cell? ⟨g, 1, none⟩ = some (.int .i64 x.2)) : ∀ j u, (prE x)[j]? = some u → W.cell? ⟨g, j, none⟩ = some u := by
  intro j u hu
  have hj : j < 2 := (List.getElem?_eq_some_iff.1 hu).1
  match j, hj with
  | 0, _ => simp [prE] at hu; subst hu; exact h0
  | 1, _ => simp [prE] at hu; subst hu; exact h1
theorem neP (a b : Nat) (W : World) : (binOp .neq 71 (.agg #[.int .i64 a, .int .i64 b]) (.agg #[.int .i64 a, .int .i64 b])).run Try.prog W = .ok (.bool false) W := by
  obtain ⟨i, z, bytes, hi, -⟩ := appI.info
  have hc : Try.prog.cellsOf 3 = 1 := by kernel_rfl
  have h : (Op.equalIn (9999 + 1) 71 (.agg #[.int .i64 a, .int .i64 b]) (.agg #[.int .i64 a, .int .i64 b])).run Try.prog W = .ok true W := by
    rw [run_equalIn_array W 9999 _ _ Try.underlying71 hi, hc]
    simp [Op.eqItems, go_sem, List.range, List.range.loop, part]
  simp [go_sem, h]
set_option maxHeartbeats 1000000 in
theorem SamePairs_c (l : List (Nat × Nat)) (n : Nat) (hn : l.length = n) (A B : Option Addr) (cap cap' : Nat) (hl : n ≤ 9223372036854775807) (w : World) (hr : RdL w w.heap.size prE 2 A l) (hs : RdL w w.heap.size prE 2 B l) :
    Calls Try.prog 28 #[.slice A n cap, .slice B n cap'] w fun e w' => e = .returned (.bool true) ∧ Below w.heap.size w w' := by
  have HR := Lib.hid hr
  have HS := Lib.hid hs
  have HN := Lib.hid hn
  clear hr hs hn
  have hne := neP
  go_enter Try.func28, Try.ntmps28
  go_wp2
  go_loopw [13] (fun i wr => ∃ k : Nat, k ≤ n ∧ i = .int .i64 k ∧ Below w.heap.size w wr) (fun i _ => n - (intOf i).toNat)
  case atStart => exact ⟨0, Nat.zero_le _, rfl, Below.refl _ _⟩
  case round =>
    obtain ⟨k, hk, rfl, hbw⟩ := hrel
    by_cases hlt : k < n
    · have hl1 : k < l.length := by rw [HN.out]; exact hlt
      obtain ⟨p, hp⟩ : ∃ p, p = l[k] := ⟨_, rfl⟩
      obtain ⟨b, off, rfl, hb0, hc⟩ := HR.out (by omega)
      obtain ⟨b', off', rfl, hb0', hc'⟩ := HS.out (by omega)
      have c0 := (hbw.cell (p := ⟨b, _, none⟩) hb0).trans (hc k hl1 0 _ rfl)
      have d0 := (hbw.cell (p := ⟨b', _, none⟩) hb0').trans (hc' k hl1 0 _ rfl)
      have c1 := (hbw.cell (p := ⟨b, _, none⟩) hb0).trans (hc k hl1 1 _ rfl)
      have d1 := (hbw.cell (p := ⟨b', _, none⟩) hb0').trans (hc' k hl1 1 _ rfl)
      rw [← hp] at c0 c1 d0 d1
      clear hc hc' hp
      rw [Nat.add_zero] at c0 d0
      have u1 : (0 : Int) ≤ (k : Int) := by omega
      have u2 : (k : Int) < (n : Int) := by omega
      clear hl1
      obtain ⟨p1, p2⟩ := p
      simp only at c0 c1 d0 d1
      go_wp2_with fail
      go_quiet (fail)
      go_wp2
      go_roundw
      case rel => exact ⟨k + 1, by omega, by go_num, by (repeat (first | (with_reducible exact Below.refl _ _) | (with_reducible assumption) | (with_reducible refine Below.drew ?_) | (with_reducible refine Below.allocS ?_ _) | (with_reducible refine Below.setCell ?_ ?_ _) | (with_reducible refine Below.step ?_ (by assumption)) | (with_reducible refine Below.drewN' ?_ _))); (try any_goals (first | (with_reducible assumption) | (simp; done) | (simp; omega) | omega))⟩
      case measure => simp [intOf]; omega
    · obtain rfl : k = n := by omega
      go_wp2
      go_ret
      exact ⟨rfl, hbw⟩
theorem InAt.bare {w : World} {l : List Ch} {A : Option Addr} {cap : Nat} {L : List Cl} {B : Option Addr} {cb : Nat} (h : InAt w l A cap L B cb) : InAt w l A cap [] none 0 := ⟨h.hl, h.hcap, h.hs, h.hr, by simp, RdL.nil⟩
def csRow (l : List Ch) (per : Int) (i j : Nat) : List (Nat × Nat) := ((List.range j).filter (fun b => decide (i < b) && !folC (l.getD i ch0) (l.getD b ch0) per)).map (fun b => (i, b))
theorem csRow_succ (l : List Ch) (per : Int) {i j : Nat} (h : i < j) : csRow l per i (j + 1) = if folC (l.getD i ch0) (l.getD j ch0) per = true then csRow l per i j else csRow l per i j ++ [(i, j)] := by
  unfold csRow
  rw [List.range_succ, List.filter_append]
  cases hf : folC (l.getD i ch0) (l.getD j ch0) per <;> simp only [List.filter_cons, List.filter_nil, hf, decide_eq_true h, Bool.not_true, Bool.not_false, Bool.and_false, Bool.and_true, Bool.false_eq_true, if_false, if_true, reduceIte, List.append_nil, List.map_append, List.map_cons, List.map_nil]
theorem csRow_zero (l : List Ch) (per : Int) (i : Nat) : csRow l per i (i + 1) = [] := by
  unfold csRow
  rw [List.filter_eq_nil_iff.2]
  · rfl
  · intro b hb
    have := List.mem_range.1 hb
    simp; omega
def csR (l : List Ch) (per : Int) : Nat → List (Nat × Nat)
  | 0 => []
  | i + 1 => csR l per i ++ csRow l per i l.length
theorem csRow_len (l : List Ch) (per : Int) (i j : Nat) : (csRow l per i j).length ≤ j := by
  unfold csRow
  rw [List.length_map]
  have := List.length_filter_le (fun b => decide (i < b) && !folC (l.getD i ch0) (l.getD b ch0) per) (List.range j)
  rw [List.length_range] at this
  exact this
theorem csR_len (l : List Ch) (per : Int) : ∀ i, (csR l per i).length ≤ i * l.length
  | 0 => by simp [csR]
  | i + 1 => by
    unfold csR
    rw [List.length_append, Nat.add_mul]
    have := csR_len l per i
    have := csRow_len l per i l.length
    omega
noncomputable def cshR (l : List Ch) (per : Int) : List (Nat × Nat) := if asE l [] per = 0 then csR l per l.length else []
set_option maxHeartbeats 4000000 in
set_option maxRecDepth 100000 in
theorem Clashes_c (l : List Ch) (A : Option Addr) (cap : Nat) (L : List Cl) (B : Option Addr) (cb : Nat) (per : Int) (w : World) (h0 : InAt w l A cap L B cb) :
    Calls Try.prog 19 #[.slice A l.length cap, .int .i64 per] w fun e w' => (∃ A' c', e = .returned (.tuple #[.slice A' (cshR l per).length c', .int .i64 (asE l [] per)]) ∧ RdL w' w'.heap.size prE 2 A' (cshR l per)) ∧ Below w.heap.size w w' := by
  have h := h0.bare
  clear h0
  have H1 := Lib.hid (fun W (hb : Below w.heap.size w W) => asked_c l A cap [] none 0 per W (h.step hb))
  have HIN := Lib.hid h
  have HR : Hid (cshR l per = if asE l [] per = 0 then csR l per l.length else []) := Lib.hid (by unfold cshR; rfl)
  have HP := Lib.hid (fun h0 : asE l [] per = 0 => PlanOk.of_as h0)
  clear h
  generalize asE l [] per = E at *
  generalize cshR l per = R at *
  obtain ⟨n, hn⟩ : ∃ n, n = l.length := ⟨_, rfl⟩
  have HN := Lib.hid hn
  rw [← hn] at H1 HR ⊢
  clear hn
  by_cases hE : E = 0
  case neg =>
    have HR2 := Lib.hid (show R = [] by rw [HR.out, if_neg hE])
    have q1 : (E != 0) = true := by simp [hE]
    clear HR HP hE
    go_enter Try.func19, Try.ntmps19
    go_wp2_with fail
    refine (H1.out _ (by (repeat (first | exact Below.refl _ _ | refine Below.drew ?_ | refine Below.allocS ?_ _ | refine Below.step ?_ (by assumption) | refine Below.setCell ?_ (by simp <;> omega) _ | refine Below.drewN' ?_ _)))).mono ?_
    rintro e w1 ⟨rfl, hb1⟩
    have x1_0_0 : w1.cell? ⟨w.heap.size, 0, none⟩ = some (.slice A n cap) := keep_cell hb1 (by simp [go_sem, *])
    have x1_0_1 : w1.cell? ⟨w.heap.size, 1, none⟩ = some (.slice none 0 0) := keep_cell hb1 (by simp [go_sem, *])
    have x1_0_2 : w1.cell? ⟨w.heap.size, 2, none⟩ = some (.int .i64 per) := keep_cell hb1 (by simp [go_sem, *])
    have y1_0 : w.heap.size < w1.heap.size := cell?_lt x1_0_0
    have g1 : Below w.heap.size w w1 := by (repeat (first | exact Below.refl _ _ | refine Below.drew ?_ | refine Below.allocS ?_ _ | refine Below.step ?_ (by assumption) | refine Below.setCell ?_ (by simp <;> omega) _ | refine Below.drewN' ?_ _))
    clear hb1
    go_wp2
    go_ret2
    rw [HR2.out]
    exact ⟨⟨none, 0, rfl, fun h => absurd h (by simp)⟩, by (repeat (first | exact Below.refl _ _ | refine Below.drew ?_ | refine Below.allocS ?_ _ | refine Below.step ?_ (by assumption) | refine Below.setCell ?_ (by simp <;> omega) _ | refine Below.drewN' ?_ _))⟩
  have HR2 := Lib.hid (show R = csR l per n by rw [HR.out, if_pos hE])
  have HPO := Lib.hid (HP.out hE)
  have hn20 : n ≤ 20 := by rw [HN.out]; exact HPO.out.n
  clear HR HP
  subst hE
  go_enter Try.func19, Try.ntmps19
  go_wp2_with fail
  refine (H1.out _ (by (repeat (first | exact Below.refl _ _ | refine Below.drew ?_ | refine Below.allocS ?_ _ | refine Below.step ?_ (by assumption) | refine Below.setCell ?_ (by simp <;> omega) _ | refine Below.drewN' ?_ _)))).mono ?_
  rintro e w1 ⟨rfl, hb1⟩
  have x1_0_0 : w1.cell? ⟨w.heap.size, 0, none⟩ = some (.slice A n cap) := keep_cell hb1 (by simp [go_sem, *])
  have x1_0_1 : w1.cell? ⟨w.heap.size, 1, none⟩ = some (.slice none 0 0) := keep_cell hb1 (by simp [go_sem, *])
  have x1_0_2 : w1.cell? ⟨w.heap.size, 2, none⟩ = some (.int .i64 per) := keep_cell hb1 (by simp [go_sem, *])
  have y1_0 : w.heap.size < w1.heap.size := cell?_lt x1_0_0
  have g1 : Below w.heap.size w w1 := by (repeat (first | exact Below.refl _ _ | refine Below.drew ?_ | refine Below.allocS ?_ _ | refine Below.step ?_ (by assumption) | refine Below.setCell ?_ (by simp <;> omega) _ | refine Below.drewN' ?_ _))
  clear hb1
  go_wp2_with fail
  go_loopw [8, 21] (fun u i wr => ∃ (k : Nat) (v8 : Value), v8 = u ∧ k ≤ n ∧ i = .int .i64 k ∧ wr.ownsRow w1.heap.size 71 2 v8 (csR l per k).length ((csR l per k).flatMap prE) ∧ Below w1.heap.size w1 wr) (fun _ i _ => n - (intOf i).toNat)
  case atStart => exact ⟨0, _, rfl, Nat.zero_le _, rfl, World.ownsRow_nil _ _ _ _, Below.refl _ _⟩
  case round =>
    rename World => U
    obtain ⟨i, v8, rfl, hk, rfl, hown, hbw⟩ := hrel
    obtain ⟨A8, c8, rfl, -, -⟩ := row_form hown
    have HO := Lib.hid hown
    clear hown
    have hsz := hbw.size
    have hbW : Below w.heap.size w U := Below.low g1 hbw g1.size
    by_cases hlt : i < n
    · have hil : i < l.length := by rw [← HN.out]; exact hlt
      obtain ⟨b, off, rfl, hb0, hc⟩ := HIN.out.hr (by omega)
      have HC : Hid (∀ k x, l[k]? = some x → ∀ jj v, (chE x)[jj]? = some v → w.cell? ⟨b, off + k * 5 + jj, none⟩ = some v) := Lib.hid (fun k x hx jj v hv => by
        obtain ⟨hk, e⟩ := List.getElem?_eq_some_iff.1 hx
        exact hc k hk jj v (by rw [e]; exact hv))
      obtain ⟨c, hcd⟩ : ∃ c, c = l[i] := ⟨_, rfl⟩
      have hcell : ∀ jj v, (chE c)[jj]? = some v → U.cell? ⟨b, off + i * 5 + jj, none⟩ = some v := fun jj v hv => (hbW.cell (p := ⟨b, _, none⟩) hb0).trans (hc i hil jj v (by rw [hcd] at hv; exact hv))
      have q0 : U.cell? ⟨b, off + i * 5, none⟩ = some (.string c.nm) := by simpa using hcell 0 _ rfl
      have q1 : U.cell? ⟨b, off + i * 5 + 1, none⟩ = some (.int .i64 c.a) := hcell 1 _ rfl
      have q2 : U.cell? ⟨b, off + i * 5 + 2, none⟩ = some (.int .i64 c.b) := hcell 2 _ rfl
      have q3 : U.cell? ⟨b, off + i * 5 + 3, none⟩ = some (.int .i64 c.t) := hcell 3 _ rfl
      have q4 : U.cell? ⟨b, off + i * 5 + 4, none⟩ = some (.int .i64 c.v) := hcell 4 _ rfl
      have hgi : l.getD i ch0 = c := by rw [hcd, List.getD_eq_getElem?_getD, List.getElem?_eq_getElem hil]; rfl
      have hcm : c ∈ l := by rw [hcd]; exact List.getElem_mem hil
      have HGI := Lib.hid hgi
      have HLI := Lib.hid (show l[i]? = some c by rw [hcd]; exact List.getElem?_eq_getElem hil)
      have HCM := Lib.hid hcm
      have HZ := Lib.hid (show csR l per i = csR l per i ++ csRow l per i (i + 1) by rw [csRow_zero, List.append_nil])
      have HS := Lib.hid (show csR l per (i + 1) = csR l per i ++ csRow l per i n by rw [HN.out]; rfl)
      have hl1 : (csR l per i).length ≤ 400 := by
        have h1 := csR_len l per i
        rw [← HN.out] at h1
        have := Nat.mul_le_mul (show i ≤ 20 by omega) hn20
        omega
      have hne8 : (Value.slice A8 (csR l per i).length c8).ownBlock ≠ some U.heap.size := fun e => by
        have := (HO.out.lt _ e).2
        omega
      clear hcell hgi hcd hcm hc hil
      have u3 : IntKind.i64.wrap ((i : Int) + 1) = (i : Int) + 1 := IntWalk.i64_in _ (by omega)
      have HO0 : Hid (U.ownsRow w1.heap.size 71 2 (.slice A8 (csR l per i).length c8) (csR l per i ++ csRow l per i (i + 1)).length ((csR l per i ++ csRow l per i (i + 1)).flatMap prE)) := Lib.hid (by rw [← HZ.out]; exact HO.out)
      obtain ⟨ln, hln⟩ : ∃ ln, ln = (csR l per i).length := ⟨_, rfl⟩
      have HLN := Lib.hid hln
      rw [← hln] at hl1 hne8 HO0 ⊢
      have HNE8 := Lib.hid hne8
      clear hln hne8
      go_wp2_with fail
      go_loopw [8, 10] (fun u j' wr => ∃ (j : Nat) (v8 : Value), v8 = u ∧ i < j ∧ j ≤ n ∧ j' = .int .i64 j ∧ wr.ownsRow w1.heap.size 71 2 v8 (csR l per i ++ csRow l per i j).length ((csR l per i ++ csRow l per i j).flatMap prE) ∧ Below w1.heap.size w1 wr) (fun _ j' _ => n - (intOf j').toNat)
      case atStart => exact ⟨i + 1, _, rfl, Nat.lt_succ_self _, hlt, by go_num, HO0.out, hbw⟩
      case round =>
        rename World => X
        obtain ⟨j, v9, rfl, hij, hj, rfl, hown9, hbX⟩ := hrel
        obtain ⟨A9, c9, rfl, -, -⟩ := row_form hown9
        have HO9 := Lib.hid hown9
        clear hown9
        have hsX := hbX.size
        have hbwX : Below w.heap.size w X := Below.low g1 hbX g1.size
        by_cases hjn : j < n
        · have hjl : j < l.length := by rw [← HN.out]; exact hjn
          obtain ⟨d, hdd⟩ : ∃ d, d = l[j] := ⟨_, rfl⟩
          have hcell : ∀ jj v, (chE d)[jj]? = some v → X.cell? ⟨b, off + j * 5 + jj, none⟩ = some v := fun jj v hv => (hbwX.cell (p := ⟨b, _, none⟩) hb0).trans (HC.out j d (by rw [hdd]; exact List.getElem?_eq_getElem hjl) jj v hv)
          have r0 : X.cell? ⟨b, off + j * 5, none⟩ = some (.string d.nm) := by simpa using hcell 0 _ rfl
          have r1 : X.cell? ⟨b, off + j * 5 + 1, none⟩ = some (.int .i64 d.a) := hcell 1 _ rfl
          have r2 : X.cell? ⟨b, off + j * 5 + 2, none⟩ = some (.int .i64 d.b) := hcell 2 _ rfl
          have r3 : X.cell? ⟨b, off + j * 5 + 3, none⟩ = some (.int .i64 d.t) := hcell 3 _ rfl
          have r4 : X.cell? ⟨b, off + j * 5 + 4, none⟩ = some (.int .i64 d.v) := hcell 4 _ rfl
          have q0' : X.cell? ⟨b, off + i * 5, none⟩ = some (Value.string c.nm) := (hbwX.cell (p := ⟨b, _, none⟩) hb0).trans (HC.out i c HLI.out 0 _ rfl)
          have q1' : X.cell? ⟨b, off + i * 5 + 1, none⟩ = some (.int .i64 c.a) := (hbwX.cell (p := ⟨b, _, none⟩) hb0).trans (HC.out i c HLI.out 1 _ rfl)
          have q2' : X.cell? ⟨b, off + i * 5 + 2, none⟩ = some (.int .i64 c.b) := (hbwX.cell (p := ⟨b, _, none⟩) hb0).trans (HC.out i c HLI.out 2 _ rfl)
          have q3' : X.cell? ⟨b, off + i * 5 + 3, none⟩ = some (.int .i64 c.t) := (hbwX.cell (p := ⟨b, _, none⟩) hb0).trans (HC.out i c HLI.out 3 _ rfl)
          have q4' : X.cell? ⟨b, off + i * 5 + 4, none⟩ = some (.int .i64 c.v) := (hbwX.cell (p := ⟨b, _, none⟩) hb0).trans (HC.out i c HLI.out 4 _ rfl)
          have yb := cell?_lt r1
          have hdm : d ∈ l := by rw [hdd]; exact List.getElem_mem hjl
          have hgj : l.getD j ch0 = d := by rw [hdd, List.getD_eq_getElem?_getD, List.getElem?_eq_getElem hjl]; rfl
          have HFO := Lib.hid (fun W => follows_c c d per (HPO.out.t c HCM.out) (HPO.out.t d hdm) HPO.out.p (HPO.out.b c HCM.out) W)
          have HST := Lib.hid (show csRow l per i (j + 1) = if folC c d per = true then csRow l per i j else csRow l per i j ++ [(i, j)] by rw [csRow_succ l per hij, HGI.out, hgj])
          have hlr := csRow_len l per i j
          obtain ⟨ln2, hln2⟩ : ∃ ln, ln = (csR l per i ++ csRow l per i j).length := ⟨_, rfl⟩
          have HLN2 := Lib.hid hln2
          have hl2 : ln2 ≤ 420 := by rw [hln2, List.length_append, ← HLN.out]; omega
          rw [← hln2] at HO9  ⊢
          clear hln2 hlr
          generalize folC c d per = fB at *
          have z1 : (0 : Int) ≤ (j : Int) := by omega
          have z2 : (j : Int) < (n : Int) := by omega
          have z3 : (0 : Int) ≤ (i : Int) := by omega
          have z4 : (i : Int) < (n : Int) := by omega
          have u4 : IntKind.i64.wrap ((j : Int) + 1) = (j : Int) + 1 := IntWalk.i64_in _ (by omega)
          clear hcell hdd hjl hgj hdm
          go_wp2_with fail
          refine region_below (by kernel_rfl) (by kernel_rfl) ?_
          (first | go_big_quiet_skip | (go_big_quiet_want; refine quiet_val (v := ?_) ?_ ?_; rotate_left 1; (· (intro Wq hWq; obtain ⟨hWc, hWf⟩ := bcell hWq; go_simp; (try with_reducible rfl))); go_big_quiet_on; (try simp only [Act.put, List.setIfInBounds_toArray, List.set_cons_zero, List.set_cons_succ])))
          (first | go_big_quiet_skip | (go_big_quiet_want; refine quiet_val (v := ?_) ?_ ?_; rotate_left 1; (· (intro Wq hWq; obtain ⟨hWc, hWf⟩ := bcell hWq; go_simp; (try with_reducible rfl))); go_big_quiet_on; (try simp only [Act.put, List.setIfInBounds_toArray, List.set_cons_zero, List.set_cons_succ])))
          (first | go_big_quiet_skip | (go_big_quiet_want; refine quiet_val (v := ?_) ?_ ?_; rotate_left 1; (· (intro Wq hWq; obtain ⟨hWc, hWf⟩ := bcell hWq; go_simp; (try with_reducible rfl))); go_big_quiet_on; (try simp only [Act.put, List.setIfInBounds_toArray, List.set_cons_zero, List.set_cons_succ])))
          (first | go_big_quiet_skip | (go_big_quiet_want; refine quiet_val (v := ?_) ?_ ?_; rotate_left 1; (· (intro Wq hWq; obtain ⟨hWc, hWf⟩ := bcell hWq; go_simp; (try with_reducible rfl))); go_big_quiet_on; (try simp only [Act.put, List.setIfInBounds_toArray, List.set_cons_zero, List.set_cons_succ])))
          (first | go_big_quiet_skip | (go_big_quiet_want; refine quiet_val (v := ?_) ?_ ?_; rotate_left 1; (· (intro Wq hWq; obtain ⟨hWc, hWf⟩ := bcell hWq; go_simp; (try with_reducible rfl))); go_big_quiet_on; (try simp only [Act.put, List.setIfInBounds_toArray, List.set_cons_zero, List.set_cons_succ])))
          (first | go_big_quiet_skip | (go_big_quiet_want; refine quiet_val (v := ?_) ?_ ?_; rotate_left 1; (· (intro Wq hWq; obtain ⟨hWc, hWf⟩ := bcell hWq; go_simp; (try with_reducible rfl))); go_big_quiet_on; (try simp only [Act.put, List.setIfInBounds_toArray, List.set_cons_zero, List.set_cons_succ])))
          (first | go_big_quiet_skip | (go_big_quiet_want; refine quiet_val (v := ?_) ?_ ?_; rotate_left 1; (· (intro Wq hWq; obtain ⟨hWc, hWf⟩ := bcell hWq; go_simp; (try with_reducible rfl))); go_big_quiet_on; (try simp only [Act.put, List.setIfInBounds_toArray, List.set_cons_zero, List.set_cons_succ])))
          (first | go_big_quiet_skip | (go_big_quiet_want; refine quiet_val (v := ?_) ?_ ?_; rotate_left 1; (· (intro Wq hWq; obtain ⟨hWc, hWf⟩ := bcell hWq; go_simp; (try with_reducible rfl))); go_big_quiet_on; (try simp only [Act.put, List.setIfInBounds_toArray, List.set_cons_zero, List.set_cons_succ])))
          (first | go_big_quiet_skip | (go_big_quiet_want; refine quiet_val (v := ?_) ?_ ?_; rotate_left 1; (· (intro Wq hWq; obtain ⟨hWc, hWf⟩ := bcell hWq; go_simp; (try with_reducible rfl))); go_big_quiet_on; (try simp only [Act.put, List.setIfInBounds_toArray, List.set_cons_zero, List.set_cons_succ])))
          go_big_quiet_want; refine quiet_callB (f := 62) (args := ?_) (v := ?_) ?_ ?_ ?_; rotate_left 2
          · (intro Wq hWq; obtain ⟨hWc, hWf⟩ := bcell hWq; go_simp; (first | with_reducible rfl | exact ⟨rfl, rfl⟩))
          · (intro Wq hWq; exact HFO.out _)
          go_big_quiet_on; (try simp only [Act.put, List.setIfInBounds_toArray, List.set_cons_zero, List.set_cons_succ])
          (first | go_big_quiet_skip | (go_big_quiet_want; refine quiet_val (v := ?_) ?_ ?_; rotate_left 1; (· (intro Wq hWq; obtain ⟨hWc, hWf⟩ := bcell hWq; go_simp; (try with_reducible rfl))); go_big_quiet_on; (try simp only [Act.put, List.setIfInBounds_toArray, List.set_cons_zero, List.set_cons_succ])))
          refine wpQuiet_nil ?_; intro V hbV
          have HOV := Lib.hid (ownsRow_keep HO9.out hbV)
          have hsV := hbV.size
          have hb2V : Below w1.heap.size w1 V := Below.low hbX hbV hsX
          clear r0 r1 r2 r3 r4
          cases fB
          · have HP := Lib.hid (show csRow l per i (j + 1) = csRow l per i j ++ [(i, j)] from HST.out)
            have HAPP := Lib.hid (app_run_at appP (csR l per i ++ csRow l per i j) (i, j) ln2 HLN2.out.symm (by omega) (V.alloc (.cells #[.int .i64 i, .int .i64 j] 71)) w1.heap.size V.heap.size _ (HOV.out.alloc _) (by simp; omega) (two_pr (by simp [go_sem]) (by simp [go_sem])))
            have HL2 := Lib.hid (show ln2 + 1 = (csR l per i ++ csRow l per i (j + 1)).length by rw [HP.out, HLN2.out]; simp; omega)
            have HM2 := Lib.hid (show (csR l per i ++ csRow l per i j) ++ [(i, j)] = csR l per i ++ csRow l per i (j + 1) by rw [HP.out, List.append_assoc])
            rw [HM2.out, HL2.out] at HAPP
            obtain ⟨ln3, hl3⟩ : ∃ x, x = (csR l per i ++ csRow l per i (j + 1)).length := ⟨_, rfl⟩
            rw [← hl3] at HAPP
            have HLL := Lib.hid hl3
            clear hl3
            go_wp2_with (at_builtin; refine wpList_app rfl (.tmp 43) (.tmp 47) 37 rfl _ _ rfl rfl HAPP.out ?_; rintro v5 w5 ⟨hown5, hbel5, hgr5, hne5⟩; obtain ⟨A5, c5, rfl, -, -⟩ := row_form hown5; have HO5 := Lib.hid hown5; clear hown5; have hB5 : Below w1.heap.size w1 w5 := Below.low (Below.allocS hb2V _) hbel5 (Nat.le_refl _); clear hbel5)
            clear hgr5 hne5
            go_roundw
            case rel => exact ⟨j + 1, _, rfl, by omega, by omega, by go_num, by rw [← HLL.out]; exact HO5.out, hB5⟩
            case measure => simp [intOf]; omega
          · have HP := Lib.hid (show csRow l per i (j + 1) = csRow l per i j from HST.out)
            go_wp2
            go_roundw
            case rel => exact ⟨j + 1, _, rfl, by omega, by omega, by go_num, by rw [HP.out, ← HLN2.out]; exact HOV.out, hb2V⟩
            case measure => simp [intOf]; omega
        · obtain rfl : j = n := by omega
          obtain ⟨ln2, hln2⟩ : ∃ ln, ln = (csR l per i ++ csRow l per i j).length := ⟨_, rfl⟩
          have HLN2 := Lib.hid hln2
          rw [← hln2] at HO9 ⊢
          clear hln2
          go_wp2
          go_roundw
          case rel => exact ⟨i + 1, _, rfl, by omega, by go_num, by rw [HS.out, ← HLN2.out]; exact HO9.out, hbX⟩
          case measure => simp [intOf]; omega
    · obtain rfl : i = n := by omega
      have HLEN : Hid (R.length = (csR l per i).length) := Lib.hid (by rw [HR2.out])
      have HRD : Hid (RdL U U.heap.size prE 2 A8 R) := Lib.hid (by rw [HR2.out]; exact RdL.of_own (fun _ => rfl) HO.out rfl)
      generalize (csR l per i).length = len at *
      go_wp2
      go_ret2
      exact ⟨⟨A8, c8, by rw [HLEN.out]; rfl, HRD.out⟩, hbW⟩
set_option maxHeartbeats 4000000 in
set_option maxRecDepth 100000 in
theorem rClashes_c (l : List Ch) (A : Option Addr) (cap : Nat) (L : List Cl) (B : Option Addr) (cb : Nat) (per : Int) (w : World) (h0 : InAt w l A cap L B cb) :
    Calls Try.prog 20 #[.slice A l.length cap, .int .i64 per] w fun e w' => (∃ A' c', e = .returned (.tuple #[.slice A' (cshR l per).length c', .int .i64 (asE l [] per)]) ∧ RdL w' w'.heap.size prE 2 A' (cshR l per)) ∧ Below w.heap.size w w' := by
  have h := h0.bare
  clear h0
  have H1 := Lib.hid (fun W (hb : Below w.heap.size w W) => rasked_c l A cap [] none 0 per W (h.step hb))
  have HIN := Lib.hid h
  have HR : Hid (cshR l per = if asE l [] per = 0 then csR l per l.length else []) := Lib.hid (by unfold cshR; rfl)
  have HP := Lib.hid (fun h0 : asE l [] per = 0 => PlanOk.of_as h0)
  clear h
  generalize asE l [] per = E at *
  generalize cshR l per = R at *
  obtain ⟨n, hn⟩ : ∃ n, n = l.length := ⟨_, rfl⟩
  have HN := Lib.hid hn
  rw [← hn] at H1 HR ⊢
  clear hn
  by_cases hE : E = 0
  case neg =>
    have HR2 := Lib.hid (show R = [] by rw [HR.out, if_neg hE])
    have q1 : (E != 0) = true := by simp [hE]
    clear HR HP hE
    go_enter Try.func20, Try.ntmps20
    go_wp2_with fail
    refine (H1.out _ (by (repeat (first | exact Below.refl _ _ | refine Below.drew ?_ | refine Below.allocS ?_ _ | refine Below.step ?_ (by assumption) | refine Below.setCell ?_ (by simp <;> omega) _ | refine Below.drewN' ?_ _)))).mono ?_
    rintro e w1 ⟨rfl, hb1⟩
    have g1 : Below w.heap.size w w1 := by (repeat (first | exact Below.refl _ _ | refine Below.drew ?_ | refine Below.allocS ?_ _ | refine Below.step ?_ (by assumption) | refine Below.setCell ?_ (by simp <;> omega) _ | refine Below.drewN' ?_ _))
    clear hb1
    go_wp2
    go_ret2
    rw [HR2.out]
    exact ⟨⟨none, 0, rfl, fun h => absurd h (by simp)⟩, by (repeat (first | exact Below.refl _ _ | refine Below.drew ?_ | refine Below.allocS ?_ _ | refine Below.step ?_ (by assumption) | refine Below.setCell ?_ (by simp <;> omega) _ | refine Below.drewN' ?_ _))⟩
  have HR2 := Lib.hid (show R = csR l per n by rw [HR.out, if_pos hE])
  have HPO := Lib.hid (HP.out hE)
  have hn20 : n ≤ 20 := by rw [HN.out]; exact HPO.out.n
  clear HR HP
  subst hE
  go_enter Try.func20, Try.ntmps20
  go_wp2_with fail
  refine (H1.out _ (by (repeat (first | exact Below.refl _ _ | refine Below.drew ?_ | refine Below.allocS ?_ _ | refine Below.step ?_ (by assumption) | refine Below.setCell ?_ (by simp <;> omega) _ | refine Below.drewN' ?_ _)))).mono ?_
  rintro e w1 ⟨rfl, hb1⟩
  have g1 : Below w.heap.size w w1 := by (repeat (first | exact Below.refl _ _ | refine Below.drew ?_ | refine Below.allocS ?_ _ | refine Below.step ?_ (by assumption) | refine Below.setCell ?_ (by simp <;> omega) _ | refine Below.drewN' ?_ _))
  clear hb1
  go_wp2_with fail
  go_loopw [7, 19] (fun u i wr => ∃ (k : Nat) (v8 : Value), v8 = u ∧ k ≤ n ∧ i = .int .i64 k ∧ wr.ownsRow w1.heap.size 71 2 v8 (csR l per k).length ((csR l per k).flatMap prE) ∧ Below w1.heap.size w1 wr) (fun _ i _ => n - (intOf i).toNat)
  case atStart => exact ⟨0, _, rfl, Nat.zero_le _, rfl, World.ownsRow_nil _ _ _ _, Below.refl _ _⟩
  case round =>
    rename World => U
    obtain ⟨i, v8, rfl, hk, rfl, hown, hbw⟩ := hrel
    obtain ⟨A8, c8, rfl, -, -⟩ := row_form hown
    have HO := Lib.hid hown
    clear hown
    have hsz := hbw.size
    have hbW : Below w.heap.size w U := Below.low g1 hbw g1.size
    by_cases hlt : i < n
    · have hil : i < l.length := by rw [← HN.out]; exact hlt
      obtain ⟨b, off, rfl, hb0, hc⟩ := HIN.out.hr (by omega)
      have HC : Hid (∀ k x, l[k]? = some x → ∀ jj v, (chE x)[jj]? = some v → w.cell? ⟨b, off + k * 5 + jj, none⟩ = some v) := Lib.hid (fun k x hx jj v hv => by
        obtain ⟨hk, e⟩ := List.getElem?_eq_some_iff.1 hx
        exact hc k hk jj v (by rw [e]; exact hv))
      obtain ⟨c, hcd⟩ : ∃ c, c = l[i] := ⟨_, rfl⟩
      have hcell : ∀ jj v, (chE c)[jj]? = some v → U.cell? ⟨b, off + i * 5 + jj, none⟩ = some v := fun jj v hv => (hbW.cell (p := ⟨b, _, none⟩) hb0).trans (hc i hil jj v (by rw [hcd] at hv; exact hv))
      have q0 : U.cell? ⟨b, off + i * 5, none⟩ = some (.string c.nm) := by simpa using hcell 0 _ rfl
      have q1 : U.cell? ⟨b, off + i * 5 + 1, none⟩ = some (.int .i64 c.a) := hcell 1 _ rfl
      have q2 : U.cell? ⟨b, off + i * 5 + 2, none⟩ = some (.int .i64 c.b) := hcell 2 _ rfl
      have q3 : U.cell? ⟨b, off + i * 5 + 3, none⟩ = some (.int .i64 c.t) := hcell 3 _ rfl
      have q4 : U.cell? ⟨b, off + i * 5 + 4, none⟩ = some (.int .i64 c.v) := hcell 4 _ rfl
      have hgi : l.getD i ch0 = c := by rw [hcd, List.getD_eq_getElem?_getD, List.getElem?_eq_getElem hil]; rfl
      have hcm : c ∈ l := by rw [hcd]; exact List.getElem_mem hil
      have HGI := Lib.hid hgi
      have HCM := Lib.hid hcm
      have HZ := Lib.hid (show csR l per i = csR l per i ++ csRow l per i (i + 1) by rw [csRow_zero, List.append_nil])
      have HS := Lib.hid (show csR l per (i + 1) = csR l per i ++ csRow l per i n by rw [HN.out]; rfl)
      have hl1 : (csR l per i).length ≤ 400 := by
        have h1 := csR_len l per i
        rw [← HN.out] at h1
        have := Nat.mul_le_mul (show i ≤ 20 by omega) hn20
        omega
      have hne8 : (Value.slice A8 (csR l per i).length c8).ownBlock ≠ some U.heap.size := fun e => by
        have := (HO.out.lt _ e).2
        omega
      clear hcell hgi hcd hcm hc hil
      have u3 : IntKind.i64.wrap ((i : Int) + 1) = (i : Int) + 1 := IntWalk.i64_in _ (by omega)
      have HO0 : Hid (U.ownsRow w1.heap.size 71 2 (.slice A8 (csR l per i).length c8) (csR l per i ++ csRow l per i (i + 1)).length ((csR l per i ++ csRow l per i (i + 1)).flatMap prE)) := Lib.hid (by rw [← HZ.out]; exact HO.out)
      obtain ⟨ln, hln⟩ : ∃ ln, ln = (csR l per i).length := ⟨_, rfl⟩
      have HLN := Lib.hid hln
      rw [← hln] at hl1 hne8 HO0 ⊢
      have HNE8 := Lib.hid hne8
      clear hln hne8
      go_wp2_with fail
      have s0 : (U.alloc (.cells #[.string c.nm, .int .i64 c.a, .int .i64 c.b, .int .i64 c.t, .int .i64 c.v] 34)).cell? ⟨U.heap.size, 0, none⟩ = some (Value.string c.nm) := by simp [go_sem]
      have s1 : (U.alloc (.cells #[.string c.nm, .int .i64 c.a, .int .i64 c.b, .int .i64 c.t, .int .i64 c.v] 34)).cell? ⟨U.heap.size, 1, none⟩ = some (.int .i64 c.a) := by simp [go_sem]
      have s2 : (U.alloc (.cells #[.string c.nm, .int .i64 c.a, .int .i64 c.b, .int .i64 c.t, .int .i64 c.v] 34)).cell? ⟨U.heap.size, 2, none⟩ = some (.int .i64 c.b) := by simp [go_sem]
      have s3 : (U.alloc (.cells #[.string c.nm, .int .i64 c.a, .int .i64 c.b, .int .i64 c.t, .int .i64 c.v] 34)).cell? ⟨U.heap.size, 3, none⟩ = some (.int .i64 c.t) := by simp [go_sem]
      have s4 : (U.alloc (.cells #[.string c.nm, .int .i64 c.a, .int .i64 c.b, .int .i64 c.t, .int .i64 c.v] 34)).cell? ⟨U.heap.size, 4, none⟩ = some (.int .i64 c.v) := by simp [go_sem]
      go_loopw [7, 10] (fun u j' wr => ∃ (j : Nat) (v8 : Value), v8 = u ∧ i < j ∧ j ≤ n ∧ j' = .int .i64 j ∧ wr.ownsRow w1.heap.size 71 2 v8 (csR l per i ++ csRow l per i j).length ((csR l per i ++ csRow l per i j).flatMap prE) ∧ v8.ownBlock ≠ some U.heap.size ∧ U.heap.size < wr.heap.size ∧ wr.cell? ⟨U.heap.size, 0, none⟩ = some (Value.string c.nm) ∧ wr.cell? ⟨U.heap.size, 1, none⟩ = some (.int .i64 c.a) ∧ wr.cell? ⟨U.heap.size, 2, none⟩ = some (.int .i64 c.b) ∧ wr.cell? ⟨U.heap.size, 3, none⟩ = some (.int .i64 c.t) ∧ wr.cell? ⟨U.heap.size, 4, none⟩ = some (.int .i64 c.v) ∧ Below w1.heap.size w1 wr) (fun _ j' _ => n - (intOf j').toNat)
      case atStart => exact ⟨i + 1, _, rfl, Nat.lt_succ_self _, hlt, by go_num, HO0.out.alloc _, HNE8.out, by simp, s0, s1, s2, s3, s4, Below.allocS hbw _⟩
      case round =>
        rename World => X
        obtain ⟨j, v9, rfl, hij, hj, rfl, hown9, hne9, hsU, p0, p1, p2, p3, p4, hbX⟩ := hrel
        obtain ⟨A9, c9, rfl, -, -⟩ := row_form hown9
        have HO9 := Lib.hid hown9
        clear hown9
        have hsX := hbX.size
        have hbwX : Below w.heap.size w X := Below.low g1 hbX g1.size
        by_cases hjn : j < n
        · have hjl : j < l.length := by rw [← HN.out]; exact hjn
          obtain ⟨d, hdd⟩ : ∃ d, d = l[j] := ⟨_, rfl⟩
          have hcell : ∀ jj v, (chE d)[jj]? = some v → X.cell? ⟨b, off + j * 5 + jj, none⟩ = some v := fun jj v hv => (hbwX.cell (p := ⟨b, _, none⟩) hb0).trans (HC.out j d (by rw [hdd]; exact List.getElem?_eq_getElem hjl) jj v hv)
          have r0 : X.cell? ⟨b, off + j * 5, none⟩ = some (.string d.nm) := by simpa using hcell 0 _ rfl
          have r1 : X.cell? ⟨b, off + j * 5 + 1, none⟩ = some (.int .i64 d.a) := hcell 1 _ rfl
          have r2 : X.cell? ⟨b, off + j * 5 + 2, none⟩ = some (.int .i64 d.b) := hcell 2 _ rfl
          have r3 : X.cell? ⟨b, off + j * 5 + 3, none⟩ = some (.int .i64 d.t) := hcell 3 _ rfl
          have r4 : X.cell? ⟨b, off + j * 5 + 4, none⟩ = some (.int .i64 d.v) := hcell 4 _ rfl
          have yb := cell?_lt r1
          have yu := cell?_lt p0
          have hdm : d ∈ l := by rw [hdd]; exact List.getElem_mem hjl
          have hgj : l.getD j ch0 = d := by rw [hdd, List.getD_eq_getElem?_getD, List.getElem?_eq_getElem hjl]; rfl
          have HFO := Lib.hid (fun W => rfollows_c c d per (HPO.out.t c HCM.out) (HPO.out.t d hdm) HPO.out.p (HPO.out.b c HCM.out) W)
          have HST := Lib.hid (show csRow l per i (j + 1) = if folC c d per = true then csRow l per i j else csRow l per i j ++ [(i, j)] by rw [csRow_succ l per hij, HGI.out, hgj])
          have hlr := csRow_len l per i j
          obtain ⟨ln2, hln2⟩ : ∃ ln, ln = (csR l per i ++ csRow l per i j).length := ⟨_, rfl⟩
          have HLN2 := Lib.hid hln2
          have hl2 : ln2 ≤ 420 := by rw [hln2, List.length_append, ← HLN.out]; omega
          rw [← hln2] at HO9 hne9 ⊢
          clear hln2 hlr
          generalize folC c d per = fB at *
          have z1 : (0 : Int) ≤ (j : Int) := by omega
          have z2 : (j : Int) < (n : Int) := by omega
          have z3 : (0 : Int) ≤ (i : Int) := by omega
          have z4 : (i : Int) < (n : Int) := by omega
          have u4 : IntKind.i64.wrap ((j : Int) + 1) = (j : Int) + 1 := IntWalk.i64_in _ (by omega)
          clear hcell hdd hjl hgj hdm
          go_wp2_with fail
          refine region_below (by kernel_rfl) (by kernel_rfl) ?_
          (first | go_big_quiet_skip | (go_big_quiet_want; refine quiet_val (v := ?_) ?_ ?_; rotate_left 1; (· (intro Wq hWq; obtain ⟨hWc, hWf⟩ := bcell hWq; go_simp; (try with_reducible rfl))); go_big_quiet_on; (try simp only [Act.put, List.setIfInBounds_toArray, List.set_cons_zero, List.set_cons_succ])))
          (first | go_big_quiet_skip | (go_big_quiet_want; refine quiet_val (v := ?_) ?_ ?_; rotate_left 1; (· (intro Wq hWq; obtain ⟨hWc, hWf⟩ := bcell hWq; go_simp; (try with_reducible rfl))); go_big_quiet_on; (try simp only [Act.put, List.setIfInBounds_toArray, List.set_cons_zero, List.set_cons_succ])))
          (first | go_big_quiet_skip | (go_big_quiet_want; refine quiet_val (v := ?_) ?_ ?_; rotate_left 1; (· (intro Wq hWq; obtain ⟨hWc, hWf⟩ := bcell hWq; go_simp; (try with_reducible rfl))); go_big_quiet_on; (try simp only [Act.put, List.setIfInBounds_toArray, List.set_cons_zero, List.set_cons_succ])))
          (first | go_big_quiet_skip | (go_big_quiet_want; refine quiet_val (v := ?_) ?_ ?_; rotate_left 1; (· (intro Wq hWq; obtain ⟨hWc, hWf⟩ := bcell hWq; go_simp; (try with_reducible rfl))); go_big_quiet_on; (try simp only [Act.put, List.setIfInBounds_toArray, List.set_cons_zero, List.set_cons_succ])))
          (first | go_big_quiet_skip | (go_big_quiet_want; refine quiet_val (v := ?_) ?_ ?_; rotate_left 1; (· (intro Wq hWq; obtain ⟨hWc, hWf⟩ := bcell hWq; go_simp; (try with_reducible rfl))); go_big_quiet_on; (try simp only [Act.put, List.setIfInBounds_toArray, List.set_cons_zero, List.set_cons_succ])))
          (first | go_big_quiet_skip | (go_big_quiet_want; refine quiet_val (v := ?_) ?_ ?_; rotate_left 1; (· (intro Wq hWq; obtain ⟨hWc, hWf⟩ := bcell hWq; go_simp; (try with_reducible rfl))); go_big_quiet_on; (try simp only [Act.put, List.setIfInBounds_toArray, List.set_cons_zero, List.set_cons_succ])))
          go_big_quiet_want; refine quiet_callB (f := 64) (args := ?_) (v := ?_) ?_ ?_ ?_; rotate_left 2
          · (intro Wq hWq; obtain ⟨hWc, hWf⟩ := bcell hWq; go_simp; (first | with_reducible rfl | exact ⟨rfl, rfl⟩))
          · (intro Wq hWq; exact HFO.out _)
          go_big_quiet_on; (try simp only [Act.put, List.setIfInBounds_toArray, List.set_cons_zero, List.set_cons_succ])
          (first | go_big_quiet_skip | (go_big_quiet_want; refine quiet_val (v := ?_) ?_ ?_; rotate_left 1; (· (intro Wq hWq; obtain ⟨hWc, hWf⟩ := bcell hWq; go_simp; (try with_reducible rfl))); go_big_quiet_on; (try simp only [Act.put, List.setIfInBounds_toArray, List.set_cons_zero, List.set_cons_succ])))
          refine wpQuiet_nil ?_; intro V hbV
          have HOV := Lib.hid (ownsRow_keep HO9.out hbV)
          have hsV := hbV.size
          have hb2V : Below w1.heap.size w1 V := Below.low hbX hbV hsX
          have v0 := keep_cell hbV p0
          have v1 := keep_cell hbV p1
          have v2 := keep_cell hbV p2
          have v3 := keep_cell hbV p3
          have v4 := keep_cell hbV p4
          clear r0 r1 r2 r3 r4
          cases fB
          · have HP := Lib.hid (show csRow l per i (j + 1) = csRow l per i j ++ [(i, j)] from HST.out)
            have HAPP := Lib.hid (app_run_at appP (csR l per i ++ csRow l per i j) (i, j) ln2 HLN2.out.symm (by omega) (V.alloc (.cells #[.int .i64 i, .int .i64 j] 71)) w1.heap.size V.heap.size _ (HOV.out.alloc _) (by simp; omega) (two_pr (by simp [go_sem]) (by simp [go_sem])))
            have HL2 := Lib.hid (show ln2 + 1 = (csR l per i ++ csRow l per i (j + 1)).length by rw [HP.out, HLN2.out]; simp; omega)
            have HM2 := Lib.hid (show (csR l per i ++ csRow l per i j) ++ [(i, j)] = csR l per i ++ csRow l per i (j + 1) by rw [HP.out, List.append_assoc])
            rw [HM2.out, HL2.out] at HAPP
            obtain ⟨ln3, hl3⟩ : ∃ x, x = (csR l per i ++ csRow l per i (j + 1)).length := ⟨_, rfl⟩
            rw [← hl3] at HAPP
            have HLL := Lib.hid hl3
            clear hl3
            go_wp2_with (at_builtin; refine wpList_app rfl (.tmp 40) (.tmp 44) 37 rfl _ _ rfl rfl HAPP.out ?_; rintro v5 w5 ⟨hown5, hbel5, hgr5, hne5⟩; obtain ⟨A5, c5, rfl, -, -⟩ := row_form hown5; have HO5 := Lib.hid hown5; clear hown5; have hB5 : Below w1.heap.size w1 w5 := Below.low (Below.allocS hb2V _) hbel5 (Nat.le_refl _); clear hbel5)
            have hnb : (Value.slice A9 ln2 c9).ownBlock ≠ some U.heap.size := hne9
            have hne6 : (Value.slice A5 ln3 c5).ownBlock ≠ some U.heap.size := by
              rcases hne5 with e | e
              · rw [e]; exact hnb
              · rw [e]; simp; omega
            have hs5 := hgr5.size
            have hs6 : U.heap.size < w5.heap.size := by simp at hs5; omega
            have z0' := grown_cell hgr5 (keep_cell (Below.allocS (Below.refl V.heap.size V) (.cells #[.int .i64 i, .int .i64 j] 71)) v0) (fun e => hnb e.symm)
            have z1' := grown_cell hgr5 (keep_cell (Below.allocS (Below.refl V.heap.size V) (.cells #[.int .i64 i, .int .i64 j] 71)) v1) (fun e => hnb e.symm)
            have z2' := grown_cell hgr5 (keep_cell (Below.allocS (Below.refl V.heap.size V) (.cells #[.int .i64 i, .int .i64 j] 71)) v2) (fun e => hnb e.symm)
            have z3' := grown_cell hgr5 (keep_cell (Below.allocS (Below.refl V.heap.size V) (.cells #[.int .i64 i, .int .i64 j] 71)) v3) (fun e => hnb e.symm)
            have z4' := grown_cell hgr5 (keep_cell (Below.allocS (Below.refl V.heap.size V) (.cells #[.int .i64 i, .int .i64 j] 71)) v4) (fun e => hnb e.symm)
            clear hgr5 hne5
            go_roundw
            case rel => exact ⟨j + 1, _, rfl, by omega, by omega, by go_num, by rw [← HLL.out]; exact HO5.out, hne6, hs6, z0', z1', z2', z3', z4', hB5⟩
            case measure => simp [intOf]; omega
          · have HP := Lib.hid (show csRow l per i (j + 1) = csRow l per i j from HST.out)
            go_wp2
            go_roundw
            case rel => exact ⟨j + 1, _, rfl, by omega, by omega, by go_num, by rw [HP.out, ← HLN2.out]; exact HOV.out, hne9, by omega, v0, v1, v2, v3, v4, hb2V⟩
            case measure => simp [intOf]; omega
        · obtain rfl : j = n := by omega
          obtain ⟨ln2, hln2⟩ : ∃ ln, ln = (csR l per i ++ csRow l per i j).length := ⟨_, rfl⟩
          have HLN2 := Lib.hid hln2
          rw [← hln2] at HO9 ⊢
          clear hln2
          go_wp2
          go_roundw
          case rel => exact ⟨i + 1, _, rfl, by omega, by go_num, by rw [HS.out, ← HLN2.out]; exact HO9.out, hbX⟩
          case measure => simp [intOf]; omega
    · obtain rfl : i = n := by omega
      have HLEN : Hid (R.length = (csR l per i).length) := Lib.hid (by rw [HR2.out])
      have HRD : Hid (RdL U U.heap.size prE 2 A8 R) := Lib.hid (by rw [HR2.out]; exact RdL.of_own (fun _ => rfl) HO.out rfl)
      generalize (csR l per i).length = len at *
      go_wp2
      go_ret2
      exact ⟨⟨A8, c8, by rw [HLEN.out]; rfl, HRD.out⟩, hbW⟩
end Go.Proofs.Ytomgaiokmdcjmaa
