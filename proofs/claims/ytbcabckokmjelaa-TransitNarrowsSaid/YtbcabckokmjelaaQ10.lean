/-
  The reference's differences, and its Agree.
-/
import Derived.Test.YtbcabckokmjelaaQ9
namespace Go.Proofs.Ytbcabckokmjelaa
open Go.RowKit
set_option linter.unusedVariables false
set_option linter.unusedSimpArgs false
theorem appN : AppE 82 106 snE 2 where
  ht := Try.underlying82
  info := app_info (z := .agg #[.int .i64 0, .int .i64 0]) (bytes := 16) (by kernel_rfl) rfl (by decide)
  pos := by decide
  len := fun x => rfl
  one := fun x u hu => by simp [snE] at hu; rcases hu with rfl | rfl <;> rfl
theorem two_cells {W : World} {g : Nat} {a b : Value} (h0 : W.cell? ⟨g, 0, none⟩ = some a) (h1 : W.cell? ⟨g, 1, none⟩ = some b) : ∀ j u, ([a, b] : List Value)[j]? = some u → W.cell? ⟨g, j, none⟩ = some u := by
  intro j u hu
  have hj : j < 2 := (List.getElem?_eq_some_iff.1 hu).1
  match j, hj with
  | 0, _ => simp at hu; subst hu; exact h0
  | 1, _ => simp at hu; subst hu; exact h1
def snL (x : Tb) (l : List Tr) : List Sn := l.map fun t => ⟨dfV (obs x t), t.b⟩
theorem snL_wid (x : Tb) (l : List Tr) (w : Int) : (snL x l).map (snSp w) = (stL x l).map (widen w) := by
  unfold snL stL
  rw [List.map_map, List.map_map]
  rfl
theorem snL_ok {x : Tb} {l : List Tr} (h : okAll x l = true) : ∀ s ∈ snL x l, SnOk s := by
  intro s hs
  obtain ⟨t, ht, rfl⟩ := List.mem_map.1 hs
  have hf := fits_at ((okAll_ok h).f t ht)
  have := dfV_bd (obs x t)
  exact ⟨hf.b, by simp only; omega⟩
def DfR (x : Tb) (l : List Tr) (e : Ending) (w' : World) : Prop :=
  (stErr x l = 0 ∧ ∃ A c, e = .returned (.tuple #[.slice A l.length c, .int .i64 0]) ∧ RdL w' w'.heap.size snE 2 A (snL x l)) ∨
  (stErr x l ≠ 0 ∧ e = .returned (.tuple #[.slice none 0 0, .int .i64 (stErr x l)]))
set_option maxHeartbeats 4000000 in
set_option maxRecDepth 100000 in
theorem differences_c (x : Tb) (l : List Tr) (A : Option Addr) (cap : Nat) (w : World) (hx : TbAt w x) (hl : l.length ≤ cap) (hm : cap ≤ maxLen) (hr : RdL w w.heap.size trE 5 A l) (ht : ∀ t ∈ l, TrAt w t) :
    Calls Try.prog 66 #[.agg #[.slice x.A x.xs.length x.ca, .int .i64 x.e], .slice A l.length cap] w fun e w' => DfR x l e w' ∧ Below w.heap.size w w' := by
  have hml : l.length ≤ 9223372036854775807 := by unfold maxLen at hm; omega
  have hxl : x.xs.length ≤ 9223372036854775807 := by have := hx.n; have := hx.m; unfold maxLen at this; omega
  have HX := Lib.hid hx
  have HT := Lib.hid ht
  have HR := Lib.hid hr
  have H1 := Lib.hid (fun W hb => rValidTube_c x.xs x.A x.ca x.e hxl W (hx.r.step hb))
  have H2 := Lib.hid (fun W => rwithin_c l.length 1 12 W)
  clear hx ht hr hm hl hxl
  cases h1 : okTube x.xs x.e
  · rw [h1] at H1
    have HE := Lib.hid (show stErr x l = 1 by unfold stErr okAll; rw [h1]; rfl)
    clear h1
    go_enter Try.func66, Try.ntmps66
    go_wp2_with fail
    refine (H1.out _ (by (repeat (first | exact Below.refl _ _ | refine Below.drew ?_ | refine Below.allocS ?_ _ | refine Below.step ?_ (by assumption) | refine Below.setCell ?_ (by simp <;> omega) _ | refine Below.drewN' ?_ _)))).mono ?_
    rintro e w1 ⟨rfl, hb1⟩
    have x1_0_0 : w1.cell? ⟨w.heap.size, 0, none⟩ = some (.slice x.A x.xs.length x.ca) := keep_cell hb1 (by simp [go_sem, *])
    have x1_0_1 : w1.cell? ⟨w.heap.size, 1, none⟩ = some (.int .i64 x.e) := keep_cell hb1 (by simp [go_sem, *])
    have y1_0 : w.heap.size < w1.heap.size := cell?_lt x1_0_0
    have g1 : Below w.heap.size w w1 := by (repeat (first | exact Below.refl _ _ | refine Below.drew ?_ | refine Below.allocS ?_ _ | refine Below.step ?_ (by assumption) | refine Below.setCell ?_ (by simp <;> omega) _ | refine Below.drewN' ?_ _))
    clear hb1
    go_wp2
    go_ret2
    exact ⟨Or.inr ⟨by rw [HE.out]; decide, by rw [HE.out]; rfl⟩, by (repeat (first | (with_reducible exact Below.refl _ _) | (with_reducible assumption) | (with_reducible refine Below.drew ?_) | (with_reducible refine Below.allocS ?_ _) | (with_reducible refine Below.setCell ?_ ?_ _) | (with_reducible refine Below.step ?_ (by assumption)) | (with_reducible refine Below.drewN' ?_ _))); (try any_goals (first | (with_reducible assumption) | (simp; done) | (simp; omega) | omega))⟩
  cases h2 : within l.length 1 12
  · rw [h1] at H1
    rw [h2] at H2
    have HE := Lib.hid (show stErr x l = 1 by unfold stErr okAll; rw [h1, h2]; rfl)
    clear h1 h2
    go_enter Try.func66, Try.ntmps66
    go_wp2_with fail
    refine (H1.out _ (by (repeat (first | exact Below.refl _ _ | refine Below.drew ?_ | refine Below.allocS ?_ _ | refine Below.step ?_ (by assumption) | refine Below.setCell ?_ (by simp <;> omega) _ | refine Below.drewN' ?_ _)))).mono ?_
    rintro e w1 ⟨rfl, hb1⟩
    have x1_0_0 : w1.cell? ⟨w.heap.size, 0, none⟩ = some (.slice x.A x.xs.length x.ca) := keep_cell hb1 (by simp [go_sem, *])
    have x1_0_1 : w1.cell? ⟨w.heap.size, 1, none⟩ = some (.int .i64 x.e) := keep_cell hb1 (by simp [go_sem, *])
    have y1_0 : w.heap.size < w1.heap.size := cell?_lt x1_0_0
    have g1 : Below w.heap.size w w1 := by (repeat (first | exact Below.refl _ _ | refine Below.drew ?_ | refine Below.allocS ?_ _ | refine Below.step ?_ (by assumption) | refine Below.setCell ?_ (by simp <;> omega) _ | refine Below.drewN' ?_ _))
    clear hb1
    go_wp2_with fail
    refine (H2.out _).mono ?_
    rintro e w' ⟨rfl, hw'⟩; replace hw' := hw'.symm; subst hw'
    go_wp2
    go_ret2
    exact ⟨Or.inr ⟨by rw [HE.out]; decide, by rw [HE.out]; rfl⟩, by (repeat (first | (with_reducible exact Below.refl _ _) | (with_reducible assumption) | (with_reducible refine Below.drew ?_) | (with_reducible refine Below.allocS ?_ _) | (with_reducible refine Below.setCell ?_ ?_ _) | (with_reducible refine Below.step ?_ (by assumption)) | (with_reducible refine Below.drewN' ?_ _))); (try any_goals (first | (with_reducible assumption) | (simp; done) | (simp; omega) | omega))⟩
  have h12 : l.length ≤ 12 := by have := within_true h2; omega
  have h01 : 1 ≤ l.length := by have := within_true h2; omega
  have HOA := Lib.hid (show okAll x l = (l.all fun t => fitsB (obs x t)) by unfold okAll; rw [h1, h2]; rfl)
  rw [h1] at H1
  rw [h2] at H2
  clear h1 h2
  go_enter Try.func66, Try.ntmps66
  go_wp2_with fail
  refine (H1.out _ (by (repeat (first | exact Below.refl _ _ | refine Below.drew ?_ | refine Below.allocS ?_ _ | refine Below.step ?_ (by assumption) | refine Below.setCell ?_ (by simp <;> omega) _ | refine Below.drewN' ?_ _)))).mono ?_
  rintro e w1 ⟨rfl, hb1⟩
  have x1_0_0 : w1.cell? ⟨w.heap.size, 0, none⟩ = some (.slice x.A x.xs.length x.ca) := keep_cell hb1 (by simp [go_sem, *])
  have x1_0_1 : w1.cell? ⟨w.heap.size, 1, none⟩ = some (.int .i64 x.e) := keep_cell hb1 (by simp [go_sem, *])
  have y1_0 : w.heap.size < w1.heap.size := cell?_lt x1_0_0
  have g1 : Below w.heap.size w w1 := by (repeat (first | exact Below.refl _ _ | refine Below.drew ?_ | refine Below.allocS ?_ _ | refine Below.step ?_ (by assumption) | refine Below.setCell ?_ (by simp <;> omega) _ | refine Below.drewN' ?_ _))
  clear hb1
  go_wp2_with fail
  refine (H2.out _).mono ?_
  rintro e w' ⟨rfl, hw'⟩; replace hw' := hw'.symm; subst hw'
  clear H1 H2
  go_wp2
  go_loopw [24] (fun i wr => ∃ (k : Nat), k ≤ l.length ∧ i = .int .i64 k ∧ wr.cell? ⟨w.heap.size, 0, none⟩ = some (.slice x.A x.xs.length x.ca) ∧ wr.cell? ⟨w.heap.size, 1, none⟩ = some (.int .i64 x.e) ∧
    Below w.heap.size w wr ∧ ((l.take k).all fun t => fitsB (obs x t)) = true) (fun i _ => l.length - (intOf i).toNat)
  case atStart => exact ⟨0, Nat.zero_le _, rfl, by simp [go_sem, *], by simp [go_sem, *], by (repeat (first | (with_reducible exact Below.refl _ _) | (with_reducible assumption) | (with_reducible refine Below.drew ?_) | (with_reducible refine Below.allocS ?_ _) | (with_reducible refine Below.setCell ?_ ?_ _) | (with_reducible refine Below.step ?_ (by assumption)) | (with_reducible refine Below.drewN' ?_ _))); (try any_goals (first | (with_reducible assumption) | (simp; done) | (simp; omega) | omega)), rfl⟩
  case round =>
    rename World => V
    obtain ⟨k, hk, rfl, m0, m1, hbw, hfa⟩ := hrel
    have HFA := Lib.hid hfa
    clear hfa
    by_cases hlt : k < l.length
    · obtain ⟨b, off, rfl, hb0, hc⟩ := HR.out (by omega)
      have c0 := (hbw.cell (p := ⟨b, _, none⟩) hb0).trans (hc k hlt 0 _ rfl)
      have c1 := (hbw.cell (p := ⟨b, _, none⟩) hb0).trans (hc k hlt 1 _ rfl)
      have c2 := (hbw.cell (p := ⟨b, _, none⟩) hb0).trans (hc k hlt 2 _ rfl)
      have c3 := (hbw.cell (p := ⟨b, _, none⟩) hb0).trans (hc k hlt 3 _ rfl)
      have c4 := (hbw.cell (p := ⟨b, _, none⟩) hb0).trans (hc k hlt 4 _ rfl)
      clear hc
      simp at c0
      have y0 : b < V.heap.size := cell?_lt c0
      have y1 : w.heap.size < V.heap.size := cell?_lt m0
      have hmem : l[k] ∈ l := List.getElem_mem hlt
      have HD : Hid (∀ W, Below w.heap.size w W → Calls Try.prog 25 #[.agg #[.slice x.A x.xs.length x.ca, .int .i64 x.e], .agg #[.string l[k].nm, .int .i64 l[k].a, .int .i64 l[k].b, .int .i64 l[k].c, .slice l[k].T l[k].ts.length l[k].ct]] W fun r w' => r = .returned (.bool (fitsB (obs x l[k]))) ∧ Below W.heap.size W w') :=
        Lib.hid (fun W hb => rFits_c (obs x l[k]) x.A l[k].T x.ca l[k].ct W (obs_at (HX.out.step hb) ((HT.out _ hmem).step hb)))
      cases hp : fitsB (obs x l[k])
      · rw [hp] at HD
        have HE := Lib.hid (show stErr x l = 1 by
          unfold stErr
          rw [if_neg]
          rw [HOA.out]
          intro h
          have := List.all_eq_true.1 h _ hmem
          rw [hp] at this; cases this)
        clear hmem hp HFA
        go_wp2_with fail
        refine (HD.out _ (by (repeat (first | exact Below.refl _ _ | refine Below.drew ?_ | refine Below.allocS ?_ _ | refine Below.step ?_ (by assumption) | refine Below.setCell ?_ (by simp <;> omega) _ | refine Below.drewN' ?_ _)))).mono ?_
        rintro e w4 ⟨rfl, hb4⟩
        go_wp2
        go_ret2
        exact ⟨Or.inr ⟨by rw [HE.out]; decide, by rw [HE.out]; rfl⟩, by (repeat (first | (with_reducible exact Below.refl _ _) | (with_reducible assumption) | (with_reducible refine Below.drew ?_) | (with_reducible refine Below.allocS ?_ _) | (with_reducible refine Below.setCell ?_ ?_ _) | (with_reducible refine Below.step ?_ (by assumption)) | (with_reducible refine Below.drewN' ?_ _))); (try any_goals (first | (with_reducible assumption) | (simp; done) | (simp; omega) | omega))⟩
      · rw [hp] at HD
        have HTa := Lib.hid (show ((l.take (k + 1)).all fun t => fitsB (obs x t)) = true by
          rw [List.take_succ_eq_append_getElem hlt, List.all_append, HFA.out]; simp [hp])
        clear hmem hp HFA
        go_wp2_with fail
        refine (HD.out _ (by (repeat (first | exact Below.refl _ _ | refine Below.drew ?_ | refine Below.allocS ?_ _ | refine Below.step ?_ (by assumption) | refine Below.setCell ?_ (by simp <;> omega) _ | refine Below.drewN' ?_ _)))).mono ?_
        rintro e w4 ⟨rfl, hb4⟩
        have hW : Below V.heap.size V w4 := by (repeat (first | exact Below.refl _ _ | refine Below.drew ?_ | refine Below.allocS ?_ _ | refine Below.step ?_ (by assumption) | refine Below.setCell ?_ (by simp <;> omega) _ | refine Below.drewN' ?_ _))
        have n0 : w4.cell? ⟨w.heap.size, 0, none⟩ = some (.slice x.A x.xs.length x.ca) := keep_cell hW m0
        have n1 : w4.cell? ⟨w.heap.size, 1, none⟩ = some (.int .i64 x.e) := keep_cell hW m1
        go_wp2
        go_roundw
        case rel => exact ⟨k + 1, by omega, by go_num, n0, n1, Below.step hbw hW, HTa.out⟩
        case measure => simp [intOf]; omega
    · obtain rfl : k = l.length := by omega
      have hall : (l.all fun t => fitsB (obs x t)) = true := by
        have := HFA.out
        rwa [List.take_of_length_le (Nat.le_refl _)] at this
      have HF := Lib.hid (fun t (h : t ∈ l) => List.all_eq_true.1 hall t h)
      have HO := Lib.hid (show okAll x l = true by rw [HOA.out]; exact hall)
      clear hall HFA HOA
      have v0 : V.cell? ⟨w.heap.size, 0, none⟩ = some (.slice x.A x.xs.length x.ca) := m0
      have v1 : V.cell? ⟨w.heap.size, 1, none⟩ = some (.int .i64 x.e) := m1
      have vb : Below w.heap.size w V := hbw
      have hyV : w.heap.size < V.heap.size := cell?_lt v0
      go_wp2
      go_loopw [8, 35] (fun u i wr => ∃ (k : Nat) (v8 : Value), v8 = u ∧ k ≤ l.length ∧ i = .int .i64 k ∧ wr.cell? ⟨w.heap.size, 0, none⟩ = some (.slice x.A x.xs.length x.ca) ∧ wr.cell? ⟨w.heap.size, 1, none⟩ = some (.int .i64 x.e) ∧
        wr.ownsRow V.heap.size 106 2 v8 k (((snL x l).take k).flatMap snE) ∧ V.heap.size ≤ wr.heap.size ∧ Below w.heap.size w wr ∧ (l.take k).any (noCr x) = false) (fun _ i _ => l.length - (intOf i).toNat)
      case atStart => exact ⟨0, _, rfl, Nat.zero_le _, rfl, by simp [go_sem, *], by simp [go_sem, *], World.ownsRow_nil _ _ _ _, Nat.le_refl _, by (repeat (first | (with_reducible exact Below.refl _ _) | (with_reducible assumption) | (with_reducible refine Below.drew ?_) | (with_reducible refine Below.allocS ?_ _) | (with_reducible refine Below.setCell ?_ ?_ _) | (with_reducible refine Below.step ?_ (by assumption)) | (with_reducible refine Below.drewN' ?_ _))); (try any_goals (first | (with_reducible assumption) | (simp; done) | (simp; omega) | omega)), rfl⟩
      case round =>
        obtain ⟨k, v8, rfl, hk, rfl, m0, m1, hown, hsz, hbw, hno⟩ := hrel
        obtain ⟨A8, c8, rfl, -, -⟩ := row_form hown
        have HOW := Lib.hid hown
        have HNO := Lib.hid hno
        clear hown hno
        have y9 : w.heap.size < V.heap.size := cell?_lt v0
        by_cases hlt : k < l.length
        · obtain ⟨b, off, rfl, hb0, hc⟩ := HR.out (by omega)
          have c0 := (hbw.cell (p := ⟨b, _, none⟩) hb0).trans (hc k hlt 0 _ rfl)
          have c1 := (hbw.cell (p := ⟨b, _, none⟩) hb0).trans (hc k hlt 1 _ rfl)
          have c2 := (hbw.cell (p := ⟨b, _, none⟩) hb0).trans (hc k hlt 2 _ rfl)
          have c3 := (hbw.cell (p := ⟨b, _, none⟩) hb0).trans (hc k hlt 3 _ rfl)
          have c4 := (hbw.cell (p := ⟨b, _, none⟩) hb0).trans (hc k hlt 4 _ rfl)
          clear hc
          simp at c0
          have y0 : b < wr.heap.size := cell?_lt c0
          have y1 : w.heap.size < wr.heap.size := cell?_lt m0
          have hmem : l[k] ∈ l := List.getElem_mem hlt
          have hfit := HF.out _ hmem
          have HD : Hid (∀ W, Below w.heap.size w W → Calls Try.prog 17 #[.agg #[.slice x.A x.xs.length x.ca, .int .i64 x.e], .agg #[.string l[k].nm, .int .i64 l[k].a, .int .i64 l[k].b, .int .i64 l[k].c, .slice l[k].T l[k].ts.length l[k].ct]] W fun r w' => r = .returned (.tuple #[.int .i64 (dfV (obs x l[k])), .int .i64 (crE (obs x l[k]))]) ∧ Below W.heap.size W w') :=
            Lib.hid (fun W hb => rDifference_c (obs x l[k]) x.A l[k].T x.ca l[k].ct W (obs_at (HX.out.step hb) ((HT.out _ hmem).step hb)))
          have HTk := Lib.hid (show (snL x l).take (k + 1) = (snL x l).take k ++ [⟨dfV (obs x l[k]), l[k].b⟩] by
            unfold snL
            rw [List.take_succ_eq_append_getElem (by rw [List.length_map]; exact hlt), List.getElem_map])
          have hln : ((snL x l).take k).length = k := by unfold snL; rw [List.length_take, List.length_map]; omega
          have HTa := Lib.hid (show (l.take (k + 1)).any (noCr x) = noCr x l[k] by
            rw [List.take_succ_eq_append_getElem hlt, List.any_append, HNO.out]; simp)
          have hE8 : noCr x l[k] = true → crE (obs x l[k]) = 8 := fun h => noCr_8 hfit h
          have hE0 : noCr x l[k] = false → crE (obs x l[k]) = 0 := fun h => by unfold noCr at h; have := of_decide_eq_false h; omega
          have hany : noCr x l[k] = true → l.any (noCr x) = true := fun h => List.any_eq_true.2 ⟨_, hmem, h⟩
          generalize dfV (obs x l[k]) = d at *
          generalize crE (obs x l[k]) = E at *
          have hnn := HTa.out
          cases hp : noCr x l[k]
          · obtain rfl := hE0 hp
            rw [hp] at hnn
            have HNN := Lib.hid hnn
            clear hE0 hE8 hany hp hnn hfit HTa
            go_wp2_with fail
            refine (HD.out _ (by (repeat (first | exact Below.refl _ _ | refine Below.drew ?_ | refine Below.allocS ?_ _ | refine Below.step ?_ (by assumption) | refine Below.setCell ?_ (by simp <;> omega) _ | refine Below.drewN' ?_ _)))).mono ?_
            rintro e w4 ⟨rfl, hb4⟩
            have hW : Below wr.heap.size wr w4 := by (repeat (first | exact Below.refl _ _ | refine Below.drew ?_ | refine Below.allocS ?_ _ | refine Below.step ?_ (by assumption) | refine Below.setCell ?_ (by simp <;> omega) _ | refine Below.drewN' ?_ _))
            have n0 : w4.cell? ⟨w.heap.size, 0, none⟩ = some (.slice x.A x.xs.length x.ca) := keep_cell hW m0
            have n1 : w4.cell? ⟨w.heap.size, 1, none⟩ = some (.int .i64 x.e) := keep_cell hW m1
            have q2 : w4.cell? ⟨wr.heap.size, 2, none⟩ = some (.int .i64 l[k].b) := keep_cell hb4 (by simp [go_sem])
            have hB4 : Below w.heap.size w w4 := Below.step hbw hW
            have hs4 : V.heap.size ≤ w4.heap.size := by have := hW.size; omega
            have y4 : w.heap.size < w4.heap.size := cell?_lt n0
            have HAPP := Lib.hid (app_run appN _ (⟨d, l[k].b⟩ : Sn) k hln (by omega) (w4.alloc (.cells #[.int .i64 d, .int .i64 l[k].b] 106)) V.heap.size w4.heap.size (.slice A8 k c8) ((ownsRow_keep HOW.out hW).alloc _) (by simp; omega) (two_cells (by simp [go_sem]) (by simp [go_sem])))
            clear hb4 hW hln
            go_wp2_with (go_loud (at_builtin; refine wpList_app rfl (.tmp 48) (.tmp 54) 82 rfl _ _ rfl rfl HAPP.out ?_; rintro v5 w5 ⟨hown5, hbel5⟩; obtain ⟨A5, c5, rfl, -, -⟩ := row_form hown5; have HO5 := Lib.hid hown5; clear hown5; have hsz5 : V.heap.size ≤ w5.heap.size := (by have := hbel5.size; simp at this; omega); have hB5 : Below w.heap.size w w5 := Below.low (Below.allocS hB4 _) hbel5 (by omega); have r0 : w5.cell? ⟨w.heap.size, 0, none⟩ = some (.slice x.A x.xs.length x.ca) := low_at hbel5 (by omega) (by simp [go_sem, *]); have r1 : w5.cell? ⟨w.heap.size, 1, none⟩ = some (.int .i64 x.e) := low_at hbel5 (by omega) (by simp [go_sem, *]); clear hbel5))
            go_roundw
            case rel => exact ⟨k + 1, _, rfl, by omega, by go_num, r0, r1, by rw [HTk.out]; exact HO5.out, hsz5, hB5, HNN.out⟩
            case measure => simp [intOf]; omega
          · obtain rfl := hE8 hp
            have HE := Lib.hid (show stErr x l = 8 by unfold stErr; rw [if_pos HO.out, if_pos (hany hp)])
            clear hE0 hE8 hany hp hnn hfit HTa HTk hmem hln
            go_wp2_with fail
            refine (HD.out _ (by (repeat (first | exact Below.refl _ _ | refine Below.drew ?_ | refine Below.allocS ?_ _ | refine Below.step ?_ (by assumption) | refine Below.setCell ?_ (by simp <;> omega) _ | refine Below.drewN' ?_ _)))).mono ?_
            rintro e w4 ⟨rfl, hb4⟩
            go_wp2
            go_ret2
            exact ⟨Or.inr ⟨by rw [HE.out]; decide, by rw [HE.out]; rfl⟩, by (repeat (first | (with_reducible exact Below.refl _ _) | (with_reducible assumption) | (with_reducible refine Below.drew ?_) | (with_reducible refine Below.allocS ?_ _) | (with_reducible refine Below.setCell ?_ ?_ _) | (with_reducible refine Below.step ?_ (by assumption)) | (with_reducible refine Below.drewN' ?_ _))); (try any_goals (first | (with_reducible assumption) | (simp; done) | (simp; omega) | omega))⟩
        · obtain rfl : k = l.length := by omega
          have HE := Lib.hid (show stErr x l = 0 by
            unfold stErr
            have := HNO.out
            rw [List.take_of_length_le (Nat.le_refl _)] at this
            rw [if_pos HO.out, if_neg (by rw [this]; simp)])
          rw [List.take_of_length_le (by unfold snL; rw [List.length_map]; exact Nat.le_refl _)] at HOW
          have hI := RdL.of_own (enc := snE) (l := snL x l) (fun _ => rfl) HOW.out (by unfold snL; rw [List.length_map])
          clear HNO
          go_wp2
          go_ret2
          exact ⟨Or.inl ⟨HE.out, A8, c8, rfl, hI⟩, by (repeat (first | (with_reducible exact Below.refl _ _) | (with_reducible assumption) | (with_reducible refine Below.drew ?_) | (with_reducible refine Below.allocS ?_ _) | (with_reducible refine Below.setCell ?_ ?_ _) | (with_reducible refine Below.step ?_ (by assumption)) | (with_reducible refine Below.drewN' ?_ _))); (try any_goals (first | (with_reducible assumption) | (simp; done) | (simp; omega) | omega))⟩
set_option maxHeartbeats 1000000 in
theorem rAgree_c (x : Tb) (l : List Tr) (A : Option Addr) (cap : Nat) (w : World) (hx : TbAt w x) (hl : l.length ≤ cap) (hm : cap ≤ maxLen) (hr : RdL w w.heap.size trE 5 A l) (ht : ∀ t ∈ l, TrAt w t) :
    Calls Try.prog 34 #[.agg #[.slice x.A x.xs.length x.ca, .int .i64 x.e], .slice A l.length cap] w fun e w' => e = .returned (.tuple #[.bool (agE x l), .int .i64 (stErr x l)]) ∧ Below w.heap.size w w' := by
  have H1 := Lib.hid (fun W (hb : Below w.heap.size w W) => differences_c x l A cap W (hx.step hb) hl hm (hr.step hb) (fun t h => (ht t h).step hb))
  clear hx hl hm hr ht
  unfold agE
  by_cases h0 : stErr x l = 0
  · have H1' : Hid (∀ W, Below w.heap.size w W → Calls Try.prog 66 #[.agg #[.slice x.A x.xs.length x.ca, .int .i64 x.e], .slice A l.length cap] W fun e w' => ∃ A' c', e = .returned (.tuple #[.slice A' l.length c', .int .i64 0]) ∧ RdL w' w'.heap.size snE 2 A' (snL x l) ∧ Below W.heap.size W w') :=
      Lib.hid (fun W hb => (H1.out W hb).mono (by
        rintro e w' ⟨h | h, hb'⟩
        · obtain ⟨-, A', c', h1, h2⟩ := h; exact ⟨A', c', h1, h2, hb'⟩
        · exact absurd h0 h.1))
    have hok := (stErr_ok h0).1
    have hO := okAll_ok hok
    have HW := Lib.hid (fun (A' : Option Addr) c' W hr => ragree_c (snL x l) l.length (by unfold snL; rw [List.length_map]) (by have := hO.n; omega) (snL_ok hok) x.e (by have := hO.e; omega) A' c' W hr)
    rw [snL_wid] at HW
    rw [h0]
    rw [decide_eq_true rfl, Bool.true_and]
    clear H1 h0 hok hO
    unfold wdL
    generalize agB (azR ((stL x l).map (widen x.e))) = B at *
    go_enter Try.func34, Try.ntmps34
    go_wp2_with fail
    refine (H1'.out _ (by (repeat (first | exact Below.refl _ _ | refine Below.drew ?_ | refine Below.allocS ?_ _ | refine Below.step ?_ (by assumption) | refine Below.setCell ?_ (by simp <;> omega) _ | refine Below.drewN' ?_ _)))).mono ?_
    rintro e w1 ⟨A1, c1, rfl, r1, hb1⟩
    have x1_0_0 : w1.cell? ⟨w.heap.size, 0, none⟩ = some (.slice x.A x.xs.length x.ca) := keep_cell hb1 (by simp [go_sem, *])
    have x1_0_1 : w1.cell? ⟨w.heap.size, 1, none⟩ = some (.int .i64 x.e) := keep_cell hb1 (by simp [go_sem, *])
    have y1_0 : w.heap.size < w1.heap.size := cell?_lt x1_0_0
    have g1 : Below w.heap.size w w1 := by (repeat (first | exact Below.refl _ _ | refine Below.drew ?_ | refine Below.allocS ?_ _ | refine Below.step ?_ (by assumption) | refine Below.setCell ?_ (by simp <;> omega) _ | refine Below.drewN' ?_ _))
    clear hb1
    go_wp2_with fail
    refine (HW.out A1 c1 _ r1).mono ?_
    rintro e w2 ⟨rfl, hb2⟩
    go_wp2
    go_ret2
    exact ⟨rfl, by (repeat (first | exact Below.refl _ _ | refine Below.drew ?_ | refine Below.allocS ?_ _ | refine Below.step ?_ (by assumption) | refine Below.setCell ?_ (by simp <;> omega) _ | refine Below.drewN' ?_ _))⟩
  · have H1' : Hid (∀ W, Below w.heap.size w W → Calls Try.prog 66 #[.agg #[.slice x.A x.xs.length x.ca, .int .i64 x.e], .slice A l.length cap] W fun e w' => e = .returned (.tuple #[.slice none 0 0, .int .i64 (stErr x l)]) ∧ Below W.heap.size W w') :=
      Lib.hid (fun W hb => (H1.out W hb).mono (by
        rintro e w' ⟨h | h, hb'⟩
        · exact absurd h.1 h0
        · exact ⟨h.2, hb'⟩))
    have hc := stErr_cases x l
    rw [decide_eq_false h0, Bool.false_and]
    clear H1
    generalize stErr x l = E at *
    rcases hc with rfl | rfl | rfl
    · exact absurd rfl h0
    all_goals
      clear h0
      go_enter Try.func34, Try.ntmps34
      go_wp2_with fail
      refine (H1'.out _ (by (repeat (first | exact Below.refl _ _ | refine Below.drew ?_ | refine Below.allocS ?_ _ | refine Below.step ?_ (by assumption) | refine Below.setCell ?_ (by simp <;> omega) _ | refine Below.drewN' ?_ _)))).mono ?_
      rintro e w1 ⟨rfl, hb1⟩
      have x1_0_0 : w1.cell? ⟨w.heap.size, 0, none⟩ = some (.slice x.A x.xs.length x.ca) := keep_cell hb1 (by simp [go_sem, *])
      have x1_0_1 : w1.cell? ⟨w.heap.size, 1, none⟩ = some (.int .i64 x.e) := keep_cell hb1 (by simp [go_sem, *])
      have y1_0 : w.heap.size < w1.heap.size := cell?_lt x1_0_0
      have g1 : Below w.heap.size w w1 := by (repeat (first | exact Below.refl _ _ | refine Below.drew ?_ | refine Below.allocS ?_ _ | refine Below.step ?_ (by assumption) | refine Below.setCell ?_ (by simp <;> omega) _ | refine Below.drewN' ?_ _))
      clear hb1
      go_wp2
      go_ret2
      exact ⟨rfl, by (repeat (first | exact Below.refl _ _ | refine Below.drew ?_ | refine Below.allocS ?_ _ | refine Below.step ?_ (by assumption) | refine Below.setCell ?_ (by simp <;> omega) _ | refine Below.drewN' ?_ _))⟩
end Go.Proofs.Ytbcabckokmjelaa
