/-
  A chance's line by the reference; Format of night and of the reference.
-/
import Derived.Test.YtimbdnngeoccdaaGreatDoorTn2
namespace Go.Proofs.YtimbdnngeoccdaaGreatDoor
open Go.RowKit Go.Deep
set_option linter.unusedVariables false
set_option linter.unusedSimpArgs false
def partC (x : Ch) : Nat → List UInt8
  | 0 => x.nm.data.toList
  | 1 => x.nm.data.toList ++ 32 :: Lib.itoa x.a
  | 2 => x.nm.data.toList ++ 32 :: (Lib.itoa x.a ++ 32 :: Lib.itoa x.b)
  | 3 => x.nm.data.toList ++ 32 :: (Lib.itoa x.a ++ 32 :: (Lib.itoa x.b ++ 32 :: Lib.itoa x.t))
  | _ => bodyC x
theorem part_le (x : Ch) (k : Nat) : (partC x k).length ≤ (bodyC x).length := by
  unfold partC bodyC
  split <;> simp only [List.length_append, List.length_cons] <;> omega
set_option maxHeartbeats 2000000 in
set_option maxRecDepth 100000 in
theorem rline_c (x : Ch) (hn : x.nm.size ≤ 70000) (ra : I64 x.a) (rb : I64 x.b) (rt : I64 x.t) (rv : I64 x.v) (w : World) (hE : Env w) :
    Calls Tryz.prog 39 #[.agg #[.string x.nm, .int .i64 x.a, .int .i64 x.b, .int .i64 x.t, .int .i64 x.v]] w fun e w' => e = .returned (.string (str (bodyC x))) ∧ Below w.heap.size w w' := by
  have hsz := body_size hn ra rb rt rv
  have HP := Lib.hid (fun k => Nat.le_trans (part_le x k) hsz)
  obtain ⟨a0, a1⟩ := ra
  obtain ⟨b0, b1⟩ := rb
  obtain ⟨t0, t1⟩ := rt
  obtain ⟨v0, v1⟩ := rv
  have HI := Lib.hid (fun n (h0 : -9223372036854775808 ≤ n) (h1 : n ≤ 9223372036854775807) W (hb : Below w.heap.size w W) => itoa_c n h0 h1 W (hE.step hb))
  clear hE
  go_enter Tryz.func39, Tryz.ntmps39
  go_wp2
  go_loopw [3, 18] (fun s i wr => ∃ k : Nat, k ≤ 4 ∧ i = .int .i64 k ∧ s = .string (str (partC x k)) ∧ (wr.cell? ⟨w.heap.size + 1, 0, none⟩ = some (.int .i64 x.a) ∧ wr.cell? ⟨w.heap.size + 1, 1, none⟩ = some (.int .i64 x.b) ∧ wr.cell? ⟨w.heap.size + 1, 2, none⟩ = some (.int .i64 x.t) ∧ wr.cell? ⟨w.heap.size + 1, 3, none⟩ = some (.int .i64 x.v)) ∧ Below w.heap.size w wr) (fun _ i _ => 4 - (intOf i).toNat)
  case atStart => exact ⟨0, by omega, rfl, by simp [partC, str_eta], ⟨by simp [go_sem], by simp [go_sem], by simp [go_sem], by simp [go_sem]⟩, by (repeat (first | (with_reducible exact Below.refl _ _) | (with_reducible assumption) | (with_reducible refine Below.drew ?_) | (with_reducible refine Below.allocS ?_ _) | (with_reducible refine Below.setCell ?_ ?_ _) | (with_reducible refine Below.step ?_ (by assumption)) | (with_reducible refine Below.drewN' ?_ _))); (try any_goals (first | (with_reducible assumption) | (simp; done) | (simp; omega) | omega))⟩
  case round =>
    obtain ⟨k, hk, rfl, rfl, ⟨c0, c1, c2, c3⟩, hbw⟩ := hrel
    have hk4 : k = 0 ∨ k = 1 ∨ k = 2 ∨ k = 3 ∨ k = 4 := by omega
    rcases hk4 with rfl | rfl | rfl | rfl | rfl
    · have hp : (str (Lib.itoa x.a)).size ≤ 22 := by rw [size_str]; have := itoa_len 18 x.a (by omega); omega
      have hq : (str (partC x 0)).size ≤ 71000 := by rw [size_str]; exact HP.out 0
      have HS := Lib.hid (show str (partC x 0) ++ (str [32] ++ str (Lib.itoa x.a)) = str (partC x 1) by rw [str_append, str_append]; exact congrArg str (by simp [partC, bodyC]))
      have HA := Lib.hid (HI.out x.a (by omega) (by omega))
      clear HI HP
      generalize str (Lib.itoa x.a) = p at *
      generalize str (partC x 0) = S at *
      have n1 : ¬ 9223372036854775807 < 1 + p.size := by omega
      have n2 : ¬ 9223372036854775807 < S.size + (1 + p.size) := by omega
      go_wp2_with fail
      refine (HA.out _ hbw).mono ?_
      rintro e w1 ⟨rfl, hb1⟩
      have e0 := keep_cell hb1 c0
      have e1 := keep_cell hb1 c1
      have e2 := keep_cell hb1 c2
      have e3 := keep_cell hb1 c3
      go_wp2
      go_roundw
      case rel => exact ⟨1, by omega, by rfl, by rw [← HS.out]; rfl, ⟨e0, e1, e2, e3⟩, Below.step hbw hb1⟩
      case measure => simp [intOf]
    · have hp : (str (Lib.itoa x.b)).size ≤ 22 := by rw [size_str]; have := itoa_len 18 x.b (by omega); omega
      have hq : (str (partC x 1)).size ≤ 71000 := by rw [size_str]; exact HP.out 1
      have HS := Lib.hid (show str (partC x 1) ++ (str [32] ++ str (Lib.itoa x.b)) = str (partC x 2) by rw [str_append, str_append]; exact congrArg str (by simp [partC, bodyC]))
      have HA := Lib.hid (HI.out x.b (by omega) (by omega))
      clear HI HP
      generalize str (Lib.itoa x.b) = p at *
      generalize str (partC x 1) = S at *
      have n1 : ¬ 9223372036854775807 < 1 + p.size := by omega
      have n2 : ¬ 9223372036854775807 < S.size + (1 + p.size) := by omega
      go_wp2_with fail
      refine (HA.out _ hbw).mono ?_
      rintro e w1 ⟨rfl, hb1⟩
      have e0 := keep_cell hb1 c0
      have e1 := keep_cell hb1 c1
      have e2 := keep_cell hb1 c2
      have e3 := keep_cell hb1 c3
      go_wp2
      go_roundw
      case rel => exact ⟨2, by omega, by rfl, by rw [← HS.out]; rfl, ⟨e0, e1, e2, e3⟩, Below.step hbw hb1⟩
      case measure => simp [intOf]
    · have hp : (str (Lib.itoa x.t)).size ≤ 22 := by rw [size_str]; have := itoa_len 18 x.t (by omega); omega
      have hq : (str (partC x 2)).size ≤ 71000 := by rw [size_str]; exact HP.out 2
      have HS := Lib.hid (show str (partC x 2) ++ (str [32] ++ str (Lib.itoa x.t)) = str (partC x 3) by rw [str_append, str_append]; exact congrArg str (by simp [partC, bodyC]))
      have HA := Lib.hid (HI.out x.t (by omega) (by omega))
      clear HI HP
      generalize str (Lib.itoa x.t) = p at *
      generalize str (partC x 2) = S at *
      have n1 : ¬ 9223372036854775807 < 1 + p.size := by omega
      have n2 : ¬ 9223372036854775807 < S.size + (1 + p.size) := by omega
      go_wp2_with fail
      refine (HA.out _ hbw).mono ?_
      rintro e w1 ⟨rfl, hb1⟩
      have e0 := keep_cell hb1 c0
      have e1 := keep_cell hb1 c1
      have e2 := keep_cell hb1 c2
      have e3 := keep_cell hb1 c3
      go_wp2
      go_roundw
      case rel => exact ⟨3, by omega, by rfl, by rw [← HS.out]; rfl, ⟨e0, e1, e2, e3⟩, Below.step hbw hb1⟩
      case measure => simp [intOf]
    · have hp : (str (Lib.itoa x.v)).size ≤ 22 := by rw [size_str]; have := itoa_len 18 x.v (by omega); omega
      have hq : (str (partC x 3)).size ≤ 71000 := by rw [size_str]; exact HP.out 3
      have HS := Lib.hid (show str (partC x 3) ++ (str [32] ++ str (Lib.itoa x.v)) = str (partC x 4) by rw [str_append, str_append]; exact congrArg str (by simp [partC, bodyC]))
      have HA := Lib.hid (HI.out x.v (by omega) (by omega))
      clear HI HP
      generalize str (Lib.itoa x.v) = p at *
      generalize str (partC x 3) = S at *
      have n1 : ¬ 9223372036854775807 < 1 + p.size := by omega
      have n2 : ¬ 9223372036854775807 < S.size + (1 + p.size) := by omega
      go_wp2_with fail
      refine (HA.out _ hbw).mono ?_
      rintro e w1 ⟨rfl, hb1⟩
      have e0 := keep_cell hb1 c0
      have e1 := keep_cell hb1 c1
      have e2 := keep_cell hb1 c2
      have e3 := keep_cell hb1 c3
      go_wp2
      go_roundw
      case rel => exact ⟨4, by omega, by rfl, by rw [← HS.out]; rfl, ⟨e0, e1, e2, e3⟩, Below.step hbw hb1⟩
      case measure => simp [intOf]
    · go_wp2
      go_ret
      exact ⟨rfl, hbw⟩
theorem take_text {l : List Ch} (h : okV l = true) (k : Nat) : (fmC.text (l.take k)).length ≤ 2000 := by
  have h1 := Fm.text_len (F := fmC) (n := 100) (l.take k) (fun x hx => body_len (okV_mem h (List.mem_of_mem_take hx)))
  have := (okV_parts h).2
  have h2 : (l.take k).length ≤ l.length := by rw [List.length_take]; omega
  omega
theorem okC_I64 {x : Ch} (h : okC x.nm x.a x.b x.t x.v = true) : x.nm.size ≤ 70000 ∧ I64 x.a ∧ I64 x.b ∧ I64 x.t ∧ I64 x.v := by
  obtain ⟨h1, h2, h3, h4, h5, h6⟩ := okC_parts h
  have := (name_bytes h1).2
  exact ⟨by omega, ⟨by omega, by omega⟩, ⟨by omega, by omega⟩, ⟨by omega, by omega⟩, ⟨by omega, by omega⟩⟩
set_option maxHeartbeats 2000000 in
set_option maxRecDepth 100000 in
theorem Format_c (l : List Ch) (A : Option Addr) (cap : Nat) (hl : l.length ≤ 1000000) (hs : ∀ x ∈ l, x.nm.size ≤ maxLen) (w : World) (hr : RdL w w.heap.size chE 5 A l) (hE : Env w) :
    Calls Tryz.prog 17 #[.slice A l.length cap] w fun e w' => e = .returned (.string (str (fmtC l))) ∧ Below w.heap.size w w' := by
  have HV := Lib.hid (Valid_c l A cap hl hs w hr)
  have HR := Lib.hid hr
  clear hs
  cases ho : okV l
  · have HF := Lib.hid (show fmtC l = [] by unfold fmtC; rw [ho]; rfl)
    rw [ho] at HV
    clear ho hr hE HR
    generalize l.length = m at *
    go_enter Tryz.func17, Tryz.ntmps17
    go_wp2_with fail
    refine (HV.out).mono ?_
    rintro e w1 ⟨rfl, hb1⟩
    have g1 : Below w.heap.size w w1 := by (repeat (first | exact Below.refl _ _ | refine Below.drew ?_ | refine Below.allocS ?_ _ | refine Below.step ?_ (by assumption) | refine Below.setCell ?_ (by simp <;> omega) _ | refine Below.drewN' ?_ _))
    clear hb1
    go_wp2
    go_ret
    exact ⟨by rw [HF.out]; rfl, by (repeat (first | (with_reducible exact Below.refl _ _) | (with_reducible assumption) | (with_reducible refine Below.drew ?_) | (with_reducible refine Below.allocS ?_ _) | (with_reducible refine Below.setCell ?_ ?_ _) | (with_reducible refine Below.step ?_ (by assumption)) | (with_reducible refine Below.drewN' ?_ _))); (try any_goals (first | (with_reducible assumption) | (simp; done) | (simp; omega) | omega))⟩
  have HF := Lib.hid (show fmtC l = fmC.text l by unfold fmtC; rw [if_pos ho])
  rw [ho] at HV
  have HK := Lib.hid (fun x hx => okV_mem ho (x := x) hx)
  have HTl := Lib.hid (take_text ho)
  have HW := Lib.hid (fun (x : Ch) (h : x.nm.size ≤ 70000 ∧ I64 x.a ∧ I64 x.b ∧ I64 x.t ∧ I64 x.v) W (hb : Below w.heap.size w W) => written_c x h.1 h.2.1 h.2.2.1 h.2.2.2.1 h.2.2.2.2 W (hE.step hb))
  clear ho hr hE
  obtain ⟨m, hm⟩ : ∃ m, m = l.length := ⟨_, rfl⟩
  have HM := Lib.hid hm
  rw [← hm] at hl HV ⊢
  clear hm
  go_enter Tryz.func17, Tryz.ntmps17
  go_wp2_with fail
  refine (HV.out).mono ?_
  rintro e w1 ⟨rfl, hb1⟩
  have g1 : Below w.heap.size w w1 := by (repeat (first | exact Below.refl _ _ | refine Below.drew ?_ | refine Below.allocS ?_ _ | refine Below.step ?_ (by assumption) | refine Below.setCell ?_ (by simp <;> omega) _ | refine Below.drewN' ?_ _))
  clear hb1
  go_wp2
  go_loopw [11] (fun i wr => ∃ k : Nat, k ≤ m ∧ i = .int .i64 k ∧ BdT w1.heap.size w1.heap.size (fmC.text (l.take k)) wr ∧ Below w1.heap.size w1 wr) (fun i _ => m - (intOf i).toNat)
  case atStart => exact ⟨0, Nat.zero_le _, rfl, Lib.fresh_isBuilder _ _ w1, Below.allocS (Below.refl _ _) _⟩
  case round =>
    obtain ⟨k, hk, rfl, hbd, hbw⟩ := hrel
    have HBd := Lib.hid hbd
    clear hbd
    by_cases hlt : k < m
    · have hlt' : k < l.length := by rw [← HM.out]; exact hlt
      obtain ⟨b, off, rfl, hb0, hc⟩ := HR.out (by omega)
      have hbb := Below.step g1 hbw
      have hb9 : b < wr.heap.size := by have := hbb.size; omega
      have c0 := (hbb.cell (p := ⟨b, _, none⟩) hb0).trans (hc k hlt' 0 _ rfl)
      have c1 := (hbb.cell (p := ⟨b, _, none⟩) hb0).trans (hc k hlt' 1 _ rfl)
      have c2 := (hbb.cell (p := ⟨b, _, none⟩) hb0).trans (hc k hlt' 2 _ rfl)
      have c3 := (hbb.cell (p := ⟨b, _, none⟩) hb0).trans (hc k hlt' 3 _ rfl)
      have c4 := (hbb.cell (p := ⟨b, _, none⟩) hb0).trans (hc k hlt' 4 _ rfl)
      simp at c0
      have u1 : (0 : Int) ≤ (k : Int) := by omega
      have u2 : (k : Int) < (m : Int) := by omega
      have HT := Lib.hid (show fmC.text (l.take k) ++ fmC.line l[k] = fmC.text (l.take (k + 1)) by rw [← Fm.text_snoc, ← take_snoc l k hlt'])
      have HX := Lib.hid (fun W hb => HW.out l[k] (okC_I64 (HK.out _ (List.getElem_mem hlt'))) W hb)
      have HL := Lib.hid (show (fmC.line l[k]).length ≤ 100 from body_len (HK.out _ (List.getElem_mem hlt')))
      have HTk := Lib.hid (HTl.out k)
      clear hc
      generalize l[k] = x at *
      generalize fmC.text (l.take k) = T at *
      go_wp2_with fail
      refine (HX.out _ (by (repeat (first | exact Below.refl _ _ | refine Below.drew ?_ | refine Below.allocS ?_ _ | refine Below.step ?_ (by assumption) | refine Below.setCell ?_ (by simp <;> omega) _ | refine Below.drewN' ?_ _)))).mono ?_
      rintro e w2 ⟨rfl, hb2⟩
      have hb3 : Below wr.heap.size wr w2 := Below.step (Below.allocS (Below.refl _ _) _) hb2
      have hsz := hbw.size
      have hsz2 := hb3.size
      go_wp2_with fail
      refine (write_l w1.heap.size w1.heap.size T (fmC.line x) _ (BdT.keep HBd.out hb3) (by have := HL.out; have := HTk.out; omega) (by omega)).mono ?_
      rintro e w3 ⟨rfl, h3, hb4⟩
      have H3 := Lib.hid h3
      have hbw3 : Below w1.heap.size w1 w3 := (Below.step hbw hb3).trans hb4
      clear h3 hb4 hb3 hb2
      go_wp2
      go_roundw
      case rel => exact ⟨k + 1, by omega, by go_num, by rw [← HT.out]; exact H3.out, hbw3⟩
      case measure => simp [intOf]; omega
    · obtain rfl : k = m := by omega
      have ht : l.take k = l := by rw [HM.out]; exact List.take_length
      rw [ht] at HBd
      clear ht
      go_wp2_with fail
      refine (String_l w1.heap.size w1.heap.size (fmC.text l) _ HBd.out hbw.size).mono ?_
      rintro e w2 ⟨rfl, hb2⟩
      go_wp2
      go_ret
      exact ⟨by rw [HF.out]; rfl, Below.step g1 (hbw.trans hb2)⟩
theorem V_eq (l : List Ch) : rokV l = okV l := (ok_eq l).symm
set_option maxHeartbeats 2000000 in
set_option maxRecDepth 100000 in
theorem rFormat_c (l : List Ch) (A : Option Addr) (cap : Nat) (hl : l.length ≤ 1000000) (hcap : l.length ≤ cap) (hs : ∀ x ∈ l, x.nm.size ≤ maxLen) (w : World) (hr : RdL w w.heap.size chE 5 A l) (hE : Env w) :
    Calls Tryz.prog 18 #[.slice A l.length cap] w fun e w' => e = .returned (.string (str (fmtC l))) ∧ Below w.heap.size w w' := by
  have HV := Lib.hid (rValid_c l A cap hl hcap hs w hr)
  rw [V_eq] at HV
  have HR := Lib.hid hr
  clear hs hcap
  cases ho : okV l
  · have HF := Lib.hid (show fmtC l = [] by unfold fmtC; rw [ho]; rfl)
    rw [ho] at HV
    clear ho hr hE HR
    generalize l.length = m at *
    go_enter Tryz.func18, Tryz.ntmps18
    go_wp2_with fail
    refine (HV.out).mono ?_
    rintro e w1 ⟨rfl, hb1⟩
    have g1 : Below w.heap.size w w1 := by (repeat (first | exact Below.refl _ _ | refine Below.drew ?_ | refine Below.allocS ?_ _ | refine Below.step ?_ (by assumption) | refine Below.setCell ?_ (by simp <;> omega) _ | refine Below.drewN' ?_ _))
    clear hb1
    go_wp2
    go_ret
    exact ⟨by rw [HF.out]; rfl, by (repeat (first | (with_reducible exact Below.refl _ _) | (with_reducible assumption) | (with_reducible refine Below.drew ?_) | (with_reducible refine Below.allocS ?_ _) | (with_reducible refine Below.setCell ?_ ?_ _) | (with_reducible refine Below.step ?_ (by assumption)) | (with_reducible refine Below.drewN' ?_ _))); (try any_goals (first | (with_reducible assumption) | (simp; done) | (simp; omega) | omega))⟩
  have HF := Lib.hid (show fmtC l = fmC.text l by unfold fmtC; rw [if_pos ho])
  rw [ho] at HV
  have HK := Lib.hid (fun x hx => okV_mem ho (x := x) hx)
  have HTl := Lib.hid (take_text ho)
  have HW := Lib.hid (fun (x : Ch) (h : x.nm.size ≤ 70000 ∧ I64 x.a ∧ I64 x.b ∧ I64 x.t ∧ I64 x.v) W (hb : Below w.heap.size w W) => rline_c x h.1 h.2.1 h.2.2.1 h.2.2.2.1 h.2.2.2.2 W (hE.step hb))
  clear ho hr hE
  obtain ⟨m, hm⟩ : ∃ m, m = l.length := ⟨_, rfl⟩
  have HM := Lib.hid hm
  rw [← hm] at hl HV ⊢
  clear hm
  go_enter Tryz.func18, Tryz.ntmps18
  go_wp2_with fail
  refine (HV.out).mono ?_
  rintro e w1 ⟨rfl, hb1⟩
  have g1 : Below w.heap.size w w1 := by (repeat (first | exact Below.refl _ _ | refine Below.drew ?_ | refine Below.allocS ?_ _ | refine Below.step ?_ (by assumption) | refine Below.setCell ?_ (by simp <;> omega) _ | refine Below.drewN' ?_ _))
  clear hb1
  go_wp2
  go_loopw [3, 11] (fun o i wr => ∃ k : Nat, k ≤ m ∧ i = .int .i64 k ∧ o = .string (str (fmC.text (l.take k))) ∧ Below w1.heap.size w1 wr) (fun _ i _ => m - (intOf i).toNat)
  case atStart => exact ⟨0, Nat.zero_le _, rfl, rfl, Below.refl _ _⟩
  case round =>
    obtain ⟨k, hk, rfl, rfl, hbw⟩ := hrel
    by_cases hlt : k < m
    · have hlt' : k < l.length := by rw [← HM.out]; exact hlt
      obtain ⟨b, off, rfl, hb0, hc⟩ := HR.out (by omega)
      have hbb := Below.step g1 hbw
      have hb9 : b < wr.heap.size := by have := hbb.size; omega
      have c0 := (hbb.cell (p := ⟨b, _, none⟩) hb0).trans (hc k hlt' 0 _ rfl)
      have c1 := (hbb.cell (p := ⟨b, _, none⟩) hb0).trans (hc k hlt' 1 _ rfl)
      have c2 := (hbb.cell (p := ⟨b, _, none⟩) hb0).trans (hc k hlt' 2 _ rfl)
      have c3 := (hbb.cell (p := ⟨b, _, none⟩) hb0).trans (hc k hlt' 3 _ rfl)
      have c4 := (hbb.cell (p := ⟨b, _, none⟩) hb0).trans (hc k hlt' 4 _ rfl)
      simp at c0
      have u1 : (0 : Int) ≤ (k : Int) := by omega
      have u2 : (k : Int) < (m : Int) := by omega
      have HT := Lib.hid (show str (fmC.text (l.take k)) ++ (str (bodyC l[k]) ++ str [10]) = str (fmC.text (l.take (k + 1))) by rw [str_append, str_append, take_snoc l k hlt', Fm.text_snoc]; rfl)
      have HX := Lib.hid (fun W hb => HW.out l[k] (okC_I64 (HK.out _ (List.getElem_mem hlt'))) W hb)
      have HL : (str (bodyC l[k])).size ≤ 100 := by
        rw [size_str]
        have : (bodyC l[k] ++ [10]).length ≤ 100 := body_len (HK.out _ (List.getElem_mem hlt'))
        simp at this; omega
      have HTk : (str (fmC.text (l.take k))).size ≤ 2000 := by rw [size_str]; exact HTl.out k
      clear hc
      generalize l[k] = x at *
      generalize str (fmC.text (l.take k)) = T at *
      generalize str (bodyC x) = B at *
      have n1 : ¬ 9223372036854775807 < B.size + 1 := by omega
      have n2 : ¬ 9223372036854775807 < T.size + (B.size + 1) := by omega
      go_wp2_with fail
      refine (HX.out _ (by (repeat (first | exact Below.refl _ _ | refine Below.drew ?_ | refine Below.allocS ?_ _ | refine Below.step ?_ (by assumption) | refine Below.setCell ?_ (by simp <;> omega) _ | refine Below.drewN' ?_ _)))).mono ?_
      rintro e w2 ⟨rfl, hb2⟩
      have hb3 : Below w1.heap.size w1 w2 := Below.step (Below.allocS hbw _) hb2
      go_wp2
      go_roundw
      case rel => exact ⟨k + 1, by omega, by go_num, by rw [← HT.out]; rfl, hb3⟩
      case measure => simp [intOf]; omega
    · obtain rfl : k = m := by omega
      have HT := Lib.hid (show l.take k = l by rw [HM.out]; exact List.take_length)
      go_wp2
      go_ret
      exact ⟨by rw [HF.out, HT.out]; rfl, Below.step g1 hbw⟩
end Go.Proofs.YtimbdnngeoccdaaGreatDoor
