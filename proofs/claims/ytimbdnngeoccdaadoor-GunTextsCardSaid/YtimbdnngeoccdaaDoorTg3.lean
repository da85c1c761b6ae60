/-
  Format of gun and of the reference.
-/
import Derived.Test.YtimbdnngeoccdaaDoorTg2
namespace Go.Proofs.YtimbdnngeoccdaaDoor
open Go.RowKit Go.Deep
set_option linter.unusedVariables false
set_option linter.unusedSimpArgs false
theorem okSh_I {x : Shot} (h : okSh x = true) : ShI x := by
  obtain ⟨h1, h2, h3, h4⟩ := okSh_parts h
  exact ⟨⟨by omega, by omega⟩, ⟨by omega, by omega⟩, ⟨by omega, by omega⟩, ⟨by omega, by omega⟩⟩
theorem okG_of_shots {l : List Shot} (h : okShots l = true) : okG l = true := by
  obtain ⟨h1, h2, h3⟩ := okShots_true h
  exact okG_of h2 h3
theorem fmtG_no {l : List Shot} (h : okShots l = false) : fmtG l = [] := by unfold fmtG; rw [h]; rfl
theorem fmtG_ok {l : List Shot} (h : okShots l = true) : fmtG l = fmG.text l := by unfold fmtG; rw [if_pos h]
theorem take_text {l : List Shot} (h : okG l = true) (k : Nat) : (fmG.text (l.take k)).length ≤ 1000 := by
  refine text_le (l := l.take k) (okG_of ?_ fun x hx => (okG_parts h).2 x (List.mem_of_mem_take hx))
  have := (okG_parts h).1
  rw [List.length_take]; omega
set_option maxHeartbeats 2000000 in
set_option maxRecDepth 100000 in
theorem Format_c (l : List Shot) (A : Option Addr) (cap : Nat) (hl : l.length ≤ 9223372036854775807) (w : World) (hr : RdL w w.heap.size shE 4 A l) (hE : Env w) :
    Calls Tryd.prog 15 #[.slice A l.length cap] w fun e w' => e = .returned (.string (str (fmtG l))) ∧ Below w.heap.size w w' := by
  have HV := Lib.hid (ValidShots_c l A cap hl w hr)
  have HR := Lib.hid hr
  cases ho : okShots l
  · have HF := Lib.hid (fmtG_no ho)
    rw [ho] at HV
    clear ho hr hE HR
    generalize l.length = m at *
    go_enter Tryd.func15, Tryd.ntmps15
    go_wp2_with fail
    refine (HV.out).mono ?_
    rintro e w1 ⟨rfl, g1⟩
    go_wp2
    go_ret
    exact ⟨by rw [HF.out]; rfl, by (repeat (first | (with_reducible exact Below.refl _ _) | (with_reducible assumption) | (with_reducible refine Below.drew ?_) | (with_reducible refine Below.allocS ?_ _) | (with_reducible refine Below.setCell ?_ ?_ _) | (with_reducible refine Below.step ?_ (by assumption)) | (with_reducible refine Below.drewN' ?_ _))); (try any_goals (first | (with_reducible assumption) | (simp; done) | (simp; omega) | omega))⟩
  have HF := Lib.hid (fmtG_ok ho)
  rw [ho] at HV
  have hok := okG_of_shots ho
  have HK := Lib.hid (okG_parts hok).2
  have HTl := Lib.hid (take_text hok)
  have HW := Lib.hid (fun (x : Shot) (h : ShI x) W (hb : Below w.heap.size w W) => written_c x h W (hE.step hb))
  clear ho hr hE hok
  obtain ⟨m, hm⟩ : ∃ m, m = l.length := ⟨_, rfl⟩
  have HM := Lib.hid hm
  rw [← hm] at hl HV ⊢
  clear hm
  go_enter Tryd.func15, Tryd.ntmps15
  go_wp2_with fail
  refine (HV.out).mono ?_
  rintro e w1 ⟨rfl, g1⟩
  go_wp2
  go_loopw [11] (fun i wr => ∃ k : Nat, k ≤ m ∧ i = .int .i64 k ∧ BdT w1.heap.size w1.heap.size (fmG.text (l.take k)) wr ∧ Below w1.heap.size w1 wr) (fun i _ => m - (intOf i).toNat)
  case atStart => exact ⟨0, Nat.zero_le _, rfl, Lib.fresh_isBuilder _ _ w1, Below.allocS (Below.refl _ _) _⟩
  case round =>
    obtain ⟨k, hk, rfl, hbd, hbw⟩ := hrel
    have HBd := Lib.hid hbd
    clear hbd
    by_cases hlt : k < m
    · have hlt' : k < l.length := by rw [← HM.out]; exact hlt
      obtain ⟨b, off, rfl, hb0, hc⟩ := HR.out (by omega)
      have hbb := Below.step g1 hbw
      have hb9 : b < wr.heap.size := by have := hbb.size; omega
      have c0 := (hbb.cell (p := ⟨b, _, none⟩) hb0).trans (hc k hlt' 0 _ rfl)
      have c1 := (hbb.cell (p := ⟨b, _, none⟩) hb0).trans (hc k hlt' 1 _ rfl)
      have c2 := (hbb.cell (p := ⟨b, _, none⟩) hb0).trans (hc k hlt' 2 _ rfl)
      have c3 := (hbb.cell (p := ⟨b, _, none⟩) hb0).trans (hc k hlt' 3 _ rfl)
      simp at c0
      have u1 : (0 : Int) ≤ (k : Int) := by omega
      have u2 : (k : Int) < (m : Int) := by omega
      have HT := Lib.hid (show fmG.text (l.take k) ++ fmG.line l[k] = fmG.text (l.take (k + 1)) by rw [← Fm.text_snoc, ← take_snoc l k hlt'])
      have HX := Lib.hid (fun W hb => HW.out l[k] (okSh_I (HK.out _ (List.getElem_mem hlt'))) W hb)
      have HL := Lib.hid (show (fmG.line l[k]).length ≤ 100 by have := body_len (HK.out _ (List.getElem_mem hlt')); omega)
      have HTk := Lib.hid (HTl.out k)
      clear hc
      generalize l[k] = x at *
      generalize fmG.text (l.take k) = T at *
      go_wp2_with fail
      refine (HX.out _ (by (repeat (first | exact Below.refl _ _ | refine Below.drew ?_ | refine Below.allocS ?_ _ | refine Below.step ?_ (by assumption) | refine Below.setCell ?_ (by simp <;> omega) _ | refine Below.drewN' ?_ _)))).mono ?_
      rintro e w2 ⟨rfl, hb2⟩
      have hb3 : Below wr.heap.size wr w2 := Below.step (Below.allocS (Below.refl _ _) _) hb2
      have hsz := hbw.size
      have hsz2 := hb3.size
      go_wp2_with fail
      refine (write_l w1.heap.size w1.heap.size T (fmG.line x) _ (BdT.keep HBd.out hb3) (by have := HL.out; have := HTk.out; omega) (by omega)).mono ?_
      rintro e w3 ⟨rfl, h3, hb4⟩
      have H3 := Lib.hid h3
      have hbw3 : Below w1.heap.size w1 w3 := (Below.step hbw hb3).trans hb4
      clear h3 hb4 hb3 hb2
      go_wp2
      go_roundw
      case rel => exact ⟨k + 1, by omega, by go_num, by rw [← HT.out]; exact H3.out, hbw3⟩
      case measure => simp [intOf]; omega
    · obtain rfl : k = m := by omega
      have ht : l.take k = l := by rw [HM.out]; exact List.take_length
      rw [ht] at HBd
      clear ht
      go_wp2_with fail
      refine (String_l w1.heap.size w1.heap.size (fmG.text l) _ HBd.out hbw.size).mono ?_
      rintro e w2 ⟨rfl, hb2⟩
      go_wp2
      go_ret
      exact ⟨by rw [HF.out]; rfl, Below.step g1 (hbw.trans hb2)⟩
set_option maxHeartbeats 2000000 in
set_option maxRecDepth 100000 in
theorem rFormat_c (l : List Shot) (A : Option Addr) (cap : Nat) (hl : l.length ≤ 9223372036854775807) (w : World) (hr : RdL w w.heap.size shE 4 A l) (hE : Env w) :
    Calls Tryd.prog 16 #[.slice A l.length cap] w fun e w' => e = .returned (.string (str (fmtG l))) ∧ Below w.heap.size w w' := by
  have HV := Lib.hid (rValidShots_c l A cap hl w hr)
  have HR := Lib.hid hr
  cases ho : okShots l
  · have HF := Lib.hid (fmtG_no ho)
    rw [ho] at HV
    clear ho hr hE HR
    generalize l.length = m at *
    go_enter Tryd.func16, Tryd.ntmps16
    go_wp2_with fail
    refine (HV.out).mono ?_
    rintro e w1 ⟨rfl, g1⟩
    go_wp2
    go_ret
    exact ⟨by rw [HF.out]; rfl, by (repeat (first | (with_reducible exact Below.refl _ _) | (with_reducible assumption) | (with_reducible refine Below.drew ?_) | (with_reducible refine Below.allocS ?_ _) | (with_reducible refine Below.setCell ?_ ?_ _) | (with_reducible refine Below.step ?_ (by assumption)) | (with_reducible refine Below.drewN' ?_ _))); (try any_goals (first | (with_reducible assumption) | (simp; done) | (simp; omega) | omega))⟩
  have HF := Lib.hid (fmtG_ok ho)
  rw [ho] at HV
  have hok := okG_of_shots ho
  have HK := Lib.hid (okG_parts hok).2
  have HTl := Lib.hid (take_text hok)
  have HW := Lib.hid (fun (x : Shot) (h : ShI x) W (hb : Below w.heap.size w W) => rline_c x h W (hE.step hb))
  clear ho hr hE hok
  obtain ⟨m, hm⟩ : ∃ m, m = l.length := ⟨_, rfl⟩
  have HM := Lib.hid hm
  rw [← hm] at hl HV ⊢
  clear hm
  go_enter Tryd.func16, Tryd.ntmps16
  go_wp2_with fail
  refine (HV.out).mono ?_
  rintro e w1 ⟨rfl, g1⟩
  go_wp2
  go_loopw [3, 11] (fun o i wr => ∃ k : Nat, k ≤ m ∧ i = .int .i64 k ∧ o = .string (str (fmG.text (l.take k))) ∧ Below w1.heap.size w1 wr) (fun _ i _ => m - (intOf i).toNat)
  case atStart => exact ⟨0, Nat.zero_le _, rfl, rfl, Below.refl _ _⟩
  case round =>
    obtain ⟨k, hk, rfl, rfl, hbw⟩ := hrel
    by_cases hlt : k < m
    · have hlt' : k < l.length := by rw [← HM.out]; exact hlt
      obtain ⟨b, off, rfl, hb0, hc⟩ := HR.out (by omega)
      have hbb := Below.step g1 hbw
      have hb9 : b < wr.heap.size := by have := hbb.size; omega
      have c0 := (hbb.cell (p := ⟨b, _, none⟩) hb0).trans (hc k hlt' 0 _ rfl)
      have c1 := (hbb.cell (p := ⟨b, _, none⟩) hb0).trans (hc k hlt' 1 _ rfl)
      have c2 := (hbb.cell (p := ⟨b, _, none⟩) hb0).trans (hc k hlt' 2 _ rfl)
      have c3 := (hbb.cell (p := ⟨b, _, none⟩) hb0).trans (hc k hlt' 3 _ rfl)
      simp at c0
      have u1 : (0 : Int) ≤ (k : Int) := by omega
      have u2 : (k : Int) < (m : Int) := by omega
      have HT := Lib.hid (show str (fmG.text (l.take k)) ++ str (fmG.line l[k]) = str (fmG.text (l.take (k + 1))) by rw [str_append, take_snoc l k hlt', Fm.text_snoc])
      have HX := Lib.hid (fun W hb => HW.out l[k] (okSh_I (HK.out _ (List.getElem_mem hlt'))) W hb)
      have n1 : (str (fmG.line l[k])).size ≤ 100 := by
        rw [size_str]
        have := body_len (HK.out _ (List.getElem_mem hlt')); omega
      have n2 : (str (fmG.text (l.take k))).size ≤ 1000 := by rw [size_str]; exact HTl.out k
      have n3 : ¬ 9223372036854775807 < (str (fmG.text (l.take k))).size + (str (fmG.line l[k])).size := by omega
      clear hc
      generalize l[k] = x at *
      generalize str (fmG.text (l.take k)) = T at *
      generalize str (fmG.line x) = B at *
      go_wp2_with fail
      refine (HX.out _ (by (repeat (first | exact Below.refl _ _ | refine Below.drew ?_ | refine Below.allocS ?_ _ | refine Below.step ?_ (by assumption) | refine Below.setCell ?_ (by simp <;> omega) _ | refine Below.drewN' ?_ _)))).mono ?_
      rintro e w2 ⟨rfl, hb2⟩
      have hb3 : Below w1.heap.size w1 w2 := Below.step (Below.allocS hbw _) hb2
      go_wp2
      go_roundw
      case rel => exact ⟨k + 1, by omega, by go_num, by rw [← HT.out], hb3⟩
      case measure => simp [intOf]; omega
    · obtain rfl : k = m := by omega
      have HT := Lib.hid (show l.take k = l by rw [HM.out]; exact List.take_length)
      go_wp2
      go_ret
      exact ⟨by rw [HF.out, HT.out]; rfl, Below.step g1 hbw⟩
end Go.Proofs.YtimbdnngeoccdaaDoor
