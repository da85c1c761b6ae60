/-
  Stars searched; Format of transit and of the reference.
-/
import Derived.Test.YtimbdnngeoccdaaDoorTt2
import Derived.Test.YtimbdnngeoccdaaDoorA8
namespace Go.Proofs.YtimbdnngeoccdaaDoor
open Go.RowKit Go.Deep
set_option linter.unusedVariables false
set_option linter.unusedSimpArgs false
set_option maxHeartbeats 1000000 in
theorem IndexFuncSt (l : List St) (A : Option Addr) (cap : Nat) (hl : l.length ≤ 9223372036854775807) (fv : Nat) (caps : Array Value) (p : St → Bool) (w : World) (hr : RdL w w.heap.size srE 4 A l)
    (hcall : ∀ (args : Array Value) (W : World), (callFunc fv args).run Tryd.prog W = .ok (.enter fv args) W)
    (hf : ∀ x ∈ l, ∀ W, Below w.heap.size w W → Calls Tryd.prog fv (#[.agg #[.string x.nm, .int .i64 x.a, .int .i64 x.b, .int .i64 x.c]] ++ caps) W fun e W' => e = .returned (.bool (p x)) ∧ Below W.heap.size W W') :
    Calls Tryd.prog 57 #[.slice A l.length cap, .func (.func fv) #[] caps] w fun e w' => e = .returned (.int .i64 (idxOf p l 0)) ∧ Below w.heap.size w w' := by
  have HF := Lib.hid hf
  have HR := Lib.hid hr
  clear hf hr
  go_enter Tryd.func57, Tryd.ntmps57
  go_wp2
  go_loopw [5, 8] (fun u i wr => ∃ k : Nat, k ≤ l.length ∧ i = .int .i64 k ∧ Below w.heap.size w wr ∧ idxOf p l 0 = idxOf p (l.drop k) k) (fun u i _ => l.length - (intOf i).toNat)
  case atStart => exact ⟨0, Nat.zero_le _, rfl, Below.refl _ _, rfl⟩
  case round =>
    obtain ⟨k, hk, rfl, hbw, hx⟩ := hrel
    have HX := Lib.hid hx
    clear hx
    by_cases hlt : k < l.length
    · obtain ⟨b, off, rfl, hb0, hc⟩ := HR.out (by omega)
      have c0 := hc k hlt 0 _ rfl
      have c1 := hc k hlt 1 _ rfl
      have c2 := hc k hlt 2 _ rfl
      have c3 := hc k hlt 3 _ rfl
      clear hc
      rw [← hbw.cell (p := ⟨b, _, none⟩) hb0] at c0 c1 c2 c3
      simp at c0
      have hmem : l[k] ∈ l := List.getElem_mem hlt
      have hcc := Lib.hid (HF.out l[k] hmem wr hbw)
      have hd : l.drop k = l[k] :: l.drop (k + 1) := List.drop_eq_getElem_cons hlt
      have HD := Lib.hid hd
      clear hd
      cases hp : p l[k]
      · go_wp2_with fail
        refine hcc.out.mono ?_
        rintro e w1 ⟨rfl, hb⟩
        rw [hp]
        go_wp2
        go_roundw
        case rel => exact ⟨k + 1, by omega, by go_num, Below.step hbw hb, by rw [HX.out, HD.out, idxOf_false _ _ _ _ hp]⟩
        case measure => simp [intOf]; omega
      · go_wp2_with fail
        refine hcc.out.mono ?_
        rintro e w1 ⟨rfl, hb⟩
        rw [hp]
        go_wp2
        go_ret
        exact ⟨by rw [HX.out, HD.out, idxOf_true _ _ _ _ hp]; rfl, Below.step hbw hb⟩
    · obtain rfl : k = l.length := by omega
      go_wp2
      go_ret
      exact ⟨by rw [HX.out]; simp [idxOf], hbw⟩
theorem ContainsFuncSt (l : List St) (A : Option Addr) (cap : Nat) (hl : l.length ≤ 9223372036854775807) (fv : Nat) (caps : Array Value) (p : St → Bool) (w : World) (hr : RdL w w.heap.size srE 4 A l)
    (hcall : ∀ (args : Array Value) (W : World), (callFunc fv args).run Tryd.prog W = .ok (.enter fv args) W)
    (hf : ∀ x ∈ l, ∀ W, Below w.heap.size w W → Calls Tryd.prog fv (#[.agg #[.string x.nm, .int .i64 x.a, .int .i64 x.b, .int .i64 x.c]] ++ caps) W fun e W' => e = .returned (.bool (p x)) ∧ Below W.heap.size W W') :
    Calls Tryd.prog 30 #[.slice A l.length cap, .func (.func fv) #[] caps] w fun e w' => e = .returned (.bool (l.any p)) ∧ Below w.heap.size w w' := by
  have HI := Lib.hid (IndexFuncSt l A cap hl fv caps p w hr hcall hf)
  have HE := Lib.hid (idxOf_any p l 0)
  clear hf hr hcall
  go_enter Tryd.func30, Tryd.ntmps30
  go_wp2_with (go_at_call 57; refine HI.out.mono ?_; rintro e w1 ⟨rfl, hb⟩)
  go_ret
  exact ⟨by rw [← HE.out]; rfl, hb⟩


theorem Format1_c (x : St) (hn : x.nm.size ≤ maxLen) (w : World) : Calls Tryd.prog 31 #[.agg #[.string x.nm, .int .i64 x.a, .int .i64 x.b, .int .i64 x.c]] w fun e w' => e = .returned (.bool (!okS x)) ∧ Below w.heap.size w w' := by
  have H := Lib.hid (fun W => ValidStar_c x.nm x.a x.b x.c (by have : maxLen ≤ 9223372036854775807 := by (unfold maxLen; omega)
                                                               omega) W)
  unfold okS
  generalize okStar x.nm x.a x.b x.c = B at *
  go_enter Tryd.func31, Tryd.ntmps31
  go_wp2_with fail
  refine (H.out _).mono ?_
  rintro e w1 ⟨rfl, hb⟩
  go_wp2
  go_ret
  exact ⟨rfl, Below.step (by (repeat (first | (with_reducible exact Below.refl _ _) | (with_reducible assumption) | (with_reducible refine Below.drew ?_) | (with_reducible refine Below.allocS ?_ _) | (with_reducible refine Below.setCell ?_ ?_ _) | (with_reducible refine Below.step ?_ (by assumption)) | (with_reducible refine Below.drewN' ?_ _))); (try any_goals (first | (with_reducible assumption) | (simp; done) | (simp; omega) | omega))) hb⟩
theorem call_Format1 (args : Array Value) (W : World) : (callFunc 31 args).run Tryd.prog W = .ok (.enter 31 args) W := by kernel_rfl
theorem take_text {l : List St} (h : okSl l = true) (k : Nat) : (fmS.text (l.take k)).length ≤ 6000 := by
  refine text_le (l := l.take k) (okSl_of ?_ fun x hx => (okSl_parts h).2 x (List.mem_of_mem_take hx))
  have := (okSl_parts h).1
  rw [List.length_take]; omega
theorem okS_I64 {x : St} (h : okS x = true) : x.nm.size ≤ 70000 ∧ I64 x.a ∧ I64 x.b ∧ I64 x.c := by
  obtain ⟨h1, h2, h3, h4⟩ := okS_parts h
  have := (name_bytes h1).2
  exact ⟨by omega, ⟨by omega, by omega⟩, ⟨by omega, by omega⟩, ⟨by omega, by omega⟩⟩
theorem okSl_eq (l : List St) : okSl l = (decide (l.length ≤ 100) && !l.any fun x => !okS x) := by
  unfold okSl; rw [any_not]
theorem fmtS_no {l : List St} (h : okSl l = false) : fmtS l = [] := by unfold fmtS; rw [h]; rfl
theorem fmtS_ok {l : List St} (h : okSl l = true) : fmtS l = fmS.text l := by unfold fmtS; rw [if_pos h]
set_option maxHeartbeats 2000000 in
set_option maxRecDepth 100000 in
theorem Format_c (l : List St) (A : Option Addr) (cap : Nat) (hl : l.length ≤ maxLen) (hs : ∀ x ∈ l, x.nm.size ≤ maxLen) (w : World) (hr : RdL w w.heap.size srE 4 A l) (hE : Env w) :
    Calls Tryd.prog 8 #[.slice A l.length cap] w fun e w' => e = .returned (.string (str (fmtS l))) ∧ Below w.heap.size w w' := by
  have hlm : l.length ≤ 9223372036854775807 := by unfold maxLen at hl; omega
  have HV := Lib.hid (ContainsFuncSt l A cap hlm _ #[] (fun x => !okS x) w hr call_Format1 (fun x hx W _ => by simpa using Format1_c x (hs x hx) W))
  have HR := Lib.hid hr
  have he := okSl_eq l
  by_cases h100 : l.length ≤ 100
  case neg =>
    have HF := Lib.hid (fmtS_no (l := l) (by rw [he, decide_eq_false h100]; rfl))
    clear he hr hE HR HV hs hl
    generalize l.length = m at *
    have hd : decide ((m : Int) > 100) = true := decide_eq_true (by omega)
    go_enter Tryd.func8, Tryd.ntmps8
    go_wp2
    go_ret
    exact ⟨by rw [HF.out]; rfl, by (repeat (first | (with_reducible exact Below.refl _ _) | (with_reducible assumption) | (with_reducible refine Below.drew ?_) | (with_reducible refine Below.allocS ?_ _) | (with_reducible refine Below.setCell ?_ ?_ _) | (with_reducible refine Below.step ?_ (by assumption)) | (with_reducible refine Below.drewN' ?_ _))); (try any_goals (first | (with_reducible assumption) | (simp; done) | (simp; omega) | omega))⟩
  have hd : decide ((l.length : Int) > 100) = false := decide_eq_false (by omega)
  rw [decide_eq_true h100, Bool.true_and] at he
  cases ho : l.any (fun x => !okS x)
  case true =>
    have HF := Lib.hid (fmtS_no (l := l) (by rw [he, ho]; rfl))
    rw [ho] at HV
    clear he ho hr hE HR
    generalize l.length = m at *
    go_enter Tryd.func8, Tryd.ntmps8
    go_wp2_with fail
    refine (HV.out).mono ?_
    rintro e w1 ⟨rfl, g1⟩
    go_wp2
    go_ret
    exact ⟨by rw [HF.out]; rfl, by (repeat (first | (with_reducible exact Below.refl _ _) | (with_reducible assumption) | (with_reducible refine Below.drew ?_) | (with_reducible refine Below.allocS ?_ _) | (with_reducible refine Below.setCell ?_ ?_ _) | (with_reducible refine Below.step ?_ (by assumption)) | (with_reducible refine Below.drewN' ?_ _))); (try any_goals (first | (with_reducible assumption) | (simp; done) | (simp; omega) | omega))⟩
  rw [ho] at HV
  have hok : okSl l = true := by rw [he, ho]; rfl
  have HF := Lib.hid (fmtS_ok hok)
  have HK := Lib.hid (okSl_parts hok).2
  have HTl := Lib.hid (take_text hok)
  have HW := Lib.hid (fun (x : St) (h : x.nm.size ≤ 70000 ∧ I64 x.a ∧ I64 x.b ∧ I64 x.c) W (hb : Below w.heap.size w W) => written_c x h.1 h.2.1 h.2.2.1 h.2.2.2 W (hE.step hb))
  clear ho hr hE he hok hs hl
  obtain ⟨m, hm⟩ : ∃ m, m = l.length := ⟨_, rfl⟩
  have HM := Lib.hid hm
  rw [← hm] at hd h100 HV ⊢
  clear hm hlm
  go_enter Tryd.func8, Tryd.ntmps8
  go_wp2_with fail
  refine (HV.out).mono ?_
  rintro e w1 ⟨rfl, g1⟩
  go_wp2
  go_loopw [15] (fun i wr => ∃ k : Nat, k ≤ m ∧ i = .int .i64 k ∧ BdT w1.heap.size w1.heap.size (fmS.text (l.take k)) wr ∧ Below w1.heap.size w1 wr) (fun i _ => m - (intOf i).toNat)
  case atStart => exact ⟨0, Nat.zero_le _, rfl, Lib.fresh_isBuilder _ _ w1, Below.allocS (Below.refl _ _) _⟩
  case round =>
    obtain ⟨k, hk, rfl, hbd, hbw⟩ := hrel
    have HBd := Lib.hid hbd
    clear hbd
    by_cases hlt : k < m
    · have hlt' : k < l.length := by rw [← HM.out]; exact hlt
      obtain ⟨b, off, rfl, hb0, hc⟩ := HR.out (by omega)
      have hbb := Below.step g1 hbw
      have hb9 : b < wr.heap.size := by have := hbb.size; omega
      have c0 := (hbb.cell (p := ⟨b, _, none⟩) hb0).trans (hc k hlt' 0 _ rfl)
      have c1 := (hbb.cell (p := ⟨b, _, none⟩) hb0).trans (hc k hlt' 1 _ rfl)
      have c2 := (hbb.cell (p := ⟨b, _, none⟩) hb0).trans (hc k hlt' 2 _ rfl)
      have c3 := (hbb.cell (p := ⟨b, _, none⟩) hb0).trans (hc k hlt' 3 _ rfl)
      simp at c0
      have u1 : (0 : Int) ≤ (k : Int) := by omega
      have u2 : (k : Int) < (m : Int) := by omega
      have HT := Lib.hid (show fmS.text (l.take k) ++ fmS.line l[k] = fmS.text (l.take (k + 1)) by rw [← Fm.text_snoc, ← take_snoc l k hlt'])
      have HX := Lib.hid (fun W hb => HW.out l[k] (okS_I64 (HK.out _ (List.getElem_mem hlt'))) W hb)
      have HL := Lib.hid (show (fmS.line l[k]).length ≤ 100 by have := body_len (HK.out _ (List.getElem_mem hlt')); omega)
      have HTk := Lib.hid (HTl.out k)
      clear hc
      generalize l[k] = x at *
      generalize fmS.text (l.take k) = T at *
      go_wp2_with fail
      refine (HX.out _ (by (repeat (first | exact Below.refl _ _ | refine Below.drew ?_ | refine Below.allocS ?_ _ | refine Below.step ?_ (by assumption) | refine Below.setCell ?_ (by simp <;> omega) _ | refine Below.drewN' ?_ _)))).mono ?_
      rintro e w2 ⟨rfl, hb2⟩
      have hb3 : Below wr.heap.size wr w2 := Below.step (Below.allocS (Below.refl _ _) _) hb2
      have hsz := hbw.size
      have hsz2 := hb3.size
      go_wp2_with fail
      refine (write_l w1.heap.size w1.heap.size T (fmS.line x) _ (BdT.keep HBd.out hb3) (by have := HL.out; have := HTk.out; omega) (by omega)).mono ?_
      rintro e w3 ⟨rfl, h3, hb4⟩
      have H3 := Lib.hid h3
      have hbw3 : Below w1.heap.size w1 w3 := (Below.step hbw hb3).trans hb4
      clear h3 hb4 hb3 hb2
      go_wp2
      go_roundw
      case rel => exact ⟨k + 1, by omega, by go_num, by rw [← HT.out]; exact H3.out, hbw3⟩
      case measure => simp [intOf]; omega
    · obtain rfl : k = m := by omega
      have ht : l.take k = l := by rw [HM.out]; exact List.take_length
      rw [ht] at HBd
      clear ht
      go_wp2_with fail
      refine (String_l w1.heap.size w1.heap.size (fmS.text l) _ HBd.out hbw.size).mono ?_
      rintro e w2 ⟨rfl, hb2⟩
      go_wp2
      go_ret
      exact ⟨by rw [HF.out]; rfl, Below.step g1 (hbw.trans hb2)⟩
theorem okSl_not {l : List St} {x : St} (h : x ∈ l) (hx : okS x = false) : okSl l = false := by
  cases ho : okSl l with
  | false => rfl
  | true => rw [(okSl_parts ho).2 x h] at hx; cases hx
theorem okSl_big {l : List St} (h : 100 < l.length) : okSl l = false := by
  cases ho : okSl l with
  | false => rfl
  | true => have := (okSl_parts ho).1; omega
set_option maxHeartbeats 2000000 in
set_option maxRecDepth 100000 in
theorem rFormat_c (l : List St) (A : Option Addr) (cap : Nat) (hl : l.length ≤ maxLen) (hs : ∀ x ∈ l, x.nm.size ≤ maxLen) (w : World) (hr : RdL w w.heap.size srE 4 A l) (hE : Env w) :
    Calls Tryd.prog 9 #[.slice A l.length cap] w fun e w' => e = .returned (.string (str (fmtS l))) ∧ Below w.heap.size w w' := by
  have hml : maxLen ≤ 9223372036854775807 := by unfold maxLen; omega
  have hlm : l.length ≤ 9223372036854775807 := by omega
  have HR := Lib.hid hr
  have HS := Lib.hid hs
  have HV := Lib.hid (fun (x : St) (h : x.nm.size ≤ maxLen) W => rValidStar_c x.nm x.a x.b x.c (by omega) W)
  have HW := Lib.hid (fun (x : St) (h : x.nm.size ≤ 70000 ∧ I64 x.a ∧ I64 x.b ∧ I64 x.c) W (hb : Below w.heap.size w W) => rline_c x h.1 h.2.1 h.2.2.1 h.2.2.2 W (hE.step hb))
  clear hr hE hs hl hml
  obtain ⟨m, hm⟩ : ∃ m, m = l.length := ⟨_, rfl⟩
  have HM := Lib.hid hm
  rw [← hm] at hlm ⊢
  clear hm
  go_enter Tryd.func9, Tryd.ntmps9
  go_wp2
  go_loopw [3, 8] (fun o i wr => ∃ k : Nat, k ≤ m ∧ i = .int .i64 k ∧ o = .string (str (fmS.text (l.take k))) ∧ (∀ x ∈ l.take k, okS x = true) ∧ (0 < k → m ≤ 100) ∧ Below w.heap.size w wr) (fun _ i _ => m - (intOf i).toNat)
  case atStart => exact ⟨0, Nat.zero_le _, rfl, rfl, by simp, by simp, Below.refl _ _⟩
  case round =>
    obtain ⟨k, hk, rfl, rfl, hal, h0k, hbw⟩ := hrel
    have HAl := Lib.hid hal
    clear hal
    by_cases hlt : k < m
    · have hlt' : k < l.length := by rw [← HM.out]; exact hlt
      obtain ⟨b, off, rfl, hb0, hc⟩ := HR.out (by omega)
      have hb9 : b < wr.heap.size := by have := hbw.size; omega
      have c0 := (hbw.cell (p := ⟨b, _, none⟩) hb0).trans (hc k hlt' 0 _ rfl)
      have c1 := (hbw.cell (p := ⟨b, _, none⟩) hb0).trans (hc k hlt' 1 _ rfl)
      have c2 := (hbw.cell (p := ⟨b, _, none⟩) hb0).trans (hc k hlt' 2 _ rfl)
      have c3 := (hbw.cell (p := ⟨b, _, none⟩) hb0).trans (hc k hlt' 3 _ rfl)
      simp at c0
      have u1 : (0 : Int) ≤ (k : Int) := by omega
      have u2 : (k : Int) < (m : Int) := by omega
      have HVx := Lib.hid (HV.out l[k] (HS.out _ (List.getElem_mem hlt')))
      have hXe : okStar (l[k]).nm (l[k]).a (l[k]).b (l[k]).c = okS l[k] := rfl
      rw [hXe] at HVx
      clear hXe
      cases hx : okS l[k]
      case false =>
        have HF := Lib.hid (fmtS_no (okSl_not (List.getElem_mem hlt') hx))
        rw [hx] at HVx
        clear hc hx h0k
        generalize l[k] = x at *
        go_wp2_with fail
        refine (HVx.out _).mono ?_
        rintro e w2 ⟨rfl, hb2⟩
        go_wp2
        go_ret
        exact ⟨by rw [HF.out]; rfl, by (repeat (first | exact Below.refl _ _ | refine Below.drew ?_ | refine Below.allocS ?_ _ | refine Below.step ?_ (by assumption) | refine Below.setCell ?_ (by simp <;> omega) _ | refine Below.drewN' ?_ _))⟩
      rw [hx] at HVx
      by_cases h100 : m ≤ 100
      case neg =>
        have HF := Lib.hid (fmtS_no (okSl_big (l := l) (by rw [← HM.out]; omega)))
        have hd : decide ((m : Int) > 100) = true := decide_eq_true (by omega)
        clear hc hx h0k
        generalize l[k] = x at *
        go_wp2_with fail
        refine (HVx.out _).mono ?_
        rintro e w2 ⟨rfl, hb2⟩
        go_wp2
        go_ret
        exact ⟨by rw [HF.out]; rfl, by (repeat (first | exact Below.refl _ _ | refine Below.drew ?_ | refine Below.allocS ?_ _ | refine Below.step ?_ (by assumption) | refine Below.setCell ?_ (by simp <;> omega) _ | refine Below.drewN' ?_ _))⟩
      have hd : decide ((m : Int) > 100) = false := decide_eq_false (by omega)
      have HAn := Lib.hid (show ∀ y ∈ l.take (k + 1), okS y = true by
        rw [take_snoc l k hlt']
        intro y hy
        rcases List.mem_append.1 hy with hy | hy
        · exact HAl.out y hy
        · simp at hy; subst hy; exact hx)
      have hb1 := body_len hx
      have hb2 := text_le (l := l.take k) (okSl_of (by rw [List.length_take]; omega) HAl.out)
      have HT := Lib.hid (show str (fmS.text (l.take k)) ++ str (fmS.line l[k]) = str (fmS.text (l.take (k + 1))) by rw [str_append, take_snoc l k hlt', Fm.text_snoc])
      have HX := Lib.hid (fun W hb => HW.out l[k] (okS_I64 hx) W hb)
      have n1 : (str (fmS.line l[k])).size ≤ 100 := by rw [size_str]; omega
      have n2 : (str (fmS.text (l.take k))).size ≤ 6000 := by rw [size_str]; exact hb2
      have n3 : ¬ 9223372036854775807 < (str (fmS.text (l.take k))).size + (str (fmS.line l[k])).size := by omega
      clear hc hx hb1 hb2 HAl
      generalize l[k] = x at *
      generalize str (fmS.text (l.take k)) = T at *
      generalize str (fmS.line x) = B at *
      go_wp2_with fail
      refine (HVx.out _).mono ?_
      rintro e w2 ⟨rfl, hb2⟩
      have d0 : w2.cell? ⟨wr.heap.size, 0, none⟩ = some (.string x.nm) := keep_cell hb2 (by simp [go_sem, *])
      have d1 : w2.cell? ⟨wr.heap.size, 1, none⟩ = some (.int .i64 x.a) := keep_cell hb2 (by simp [go_sem, *])
      have d2 : w2.cell? ⟨wr.heap.size, 2, none⟩ = some (.int .i64 x.b) := keep_cell hb2 (by simp [go_sem, *])
      have d3 : w2.cell? ⟨wr.heap.size, 3, none⟩ = some (.int .i64 x.c) := keep_cell hb2 (by simp [go_sem, *])
      have hb3 : Below w.heap.size w w2 := by (repeat (first | exact Below.refl _ _ | refine Below.drew ?_ | refine Below.allocS ?_ _ | refine Below.step ?_ (by assumption) | refine Below.setCell ?_ (by simp <;> omega) _ | refine Below.drewN' ?_ _))
      clear hb2
      go_wp2_with fail
      refine (HX.out _ hb3).mono ?_
      rintro e w4 ⟨rfl, hb4⟩
      go_wp2
      go_roundw
      case rel => exact ⟨k + 1, by omega, by go_num, by rw [← HT.out], HAn.out, fun _ => h100, by (repeat (first | exact Below.refl _ _ | refine Below.drew ?_ | refine Below.allocS ?_ _ | refine Below.step ?_ (by assumption) | refine Below.setCell ?_ (by simp <;> omega) _ | refine Below.drewN' ?_ _))⟩
      case measure => simp [intOf]; omega
    · obtain rfl : k = m := by omega
      have ht : l.take k = l := by rw [HM.out]; exact List.take_length
      have HF := Lib.hid (fmtS_ok (l := l) (okSl_of (by rw [← HM.out]; first | exact h0k (by omega) | omega) (by have := HAl.out; rw [ht] at this; exact this)))
      rw [ht]
      clear ht h0k HAl
      go_wp2
      go_ret
      exact ⟨by rw [HF.out]; rfl, hbw⟩
end Go.Proofs.YtimbdnngeoccdaaDoor
