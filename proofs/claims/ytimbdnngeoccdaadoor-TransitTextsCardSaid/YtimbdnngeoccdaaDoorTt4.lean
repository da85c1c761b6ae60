/-
  Parse of the reference.
-/
import Derived.Test.YtimbdnngeoccdaaDoorTt3
import Derived.Deep.DeepCutAuto
namespace Go.Proofs.YtimbdnngeoccdaaDoor
open Go.RowKit Go.Deep
set_option linter.unusedVariables false
set_option linter.unusedSimpArgs false
theorem appSt : AppE 22 25 srE 4 where
  ht := Tryd.underlying22
  info := app_info (z := .agg #[.string ⟨#[]⟩, .int .i64 0, .int .i64 0, .int .i64 0]) (bytes := 40) (by kernel_rfl) rfl (by decide)
  pos := by decide
  len := fun x => rfl
  one := fun x u hu => by
    simp [srE] at hu
    rcases hu with rfl | rfl | rfl | rfl <;> rfl
def sLen : Value → Nat
  | .string b => b.size
  | _ => 0
theorem indexByte_l (l : List UInt8) (w : World) : Calls Tryd.prog 27 #[.string (str l), .int .u8 10] w fun e w' => e = .returned (.int .i64 (Lib.indexByte l 10)) ∧ w = w' := by
  refine (Tryd.strings_IndexByte (str l) 10 w).mono ?_
  rintro e w' ⟨rfl, rfl⟩
  exact ⟨by rw [str_data]; rfl, rfl⟩
/-- What is handed back: the stars, the line, the error. -/
def Parsed (w : World) (R : List St × Int × Int) (e : Ending) (w' : World) : Prop :=
  ∃ A cap, e = .returned (.tuple #[.slice A R.1.length cap, .int .i64 R.2.1, .int .i64 R.2.2]) ∧ (RdL w' w'.heap.size srE 4 A R.1 ∧ R.1.length ≤ 100 ∧ R.1.length ≤ cap) ∧ Below w.heap.size w w'
theorem Parsed.err {w w' : World} {n e : Int} (hb : Below w.heap.size w w') : Parsed w ([], n, e) (.returned (.tuple #[.slice none 0 0, .int .i64 n, .int .i64 e])) w' := ⟨none, 0, rfl, ⟨RdL.nil, Nat.zero_le _, Nat.le_refl _⟩, hb⟩
theorem Parsed.ok {w W : World} {R : List St × Int × Int} {pre : List St} {A : Option Addr} {cap base : Nat} (h : (pre, (0 : Int), (0 : Int)) = R) (hrow : W.ownsRow base 25 4 (.slice A pre.length cap) pre.length (pre.flatMap srE)) (hl : pre.length ≤ 100) (hb : Below w.heap.size w W) :
    Parsed w R (.returned (.tuple #[.slice A pre.length cap, .int .i64 0, .int .i64 0])) W := by
  subst h
  obtain ⟨A', c', hv, hc1, hc2⟩ := row_form hrow
  injection hv with e1 _ e2
  subst e1 e2
  exact ⟨A, cap, rfl, ⟨RdL.of_own (fun _ => rfl) hrow rfl, hl, hc1⟩, hb⟩
theorem decS_other {t : List UInt8} (h : (pieces 32 t).length ≠ 4) : decS t = st0 := by
  unfold decS
  split
  · rename_i e; rw [e] at h; exact absurd rfl h
  · rfl
theorem good_four {l : List St} {s : List UInt8} (h : (pieces 32 (headL s)).length ≠ 4) : fmS.good l s = false := by
  cases hg : fmS.good l s with
  | false => rfl
  | true =>
    obtain ⟨n, a, b, c, e, -⟩ := good_words hg
    rw [e] at h
    exact absurd rfl h
theorem good_end {l : List St} {s : List UInt8} (h : (10 : UInt8) ∉ s) : fmS.good l s = false := Fm.good_not fun e => h e.1
theorem good_body {l : List St} {s : List UInt8} (h : bodyS (decS (headL s)) ≠ headL s) : fmS.good l s = false := Fm.good_not fun e => h e.2.1
theorem good_val {l : List St} {s : List UInt8} (h : okSl (l ++ [decS (headL s)]) = false) : fmS.good l s = false := Fm.good_not fun e => by
  have : okSl (l ++ [decS (headL s)]) = true := e.2.2
  rw [h] at this; cases this
theorem dec_small {t : List UInt8} (h : t.length ≤ 65536) : (decS t).nm.size ≤ 65536 := by
  unfold decS
  split
  · rename_i e
    have := pieces_mem_len 32 t
    rw [e] at this
    have := this _ (List.mem_cons_self ..)
    simp only [size_str]; omega
  · exact Nat.zero_le _
theorem dec_I64 (t : List UInt8) : I64 (decS t).a ∧ I64 (decS t).b ∧ I64 (decS t).c := by
  unfold decS
  split
  · exact ⟨atoiN_range _, atoiN_range _, atoiN_range _⟩
  · exact ⟨⟨by decide, by decide⟩, ⟨by decide, by decide⟩, ⟨by decide, by decide⟩⟩
set_option maxHeartbeats 4000000 in
set_option maxRecDepth 100000 in
theorem rParse_c (s : List UInt8) (hs : s.length ≤ 9223372036854775807) (w : World) (hE : Env w) :
    Calls Tryd.prog 7 #[.string (str s)] w (Parsed w (fmS.read s)) := by
  by_cases hlen : s.length ≤ 65536
  case neg =>
    have e1 : fmS.read s = ([], 0, 3) := by unfold Fm.read; rw [if_neg hlen]
    have hsz : (str s).size = s.length := size_str s
    rw [e1]
    have hd : decide (((str s).size : Int) > 65536) = true := decide_eq_true (by omega)
    clear e1 hE
    generalize str s = S at *
    go_enter Tryd.func7, Tryd.ntmps7
    go_wp2
    refine bodyPost_ret (v := .tuple #[.slice none 0 0, .int .i64 0, .int .i64 3]) (by simp [results, Tryd.results7, go_sem, *] <;> (repeat' apply And.intro) <;> rfl) rfl ?_
    exact Parsed.err (by (repeat (first | (with_reducible exact Below.refl _ _) | (with_reducible assumption) | (with_reducible refine Below.drew ?_) | (with_reducible refine Below.allocS ?_ _) | (with_reducible refine Below.setCell ?_ ?_ _) | (with_reducible refine Below.step ?_ (by assumption)) | (with_reducible refine Below.drewN' ?_ _))); (try any_goals (first | (with_reducible assumption) | (simp; done) | (simp; omega) | omega)))
  have e1 : fmS.read s = fmS.parse s.length [] s := by unfold Fm.read; rw [if_pos hlen]
  rw [e1]
  obtain ⟨R, hR⟩ : ∃ R, fmS.parse s.length [] s = R := ⟨_, rfl⟩
  rw [hR]
  have hsz : (str s).size = s.length := size_str s
  have hd : decide (((str s).size : Int) > 65536) = false := decide_eq_false (by omega)
  have HE := Lib.hid (fun W (hb : Below w.heap.size w W) => hE.step hb)
  have HR := Lib.hid hR
  clear e1 hR hE
  go_enter Tryd.func7, Tryd.ntmps7
  go_wp2
  clear hsz hd
  go_loopw [0, 2, 5] (fun sv lv nv wr => ∃ (pre : List St) (t : List UInt8) (k : Nat), sv = .string (str t) ∧ nv = .int .i64 (pre.length : Nat) ∧ wr.ownsRow w.heap.size 25 4 lv pre.length (pre.flatMap srE) ∧ okSl pre = true ∧ t.length ≤ k ∧ t.length ≤ 65536 ∧ fmS.parse k pre t = R ∧ Below w.heap.size w wr) (fun sv _ _ _ => sLen sv)
  case atStart => exact ⟨[], s, s.length, rfl, rfl, World.ownsRow_nil _ _ _ _, okSl_nil, Nat.le_refl _, hlen, HR.out, by (repeat (first | (with_reducible exact Below.refl _ _) | (with_reducible assumption) | (with_reducible refine Below.drew ?_) | (with_reducible refine Below.allocS ?_ _) | (with_reducible refine Below.setCell ?_ ?_ _) | (with_reducible refine Below.step ?_ (by assumption)) | (with_reducible refine Below.drewN' ?_ _))); (try any_goals (first | (with_reducible assumption) | (simp; done) | (simp; omega) | omega))⟩
  case round =>
    obtain ⟨pre, t, k, rfl, rfl, hrow, hok, htk, ht6, hpe, hbw⟩ := hrel
    clear HR
    have hpl := (okSl_parts hok).1
    have HK := Lib.hid hok
    have HO := Lib.hid hrow
    have HP := Lib.hid hpe
    obtain ⟨A, cap, rfl, -, -⟩ := row_form hrow
    clear hrow hpe hok
    by_cases ht : t = []
    · subst ht
      have HP2 := Lib.hid ((Fm.parse_nil k pre).symm.trans HP.out)
      have hem : (str []).toList.isEmpty = true := by rw [ByteArray.toList_eq]; rfl
      clear HP
      go_wp2
      refine bodyPost_ret (v := .tuple #[.slice A pre.length cap, .int .i64 0, .int .i64 0]) (by simp [results, Tryd.results7, go_sem, *] <;> (repeat' apply And.intro) <;> rfl) rfl ?_
      exact Parsed.ok HP2.out HO.out hpl hbw
    have hem : (str t).toList.isEmpty = false := by
      rw [ByteArray.toList_eq, str_data]
      cases t with
      | nil => exact absurd rfl ht
      | cons a b => rfl
    rcases head_cases t with ⟨h10, hh, hrr, hix⟩ | ⟨h10, htt, hix⟩
    · have HB := Lib.hid (HP.out.symm.trans (Fm.parse_bad ht htk (good_end h10)))
      have HI := Lib.hid (fun W => indexByte_l t W)
      rw [hix] at HI
      clear HP hh hrr hix h10
      go_wp2_with fail
      refine (HI.out _).mono ?_
      rintro e w1 ⟨rfl, rfl⟩
      go_wp2
      refine bodyPost_ret (v := .tuple #[.slice none 0 0, .int .i64 (pre.length : Nat), .int .i64 2]) (by simp [results, Tryd.results7, go_sem, *] <;> (repeat' apply And.intro) <;> rfl) rfl ?_
      exact HB.out ▸ Parsed.err hbw
    have HI := Lib.hid (fun W => indexByte_l t W)
    rw [hix] at HI
    by_cases h60 : (headL t).length ≤ 100
    case neg =>
      have HB := Lib.hid (HP.out.symm.trans (Fm.parse_bad ht htk (good_long (by omega))))
      generalize (headL t).length = n at *
      have hd1 : decide ((n : Int) < 0) = false := decide_eq_false (by omega)
      have hd2 : decide ((100 : Int) < (n : Int)) = true := decide_eq_true (by omega)
      have hd3 : decide (100 < n) = true := decide_eq_true (by omega)
      clear HP hix h10 htt
      go_wp2_with fail
      refine (HI.out _).mono ?_
      rintro e w1 ⟨rfl, rfl⟩
      go_wp2
      refine bodyPost_ret (v := .tuple #[.slice none 0 0, .int .i64 (pre.length : Nat), .int .i64 2]) (by simp [results, Tryd.results7, go_sem, *] <;> (repeat' apply And.intro) <;> rfl) rfl ?_
      exact HB.out ▸ Parsed.err hbw
    have hex : (str t).extract 0 (headL t).length = str (headL t) := extract_app htt
    have hez : (str t).size = t.length := size_str t
    have hle : (headL t).length + 1 ≤ t.length := by
      conv => rhs; rw [htt]
      rw [List.length_append, List.length_cons]; omega
    have HH := Lib.hid htt
    have H10 := Lib.hid h10
    have HSp := Lib.hid (fun W hb => split_l (headL t) (by omega) W (HE.out W hb))
    clear htt h10 hix
    generalize hH : headL t = H at *
    have HHe := Lib.hid hH
    clear hH
    have hd1 : decide ((H.length : Int) < 0) = false := decide_eq_false (by omega)
    have hd2 : decide ((100 : Int) < (H.length : Int)) = false := decide_eq_false (by omega)
    have hd3 : decide (100 < H.length) = false := decide_eq_false (by omega)
    go_wp2_with fail
    refine (HI.out _).mono ?_
    rintro e w1 ⟨rfl, rfl⟩
    have hlw : Below wr.heap.size wr (wr.alloc (.cells #[.string ⟨#[]⟩, .int .i64 0, .int .i64 0, .int .i64 0] 25)) := Below.allocS (Below.refl _ _) _
    have hwr := hbw.size
    go_wp2_with fail
    refine (HSp.out _ (by (repeat (first | exact Below.refl _ _ | refine Below.drew ?_ | refine Below.allocS ?_ _ | refine Below.step ?_ (by assumption) | refine Below.setCell ?_ (by simp <;> omega) _ | refine Below.drewN' ?_ _)))).mono ?_
    rintro e w1 ⟨b1, rfl, hwd, hb1, hblw1, hbel1⟩
    have x0w1 : w1.cell? ⟨wr.heap.size, 0, none⟩ = some (.string ⟨#[]⟩) := keep_cell hbel1 (by simp [go_sem])
    have x1w1 : w1.cell? ⟨wr.heap.size, 1, none⟩ = some (.int .i64 0) := keep_cell hbel1 (by simp [go_sem])
    have x2w1 : w1.cell? ⟨wr.heap.size, 2, none⟩ = some (.int .i64 0) := keep_cell hbel1 (by simp [go_sem])
    have x3w1 : w1.cell? ⟨wr.heap.size, 3, none⟩ = some (.int .i64 0) := keep_cell hbel1 (by simp [go_sem])
    have f0w1 : w1.frozen? ⟨wr.heap.size, 0, none⟩ = false := keep_frozen hbel1 (by simp) (by simp [go_sem])
    have f1w1 : w1.frozen? ⟨wr.heap.size, 1, none⟩ = false := keep_frozen hbel1 (by simp) (by simp [go_sem])
    have f2w1 : w1.frozen? ⟨wr.heap.size, 2, none⟩ = false := keep_frozen hbel1 (by simp) (by simp [go_sem])
    have f3w1 : w1.frozen? ⟨wr.heap.size, 3, none⟩ = false := keep_frozen hbel1 (by simp) (by simp [go_sem])
    have hne : b1 ≠ wr.heap.size := by simp at hb1; omega
    have hne' : wr.heap.size ≠ b1 := Ne.symm hne
    have hbrw1 : Below wr.heap.size wr w1 := Below.step hlw hbel1
    have hxlw1 : wr.heap.size < w1.heap.size := cell?_lt x0w1
    have HW := Lib.hid hwd
    clear hwd hb1 hbel1 HSp
    generalize hm : (pieces 32 H).length = m at *
    have HM := Lib.hid hm
    clear hm
    go_upto_if 31 with fail
    go_cut [] (fun W => W.cell? ⟨wr.heap.size, 0, none⟩ = some (.string (decS H).nm) ∧ W.cell? ⟨wr.heap.size, 1, none⟩ = some (.int .i64 (decS H).a) ∧ W.cell? ⟨wr.heap.size, 2, none⟩ = some (.int .i64 (decS H).b) ∧ W.cell? ⟨wr.heap.size, 3, none⟩ = some (.int .i64 (decS H).c) ∧ Below wr.heap.size wr W)
    case first =>
      by_cases h3 : m = 4
      case neg =>
        have h3' : ((m : Int) == 4) = false := by rw [beq_eq_false_iff_ne]; omega
        have HD := Lib.hid (decS_other (t := H) (by rw [HM.out]; exact h3))
        clear HW HM h3
        go_wp2
        go_meet
        exact ⟨by rw [HD.out]; exact x0w1, by rw [HD.out]; exact x1w1, by rw [HD.out]; exact x2w1, by rw [HD.out]; exact x3w1, hbrw1⟩
      obtain ⟨p0, p1, p2, p3, hpq⟩ : ∃ p0 p1 p2 p3, pieces 32 H = [p0, p1, p2, p3] := by
        match pieces 32 H, HM.out.trans h3 with
        | [p0, p1, p2, p3], _ => exact ⟨p0, p1, p2, p3, rfl⟩
      have hpl3 := pieces_mem_len 32 H
      rw [hpq] at hpl3
      have HD := Lib.hid (show decS H = ⟨str p0, atoiN p1, atoiN p2, atoiN p3⟩ by unfold decS; rw [hpq])
      have HA1 := Lib.hid (fun W hb => atoi_l p1 (by have := hpl3 p1 (by simp); omega) W (HE.out W hb))
      have HA2 := Lib.hid (fun W hb => atoi_l p2 (by have := hpl3 p2 (by simp); omega) W (HE.out W hb))
      have HA3 := Lib.hid (fun W hb => atoi_l p3 (by have := hpl3 p3 (by simp); omega) W (HE.out W hb))
      rw [hpq] at HW
      have d0w1 : w1.cell? ⟨b1, 0, none⟩ = some (.string (str p0)) := HW.out 0 p0 rfl
      have d1w1 : w1.cell? ⟨b1, 1, none⟩ = some (.string (str p1)) := HW.out 1 p1 rfl
      have d2w1 : w1.cell? ⟨b1, 2, none⟩ = some (.string (str p2)) := HW.out 2 p2 rfl
      have d3w1 : w1.cell? ⟨b1, 3, none⟩ = some (.string (str p3)) := HW.out 3 p3 rfl
      subst h3
      clear hpq hpl3 HW HM
      go_wp2_with fail
      refine (HA1.out _ (by (repeat (first | exact Below.refl _ _ | refine Below.drew ?_ | refine Below.allocS ?_ _ | refine Below.step ?_ (by assumption) | refine Below.setCell ?_ (by simp <;> omega) _ | refine Below.drewN' ?_ _)))).mono ?_
      rintro e w2 ⟨E1, rfl, hbw2⟩
      have d0w2 : w2.cell? ⟨b1, 0, none⟩ = some (.string (str p0)) := keep_cell hbw2 (by simp [go_sem, *])
      have d1w2 : w2.cell? ⟨b1, 1, none⟩ = some (.string (str p1)) := keep_cell hbw2 (by simp [go_sem, *])
      have d2w2 : w2.cell? ⟨b1, 2, none⟩ = some (.string (str p2)) := keep_cell hbw2 (by simp [go_sem, *])
      have d3w2 : w2.cell? ⟨b1, 3, none⟩ = some (.string (str p3)) := keep_cell hbw2 (by simp [go_sem, *])
      have x0w2 : w2.cell? ⟨wr.heap.size, 0, none⟩ = some (.string (str p0)) := keep_cell hbw2 (by simp [go_sem, *])
      have x1w2 : w2.cell? ⟨wr.heap.size, 1, none⟩ = some (.int .i64 0) := keep_cell hbw2 (by simp [go_sem, *])
      have x2w2 : w2.cell? ⟨wr.heap.size, 2, none⟩ = some (.int .i64 0) := keep_cell hbw2 (by simp [go_sem, *])
      have x3w2 : w2.cell? ⟨wr.heap.size, 3, none⟩ = some (.int .i64 0) := keep_cell hbw2 (by simp [go_sem, *])
      have f0w2 : w2.frozen? ⟨wr.heap.size, 0, none⟩ = false := keep_frozen hbw2 (by first | omega | (simp; omega) | simp) (by simp [go_sem, *])
      have f1w2 : w2.frozen? ⟨wr.heap.size, 1, none⟩ = false := keep_frozen hbw2 (by first | omega | (simp; omega) | simp) (by simp [go_sem, *])
      have f2w2 : w2.frozen? ⟨wr.heap.size, 2, none⟩ = false := keep_frozen hbw2 (by first | omega | (simp; omega) | simp) (by simp [go_sem, *])
      have f3w2 : w2.frozen? ⟨wr.heap.size, 3, none⟩ = false := keep_frozen hbw2 (by first | omega | (simp; omega) | simp) (by simp [go_sem, *])
      have hxlw2 : wr.heap.size < w2.heap.size := cell?_lt x0w2
      have hblw2 : b1 < w2.heap.size := cell?_lt d0w2
      have hbrw2 : Below wr.heap.size wr w2 := by (repeat (first | exact Below.refl _ _ | refine Below.drew ?_ | refine Below.allocS ?_ _ | refine Below.step ?_ (by assumption) | refine Below.setCell ?_ (by simp <;> omega) _ | refine Below.drewN' ?_ _))
      clear hbw2 d0w1 d1w1 d2w1 d3w1 x0w1 x1w1 x2w1 x3w1 f0w1 f1w1 f2w1 f3w1 hbrw1 hxlw1 hblw1
      go_wp2_with fail
      refine (HA2.out _ (by (repeat (first | exact Below.refl _ _ | refine Below.drew ?_ | refine Below.allocS ?_ _ | refine Below.step ?_ (by assumption) | refine Below.setCell ?_ (by simp <;> omega) _ | refine Below.drewN' ?_ _)))).mono ?_
      rintro e w3 ⟨E2, rfl, hbw3⟩
      have d0w3 : w3.cell? ⟨b1, 0, none⟩ = some (.string (str p0)) := keep_cell hbw3 (by simp [go_sem, *])
      have d1w3 : w3.cell? ⟨b1, 1, none⟩ = some (.string (str p1)) := keep_cell hbw3 (by simp [go_sem, *])
      have d2w3 : w3.cell? ⟨b1, 2, none⟩ = some (.string (str p2)) := keep_cell hbw3 (by simp [go_sem, *])
      have d3w3 : w3.cell? ⟨b1, 3, none⟩ = some (.string (str p3)) := keep_cell hbw3 (by simp [go_sem, *])
      have x0w3 : w3.cell? ⟨wr.heap.size, 0, none⟩ = some (.string (str p0)) := keep_cell hbw3 (by simp [go_sem, *])
      have x1w3 : w3.cell? ⟨wr.heap.size, 1, none⟩ = some (.int .i64 (atoiN p1)) := keep_cell hbw3 (by simp [go_sem, *])
      have x2w3 : w3.cell? ⟨wr.heap.size, 2, none⟩ = some (.int .i64 0) := keep_cell hbw3 (by simp [go_sem, *])
      have x3w3 : w3.cell? ⟨wr.heap.size, 3, none⟩ = some (.int .i64 0) := keep_cell hbw3 (by simp [go_sem, *])
      have f0w3 : w3.frozen? ⟨wr.heap.size, 0, none⟩ = false := keep_frozen hbw3 (by first | omega | (simp; omega) | simp) (by simp [go_sem, *])
      have f1w3 : w3.frozen? ⟨wr.heap.size, 1, none⟩ = false := keep_frozen hbw3 (by first | omega | (simp; omega) | simp) (by simp [go_sem, *])
      have f2w3 : w3.frozen? ⟨wr.heap.size, 2, none⟩ = false := keep_frozen hbw3 (by first | omega | (simp; omega) | simp) (by simp [go_sem, *])
      have f3w3 : w3.frozen? ⟨wr.heap.size, 3, none⟩ = false := keep_frozen hbw3 (by first | omega | (simp; omega) | simp) (by simp [go_sem, *])
      have hxlw3 : wr.heap.size < w3.heap.size := cell?_lt x0w3
      have hblw3 : b1 < w3.heap.size := cell?_lt d0w3
      have hbrw3 : Below wr.heap.size wr w3 := by (repeat (first | exact Below.refl _ _ | refine Below.drew ?_ | refine Below.allocS ?_ _ | refine Below.step ?_ (by assumption) | refine Below.setCell ?_ (by simp <;> omega) _ | refine Below.drewN' ?_ _))
      clear hbw3 d0w2 d1w2 d2w2 d3w2 x0w2 x1w2 x2w2 x3w2 f0w2 f1w2 f2w2 f3w2 hbrw2 hxlw2 hblw2
      go_wp2_with fail
      refine (HA3.out _ (by (repeat (first | exact Below.refl _ _ | refine Below.drew ?_ | refine Below.allocS ?_ _ | refine Below.step ?_ (by assumption) | refine Below.setCell ?_ (by simp <;> omega) _ | refine Below.drewN' ?_ _)))).mono ?_
      rintro e w4 ⟨E3, rfl, hbw4⟩
      have d0w4 : w4.cell? ⟨b1, 0, none⟩ = some (.string (str p0)) := keep_cell hbw4 (by simp [go_sem, *])
      have d1w4 : w4.cell? ⟨b1, 1, none⟩ = some (.string (str p1)) := keep_cell hbw4 (by simp [go_sem, *])
      have d2w4 : w4.cell? ⟨b1, 2, none⟩ = some (.string (str p2)) := keep_cell hbw4 (by simp [go_sem, *])
      have d3w4 : w4.cell? ⟨b1, 3, none⟩ = some (.string (str p3)) := keep_cell hbw4 (by simp [go_sem, *])
      have x0w4 : w4.cell? ⟨wr.heap.size, 0, none⟩ = some (.string (str p0)) := keep_cell hbw4 (by simp [go_sem, *])
      have x1w4 : w4.cell? ⟨wr.heap.size, 1, none⟩ = some (.int .i64 (atoiN p1)) := keep_cell hbw4 (by simp [go_sem, *])
      have x2w4 : w4.cell? ⟨wr.heap.size, 2, none⟩ = some (.int .i64 (atoiN p2)) := keep_cell hbw4 (by simp [go_sem, *])
      have x3w4 : w4.cell? ⟨wr.heap.size, 3, none⟩ = some (.int .i64 0) := keep_cell hbw4 (by simp [go_sem, *])
      have f0w4 : w4.frozen? ⟨wr.heap.size, 0, none⟩ = false := keep_frozen hbw4 (by first | omega | (simp; omega) | simp) (by simp [go_sem, *])
      have f1w4 : w4.frozen? ⟨wr.heap.size, 1, none⟩ = false := keep_frozen hbw4 (by first | omega | (simp; omega) | simp) (by simp [go_sem, *])
      have f2w4 : w4.frozen? ⟨wr.heap.size, 2, none⟩ = false := keep_frozen hbw4 (by first | omega | (simp; omega) | simp) (by simp [go_sem, *])
      have f3w4 : w4.frozen? ⟨wr.heap.size, 3, none⟩ = false := keep_frozen hbw4 (by first | omega | (simp; omega) | simp) (by simp [go_sem, *])
      have hxlw4 : wr.heap.size < w4.heap.size := cell?_lt x0w4
      have hblw4 : b1 < w4.heap.size := cell?_lt d0w4
      have hbrw4 : Below wr.heap.size wr w4 := by (repeat (first | exact Below.refl _ _ | refine Below.drew ?_ | refine Below.allocS ?_ _ | refine Below.step ?_ (by assumption) | refine Below.setCell ?_ (by simp <;> omega) _ | refine Below.drewN' ?_ _))
      clear hbw4 d0w3 d1w3 d2w3 d3w3 x0w3 x1w3 x2w3 x3w3 f0w3 f1w3 f2w3 f3w3 hbrw3 hxlw3 hblw3
      go_wp2
      go_meet
      exact ⟨by rw [HD.out]; simp [go_sem, *], by rw [HD.out]; simp [go_sem, *], by rw [HD.out]; simp [go_sem, *], by rw [HD.out]; simp [go_sem, *], by (repeat (first | exact Below.refl _ _ | refine Below.drew ?_ | refine Below.allocS ?_ _ | refine Below.step ?_ (by assumption) | refine Below.setCell ?_ (by simp <;> omega) _ | refine Below.drewN' ?_ _))⟩
    case rest =>
      obtain ⟨x0, x1, x2, x3, hbr⟩ := hcut
      have hsm := dec_small (t := H) (by omega)
      have hI := dec_I64 H
      clear x0w1 x1w1 x2w1 x3w1 f0w1 f1w1 f2w1 f3w1 hbrw1 hxlw1 hblw1 HW HM hlw
      generalize hX : decS H = X at *
      have HX := Lib.hid hX
      clear hX
      have hcs := hbr.size
      have hxl : wr.heap.size < wc.heap.size := cell?_lt x0
      by_cases h1 : pre.length = 100
      · have HB := Lib.hid (HP.out.symm.trans (Fm.parse_bad ht htk (good_val (okSl_big (by rw [List.length_append, List.length_singleton]; omega)))))
        have hd4 : ((pre.length : Int) == 100) = true := by rw [beq_iff_eq]; omega
        clear HP
        generalize pre.length = pn at *
        go_wp2_with fail
        refine region_below (by kernel_rfl) (by kernel_rfl) ?_
        (first | go_big_quiet_skip | (go_big_quiet_want; refine quiet_val (v := ?_) ?_ ?_; rotate_left 1; (· (intro Wq hWq; obtain ⟨hWc, hWf⟩ := bcell hWq; go_simp; (try with_reducible rfl))); go_big_quiet_on; (try simp only [Act.put, List.setIfInBounds_toArray, List.set_cons_zero, List.set_cons_succ])))
        (first | go_big_quiet_skip | (go_big_quiet_want; refine quiet_val (v := ?_) ?_ ?_; rotate_left 1; (· (intro Wq hWq; obtain ⟨hWc, hWf⟩ := bcell hWq; go_simp; (try with_reducible rfl))); go_big_quiet_on; (try simp only [Act.put, List.setIfInBounds_toArray, List.set_cons_zero, List.set_cons_succ])))
        (first | go_big_quiet_skip | (go_big_quiet_want; refine quiet_val (v := ?_) ?_ ?_; rotate_left 1; (· (intro Wq hWq; obtain ⟨hWc, hWf⟩ := bcell hWq; go_simp; (try with_reducible rfl))); go_big_quiet_on; (try simp only [Act.put, List.setIfInBounds_toArray, List.set_cons_zero, List.set_cons_succ])))
        (first | go_big_quiet_skip | (go_big_quiet_want; refine quiet_val (v := ?_) ?_ ?_; rotate_left 1; (· (intro Wq hWq; obtain ⟨hWc, hWf⟩ := bcell hWq; go_simp; (try with_reducible rfl))); go_big_quiet_on; (try simp only [Act.put, List.setIfInBounds_toArray, List.set_cons_zero, List.set_cons_succ])))
        (first | go_big_quiet_skip | (go_big_quiet_want; refine quiet_val (v := ?_) ?_ ?_; rotate_left 1; (· (intro Wq hWq; obtain ⟨hWc, hWf⟩ := bcell hWq; go_simp; (try with_reducible rfl))); go_big_quiet_on; (try simp only [Act.put, List.setIfInBounds_toArray, List.set_cons_zero, List.set_cons_succ])))
        (first | go_big_quiet_skip | (go_big_quiet_want; refine quiet_val (v := ?_) ?_ ?_; rotate_left 1; (· (intro Wq hWq; obtain ⟨hWc, hWf⟩ := bcell hWq; go_simp; (try with_reducible rfl))); go_big_quiet_on; (try simp only [Act.put, List.setIfInBounds_toArray, List.set_cons_zero, List.set_cons_succ])))
        (first | go_big_quiet_skip | (go_big_quiet_want; refine quiet_val (v := ?_) ?_ ?_; rotate_left 1; (· (intro Wq hWq; obtain ⟨hWc, hWf⟩ := bcell hWq; go_simp; (try with_reducible rfl))); go_big_quiet_on; (try simp only [Act.put, List.setIfInBounds_toArray, List.set_cons_zero, List.set_cons_succ])))
        (first | go_big_quiet_skip | (go_big_quiet_want; refine quiet_val (v := ?_) ?_ ?_; rotate_left 1; (· (intro Wq hWq; obtain ⟨hWc, hWf⟩ := bcell hWq; go_simp; (try with_reducible rfl))); go_big_quiet_on; (try simp only [Act.put, List.setIfInBounds_toArray, List.set_cons_zero, List.set_cons_succ])))
        (first | go_big_quiet_skip | (go_big_quiet_want; refine quiet_val (v := ?_) ?_ ?_; rotate_left 1; (· (intro Wq hWq; obtain ⟨hWc, hWf⟩ := bcell hWq; go_simp; (try with_reducible rfl))); go_big_quiet_on; (try simp only [Act.put, List.setIfInBounds_toArray, List.set_cons_zero, List.set_cons_succ])))
        (first | go_big_quiet_skip | (go_big_quiet_want; refine quiet_val (v := ?_) ?_ ?_; rotate_left 1; (· (intro Wq hWq; obtain ⟨hWc, hWf⟩ := bcell hWq; go_simp; (try with_reducible rfl))); go_big_quiet_on; (try simp only [Act.put, List.setIfInBounds_toArray, List.set_cons_zero, List.set_cons_succ])))
        (first | go_big_quiet_skip | (go_big_quiet_want; refine quiet_val (v := ?_) ?_ ?_; rotate_left 1; (· (intro Wq hWq; obtain ⟨hWc, hWf⟩ := bcell hWq; go_simp; (try with_reducible rfl))); go_big_quiet_on; (try simp only [Act.put, List.setIfInBounds_toArray, List.set_cons_zero, List.set_cons_succ])))
        (first | go_big_quiet_skip | (go_big_quiet_want; refine quiet_val (v := ?_) ?_ ?_; rotate_left 1; (· (intro Wq hWq; obtain ⟨hWc, hWf⟩ := bcell hWq; go_simp; (try with_reducible rfl))); go_big_quiet_on; (try simp only [Act.put, List.setIfInBounds_toArray, List.set_cons_zero, List.set_cons_succ])))
        (first | go_big_quiet_skip | (go_big_quiet_want; refine quiet_val (v := ?_) ?_ ?_; rotate_left 1; (· (intro Wq hWq; obtain ⟨hWc, hWf⟩ := bcell hWq; go_simp; (try with_reducible rfl))); go_big_quiet_on; (try simp only [Act.put, List.setIfInBounds_toArray, List.set_cons_zero, List.set_cons_succ])))
        (first | go_big_quiet_skip | (go_big_quiet_want; refine quiet_val (v := ?_) ?_ ?_; rotate_left 1; (· (intro Wq hWq; obtain ⟨hWc, hWf⟩ := bcell hWq; go_simp; (try with_reducible rfl))); go_big_quiet_on; (try simp only [Act.put, List.setIfInBounds_toArray, List.set_cons_zero, List.set_cons_succ])))
        (first | go_big_quiet_skip | (go_big_quiet_want; refine quiet_val (v := ?_) ?_ ?_; rotate_left 1; (· (intro Wq hWq; obtain ⟨hWc, hWf⟩ := bcell hWq; go_simp; (try with_reducible rfl))); go_big_quiet_on; (try simp only [Act.put, List.setIfInBounds_toArray, List.set_cons_zero, List.set_cons_succ])))
        (first | go_big_quiet_skip | (go_big_quiet_want; refine quiet_val (v := ?_) ?_ ?_; rotate_left 1; (· (intro Wq hWq; obtain ⟨hWc, hWf⟩ := bcell hWq; go_simp; (try with_reducible rfl))); go_big_quiet_on; (try simp only [Act.put, List.setIfInBounds_toArray, List.set_cons_zero, List.set_cons_succ])))
        refine wpQuiet_nil ?_; intro V hbV
        go_wp2
        refine bodyPost_ret (v := .tuple #[.slice none 0 0, .int .i64 (pn : Nat), .int .i64 2]) (by simp [results, Tryd.results7, go_sem, *] <;> (repeat' apply And.intro) <;> rfl) rfl ?_
        exact HB.out ▸ Parsed.err (by (repeat (first | exact Below.refl _ _ | refine Below.drew ?_ | refine Below.allocS ?_ _ | refine Below.step ?_ (by assumption) | refine Below.setCell ?_ (by simp <;> omega) _ | refine Below.drewN' ?_ _)))
      have hd4 : ((pre.length : Int) == 100) = false := by rw [beq_eq_false_iff_ne]; omega
      have HV := Lib.hid (fun W => rValidStar_c X.nm X.a X.b X.c (by omega) W)
      have hXe : okStar X.nm X.a X.b X.c = okS X := rfl
      rw [hXe] at HV
      clear hXe
      cases hx : okS X
      case false =>
        have HB := Lib.hid (HP.out.symm.trans (Fm.parse_bad ht htk (good_val (okSl_not (x := X) (by rw [HHe.out, HX.out]; simp) hx))))
        rw [hx] at HV
        clear HP hx
        go_wp2_with fail
        refine region_below (by kernel_rfl) (by kernel_rfl) ?_
        (first | go_big_quiet_skip | (go_big_quiet_want; refine quiet_val (v := ?_) ?_ ?_; rotate_left 1; (· (intro Wq hWq; obtain ⟨hWc, hWf⟩ := bcell hWq; go_simp; (try with_reducible rfl))); go_big_quiet_on; (try simp only [Act.put, List.setIfInBounds_toArray, List.set_cons_zero, List.set_cons_succ])))
        (first | go_big_quiet_skip | (go_big_quiet_want; refine quiet_val (v := ?_) ?_ ?_; rotate_left 1; (· (intro Wq hWq; obtain ⟨hWc, hWf⟩ := bcell hWq; go_simp; (try with_reducible rfl))); go_big_quiet_on; (try simp only [Act.put, List.setIfInBounds_toArray, List.set_cons_zero, List.set_cons_succ])))
        (first | go_big_quiet_skip | (go_big_quiet_want; refine quiet_val (v := ?_) ?_ ?_; rotate_left 1; (· (intro Wq hWq; obtain ⟨hWc, hWf⟩ := bcell hWq; go_simp; (try with_reducible rfl))); go_big_quiet_on; (try simp only [Act.put, List.setIfInBounds_toArray, List.set_cons_zero, List.set_cons_succ])))
        (first | go_big_quiet_skip | (go_big_quiet_want; refine quiet_val (v := ?_) ?_ ?_; rotate_left 1; (· (intro Wq hWq; obtain ⟨hWc, hWf⟩ := bcell hWq; go_simp; (try with_reducible rfl))); go_big_quiet_on; (try simp only [Act.put, List.setIfInBounds_toArray, List.set_cons_zero, List.set_cons_succ])))
        go_big_quiet_want; refine quiet_callB (f := 28) (args := ?_) (v := ?_) ?_ ?_ ?_; rotate_left 2
        · (intro Wq hWq; obtain ⟨hWc, hWf⟩ := bcell hWq; go_simp; (first | with_reducible rfl | exact ⟨rfl, rfl⟩))
        · (intro Wq hWq; exact HV.out _)
        go_big_quiet_on; (try simp only [Act.put, List.setIfInBounds_toArray, List.set_cons_zero, List.set_cons_succ])
        (first | go_big_quiet_skip | (go_big_quiet_want; refine quiet_val (v := ?_) ?_ ?_; rotate_left 1; (· (intro Wq hWq; obtain ⟨hWc, hWf⟩ := bcell hWq; go_simp; (try with_reducible rfl))); go_big_quiet_on; (try simp only [Act.put, List.setIfInBounds_toArray, List.set_cons_zero, List.set_cons_succ])))
        (first | go_big_quiet_skip | (go_big_quiet_want; refine quiet_val (v := ?_) ?_ ?_; rotate_left 1; (· (intro Wq hWq; obtain ⟨hWc, hWf⟩ := bcell hWq; go_simp; (try with_reducible rfl))); go_big_quiet_on; (try simp only [Act.put, List.setIfInBounds_toArray, List.set_cons_zero, List.set_cons_succ])))
        (first | go_big_quiet_skip | (go_big_quiet_want; refine quiet_val (v := ?_) ?_ ?_; rotate_left 1; (· (intro Wq hWq; obtain ⟨hWc, hWf⟩ := bcell hWq; go_simp; (try with_reducible rfl))); go_big_quiet_on; (try simp only [Act.put, List.setIfInBounds_toArray, List.set_cons_zero, List.set_cons_succ])))
        (first | go_big_quiet_skip | (go_big_quiet_want; refine quiet_val (v := ?_) ?_ ?_; rotate_left 1; (· (intro Wq hWq; obtain ⟨hWc, hWf⟩ := bcell hWq; go_simp; (try with_reducible rfl))); go_big_quiet_on; (try simp only [Act.put, List.setIfInBounds_toArray, List.set_cons_zero, List.set_cons_succ])))
        (first | go_big_quiet_skip | (go_big_quiet_want; refine quiet_val (v := ?_) ?_ ?_; rotate_left 1; (· (intro Wq hWq; obtain ⟨hWc, hWf⟩ := bcell hWq; go_simp; (try with_reducible rfl))); go_big_quiet_on; (try simp only [Act.put, List.setIfInBounds_toArray, List.set_cons_zero, List.set_cons_succ])))
        (first | go_big_quiet_skip | (go_big_quiet_want; refine quiet_val (v := ?_) ?_ ?_; rotate_left 1; (· (intro Wq hWq; obtain ⟨hWc, hWf⟩ := bcell hWq; go_simp; (try with_reducible rfl))); go_big_quiet_on; (try simp only [Act.put, List.setIfInBounds_toArray, List.set_cons_zero, List.set_cons_succ])))
        (first | go_big_quiet_skip | (go_big_quiet_want; refine quiet_val (v := ?_) ?_ ?_; rotate_left 1; (· (intro Wq hWq; obtain ⟨hWc, hWf⟩ := bcell hWq; go_simp; (try with_reducible rfl))); go_big_quiet_on; (try simp only [Act.put, List.setIfInBounds_toArray, List.set_cons_zero, List.set_cons_succ])))
        (first | go_big_quiet_skip | (go_big_quiet_want; refine quiet_val (v := ?_) ?_ ?_; rotate_left 1; (· (intro Wq hWq; obtain ⟨hWc, hWf⟩ := bcell hWq; go_simp; (try with_reducible rfl))); go_big_quiet_on; (try simp only [Act.put, List.setIfInBounds_toArray, List.set_cons_zero, List.set_cons_succ])))
        (first | go_big_quiet_skip | (go_big_quiet_want; refine quiet_val (v := ?_) ?_ ?_; rotate_left 1; (· (intro Wq hWq; obtain ⟨hWc, hWf⟩ := bcell hWq; go_simp; (try with_reducible rfl))); go_big_quiet_on; (try simp only [Act.put, List.setIfInBounds_toArray, List.set_cons_zero, List.set_cons_succ])))
        (first | go_big_quiet_skip | (go_big_quiet_want; refine quiet_val (v := ?_) ?_ ?_; rotate_left 1; (· (intro Wq hWq; obtain ⟨hWc, hWf⟩ := bcell hWq; go_simp; (try with_reducible rfl))); go_big_quiet_on; (try simp only [Act.put, List.setIfInBounds_toArray, List.set_cons_zero, List.set_cons_succ])))
        (first | go_big_quiet_skip | (go_big_quiet_want; refine quiet_val (v := ?_) ?_ ?_; rotate_left 1; (· (intro Wq hWq; obtain ⟨hWc, hWf⟩ := bcell hWq; go_simp; (try with_reducible rfl))); go_big_quiet_on; (try simp only [Act.put, List.setIfInBounds_toArray, List.set_cons_zero, List.set_cons_succ])))
        refine wpQuiet_nil ?_; intro V hbV
        go_wp2
        refine bodyPost_ret (v := .tuple #[.slice none 0 0, .int .i64 (pre.length : Nat), .int .i64 2]) (by simp [results, Tryd.results7, go_sem, *] <;> (repeat' apply And.intro) <;> rfl) rfl ?_
        exact HB.out ▸ Parsed.err (by (repeat (first | exact Below.refl _ _ | refine Below.drew ?_ | refine Below.allocS ?_ _ | refine Below.step ?_ (by assumption) | refine Below.setCell ?_ (by simp <;> omega) _ | refine Below.drewN' ?_ _)))
      rw [hx] at HV
      have HOk := Lib.hid (okSl_snoc HK.out (by omega) hx)
      have HLn := Lib.hid (fun W hb => rline_c X (by omega) hI.1 hI.2.1 hI.2.2 W (HE.out W hb))
      clear hx hI
      have hsum : IntKind.i64.wrap ((H.length : Int) + 1) = ((H.length + 1 : Nat) : Int) := by
        have h : IntKind.i64.wrap ((H.length : Int) + 1) = (H.length : Int) + 1 := IntWalk.i64_in _ (by omega)
        rw [h]; omega
      have hn1 : (0 : Int) ≤ (H.length : Int) + 1 := by omega
      have hn2 : (H.length : Int) + 1 ≤ (t.length : Int) := by omega
      have hex2 : (str t).extract 0 (H.length + 1) = str (H ++ [10]) := extract_app1 HH.out
      have hbw0 : Below w.heap.size w wc := Below.step hbw hbr
      cases hq : ((str (fmS.line X)).toList == (str (H ++ [10])).toList)
      · have hno : bodyS X ≠ H := fun e => by
          have : (str (fmS.line X)) = str (H ++ [10]) := congrArg str (show bodyS X ++ [10] = H ++ [10] by rw [e])
          rw [this] at hq; simp at hq
        have HB := Lib.hid (HP.out.symm.trans (Fm.parse_bad ht htk (good_body (by rw [HHe.out, HX.out]; exact hno))))
        clear hno HP
        go_wp2_with fail
        refine region_below (by kernel_rfl) (by kernel_rfl) ?_
        (first | go_big_quiet_skip | (go_big_quiet_want; refine quiet_val (v := ?_) ?_ ?_; rotate_left 1; (· (intro Wq hWq; obtain ⟨hWc, hWf⟩ := bcell hWq; go_simp; (try with_reducible rfl))); go_big_quiet_on; (try simp only [Act.put, List.setIfInBounds_toArray, List.set_cons_zero, List.set_cons_succ])))
        (first | go_big_quiet_skip | (go_big_quiet_want; refine quiet_val (v := ?_) ?_ ?_; rotate_left 1; (· (intro Wq hWq; obtain ⟨hWc, hWf⟩ := bcell hWq; go_simp; (try with_reducible rfl))); go_big_quiet_on; (try simp only [Act.put, List.setIfInBounds_toArray, List.set_cons_zero, List.set_cons_succ])))
        (first | go_big_quiet_skip | (go_big_quiet_want; refine quiet_val (v := ?_) ?_ ?_; rotate_left 1; (· (intro Wq hWq; obtain ⟨hWc, hWf⟩ := bcell hWq; go_simp; (try with_reducible rfl))); go_big_quiet_on; (try simp only [Act.put, List.setIfInBounds_toArray, List.set_cons_zero, List.set_cons_succ])))
        (first | go_big_quiet_skip | (go_big_quiet_want; refine quiet_val (v := ?_) ?_ ?_; rotate_left 1; (· (intro Wq hWq; obtain ⟨hWc, hWf⟩ := bcell hWq; go_simp; (try with_reducible rfl))); go_big_quiet_on; (try simp only [Act.put, List.setIfInBounds_toArray, List.set_cons_zero, List.set_cons_succ])))
        go_big_quiet_want; refine quiet_callB (f := 28) (args := ?_) (v := ?_) ?_ ?_ ?_; rotate_left 2
        · (intro Wq hWq; obtain ⟨hWc, hWf⟩ := bcell hWq; go_simp; (first | with_reducible rfl | exact ⟨rfl, rfl⟩))
        · (intro Wq hWq; exact HV.out _)
        go_big_quiet_on; (try simp only [Act.put, List.setIfInBounds_toArray, List.set_cons_zero, List.set_cons_succ])
        (first | go_big_quiet_skip | (go_big_quiet_want; refine quiet_val (v := ?_) ?_ ?_; rotate_left 1; (· (intro Wq hWq; obtain ⟨hWc, hWf⟩ := bcell hWq; go_simp; (try with_reducible rfl))); go_big_quiet_on; (try simp only [Act.put, List.setIfInBounds_toArray, List.set_cons_zero, List.set_cons_succ])))
        (first | go_big_quiet_skip | (go_big_quiet_want; refine quiet_val (v := ?_) ?_ ?_; rotate_left 1; (· (intro Wq hWq; obtain ⟨hWc, hWf⟩ := bcell hWq; go_simp; (try with_reducible rfl))); go_big_quiet_on; (try simp only [Act.put, List.setIfInBounds_toArray, List.set_cons_zero, List.set_cons_succ])))
        (first | go_big_quiet_skip | (go_big_quiet_want; refine quiet_val (v := ?_) ?_ ?_; rotate_left 1; (· (intro Wq hWq; obtain ⟨hWc, hWf⟩ := bcell hWq; go_simp; (try with_reducible rfl))); go_big_quiet_on; (try simp only [Act.put, List.setIfInBounds_toArray, List.set_cons_zero, List.set_cons_succ])))
        (first | go_big_quiet_skip | (go_big_quiet_want; refine quiet_val (v := ?_) ?_ ?_; rotate_left 1; (· (intro Wq hWq; obtain ⟨hWc, hWf⟩ := bcell hWq; go_simp; (try with_reducible rfl))); go_big_quiet_on; (try simp only [Act.put, List.setIfInBounds_toArray, List.set_cons_zero, List.set_cons_succ])))
        go_big_quiet_want; refine quiet_callB (f := 29) (args := ?_) (v := ?_) ?_ ?_ ?_; rotate_left 2
        · (intro Wq hWq; obtain ⟨hWc, hWf⟩ := bcell hWq; go_simp; (first | with_reducible rfl | exact ⟨rfl, rfl⟩))
        · (intro Wq hWq; exact HLn.out _ (Below.step hbw0 hWq))
        go_big_quiet_on; (try simp only [Act.put, List.setIfInBounds_toArray, List.set_cons_zero, List.set_cons_succ])
        (first | go_big_quiet_skip | (go_big_quiet_want; refine quiet_val (v := ?_) ?_ ?_; rotate_left 1; (· (intro Wq hWq; obtain ⟨hWc, hWf⟩ := bcell hWq; go_simp; (try with_reducible rfl))); go_big_quiet_on; (try simp only [Act.put, List.setIfInBounds_toArray, List.set_cons_zero, List.set_cons_succ])))
        (first | go_big_quiet_skip | (go_big_quiet_want; refine quiet_val (v := ?_) ?_ ?_; rotate_left 1; (· (intro Wq hWq; obtain ⟨hWc, hWf⟩ := bcell hWq; go_simp; (try with_reducible rfl))); go_big_quiet_on; (try simp only [Act.put, List.setIfInBounds_toArray, List.set_cons_zero, List.set_cons_succ])))
        (first | go_big_quiet_skip | (go_big_quiet_want; refine quiet_val (v := ?_) ?_ ?_; rotate_left 1; (· (intro Wq hWq; obtain ⟨hWc, hWf⟩ := bcell hWq; go_simp; (try with_reducible rfl))); go_big_quiet_on; (try simp only [Act.put, List.setIfInBounds_toArray, List.set_cons_zero, List.set_cons_succ])))
        (first | go_big_quiet_skip | (go_big_quiet_want; refine quiet_val (v := ?_) ?_ ?_; rotate_left 1; (· (intro Wq hWq; obtain ⟨hWc, hWf⟩ := bcell hWq; go_simp; (try with_reducible rfl))); go_big_quiet_on; (try simp only [Act.put, List.setIfInBounds_toArray, List.set_cons_zero, List.set_cons_succ])))
        (first | go_big_quiet_skip | (go_big_quiet_want; refine quiet_val (v := ?_) ?_ ?_; rotate_left 1; (· (intro Wq hWq; obtain ⟨hWc, hWf⟩ := bcell hWq; go_simp; (try with_reducible rfl))); go_big_quiet_on; (try simp only [Act.put, List.setIfInBounds_toArray, List.set_cons_zero, List.set_cons_succ])))
        (first | go_big_quiet_skip | (go_big_quiet_want; refine quiet_val (v := ?_) ?_ ?_; rotate_left 1; (· (intro Wq hWq; obtain ⟨hWc, hWf⟩ := bcell hWq; go_simp; (try with_reducible rfl))); go_big_quiet_on; (try simp only [Act.put, List.setIfInBounds_toArray, List.set_cons_zero, List.set_cons_succ])))
        refine wpQuiet_nil ?_; intro V hbV
        go_wp2
        refine bodyPost_ret (v := .tuple #[.slice none 0 0, .int .i64 (pre.length : Nat), .int .i64 2]) (by simp [results, Tryd.results7, go_sem, *] <;> (repeat' apply And.intro) <;> rfl) rfl ?_
        exact HB.out ▸ Parsed.err (by (repeat (first | exact Below.refl _ _ | refine Below.drew ?_ | refine Below.allocS ?_ _ | refine Below.step ?_ (by assumption) | refine Below.setCell ?_ (by simp <;> omega) _ | refine Below.drewN' ?_ _)))
      · have hyes : bodyS X = H := by
          have h1 := eq_of_beq hq
          rw [ByteArray.toList_eq, ByteArray.toList_eq, str_data, str_data] at h1
          exact List.append_cancel_right h1
        obtain ⟨k', hk', hpe⟩ := Fm.parse_ok ht htk (Fm.good_of (F := fmS) (l := pre) (t_mem HH.out) (show bodyS (decS (headL t)) = headL t by rw [HHe.out, HX.out]; exact hyes) (show okSl (pre ++ [decS (headL t)]) = true by rw [HHe.out, HX.out]; exact HOk.out))
        have hdx : fmS.dec (headL t) = X := by rw [HHe.out]; exact HX.out
        rw [hdx] at hpe
        have HPe := Lib.hid (hpe.symm.trans HP.out)
        have hrl := rest_len ht
        clear hyes hpe hdx HP
        go_wp2_with fail
        refine region_below (by kernel_rfl) (by kernel_rfl) ?_
        (first | go_big_quiet_skip | (go_big_quiet_want; refine quiet_val (v := ?_) ?_ ?_; rotate_left 1; (· (intro Wq hWq; obtain ⟨hWc, hWf⟩ := bcell hWq; go_simp; (try with_reducible rfl))); go_big_quiet_on; (try simp only [Act.put, List.setIfInBounds_toArray, List.set_cons_zero, List.set_cons_succ])))
        (first | go_big_quiet_skip | (go_big_quiet_want; refine quiet_val (v := ?_) ?_ ?_; rotate_left 1; (· (intro Wq hWq; obtain ⟨hWc, hWf⟩ := bcell hWq; go_simp; (try with_reducible rfl))); go_big_quiet_on; (try simp only [Act.put, List.setIfInBounds_toArray, List.set_cons_zero, List.set_cons_succ])))
        (first | go_big_quiet_skip | (go_big_quiet_want; refine quiet_val (v := ?_) ?_ ?_; rotate_left 1; (· (intro Wq hWq; obtain ⟨hWc, hWf⟩ := bcell hWq; go_simp; (try with_reducible rfl))); go_big_quiet_on; (try simp only [Act.put, List.setIfInBounds_toArray, List.set_cons_zero, List.set_cons_succ])))
        (first | go_big_quiet_skip | (go_big_quiet_want; refine quiet_val (v := ?_) ?_ ?_; rotate_left 1; (· (intro Wq hWq; obtain ⟨hWc, hWf⟩ := bcell hWq; go_simp; (try with_reducible rfl))); go_big_quiet_on; (try simp only [Act.put, List.setIfInBounds_toArray, List.set_cons_zero, List.set_cons_succ])))
        go_big_quiet_want; refine quiet_callB (f := 28) (args := ?_) (v := ?_) ?_ ?_ ?_; rotate_left 2
        · (intro Wq hWq; obtain ⟨hWc, hWf⟩ := bcell hWq; go_simp; (first | with_reducible rfl | exact ⟨rfl, rfl⟩))
        · (intro Wq hWq; exact HV.out _)
        go_big_quiet_on; (try simp only [Act.put, List.setIfInBounds_toArray, List.set_cons_zero, List.set_cons_succ])
        (first | go_big_quiet_skip | (go_big_quiet_want; refine quiet_val (v := ?_) ?_ ?_; rotate_left 1; (· (intro Wq hWq; obtain ⟨hWc, hWf⟩ := bcell hWq; go_simp; (try with_reducible rfl))); go_big_quiet_on; (try simp only [Act.put, List.setIfInBounds_toArray, List.set_cons_zero, List.set_cons_succ])))
        (first | go_big_quiet_skip | (go_big_quiet_want; refine quiet_val (v := ?_) ?_ ?_; rotate_left 1; (· (intro Wq hWq; obtain ⟨hWc, hWf⟩ := bcell hWq; go_simp; (try with_reducible rfl))); go_big_quiet_on; (try simp only [Act.put, List.setIfInBounds_toArray, List.set_cons_zero, List.set_cons_succ])))
        (first | go_big_quiet_skip | (go_big_quiet_want; refine quiet_val (v := ?_) ?_ ?_; rotate_left 1; (· (intro Wq hWq; obtain ⟨hWc, hWf⟩ := bcell hWq; go_simp; (try with_reducible rfl))); go_big_quiet_on; (try simp only [Act.put, List.setIfInBounds_toArray, List.set_cons_zero, List.set_cons_succ])))
        (first | go_big_quiet_skip | (go_big_quiet_want; refine quiet_val (v := ?_) ?_ ?_; rotate_left 1; (· (intro Wq hWq; obtain ⟨hWc, hWf⟩ := bcell hWq; go_simp; (try with_reducible rfl))); go_big_quiet_on; (try simp only [Act.put, List.setIfInBounds_toArray, List.set_cons_zero, List.set_cons_succ])))
        go_big_quiet_want; refine quiet_callB (f := 29) (args := ?_) (v := ?_) ?_ ?_ ?_; rotate_left 2
        · (intro Wq hWq; obtain ⟨hWc, hWf⟩ := bcell hWq; go_simp; (first | with_reducible rfl | exact ⟨rfl, rfl⟩))
        · (intro Wq hWq; exact HLn.out _ (Below.step hbw0 hWq))
        go_big_quiet_on; (try simp only [Act.put, List.setIfInBounds_toArray, List.set_cons_zero, List.set_cons_succ])
        (first | go_big_quiet_skip | (go_big_quiet_want; refine quiet_val (v := ?_) ?_ ?_; rotate_left 1; (· (intro Wq hWq; obtain ⟨hWc, hWf⟩ := bcell hWq; go_simp; (try with_reducible rfl))); go_big_quiet_on; (try simp only [Act.put, List.setIfInBounds_toArray, List.set_cons_zero, List.set_cons_succ])))
        (first | go_big_quiet_skip | (go_big_quiet_want; refine quiet_val (v := ?_) ?_ ?_; rotate_left 1; (· (intro Wq hWq; obtain ⟨hWc, hWf⟩ := bcell hWq; go_simp; (try with_reducible rfl))); go_big_quiet_on; (try simp only [Act.put, List.setIfInBounds_toArray, List.set_cons_zero, List.set_cons_succ])))
        (first | go_big_quiet_skip | (go_big_quiet_want; refine quiet_val (v := ?_) ?_ ?_; rotate_left 1; (· (intro Wq hWq; obtain ⟨hWc, hWf⟩ := bcell hWq; go_simp; (try with_reducible rfl))); go_big_quiet_on; (try simp only [Act.put, List.setIfInBounds_toArray, List.set_cons_zero, List.set_cons_succ])))
        (first | go_big_quiet_skip | (go_big_quiet_want; refine quiet_val (v := ?_) ?_ ?_; rotate_left 1; (· (intro Wq hWq; obtain ⟨hWc, hWf⟩ := bcell hWq; go_simp; (try with_reducible rfl))); go_big_quiet_on; (try simp only [Act.put, List.setIfInBounds_toArray, List.set_cons_zero, List.set_cons_succ])))
        (first | go_big_quiet_skip | (go_big_quiet_want; refine quiet_val (v := ?_) ?_ ?_; rotate_left 1; (· (intro Wq hWq; obtain ⟨hWc, hWf⟩ := bcell hWq; go_simp; (try with_reducible rfl))); go_big_quiet_on; (try simp only [Act.put, List.setIfInBounds_toArray, List.set_cons_zero, List.set_cons_succ])))
        (first | go_big_quiet_skip | (go_big_quiet_want; refine quiet_val (v := ?_) ?_ ?_; rotate_left 1; (· (intro Wq hWq; obtain ⟨hWc, hWf⟩ := bcell hWq; go_simp; (try with_reducible rfl))); go_big_quiet_on; (try simp only [Act.put, List.setIfInBounds_toArray, List.set_cons_zero, List.set_cons_succ])))
        refine wpQuiet_nil ?_; intro V hbV
        have y0 := keep_cell hbV x0
        have y1 := keep_cell hbV x1
        have y2 := keep_cell hbV x2
        have y3 := keep_cell hbV x3
        have hbv : Below wr.heap.size wr V := Below.step hbr hbV
        clear x0 x1 x2 x3 hbr hbV HV HLn
        have hrow := ownsRow_keep HO.out hbv
        have hnb := row_ne HO.out (Or.inl (Nat.le_refl wr.heap.size))
        have hvs := hbv.size
        have hxv : wr.heap.size < V.heap.size := cell?_lt y0
        have HAPP := Lib.hid (app_keep appSt pre X pre.length rfl (by omega) (V.alloc (.cells #[.string X.nm, .int .i64 X.a, .int .i64 X.b, .int .i64 X.c] 25)) w.heap.size V.heap.size _ (hrow.alloc _) (by simp; omega) (fun j u hu => by
          have := new_cells V V.heap.size (srE X) 25 rfl j u hu
          rwa [add_none] at this))
        have HBW := Lib.hid (Below.step (Below.step hbw hbv) (Below.allocS (Below.refl V.heap.size V) (.cells #[.string X.nm, .int .i64 X.a, .int .i64 X.b, .int .i64 X.c] 25)))
        clear hrow hnb
        have HPush : Hid (∀ v5 w5, (w5.ownsRow w.heap.size 25 4 v5 (pre.length + 1) ((pre ++ [X]).flatMap srE) ∧ Below w.heap.size (V.alloc (.cells #[.string X.nm, .int .i64 X.a, .int .i64 X.b, .int .i64 X.c] 25)) w5 ∧ (V.alloc (.cells #[.string X.nm, .int .i64 X.a, .int .i64 X.b, .int .i64 X.c] 25)).grownBy w5 (Value.slice A pre.length cap).ownBlock) → w5.ownsRow w.heap.size 25 4 v5 (pre ++ [X]).length ((pre ++ [X]).flatMap srE) ∧ Below w.heap.size w w5) := Lib.hid (by
          rintro v5 w5 ⟨h1, h2, -⟩
          exact ⟨by rw [List.length_append, List.length_singleton]; exact h1, HBW.out.trans h2⟩)
        have hex3 : (str t).extract (H.length + 1) t.length = str (restL t) := extract_app2 HH.out
        go_wp2_with (at_builtin; refine wpList_app rfl (.tmp 77) (.tmp 79) 22 rfl _ _ rfl rfl HAPP.out ?_; rintro v5 w5 hR; obtain ⟨hown5, hbw5⟩ := HPush.out v5 w5 hR; have HO5 := Lib.hid hown5; clear hR hown5 HAPP HPush HBW)
        go_roundw
        case rel => exact ⟨pre ++ [X], restL t, k', rfl, by simp, HO5.out, HOk.out, hk', by omega, HPe.out, by (repeat (first | exact Below.refl _ _ | refine Below.drew ?_ | refine Below.allocS ?_ _ | refine Below.step ?_ (by assumption) | refine Below.setCell ?_ (by simp <;> omega) _ | refine Below.drewN' ?_ _))⟩
        case measure => simp [sLen, size_str]; omega
end Go.Proofs.YtimbdnngeoccdaaDoor
