/-
  Parse of the reference.
-/
import Derived.Test.YtimbdnngeoccdaaDoorTg3
import Derived.Deep.DeepCutAuto
namespace Go.Proofs.YtimbdnngeoccdaaDoor
open Go.RowKit Go.Deep
set_option linter.unusedVariables false
set_option linter.unusedSimpArgs false
theorem appSh : AppE 32 76 shE 4 where
  ht := Tryd.underlying32
  info := app_info (z := .agg #[.int .i64 0, .int .i64 0, .int .i64 0, .int .i64 0]) (bytes := 32) (by kernel_rfl) rfl (by decide)
  pos := by decide
  len := fun x => rfl
  one := fun x u hu => by
    simp [shE] at hu
    rcases hu with rfl | rfl | rfl | rfl <;> rfl
def sLen : Value → Nat
  | .string b => b.size
  | _ => 0
theorem indexByte_l (l : List UInt8) (w : World) : Calls Tryd.prog 27 #[.string (str l), .int .u8 10] w fun e w' => e = .returned (.int .i64 (Lib.indexByte l 10)) ∧ w = w' := by
  refine (Tryd.strings_IndexByte (str l) 10 w).mono ?_
  rintro e w' ⟨rfl, rfl⟩
  exact ⟨by rw [str_data]; rfl, rfl⟩
/-- What is handed back: the stars, the line, the error. -/
def Parsed (w : World) (R : List Shot × Int × Int) (e : Ending) (w' : World) : Prop :=
  ∃ A cap, e = .returned (.tuple #[.slice A R.1.length cap, .int .i64 R.2.1, .int .i64 R.2.2]) ∧ (RdL w' w'.heap.size shE 4 A R.1 ∧ R.1.length ≤ 6 ∧ R.1.length ≤ cap) ∧ Below w.heap.size w w'
theorem Parsed.err {w w' : World} {n e : Int} (hb : Below w.heap.size w w') : Parsed w ([], n, e) (.returned (.tuple #[.slice none 0 0, .int .i64 n, .int .i64 e])) w' := ⟨none, 0, rfl, ⟨RdL.nil, Nat.zero_le _, Nat.le_refl _⟩, hb⟩
theorem Parsed.ok {w W : World} {R : List Shot × Int × Int} {pre : List Shot} {A : Option Addr} {cap base : Nat} (h : (pre, (0 : Int), (0 : Int)) = R) (hrow : W.ownsRow base 76 4 (.slice A pre.length cap) pre.length (pre.flatMap shE)) (hl : pre.length ≤ 6) (hb : Below w.heap.size w W) :
    Parsed w R (.returned (.tuple #[.slice A pre.length cap, .int .i64 0, .int .i64 0])) W := by
  subst h
  obtain ⟨A', c', hv, hc1, hc2⟩ := row_form hrow
  injection hv with e1 _ e2
  subst e1 e2
  exact ⟨A, cap, rfl, ⟨RdL.of_own (fun _ => rfl) hrow rfl, hl, hc1⟩, hb⟩
theorem dec_I (t : List UInt8) : ShI (decG t) := by
  unfold decG
  split
  · exact ⟨atoiN_range _, atoiN_range _, atoiN_range _, atoiN_range _⟩
  · exact ⟨⟨by decide, by decide⟩, ⟨by decide, by decide⟩, ⟨by decide, by decide⟩, ⟨by decide, by decide⟩⟩
set_option maxHeartbeats 4000000 in
set_option maxRecDepth 100000 in
theorem rParse_c (s : List UInt8) (hs : s.length ≤ 9223372036854775807) (w : World) (hE : Env w) :
    Calls Tryd.prog 14 #[.string (str s)] w (Parsed w (fmG.read s)) := by
  by_cases hlen : s.length ≤ 65536
  case neg =>
    have e1 : fmG.read s = ([], 0, 3) := by unfold Fm.read; rw [if_neg hlen]
    have hsz : (str s).size = s.length := size_str s
    rw [e1]
    have hd : decide (((str s).size : Int) > 65536) = true := decide_eq_true (by omega)
    clear e1 hE
    generalize str s = S at *
    go_enter Tryd.func14, Tryd.ntmps14
    go_wp2
    refine bodyPost_ret (v := .tuple #[.slice none 0 0, .int .i64 0, .int .i64 3]) (by simp [results, Tryd.results14, go_sem, *] <;> (repeat' apply And.intro) <;> rfl) rfl ?_
    exact Parsed.err (by (repeat (first | (with_reducible exact Below.refl _ _) | (with_reducible assumption) | (with_reducible refine Below.drew ?_) | (with_reducible refine Below.allocS ?_ _) | (with_reducible refine Below.setCell ?_ ?_ _) | (with_reducible refine Below.step ?_ (by assumption)) | (with_reducible refine Below.drewN' ?_ _))); (try any_goals (first | (with_reducible assumption) | (simp; done) | (simp; omega) | omega)))
  have e1 : fmG.read s = fmG.parse s.length [] s := by unfold Fm.read; rw [if_pos hlen]
  rw [e1]
  obtain ⟨R, hR⟩ : ∃ R, fmG.parse s.length [] s = R := ⟨_, rfl⟩
  rw [hR]
  have hsz : (str s).size = s.length := size_str s
  have hd : decide (((str s).size : Int) > 65536) = false := decide_eq_false (by omega)
  have HE := Lib.hid (fun W (hb : Below w.heap.size w W) => hE.step hb)
  have HR := Lib.hid hR
  clear e1 hR hE
  go_enter Tryd.func14, Tryd.ntmps14
  go_wp2
  clear hsz hd
  go_loopw [0, 2, 5] (fun sv lv nv wr => ∃ (pre : List Shot) (t : List UInt8) (k : Nat), sv = .string (str t) ∧ nv = .int .i64 (pre.length : Nat) ∧ wr.ownsRow w.heap.size 76 4 lv pre.length (pre.flatMap shE) ∧ okG pre = true ∧ t.length ≤ k ∧ t.length ≤ 65536 ∧ fmG.parse k pre t = R ∧ Below w.heap.size w wr) (fun sv _ _ _ => sLen sv)
  case atStart => exact ⟨[], s, s.length, rfl, rfl, World.ownsRow_nil _ _ _ _, okG_nil, Nat.le_refl _, hlen, HR.out, by (repeat (first | (with_reducible exact Below.refl _ _) | (with_reducible assumption) | (with_reducible refine Below.drew ?_) | (with_reducible refine Below.allocS ?_ _) | (with_reducible refine Below.setCell ?_ ?_ _) | (with_reducible refine Below.step ?_ (by assumption)) | (with_reducible refine Below.drewN' ?_ _))); (try any_goals (first | (with_reducible assumption) | (simp; done) | (simp; omega) | omega))⟩
  case round =>
    obtain ⟨pre, t, k, rfl, rfl, hrow, hok, htk, ht6, hpe, hbw⟩ := hrel
    clear HR
    have hpl := (okG_parts hok).1
    have HK := Lib.hid hok
    have HO := Lib.hid hrow
    have HP := Lib.hid hpe
    obtain ⟨A, cap, rfl, -, -⟩ := row_form hrow
    clear hrow hpe hok
    by_cases ht : t = []
    · subst ht
      have HP2 := Lib.hid ((Fm.parse_nil k pre).symm.trans HP.out)
      have hem : (str []).toList.isEmpty = true := by rw [ByteArray.toList_eq]; rfl
      clear HP
      go_wp2
      refine bodyPost_ret (v := .tuple #[.slice A pre.length cap, .int .i64 0, .int .i64 0]) (by simp [results, Tryd.results14, go_sem, *] <;> (repeat' apply And.intro) <;> rfl) rfl ?_
      exact Parsed.ok HP2.out HO.out hpl hbw
    have hem : (str t).toList.isEmpty = false := by
      rw [ByteArray.toList_eq, str_data]
      cases t with
      | nil => exact absurd rfl ht
      | cons a b => rfl
    rcases head_cases t with ⟨h10, hh, hrr, hix⟩ | ⟨h10, htt, hix⟩
    · have HB := Lib.hid (HP.out.symm.trans (Fm.parse_bad ht htk (good_end h10)))
      have HI := Lib.hid (fun W => indexByte_l t W)
      rw [hix] at HI
      clear HP hh hrr hix h10
      go_wp2_with fail
      refine (HI.out _).mono ?_
      rintro e w1 ⟨rfl, rfl⟩
      go_wp2
      refine bodyPost_ret (v := .tuple #[.slice none 0 0, .int .i64 (pre.length : Nat), .int .i64 2]) (by simp [results, Tryd.results14, go_sem, *] <;> (repeat' apply And.intro) <;> rfl) rfl ?_
      exact HB.out ▸ Parsed.err hbw
    have HI := Lib.hid (fun W => indexByte_l t W)
    rw [hix] at HI
    by_cases h60 : (headL t).length ≤ 80
    case neg =>
      have HB := Lib.hid (HP.out.symm.trans (Fm.parse_bad ht htk (good_long (by omega))))
      generalize (headL t).length = n at *
      have hd1 : decide ((n : Int) < 0) = false := decide_eq_false (by omega)
      have hd2 : decide ((80 : Int) < (n : Int)) = true := decide_eq_true (by omega)
      have hd3 : decide (80 < n) = true := decide_eq_true (by omega)
      clear HP hix h10 htt
      go_wp2_with fail
      refine (HI.out _).mono ?_
      rintro e w1 ⟨rfl, rfl⟩
      go_wp2
      refine bodyPost_ret (v := .tuple #[.slice none 0 0, .int .i64 (pre.length : Nat), .int .i64 2]) (by simp [results, Tryd.results14, go_sem, *] <;> (repeat' apply And.intro) <;> rfl) rfl ?_
      exact HB.out ▸ Parsed.err hbw
    have hex : (str t).extract 0 (headL t).length = str (headL t) := extract_app htt
    have hez : (str t).size = t.length := size_str t
    have hle : (headL t).length + 1 ≤ t.length := by
      conv => rhs; rw [htt]
      rw [List.length_append, List.length_cons]; omega
    have HH := Lib.hid htt
    have H10 := Lib.hid h10
    have HSp := Lib.hid (fun W hb => split_l (headL t) (by omega) W (HE.out W hb))
    clear htt h10 hix
    generalize hH : headL t = H at *
    have HHe := Lib.hid hH
    clear hH
    have hd1 : decide ((H.length : Int) < 0) = false := decide_eq_false (by omega)
    have hd2 : decide ((80 : Int) < (H.length : Int)) = false := decide_eq_false (by omega)
    have hd3 : decide (80 < H.length) = false := decide_eq_false (by omega)
    go_wp2_with fail
    refine (HI.out _).mono ?_
    rintro e w1 ⟨rfl, rfl⟩
    have hlw : Below wr.heap.size wr (wr.alloc (.cells #[.int .i64 0, .int .i64 0, .int .i64 0, .int .i64 0] 76)) := Below.allocS (Below.refl _ _) _
    have hwr := hbw.size
    go_wp2_with fail
    refine (HSp.out _ (by (repeat (first | exact Below.refl _ _ | refine Below.drew ?_ | refine Below.allocS ?_ _ | refine Below.step ?_ (by assumption) | refine Below.setCell ?_ (by simp <;> omega) _ | refine Below.drewN' ?_ _)))).mono ?_
    rintro e w1 ⟨b1, rfl, hwd, hb1, hblw1, hbel1⟩
    have x0w1 : w1.cell? ⟨wr.heap.size, 0, none⟩ = some (.int .i64 0) := keep_cell hbel1 (by simp [go_sem])
    have x1w1 : w1.cell? ⟨wr.heap.size, 1, none⟩ = some (.int .i64 0) := keep_cell hbel1 (by simp [go_sem])
    have x2w1 : w1.cell? ⟨wr.heap.size, 2, none⟩ = some (.int .i64 0) := keep_cell hbel1 (by simp [go_sem])
    have x3w1 : w1.cell? ⟨wr.heap.size, 3, none⟩ = some (.int .i64 0) := keep_cell hbel1 (by simp [go_sem])
    have f0w1 : w1.frozen? ⟨wr.heap.size, 0, none⟩ = false := keep_frozen hbel1 (by simp) (by simp [go_sem])
    have f1w1 : w1.frozen? ⟨wr.heap.size, 1, none⟩ = false := keep_frozen hbel1 (by simp) (by simp [go_sem])
    have f2w1 : w1.frozen? ⟨wr.heap.size, 2, none⟩ = false := keep_frozen hbel1 (by simp) (by simp [go_sem])
    have f3w1 : w1.frozen? ⟨wr.heap.size, 3, none⟩ = false := keep_frozen hbel1 (by simp) (by simp [go_sem])
    have hne : b1 ≠ wr.heap.size := by simp at hb1; omega
    have hne' : wr.heap.size ≠ b1 := Ne.symm hne
    have hbrw1 : Below wr.heap.size wr w1 := Below.step hlw hbel1
    have hxlw1 : wr.heap.size < w1.heap.size := cell?_lt x0w1
    have HW := Lib.hid hwd
    clear hwd hb1 hbel1 HSp
    generalize hm : (pieces 32 H).length = m at *
    have HM := Lib.hid hm
    clear hm
    go_upto_if 31 with fail
    go_cut [] (fun W => W.cell? ⟨wr.heap.size, 0, none⟩ = some (.int .i64 (decG H).gx) ∧ W.cell? ⟨wr.heap.size, 1, none⟩ = some (.int .i64 (decG H).gy) ∧ W.cell? ⟨wr.heap.size, 2, none⟩ = some (.int .i64 (decG H).lo) ∧ W.cell? ⟨wr.heap.size, 3, none⟩ = some (.int .i64 (decG H).hi) ∧ Below wr.heap.size wr W)
    case first =>
      by_cases h3 : m = 4
      case neg =>
        have h3' : ((m : Int) == 4) = false := by rw [beq_eq_false_iff_ne]; omega
        have HD := Lib.hid (decG_other (t := H) (by rw [HM.out]; exact h3))
        clear HW HM h3
        go_wp2
        go_meet
        exact ⟨by rw [HD.out]; exact x0w1, by rw [HD.out]; exact x1w1, by rw [HD.out]; exact x2w1, by rw [HD.out]; exact x3w1, hbrw1⟩
      obtain ⟨p0, p1, p2, p3, hpq⟩ : ∃ p0 p1 p2 p3, pieces 32 H = [p0, p1, p2, p3] := by
        match pieces 32 H, HM.out.trans h3 with
        | [p0, p1, p2, p3], _ => exact ⟨p0, p1, p2, p3, rfl⟩
      have hpl3 := pieces_mem_len 32 H
      rw [hpq] at hpl3
      have HD := Lib.hid (show decG H = ⟨atoiN p0, atoiN p1, atoiN p2, atoiN p3⟩ by unfold decG; rw [hpq])
      have HA0 := Lib.hid (fun W hb => atoi_l p0 (by have := hpl3 p0 (by simp); omega) W (HE.out W hb))
      have HA1 := Lib.hid (fun W hb => atoi_l p1 (by have := hpl3 p1 (by simp); omega) W (HE.out W hb))
      have HA2 := Lib.hid (fun W hb => atoi_l p2 (by have := hpl3 p2 (by simp); omega) W (HE.out W hb))
      have HA3 := Lib.hid (fun W hb => atoi_l p3 (by have := hpl3 p3 (by simp); omega) W (HE.out W hb))
      rw [hpq] at HW
      have d0w1 : w1.cell? ⟨b1, 0, none⟩ = some (.string (str p0)) := HW.out 0 p0 rfl
      have d1w1 : w1.cell? ⟨b1, 1, none⟩ = some (.string (str p1)) := HW.out 1 p1 rfl
      have d2w1 : w1.cell? ⟨b1, 2, none⟩ = some (.string (str p2)) := HW.out 2 p2 rfl
      have d3w1 : w1.cell? ⟨b1, 3, none⟩ = some (.string (str p3)) := HW.out 3 p3 rfl
      subst h3
      clear hpq hpl3 HW HM
      go_wp2_with fail
      refine (HA0.out _ (by (repeat (first | exact Below.refl _ _ | refine Below.drew ?_ | refine Below.allocS ?_ _ | refine Below.step ?_ (by assumption) | refine Below.setCell ?_ (by simp <;> omega) _ | refine Below.drewN' ?_ _)))).mono ?_
      rintro e w2 ⟨E0, rfl, hbw2⟩
      have d0w2 : w2.cell? ⟨b1, 0, none⟩ = some (.string (str p0)) := keep_cell hbw2 (by simp [go_sem, *])
      have d1w2 : w2.cell? ⟨b1, 1, none⟩ = some (.string (str p1)) := keep_cell hbw2 (by simp [go_sem, *])
      have d2w2 : w2.cell? ⟨b1, 2, none⟩ = some (.string (str p2)) := keep_cell hbw2 (by simp [go_sem, *])
      have d3w2 : w2.cell? ⟨b1, 3, none⟩ = some (.string (str p3)) := keep_cell hbw2 (by simp [go_sem, *])
      have x0w2 : w2.cell? ⟨wr.heap.size, 0, none⟩ = some (.int .i64 0) := keep_cell hbw2 (by simp [go_sem, *])
      have x1w2 : w2.cell? ⟨wr.heap.size, 1, none⟩ = some (.int .i64 0) := keep_cell hbw2 (by simp [go_sem, *])
      have x2w2 : w2.cell? ⟨wr.heap.size, 2, none⟩ = some (.int .i64 0) := keep_cell hbw2 (by simp [go_sem, *])
      have x3w2 : w2.cell? ⟨wr.heap.size, 3, none⟩ = some (.int .i64 0) := keep_cell hbw2 (by simp [go_sem, *])
      have f0w2 : w2.frozen? ⟨wr.heap.size, 0, none⟩ = false := keep_frozen hbw2 (by first | omega | (simp; omega) | simp) (by simp [go_sem, *])
      have f1w2 : w2.frozen? ⟨wr.heap.size, 1, none⟩ = false := keep_frozen hbw2 (by first | omega | (simp; omega) | simp) (by simp [go_sem, *])
      have f2w2 : w2.frozen? ⟨wr.heap.size, 2, none⟩ = false := keep_frozen hbw2 (by first | omega | (simp; omega) | simp) (by simp [go_sem, *])
      have f3w2 : w2.frozen? ⟨wr.heap.size, 3, none⟩ = false := keep_frozen hbw2 (by first | omega | (simp; omega) | simp) (by simp [go_sem, *])
      have hxlw2 : wr.heap.size < w2.heap.size := cell?_lt x0w2
      have hblw2 : b1 < w2.heap.size := cell?_lt d0w2
      have hbrw2 : Below wr.heap.size wr w2 := by (repeat (first | exact Below.refl _ _ | refine Below.drew ?_ | refine Below.allocS ?_ _ | refine Below.step ?_ (by assumption) | refine Below.setCell ?_ (by simp <;> omega) _ | refine Below.drewN' ?_ _))
      clear hbw2 d0w1 d1w1 d2w1 d3w1 x0w1 x1w1 x2w1 x3w1 f0w1 f1w1 f2w1 f3w1 hbrw1 hxlw1 hblw1
      go_wp2_with fail
      refine (HA1.out _ (by (repeat (first | exact Below.refl _ _ | refine Below.drew ?_ | refine Below.allocS ?_ _ | refine Below.step ?_ (by assumption) | refine Below.setCell ?_ (by simp <;> omega) _ | refine Below.drewN' ?_ _)))).mono ?_
      rintro e w3 ⟨E1, rfl, hbw3⟩
      have d0w3 : w3.cell? ⟨b1, 0, none⟩ = some (.string (str p0)) := keep_cell hbw3 (by simp [go_sem, *])
      have d1w3 : w3.cell? ⟨b1, 1, none⟩ = some (.string (str p1)) := keep_cell hbw3 (by simp [go_sem, *])
      have d2w3 : w3.cell? ⟨b1, 2, none⟩ = some (.string (str p2)) := keep_cell hbw3 (by simp [go_sem, *])
      have d3w3 : w3.cell? ⟨b1, 3, none⟩ = some (.string (str p3)) := keep_cell hbw3 (by simp [go_sem, *])
      have x0w3 : w3.cell? ⟨wr.heap.size, 0, none⟩ = some (.int .i64 (atoiN p0)) := keep_cell hbw3 (by simp [go_sem, *])
      have x1w3 : w3.cell? ⟨wr.heap.size, 1, none⟩ = some (.int .i64 0) := keep_cell hbw3 (by simp [go_sem, *])
      have x2w3 : w3.cell? ⟨wr.heap.size, 2, none⟩ = some (.int .i64 0) := keep_cell hbw3 (by simp [go_sem, *])
      have x3w3 : w3.cell? ⟨wr.heap.size, 3, none⟩ = some (.int .i64 0) := keep_cell hbw3 (by simp [go_sem, *])
      have f0w3 : w3.frozen? ⟨wr.heap.size, 0, none⟩ = false := keep_frozen hbw3 (by first | omega | (simp; omega) | simp) (by simp [go_sem, *])
      have f1w3 : w3.frozen? ⟨wr.heap.size, 1, none⟩ = false := keep_frozen hbw3 (by first | omega | (simp; omega) | simp) (by simp [go_sem, *])
      have f2w3 : w3.frozen? ⟨wr.heap.size, 2, none⟩ = false := keep_frozen hbw3 (by first | omega | (simp; omega) | simp) (by simp [go_sem, *])
      have f3w3 : w3.frozen? ⟨wr.heap.size, 3, none⟩ = false := keep_frozen hbw3 (by first | omega | (simp; omega) | simp) (by simp [go_sem, *])
      have hxlw3 : wr.heap.size < w3.heap.size := cell?_lt x0w3
      have hblw3 : b1 < w3.heap.size := cell?_lt d0w3
      have hbrw3 : Below wr.heap.size wr w3 := by (repeat (first | exact Below.refl _ _ | refine Below.drew ?_ | refine Below.allocS ?_ _ | refine Below.step ?_ (by assumption) | refine Below.setCell ?_ (by simp <;> omega) _ | refine Below.drewN' ?_ _))
      clear hbw3 d0w2 d1w2 d2w2 d3w2 x0w2 x1w2 x2w2 x3w2 f0w2 f1w2 f2w2 f3w2 hbrw2 hxlw2 hblw2
      go_wp2_with fail
      refine (HA2.out _ (by (repeat (first | exact Below.refl _ _ | refine Below.drew ?_ | refine Below.allocS ?_ _ | refine Below.step ?_ (by assumption) | refine Below.setCell ?_ (by simp <;> omega) _ | refine Below.drewN' ?_ _)))).mono ?_
      rintro e w4 ⟨E2, rfl, hbw4⟩
      have d0w4 : w4.cell? ⟨b1, 0, none⟩ = some (.string (str p0)) := keep_cell hbw4 (by simp [go_sem, *])
      have d1w4 : w4.cell? ⟨b1, 1, none⟩ = some (.string (str p1)) := keep_cell hbw4 (by simp [go_sem, *])
      have d2w4 : w4.cell? ⟨b1, 2, none⟩ = some (.string (str p2)) := keep_cell hbw4 (by simp [go_sem, *])
      have d3w4 : w4.cell? ⟨b1, 3, none⟩ = some (.string (str p3)) := keep_cell hbw4 (by simp [go_sem, *])
      have x0w4 : w4.cell? ⟨wr.heap.size, 0, none⟩ = some (.int .i64 (atoiN p0)) := keep_cell hbw4 (by simp [go_sem, *])
      have x1w4 : w4.cell? ⟨wr.heap.size, 1, none⟩ = some (.int .i64 (atoiN p1)) := keep_cell hbw4 (by simp [go_sem, *])
      have x2w4 : w4.cell? ⟨wr.heap.size, 2, none⟩ = some (.int .i64 0) := keep_cell hbw4 (by simp [go_sem, *])
      have x3w4 : w4.cell? ⟨wr.heap.size, 3, none⟩ = some (.int .i64 0) := keep_cell hbw4 (by simp [go_sem, *])
      have f0w4 : w4.frozen? ⟨wr.heap.size, 0, none⟩ = false := keep_frozen hbw4 (by first | omega | (simp; omega) | simp) (by simp [go_sem, *])
      have f1w4 : w4.frozen? ⟨wr.heap.size, 1, none⟩ = false := keep_frozen hbw4 (by first | omega | (simp; omega) | simp) (by simp [go_sem, *])
      have f2w4 : w4.frozen? ⟨wr.heap.size, 2, none⟩ = false := keep_frozen hbw4 (by first | omega | (simp; omega) | simp) (by simp [go_sem, *])
      have f3w4 : w4.frozen? ⟨wr.heap.size, 3, none⟩ = false := keep_frozen hbw4 (by first | omega | (simp; omega) | simp) (by simp [go_sem, *])
      have hxlw4 : wr.heap.size < w4.heap.size := cell?_lt x0w4
      have hblw4 : b1 < w4.heap.size := cell?_lt d0w4
      have hbrw4 : Below wr.heap.size wr w4 := by (repeat (first | exact Below.refl _ _ | refine Below.drew ?_ | refine Below.allocS ?_ _ | refine Below.step ?_ (by assumption) | refine Below.setCell ?_ (by simp <;> omega) _ | refine Below.drewN' ?_ _))
      clear hbw4 d0w3 d1w3 d2w3 d3w3 x0w3 x1w3 x2w3 x3w3 f0w3 f1w3 f2w3 f3w3 hbrw3 hxlw3 hblw3
      go_wp2_with fail
      refine (HA3.out _ (by (repeat (first | exact Below.refl _ _ | refine Below.drew ?_ | refine Below.allocS ?_ _ | refine Below.step ?_ (by assumption) | refine Below.setCell ?_ (by simp <;> omega) _ | refine Below.drewN' ?_ _)))).mono ?_
      rintro e w5 ⟨E3, rfl, hbw5⟩
      have d0w5 : w5.cell? ⟨b1, 0, none⟩ = some (.string (str p0)) := keep_cell hbw5 (by simp [go_sem, *])
      have d1w5 : w5.cell? ⟨b1, 1, none⟩ = some (.string (str p1)) := keep_cell hbw5 (by simp [go_sem, *])
      have d2w5 : w5.cell? ⟨b1, 2, none⟩ = some (.string (str p2)) := keep_cell hbw5 (by simp [go_sem, *])
      have d3w5 : w5.cell? ⟨b1, 3, none⟩ = some (.string (str p3)) := keep_cell hbw5 (by simp [go_sem, *])
      have x0w5 : w5.cell? ⟨wr.heap.size, 0, none⟩ = some (.int .i64 (atoiN p0)) := keep_cell hbw5 (by simp [go_sem, *])
      have x1w5 : w5.cell? ⟨wr.heap.size, 1, none⟩ = some (.int .i64 (atoiN p1)) := keep_cell hbw5 (by simp [go_sem, *])
      have x2w5 : w5.cell? ⟨wr.heap.size, 2, none⟩ = some (.int .i64 (atoiN p2)) := keep_cell hbw5 (by simp [go_sem, *])
      have x3w5 : w5.cell? ⟨wr.heap.size, 3, none⟩ = some (.int .i64 0) := keep_cell hbw5 (by simp [go_sem, *])
      have f0w5 : w5.frozen? ⟨wr.heap.size, 0, none⟩ = false := keep_frozen hbw5 (by first | omega | (simp; omega) | simp) (by simp [go_sem, *])
      have f1w5 : w5.frozen? ⟨wr.heap.size, 1, none⟩ = false := keep_frozen hbw5 (by first | omega | (simp; omega) | simp) (by simp [go_sem, *])
      have f2w5 : w5.frozen? ⟨wr.heap.size, 2, none⟩ = false := keep_frozen hbw5 (by first | omega | (simp; omega) | simp) (by simp [go_sem, *])
      have f3w5 : w5.frozen? ⟨wr.heap.size, 3, none⟩ = false := keep_frozen hbw5 (by first | omega | (simp; omega) | simp) (by simp [go_sem, *])
      have hxlw5 : wr.heap.size < w5.heap.size := cell?_lt x0w5
      have hblw5 : b1 < w5.heap.size := cell?_lt d0w5
      have hbrw5 : Below wr.heap.size wr w5 := by (repeat (first | exact Below.refl _ _ | refine Below.drew ?_ | refine Below.allocS ?_ _ | refine Below.step ?_ (by assumption) | refine Below.setCell ?_ (by simp <;> omega) _ | refine Below.drewN' ?_ _))
      clear hbw5 d0w4 d1w4 d2w4 d3w4 x0w4 x1w4 x2w4 x3w4 f0w4 f1w4 f2w4 f3w4 hbrw4 hxlw4 hblw4
      go_wp2
      go_meet
      exact ⟨by rw [HD.out]; simp [go_sem, *], by rw [HD.out]; simp [go_sem, *], by rw [HD.out]; simp [go_sem, *], by rw [HD.out]; simp [go_sem, *], by (repeat (first | exact Below.refl _ _ | refine Below.drew ?_ | refine Below.allocS ?_ _ | refine Below.step ?_ (by assumption) | refine Below.setCell ?_ (by simp <;> omega) _ | refine Below.drewN' ?_ _))⟩
    case rest =>
      obtain ⟨x0, x1, x2, x3, hbr⟩ := hcut
      have hI := dec_I H
      clear x0w1 x1w1 x2w1 x3w1 f0w1 f1w1 f2w1 f3w1 hbrw1 hxlw1 hblw1 HW HM hlw
      generalize hX : decG H = X at *
      have HX := Lib.hid hX
      clear hX
      have hcs := hbr.size
      have hxl : wr.heap.size < wc.heap.size := cell?_lt x0
      have hrow := ownsRow_keep HO.out hbr
      have hnb := row_ne HO.out (Or.inl (Nat.le_refl wr.heap.size))
      have HAPP := Lib.hid (app_keep appSh pre X pre.length rfl (by omega) (wc.alloc (.cells #[.int .i64 X.gx, .int .i64 X.gy, .int .i64 X.lo, .int .i64 X.hi] 76)) w.heap.size wc.heap.size _ (hrow.alloc _) (by simp; omega) (fun j u hu => by
        have := new_cells wc wc.heap.size (shE X) 76 rfl j u hu
        rwa [add_none] at this))
      have hbA : Below wc.heap.size wc (wc.alloc (.cells #[.int .i64 X.gx, .int .i64 X.gy, .int .i64 X.lo, .int .i64 X.hi] 76)) := Below.allocS (Below.refl _ _) _
      have HBA := Lib.hid hbA
      have HBW := Lib.hid (Below.step (Below.step hbw hbr) hbA)
      have HN := Lib.hid hnb
      have HXc := Lib.hid (And.intro x0 (And.intro x1 (And.intro x2 x3)))
      have HPush : Hid (∀ v5 w5, (w5.ownsRow w.heap.size 76 4 v5 (pre.length + 1) ((pre ++ [X]).flatMap shE) ∧ Below w.heap.size (wc.alloc (.cells #[.int .i64 X.gx, .int .i64 X.gy, .int .i64 X.lo, .int .i64 X.hi] 76)) w5 ∧ (wc.alloc (.cells #[.int .i64 X.gx, .int .i64 X.gy, .int .i64 X.lo, .int .i64 X.hi] 76)).grownBy w5 (Value.slice A pre.length cap).ownBlock) → ∃ A5 c5, v5 = .slice A5 (pre.length + 1) c5 ∧ w5.ownsRow w.heap.size 76 4 (.slice A5 (pre.length + 1) c5) (pre.length + 1) ((pre ++ [X]).flatMap shE) ∧ Below w.heap.size w w5 ∧
          w5.cell? ⟨wr.heap.size, 0, none⟩ = some (.int .i64 X.gx) ∧ w5.cell? ⟨wr.heap.size, 1, none⟩ = some (.int .i64 X.gy) ∧ w5.cell? ⟨wr.heap.size, 2, none⟩ = some (.int .i64 X.lo) ∧ w5.cell? ⟨wr.heap.size, 3, none⟩ = some (.int .i64 X.hi)) := Lib.hid (by
        rintro v5 w5 ⟨h1, h2, h3⟩
        obtain ⟨A5, c5, rfl, -, -⟩ := row_form h1
        obtain ⟨x0, x1, x2, x3⟩ := HXc.out
        exact ⟨A5, c5, rfl, h1, HBW.out.trans h2, gr_cell h3 HN.out (keep_cell HBA.out x0), gr_cell h3 HN.out (keep_cell HBA.out x1), gr_cell h3 HN.out (keep_cell HBA.out x2), gr_cell h3 HN.out (keep_cell HBA.out x3)⟩)
      clear hrow hnb hbA
      go_wp2_with (at_builtin; refine wpList_app rfl (.tmp 68) (.tmp 70) 32 rfl _ _ rfl rfl HAPP.out ?_; rintro v5 w5 hR; obtain ⟨A5, c5, rfl, hown5, hbw5, y0, y1, y2, y3⟩ := HPush.out v5 w5 hR; have HO5 := Lib.hid hown5; clear hR hown5 HAPP HPush HBW HBA HN HXc x0 x1 x2 x3 hbr)
      have hxl5 : wr.heap.size < w5.heap.size := cell?_lt y0
      have RD : RdL w5 w5.heap.size shE 4 A5 (pre ++ [X]) := RdL.of_own (n := pre.length + 1) (cap := c5) (fun _ => rfl) HO5.out (by simp)
      have hVS := rValidShots_c (pre ++ [X]) A5 c5 (by simp; omega)
      have hln : (pre ++ [X]).length = pre.length + 1 := by simp
      rw [hln] at hVS
      have HOrd := Lib.hid (fun W hb => hVS W (RD.step hb))
      rw [okG_shots (by simp)] at HOrd
      clear RD hVS hln
      cases ho : okG (pre ++ [X])
      · have HB := Lib.hid (HP.out.symm.trans (Fm.parse_bad ht htk (good_val (by rw [HHe.out, HX.out]; exact ho))))
        rw [ho] at HOrd
        clear ho HP
        go_wp2_with fail
        refine region_below (by kernel_rfl) (by kernel_rfl) ?_
        (first | go_big_quiet_skip | (go_big_quiet_want; refine quiet_val (v := ?_) ?_ ?_; rotate_left 1; (· (intro Wq hWq; obtain ⟨hWc, hWf⟩ := bcell hWq; go_simp; (try with_reducible rfl))); go_big_quiet_on; (try simp only [Act.put, List.setIfInBounds_toArray, List.set_cons_zero, List.set_cons_succ])))
        go_big_quiet_want; refine quiet_callB (f := 18) (args := ?_) (v := ?_) ?_ ?_ ?_; rotate_left 2
        · (intro Wq hWq; obtain ⟨hWc, hWf⟩ := bcell hWq; go_simp; (first | with_reducible rfl | exact ⟨rfl, rfl⟩))
        · (intro Wq hWq; exact HOrd.out Wq (by assumption))
        go_big_quiet_on; (try simp only [Act.put, List.setIfInBounds_toArray, List.set_cons_zero, List.set_cons_succ])
        (first | go_big_quiet_skip | (go_big_quiet_want; refine quiet_val (v := ?_) ?_ ?_; rotate_left 1; (· (intro Wq hWq; obtain ⟨hWc, hWf⟩ := bcell hWq; go_simp; (try with_reducible rfl))); go_big_quiet_on; (try simp only [Act.put, List.setIfInBounds_toArray, List.set_cons_zero, List.set_cons_succ])))
        (first | go_big_quiet_skip | (go_big_quiet_want; refine quiet_val (v := ?_) ?_ ?_; rotate_left 1; (· (intro Wq hWq; obtain ⟨hWc, hWf⟩ := bcell hWq; go_simp; (try with_reducible rfl))); go_big_quiet_on; (try simp only [Act.put, List.setIfInBounds_toArray, List.set_cons_zero, List.set_cons_succ])))
        (first | go_big_quiet_skip | (go_big_quiet_want; refine quiet_val (v := ?_) ?_ ?_; rotate_left 1; (· (intro Wq hWq; obtain ⟨hWc, hWf⟩ := bcell hWq; go_simp; (try with_reducible rfl))); go_big_quiet_on; (try simp only [Act.put, List.setIfInBounds_toArray, List.set_cons_zero, List.set_cons_succ])))
        (first | go_big_quiet_skip | (go_big_quiet_want; refine quiet_val (v := ?_) ?_ ?_; rotate_left 1; (· (intro Wq hWq; obtain ⟨hWc, hWf⟩ := bcell hWq; go_simp; (try with_reducible rfl))); go_big_quiet_on; (try simp only [Act.put, List.setIfInBounds_toArray, List.set_cons_zero, List.set_cons_succ])))
        (first | go_big_quiet_skip | (go_big_quiet_want; refine quiet_val (v := ?_) ?_ ?_; rotate_left 1; (· (intro Wq hWq; obtain ⟨hWc, hWf⟩ := bcell hWq; go_simp; (try with_reducible rfl))); go_big_quiet_on; (try simp only [Act.put, List.setIfInBounds_toArray, List.set_cons_zero, List.set_cons_succ])))
        (first | go_big_quiet_skip | (go_big_quiet_want; refine quiet_val (v := ?_) ?_ ?_; rotate_left 1; (· (intro Wq hWq; obtain ⟨hWc, hWf⟩ := bcell hWq; go_simp; (try with_reducible rfl))); go_big_quiet_on; (try simp only [Act.put, List.setIfInBounds_toArray, List.set_cons_zero, List.set_cons_succ])))
        (first | go_big_quiet_skip | (go_big_quiet_want; refine quiet_val (v := ?_) ?_ ?_; rotate_left 1; (· (intro Wq hWq; obtain ⟨hWc, hWf⟩ := bcell hWq; go_simp; (try with_reducible rfl))); go_big_quiet_on; (try simp only [Act.put, List.setIfInBounds_toArray, List.set_cons_zero, List.set_cons_succ])))
        (first | go_big_quiet_skip | (go_big_quiet_want; refine quiet_val (v := ?_) ?_ ?_; rotate_left 1; (· (intro Wq hWq; obtain ⟨hWc, hWf⟩ := bcell hWq; go_simp; (try with_reducible rfl))); go_big_quiet_on; (try simp only [Act.put, List.setIfInBounds_toArray, List.set_cons_zero, List.set_cons_succ])))
        (first | go_big_quiet_skip | (go_big_quiet_want; refine quiet_val (v := ?_) ?_ ?_; rotate_left 1; (· (intro Wq hWq; obtain ⟨hWc, hWf⟩ := bcell hWq; go_simp; (try with_reducible rfl))); go_big_quiet_on; (try simp only [Act.put, List.setIfInBounds_toArray, List.set_cons_zero, List.set_cons_succ])))
        (first | go_big_quiet_skip | (go_big_quiet_want; refine quiet_val (v := ?_) ?_ ?_; rotate_left 1; (· (intro Wq hWq; obtain ⟨hWc, hWf⟩ := bcell hWq; go_simp; (try with_reducible rfl))); go_big_quiet_on; (try simp only [Act.put, List.setIfInBounds_toArray, List.set_cons_zero, List.set_cons_succ])))
        refine wpQuiet_nil ?_; intro V hbV
        go_wp2
        refine bodyPost_ret (v := .tuple #[.slice none 0 0, .int .i64 (pre.length : Nat), .int .i64 2]) (by simp [results, Tryd.results14, go_sem, *] <;> (repeat' apply And.intro) <;> rfl) rfl ?_
        exact HB.out ▸ Parsed.err (by (repeat (first | exact Below.refl _ _ | refine Below.drew ?_ | refine Below.allocS ?_ _ | refine Below.step ?_ (by assumption) | refine Below.setCell ?_ (by simp <;> omega) _ | refine Below.drewN' ?_ _)))
      rw [ho] at HOrd
      have HOk := Lib.hid ho
      have HLn := Lib.hid (fun W hb => rline_c X hI W (HE.out W hb))
      clear ho hI
      have hsum : IntKind.i64.wrap ((H.length : Int) + 1) = ((H.length + 1 : Nat) : Int) := by
        have h : IntKind.i64.wrap ((H.length : Int) + 1) = (H.length : Int) + 1 := IntWalk.i64_in _ (by omega)
        rw [h]; omega
      have hn1 : (0 : Int) ≤ (H.length : Int) + 1 := by omega
      have hn2 : (H.length : Int) + 1 ≤ (t.length : Int) := by omega
      have hex2 : (str t).extract 0 (H.length + 1) = str (H ++ [10]) := extract_app1 HH.out
      cases hq : ((str (fmG.line X)).toList == (str (H ++ [10])).toList)
      · have hno : bodyG X ≠ H := fun e => by
          have : (str (fmG.line X)) = str (H ++ [10]) := congrArg str (show bodyG X ++ [10] = H ++ [10] by rw [e])
          rw [this] at hq; simp at hq
        have HB := Lib.hid (HP.out.symm.trans (Fm.parse_bad ht htk (good_body (by rw [HHe.out, HX.out]; exact hno))))
        clear hno HP
        go_wp2_with fail
        refine region_below (by kernel_rfl) (by kernel_rfl) ?_
        (first | go_big_quiet_skip | (go_big_quiet_want; refine quiet_val (v := ?_) ?_ ?_; rotate_left 1; (· (intro Wq hWq; obtain ⟨hWc, hWf⟩ := bcell hWq; go_simp; (try with_reducible rfl))); go_big_quiet_on; (try simp only [Act.put, List.setIfInBounds_toArray, List.set_cons_zero, List.set_cons_succ])))
        go_big_quiet_want; refine quiet_callB (f := 18) (args := ?_) (v := ?_) ?_ ?_ ?_; rotate_left 2
        · (intro Wq hWq; obtain ⟨hWc, hWf⟩ := bcell hWq; go_simp; (first | with_reducible rfl | exact ⟨rfl, rfl⟩))
        · (intro Wq hWq; exact HOrd.out Wq (by assumption))
        go_big_quiet_on; (try simp only [Act.put, List.setIfInBounds_toArray, List.set_cons_zero, List.set_cons_succ])
        (first | go_big_quiet_skip | (go_big_quiet_want; refine quiet_val (v := ?_) ?_ ?_; rotate_left 1; (· (intro Wq hWq; obtain ⟨hWc, hWf⟩ := bcell hWq; go_simp; (try with_reducible rfl))); go_big_quiet_on; (try simp only [Act.put, List.setIfInBounds_toArray, List.set_cons_zero, List.set_cons_succ])))
        (first | go_big_quiet_skip | (go_big_quiet_want; refine quiet_val (v := ?_) ?_ ?_; rotate_left 1; (· (intro Wq hWq; obtain ⟨hWc, hWf⟩ := bcell hWq; go_simp; (try with_reducible rfl))); go_big_quiet_on; (try simp only [Act.put, List.setIfInBounds_toArray, List.set_cons_zero, List.set_cons_succ])))
        (first | go_big_quiet_skip | (go_big_quiet_want; refine quiet_val (v := ?_) ?_ ?_; rotate_left 1; (· (intro Wq hWq; obtain ⟨hWc, hWf⟩ := bcell hWq; go_simp; (try with_reducible rfl))); go_big_quiet_on; (try simp only [Act.put, List.setIfInBounds_toArray, List.set_cons_zero, List.set_cons_succ])))
        go_big_quiet_want; refine quiet_callB (f := 39) (args := ?_) (v := ?_) ?_ ?_ ?_; rotate_left 2
        · (intro Wq hWq; obtain ⟨hWc, hWf⟩ := bcell hWq; go_simp; (first | with_reducible rfl | exact ⟨rfl, rfl⟩))
        · (intro Wq hWq; exact HLn.out _ (Below.step hbw5 hWq))
        go_big_quiet_on; (try simp only [Act.put, List.setIfInBounds_toArray, List.set_cons_zero, List.set_cons_succ])
        (first | go_big_quiet_skip | (go_big_quiet_want; refine quiet_val (v := ?_) ?_ ?_; rotate_left 1; (· (intro Wq hWq; obtain ⟨hWc, hWf⟩ := bcell hWq; go_simp; (try with_reducible rfl))); go_big_quiet_on; (try simp only [Act.put, List.setIfInBounds_toArray, List.set_cons_zero, List.set_cons_succ])))
        (first | go_big_quiet_skip | (go_big_quiet_want; refine quiet_val (v := ?_) ?_ ?_; rotate_left 1; (· (intro Wq hWq; obtain ⟨hWc, hWf⟩ := bcell hWq; go_simp; (try with_reducible rfl))); go_big_quiet_on; (try simp only [Act.put, List.setIfInBounds_toArray, List.set_cons_zero, List.set_cons_succ])))
        (first | go_big_quiet_skip | (go_big_quiet_want; refine quiet_val (v := ?_) ?_ ?_; rotate_left 1; (· (intro Wq hWq; obtain ⟨hWc, hWf⟩ := bcell hWq; go_simp; (try with_reducible rfl))); go_big_quiet_on; (try simp only [Act.put, List.setIfInBounds_toArray, List.set_cons_zero, List.set_cons_succ])))
        (first | go_big_quiet_skip | (go_big_quiet_want; refine quiet_val (v := ?_) ?_ ?_; rotate_left 1; (· (intro Wq hWq; obtain ⟨hWc, hWf⟩ := bcell hWq; go_simp; (try with_reducible rfl))); go_big_quiet_on; (try simp only [Act.put, List.setIfInBounds_toArray, List.set_cons_zero, List.set_cons_succ])))
        (first | go_big_quiet_skip | (go_big_quiet_want; refine quiet_val (v := ?_) ?_ ?_; rotate_left 1; (· (intro Wq hWq; obtain ⟨hWc, hWf⟩ := bcell hWq; go_simp; (try with_reducible rfl))); go_big_quiet_on; (try simp only [Act.put, List.setIfInBounds_toArray, List.set_cons_zero, List.set_cons_succ])))
        (first | go_big_quiet_skip | (go_big_quiet_want; refine quiet_val (v := ?_) ?_ ?_; rotate_left 1; (· (intro Wq hWq; obtain ⟨hWc, hWf⟩ := bcell hWq; go_simp; (try with_reducible rfl))); go_big_quiet_on; (try simp only [Act.put, List.setIfInBounds_toArray, List.set_cons_zero, List.set_cons_succ])))
        refine wpQuiet_nil ?_; intro V hbV
        go_wp2
        refine bodyPost_ret (v := .tuple #[.slice none 0 0, .int .i64 (pre.length : Nat), .int .i64 2]) (by simp [results, Tryd.results14, go_sem, *] <;> (repeat' apply And.intro) <;> rfl) rfl ?_
        exact HB.out ▸ Parsed.err (by (repeat (first | exact Below.refl _ _ | refine Below.drew ?_ | refine Below.allocS ?_ _ | refine Below.step ?_ (by assumption) | refine Below.setCell ?_ (by simp <;> omega) _ | refine Below.drewN' ?_ _)))
      · have hyes : bodyG X = H := by
          have h1 := eq_of_beq hq
          rw [ByteArray.toList_eq, ByteArray.toList_eq, str_data, str_data] at h1
          exact List.append_cancel_right h1
        obtain ⟨k', hk', hpe⟩ := Fm.parse_ok ht htk (Fm.good_of (F := fmG) (l := pre) (t_mem HH.out) (show bodyG (decG (headL t)) = headL t by rw [HHe.out, HX.out]; exact hyes) (show okG (pre ++ [decG (headL t)]) = true by rw [HHe.out, HX.out]; exact HOk.out))
        have hdx : fmG.dec (headL t) = X := by rw [HHe.out]; exact HX.out
        rw [hdx] at hpe
        have HPe := Lib.hid (hpe.symm.trans HP.out)
        have hrl := rest_len ht
        clear hyes hpe hdx HP
        go_wp2_with fail
        refine region_below (by kernel_rfl) (by kernel_rfl) ?_
        (first | go_big_quiet_skip | (go_big_quiet_want; refine quiet_val (v := ?_) ?_ ?_; rotate_left 1; (· (intro Wq hWq; obtain ⟨hWc, hWf⟩ := bcell hWq; go_simp; (try with_reducible rfl))); go_big_quiet_on; (try simp only [Act.put, List.setIfInBounds_toArray, List.set_cons_zero, List.set_cons_succ])))
        go_big_quiet_want; refine quiet_callB (f := 18) (args := ?_) (v := ?_) ?_ ?_ ?_; rotate_left 2
        · (intro Wq hWq; obtain ⟨hWc, hWf⟩ := bcell hWq; go_simp; (first | with_reducible rfl | exact ⟨rfl, rfl⟩))
        · (intro Wq hWq; exact HOrd.out Wq (by assumption))
        go_big_quiet_on; (try simp only [Act.put, List.setIfInBounds_toArray, List.set_cons_zero, List.set_cons_succ])
        (first | go_big_quiet_skip | (go_big_quiet_want; refine quiet_val (v := ?_) ?_ ?_; rotate_left 1; (· (intro Wq hWq; obtain ⟨hWc, hWf⟩ := bcell hWq; go_simp; (try with_reducible rfl))); go_big_quiet_on; (try simp only [Act.put, List.setIfInBounds_toArray, List.set_cons_zero, List.set_cons_succ])))
        (first | go_big_quiet_skip | (go_big_quiet_want; refine quiet_val (v := ?_) ?_ ?_; rotate_left 1; (· (intro Wq hWq; obtain ⟨hWc, hWf⟩ := bcell hWq; go_simp; (try with_reducible rfl))); go_big_quiet_on; (try simp only [Act.put, List.setIfInBounds_toArray, List.set_cons_zero, List.set_cons_succ])))
        (first | go_big_quiet_skip | (go_big_quiet_want; refine quiet_val (v := ?_) ?_ ?_; rotate_left 1; (· (intro Wq hWq; obtain ⟨hWc, hWf⟩ := bcell hWq; go_simp; (try with_reducible rfl))); go_big_quiet_on; (try simp only [Act.put, List.setIfInBounds_toArray, List.set_cons_zero, List.set_cons_succ])))
        go_big_quiet_want; refine quiet_callB (f := 39) (args := ?_) (v := ?_) ?_ ?_ ?_; rotate_left 2
        · (intro Wq hWq; obtain ⟨hWc, hWf⟩ := bcell hWq; go_simp; (first | with_reducible rfl | exact ⟨rfl, rfl⟩))
        · (intro Wq hWq; exact HLn.out _ (Below.step hbw5 hWq))
        go_big_quiet_on; (try simp only [Act.put, List.setIfInBounds_toArray, List.set_cons_zero, List.set_cons_succ])
        (first | go_big_quiet_skip | (go_big_quiet_want; refine quiet_val (v := ?_) ?_ ?_; rotate_left 1; (· (intro Wq hWq; obtain ⟨hWc, hWf⟩ := bcell hWq; go_simp; (try with_reducible rfl))); go_big_quiet_on; (try simp only [Act.put, List.setIfInBounds_toArray, List.set_cons_zero, List.set_cons_succ])))
        (first | go_big_quiet_skip | (go_big_quiet_want; refine quiet_val (v := ?_) ?_ ?_; rotate_left 1; (· (intro Wq hWq; obtain ⟨hWc, hWf⟩ := bcell hWq; go_simp; (try with_reducible rfl))); go_big_quiet_on; (try simp only [Act.put, List.setIfInBounds_toArray, List.set_cons_zero, List.set_cons_succ])))
        (first | go_big_quiet_skip | (go_big_quiet_want; refine quiet_val (v := ?_) ?_ ?_; rotate_left 1; (· (intro Wq hWq; obtain ⟨hWc, hWf⟩ := bcell hWq; go_simp; (try with_reducible rfl))); go_big_quiet_on; (try simp only [Act.put, List.setIfInBounds_toArray, List.set_cons_zero, List.set_cons_succ])))
        (first | go_big_quiet_skip | (go_big_quiet_want; refine quiet_val (v := ?_) ?_ ?_; rotate_left 1; (· (intro Wq hWq; obtain ⟨hWc, hWf⟩ := bcell hWq; go_simp; (try with_reducible rfl))); go_big_quiet_on; (try simp only [Act.put, List.setIfInBounds_toArray, List.set_cons_zero, List.set_cons_succ])))
        (first | go_big_quiet_skip | (go_big_quiet_want; refine quiet_val (v := ?_) ?_ ?_; rotate_left 1; (· (intro Wq hWq; obtain ⟨hWc, hWf⟩ := bcell hWq; go_simp; (try with_reducible rfl))); go_big_quiet_on; (try simp only [Act.put, List.setIfInBounds_toArray, List.set_cons_zero, List.set_cons_succ])))
        (first | go_big_quiet_skip | (go_big_quiet_want; refine quiet_val (v := ?_) ?_ ?_; rotate_left 1; (· (intro Wq hWq; obtain ⟨hWc, hWf⟩ := bcell hWq; go_simp; (try with_reducible rfl))); go_big_quiet_on; (try simp only [Act.put, List.setIfInBounds_toArray, List.set_cons_zero, List.set_cons_succ])))
        refine wpQuiet_nil ?_; intro V hbV
        have hR2 := ownsRow_keep HO5.out hbV
        rw [← show (pre ++ [X]).length = pre.length + 1 by simp] at hR2
        have HR2 := Lib.hid hR2
        clear hR2 HO5
        have hex3 : (str t).extract (H.length + 1) t.length = str (restL t) := extract_app2 HH.out
        go_wp2
        go_roundw
        case rel => exact ⟨pre ++ [X], restL t, k', rfl, by simp, by simpa using HR2.out, HOk.out, hk', by omega, HPe.out, by (repeat (first | exact Below.refl _ _ | refine Below.drew ?_ | refine Below.allocS ?_ _ | refine Below.step ?_ (by assumption) | refine Below.setCell ?_ (by simp <;> omega) _ | refine Below.drewN' ?_ _))⟩
        case measure => simp [sLen, size_str]; omega
end Go.Proofs.YtimbdnngeoccdaaDoor
