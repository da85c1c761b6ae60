/-
  Parse of ball.
-/
import Derived.Test.YtimbdnngeoccdaaGreatDoorTb7
namespace Go.Proofs.YtimbdnngeoccdaaGreatDoor
open Go.RowKit Go.Deep
set_option linter.unusedVariables false
set_option linter.unusedSimpArgs false
theorem cut_l (l : List UInt8) (hs : l.length ≤ 70000) (w : World) (he : Env w) : Calls Tryz.prog 24 #[.string (str l), .string ⟨#[10]⟩] w fun e w' => ∃ b, e = .returned (.tuple #[.string (str (headL l)), .string (str (restL l)), .bool b]) ∧ Below w.heap.size w w' := by
  refine (cut_c (str l) 10 (by rw [size_str]; omega) w he).mono ?_
  rintro e w' ⟨rfl, hb⟩
  rw [str_data]
  exact ⟨_, rfl, hb⟩
theorem hasPrefix_l (l p : List UInt8) (w : World) : Calls Tryz.prog 27 #[.string (str l), .string (str p)] w fun e w' => e = .returned (.bool (Lib.hasPrefix l p)) ∧ w = w' := by
  refine (Tryz.strings_HasPrefix (str l) (str p) w).mono ?_
  rintro e w' ⟨rfl, rfl⟩
  exact ⟨by rw [str_data, str_data], rfl⟩
theorem empty_str (l : List UInt8) : (str l).toList.isEmpty = l.isEmpty := by rw [ByteArray.toList_eq, str_data]
theorem fmtE_none {l : List Ev} (h : ordB l = false) : fmtE l = [] := by unfold fmtE; rw [h]; rfl
theorem fmtE_some {l : List Ev} (h : ordB l = true) : fmtE l = textE l := by unfold fmtE; rw [if_pos h]
theorem head_le (t : List UInt8) : (headL t).length ≤ t.length := by
  rcases head_cases t with ⟨_, h, _⟩ | ⟨_, h, _⟩
  · rw [h]; omega
  · conv => rhs; rw [h]
    rw [List.length_append]; omega
def xc (k j : Nat) (v : Int) : Int := if j < k then v else 0
theorem xc_lt {k j : Nat} {v : Int} (h : j < k) : xc k j v = v := by unfold xc; rw [if_pos h]
theorem xc_ge {k j : Nat} {v : Int} (h : k ≤ j) : xc k j v = 0 := by unfold xc; rw [if_neg (by omega)]
set_option maxHeartbeats 4000000 in
set_option maxRecDepth 100000 in
theorem Parse_c (s : List UInt8) (hs : s.length ≤ 9223372036854775807) (w : World) (hE : Env w) :
    Calls Tryz.prog 7 #[.string (str s)] w (Parsed w (parseR s)) := by
  by_cases hlen : s.length ≤ 65536
  case neg =>
    have e1 : parseR s = ([], 0, 3) := by unfold parseR; rw [if_neg hlen]
    have hsz : (str s).size = s.length := size_str s
    rw [e1]
    have hd : decide (((str s).size : Int) > 65536) = true := decide_eq_true (by omega)
    clear e1 hE
    generalize str s = S at *
    go_enter Tryz.func7, Tryz.ntmps7
    go_wp2
    refine bodyPost_ret (v := .tuple #[.slice none 0 0, .int .i64 0, .int .i64 3]) (by simp [results, Tryz.results7, go_sem, *] <;> (repeat' apply And.intro) <;> rfl) rfl ?_
    exact Parsed.err (by (repeat (first | (with_reducible exact Below.refl _ _) | (with_reducible assumption) | (with_reducible refine Below.drew ?_) | (with_reducible refine Below.allocS ?_ _) | (with_reducible refine Below.setCell ?_ ?_ _) | (with_reducible refine Below.step ?_ (by assumption)) | (with_reducible refine Below.drewN' ?_ _))); (try any_goals (first | (with_reducible assumption) | (simp; done) | (simp; omega) | omega)))
  have e1 : parseR s = parseE s.length [] s := by unfold parseR; rw [if_pos hlen]
  rw [e1]
  obtain ⟨R, hR⟩ : ∃ R, parseE s.length [] s = R := ⟨_, rfl⟩
  rw [hR]
  have hsz : (str s).size = s.length := size_str s
  have hd : decide (((str s).size : Int) > 65536) = false := decide_eq_false (by omega)
  have HE := Lib.hid (fun W (hb : Below w.heap.size w W) => hE.step hb)
  have HR := Lib.hid hR
  clear e1 hR hE
  go_enter Tryz.func7, Tryz.ntmps7
  go_wp2
  clear hsz hd
  go_loopw [0, 2, 3] (fun sv lv nv wr => ∃ (pre : List Ev) (t : List UInt8) (k : Nat), sv = .string (str t) ∧ nv = .int .i64 (pre.length : Nat) ∧ wr.ownsRow w.heap.size 44 3 lv pre.length (pre.flatMap evE) ∧ pre.length ≤ 100 ∧ t.length ≤ k ∧ t.length ≤ 65536 ∧ parseE k pre t = R ∧ Below w.heap.size w wr) (fun sv _ _ _ => sLen sv)
  case atStart => exact ⟨[], s, s.length, rfl, rfl, World.ownsRow_nil _ _ _ _, by decide, Nat.le_refl _, hlen, HR.out, by (repeat (first | (with_reducible exact Below.refl _ _) | (with_reducible assumption) | (with_reducible refine Below.drew ?_) | (with_reducible refine Below.allocS ?_ _) | (with_reducible refine Below.setCell ?_ ?_ _) | (with_reducible refine Below.step ?_ (by assumption)) | (with_reducible refine Below.drewN' ?_ _))); (try any_goals (first | (with_reducible assumption) | (simp; done) | (simp; omega) | omega))⟩
  case round =>
    obtain ⟨pre, t, k, rfl, rfl, hrow, hpl, htk, ht6, hpe, hbw⟩ := hrel
    clear HR
    have HO := Lib.hid hrow
    have HP := Lib.hid hpe
    obtain ⟨A, cap, rfl, -, -⟩ := row_form hrow
    clear hrow hpe
    by_cases ht : t = []
    · subst ht
      have HP2 := Lib.hid ((parseE_nil k pre).symm.trans HP.out)
      have hem : (str []).toList.isEmpty = true := by rw [ByteArray.toList_eq]; rfl
      clear HP
      go_wp2
      refine bodyPost_ret (v := .tuple #[.slice A pre.length cap, .int .i64 0, .int .i64 0]) (by simp [results, Tryz.results7, go_sem, *] <;> (repeat' apply And.intro) <;> rfl) rfl ?_
      exact Parsed.ok HP2.out HO.out hpl hbw
    have hem : (str t).toList.isEmpty = false := by
      rw [ByteArray.toList_eq, str_data]
      cases t with
      | nil => exact absurd rfl ht
      | cons a b => rfl
    have hwr := hbw.size
    have HCut := Lib.hid (fun W hb => cut_l t (by omega) W (HE.out W hb))
    have hhl := head_le t
    have HSp := Lib.hid (fun W hb => split_l (headL t) (by omega) W (HE.out W hb))
    generalize hH : headL t = H at *
    have HHe := Lib.hid hH
    clear hH
    go_wp2_with fail
    refine (HCut.out _ hbw).mono ?_
    rintro e w0 ⟨b0, rfl, hb0⟩
    go_wp2_with fail
    refine (HSp.out _ (Below.step hbw hb0)).mono ?_
    rintro e w1 ⟨b1, rfl, hwd, hb1, hblw1, hbel1⟩
    have hbr1 : Below wr.heap.size wr w1 := Below.step hb0 hbel1
    have HW := Lib.hid hwd
    clear hwd hb1 hbel1 hb0 HSp HCut
    by_cases h3 : (pieces 32 H).length = 3
    case neg =>
      have HB := Lib.hid (HP.out.symm.trans (parseE_bad ht htk (okE_words (by rw [HHe.out]; exact h3))))
      have h3' : (((pieces 32 H).length : Int) == 3) = false := by rw [beq_eq_false_iff_ne]; omega
      have h3'' : (((pieces 32 H).length : Int) != 3) = true := by simp; omega
      clear HW HP
      generalize (pieces 32 H).length = m at *
      go_wp2
      refine bodyPost_ret (v := .tuple #[.slice none 0 0, .int .i64 (pre.length : Nat), .int .i64 2]) (by simp [results, Tryz.results7, go_sem, *] <;> (repeat' apply And.intro) <;> rfl) rfl ?_
      exact HB.out ▸ Parsed.err (by (repeat (first | exact Below.refl _ _ | refine Below.drew ?_ | refine Below.allocS ?_ _ | refine Below.step ?_ (by assumption) | refine Below.setCell ?_ (by simp <;> omega) _ | refine Below.drewN' ?_ _)))
    obtain ⟨p, q, r, hpq⟩ : ∃ p q r, pieces 32 H = [p, q, r] := by
      match pieces 32 H, h3 with
      | [p, q, r], _ => exact ⟨p, q, r, rfl⟩
    have hpl3 := pieces_mem_len 32 H
    rw [hpq] at hpl3 HW ⊢
    have HD := Lib.hid (show decE H = ⟨atoiN p, atoiN q, atoiN r⟩ by unfold decE; rw [hpq])
    have HA1 := Lib.hid (fun W hb => atoi_l p (by have := hpl3 p (by simp); omega) W (HE.out W hb))
    have HA2 := Lib.hid (fun W hb => atoi_l q (by have := hpl3 q (by simp); omega) W (HE.out W hb))
    have HA3 := Lib.hid (fun W hb => atoi_l r (by have := hpl3 r (by simp); omega) W (HE.out W hb))
    have d0 : w1.cell? ⟨b1, 0, none⟩ = some (.string (str p)) := HW.out 0 p rfl
    have d1 : w1.cell? ⟨b1, 1, none⟩ = some (.string (str q)) := HW.out 1 q rfl
    have d2 : w1.cell? ⟨b1, 2, none⟩ = some (.string (str r)) := HW.out 2 r rfl
    clear hpq h3 hpl3 HW
    have hw1 := hbr1.size
    have hne : b1 ≠ w1.heap.size := by omega
    have hne2 : b1 ≠ w1.heap.size + 1 := by omega
    obtain ⟨wo, hwo⟩ : ∃ wo, wo = wr := ⟨wr, rfl⟩
    subst hwo
    have hl3 : ([p, q, r] : List (List UInt8)).length = 3 := rfl
    rw [hl3]
    clear hl3
    go_wp2
    go_loopw [35] (fun i W => ∃ k : Nat, k ≤ 3 ∧ i = .int .i64 k ∧ (W.cell? ⟨w1.heap.size, 0, none⟩ = some (.int .i64 (xc k 0 (atoiN p))) ∧ W.cell? ⟨w1.heap.size, 1, none⟩ = some (.int .i64 (xc k 1 (atoiN q))) ∧ W.cell? ⟨w1.heap.size, 2, none⟩ = some (.int .i64 (xc k 2 (atoiN r)))) ∧
      (W.frozen? ⟨w1.heap.size, 0, none⟩ = false ∧ W.frozen? ⟨w1.heap.size, 1, none⟩ = false ∧ W.frozen? ⟨w1.heap.size, 2, none⟩ = false) ∧
      (W.cell? ⟨b1, 0, none⟩ = some (.string (str p)) ∧ W.cell? ⟨b1, 1, none⟩ = some (.string (str q)) ∧ W.cell? ⟨b1, 2, none⟩ = some (.string (str r))) ∧
      (W.cell? ⟨w1.heap.size + 1, 0, none⟩ = some (.pointer (some ⟨w1.heap.size, 0, none⟩)) ∧ W.cell? ⟨w1.heap.size + 1, 1, none⟩ = some (.pointer (some ⟨w1.heap.size, 1, none⟩)) ∧ W.cell? ⟨w1.heap.size + 1, 2, none⟩ = some (.pointer (some ⟨w1.heap.size, 2, none⟩))) ∧ Below wo.heap.size wo W) (fun i _ => 3 - (intOf i).toNat)
    case atStart => exact ⟨0, by omega, rfl, ⟨by simp [go_sem, xc], by simp [go_sem, xc], by simp [go_sem, xc]⟩, ⟨by simp [go_sem], by simp [go_sem], by simp [go_sem]⟩, ⟨by simp [go_sem, *], by simp [go_sem, *], by simp [go_sem, *]⟩, ⟨by simp [go_sem], by simp [go_sem], by simp [go_sem]⟩, by (repeat (first | exact Below.refl _ _ | refine Below.drew ?_ | refine Below.allocS ?_ _ | refine Below.step ?_ (by assumption) | refine Below.setCell ?_ (by simp <;> omega) _ | refine Below.drewN' ?_ _))⟩
    case round =>
      obtain ⟨k, hk, rfl, ⟨x0, x1, x2⟩, ⟨f0, f1, f2⟩, ⟨e0, e1, e2⟩, ⟨p0, p1, p2⟩, hbk⟩ := hrel
      have hk4 : k = 0 ∨ k = 1 ∨ k = 2 ∨ k = 3 := by omega
      rcases hk4 with rfl | rfl | rfl | rfl
      · simp [xc] at x0 x1 x2
        have x0' : wr.cell? ⟨w1.heap.size, 0, none⟩ = some (.int .i64 0) := x0
        have x1' : wr.cell? ⟨w1.heap.size, 1, none⟩ = some (.int .i64 0) := x1
        have x2' : wr.cell? ⟨w1.heap.size, 2, none⟩ = some (.int .i64 0) := x2
        clear x0 x1 x2
        go_wp2_with fail
        refine (HA1.out _ (Below.step hbw hbk)).mono ?_
        rintro e W2 ⟨E, rfl, hb2⟩
        have x0 : W2.cell? ⟨w1.heap.size, 0, none⟩ = some (.int .i64 0) := keep_cell hb2 x0'
        have x1 : W2.cell? ⟨w1.heap.size, 1, none⟩ = some (.int .i64 0) := keep_cell hb2 x1'
        have x2 : W2.cell? ⟨w1.heap.size, 2, none⟩ = some (.int .i64 0) := keep_cell hb2 x2'
        have g0 : W2.frozen? ⟨w1.heap.size, 0, none⟩ = false := keep_frozen hb2 (cell?_lt x0') f0
        have g1 : W2.frozen? ⟨w1.heap.size, 1, none⟩ = false := keep_frozen hb2 (cell?_lt x0') f1
        have g2 : W2.frozen? ⟨w1.heap.size, 2, none⟩ = false := keep_frozen hb2 (cell?_lt x0') f2
        have j0 := keep_cell hb2 e0
        have j1 := keep_cell hb2 e1
        have j2 := keep_cell hb2 e2
        have l0 := keep_cell hb2 p0
        have l1 := keep_cell hb2 p1
        have l2 := keep_cell hb2 p2
        have hbk2 : Below wo.heap.size wo W2 := Below.step hbk hb2
        clear x0' x1' x2' f0 f1 f2 e0 e1 e2 p0 p1 p2 hbk hb2
        go_wp2
        go_roundw
        case rel => exact ⟨1, by omega, by rfl, ⟨by simp [go_sem, xc, *], by simp [go_sem, xc, *], by simp [go_sem, xc, *]⟩, ⟨by simp [go_sem, *], by simp [go_sem, *], by simp [go_sem, *]⟩, ⟨by simp [go_sem, *], by simp [go_sem, *], by simp [go_sem, *]⟩, ⟨by simp [go_sem, *], by simp [go_sem, *], by simp [go_sem, *]⟩, by (repeat (first | exact Below.refl _ _ | refine Below.drew ?_ | refine Below.allocS ?_ _ | refine Below.step ?_ (by assumption) | refine Below.setCell ?_ (by simp <;> omega) _ | refine Below.drewN' ?_ _))⟩
        case measure => simp [intOf]
      · simp [xc] at x0 x1 x2
        have x0' : wr.cell? ⟨w1.heap.size, 0, none⟩ = some (.int .i64 (atoiN p)) := x0
        have x1' : wr.cell? ⟨w1.heap.size, 1, none⟩ = some (.int .i64 0) := x1
        have x2' : wr.cell? ⟨w1.heap.size, 2, none⟩ = some (.int .i64 0) := x2
        clear x0 x1 x2
        go_wp2_with fail
        refine (HA2.out _ (Below.step hbw hbk)).mono ?_
        rintro e W2 ⟨E, rfl, hb2⟩
        have x0 : W2.cell? ⟨w1.heap.size, 0, none⟩ = some (.int .i64 (atoiN p)) := keep_cell hb2 x0'
        have x1 : W2.cell? ⟨w1.heap.size, 1, none⟩ = some (.int .i64 0) := keep_cell hb2 x1'
        have x2 : W2.cell? ⟨w1.heap.size, 2, none⟩ = some (.int .i64 0) := keep_cell hb2 x2'
        have g0 : W2.frozen? ⟨w1.heap.size, 0, none⟩ = false := keep_frozen hb2 (cell?_lt x0') f0
        have g1 : W2.frozen? ⟨w1.heap.size, 1, none⟩ = false := keep_frozen hb2 (cell?_lt x0') f1
        have g2 : W2.frozen? ⟨w1.heap.size, 2, none⟩ = false := keep_frozen hb2 (cell?_lt x0') f2
        have j0 := keep_cell hb2 e0
        have j1 := keep_cell hb2 e1
        have j2 := keep_cell hb2 e2
        have l0 := keep_cell hb2 p0
        have l1 := keep_cell hb2 p1
        have l2 := keep_cell hb2 p2
        have hbk2 : Below wo.heap.size wo W2 := Below.step hbk hb2
        clear x0' x1' x2' f0 f1 f2 e0 e1 e2 p0 p1 p2 hbk hb2
        go_wp2
        go_roundw
        case rel => exact ⟨2, by omega, by rfl, ⟨by simp [go_sem, xc, *], by simp [go_sem, xc, *], by simp [go_sem, xc, *]⟩, ⟨by simp [go_sem, *], by simp [go_sem, *], by simp [go_sem, *]⟩, ⟨by simp [go_sem, *], by simp [go_sem, *], by simp [go_sem, *]⟩, ⟨by simp [go_sem, *], by simp [go_sem, *], by simp [go_sem, *]⟩, by (repeat (first | exact Below.refl _ _ | refine Below.drew ?_ | refine Below.allocS ?_ _ | refine Below.step ?_ (by assumption) | refine Below.setCell ?_ (by simp <;> omega) _ | refine Below.drewN' ?_ _))⟩
        case measure => simp [intOf]
      · simp [xc] at x0 x1 x2
        have x0' : wr.cell? ⟨w1.heap.size, 0, none⟩ = some (.int .i64 (atoiN p)) := x0
        have x1' : wr.cell? ⟨w1.heap.size, 1, none⟩ = some (.int .i64 (atoiN q)) := x1
        have x2' : wr.cell? ⟨w1.heap.size, 2, none⟩ = some (.int .i64 0) := x2
        clear x0 x1 x2
        go_wp2_with fail
        refine (HA3.out _ (Below.step hbw hbk)).mono ?_
        rintro e W2 ⟨E, rfl, hb2⟩
        have x0 : W2.cell? ⟨w1.heap.size, 0, none⟩ = some (.int .i64 (atoiN p)) := keep_cell hb2 x0'
        have x1 : W2.cell? ⟨w1.heap.size, 1, none⟩ = some (.int .i64 (atoiN q)) := keep_cell hb2 x1'
        have x2 : W2.cell? ⟨w1.heap.size, 2, none⟩ = some (.int .i64 0) := keep_cell hb2 x2'
        have g0 : W2.frozen? ⟨w1.heap.size, 0, none⟩ = false := keep_frozen hb2 (cell?_lt x0') f0
        have g1 : W2.frozen? ⟨w1.heap.size, 1, none⟩ = false := keep_frozen hb2 (cell?_lt x0') f1
        have g2 : W2.frozen? ⟨w1.heap.size, 2, none⟩ = false := keep_frozen hb2 (cell?_lt x0') f2
        have j0 := keep_cell hb2 e0
        have j1 := keep_cell hb2 e1
        have j2 := keep_cell hb2 e2
        have l0 := keep_cell hb2 p0
        have l1 := keep_cell hb2 p1
        have l2 := keep_cell hb2 p2
        have hbk2 : Below wo.heap.size wo W2 := Below.step hbk hb2
        clear x0' x1' x2' f0 f1 f2 e0 e1 e2 p0 p1 p2 hbk hb2
        go_wp2
        go_roundw
        case rel => exact ⟨3, by omega, by rfl, ⟨by simp [go_sem, xc, *], by simp [go_sem, xc, *], by simp [go_sem, xc, *]⟩, ⟨by simp [go_sem, *], by simp [go_sem, *], by simp [go_sem, *]⟩, ⟨by simp [go_sem, *], by simp [go_sem, *], by simp [go_sem, *]⟩, ⟨by simp [go_sem, *], by simp [go_sem, *], by simp [go_sem, *]⟩, by (repeat (first | exact Below.refl _ _ | refine Below.drew ?_ | refine Below.allocS ?_ _ | refine Below.step ?_ (by assumption) | refine Below.setCell ?_ (by simp <;> omega) _ | refine Below.drewN' ?_ _))⟩
        case measure => simp [intOf]
      · simp [xc] at x0 x1 x2
        obtain ⟨X, hX⟩ : ∃ X, X = (⟨atoiN p, atoiN q, atoiN r⟩ : Ev) := ⟨_, rfl⟩
        have HX := Lib.hid (show decE H = X by rw [hX]; exact HD.out)
        have z0 : wr.cell? ⟨w1.heap.size, 0, none⟩ = some (.int .i64 X.at') := by rw [hX]; exact x0
        have z1 : wr.cell? ⟨w1.heap.size, 1, none⟩ = some (.int .i64 X.kind) := by rw [hX]; exact x1
        have z2 : wr.cell? ⟨w1.heap.size, 2, none⟩ = some (.int .i64 X.n) := by rw [hX]; exact x2
        clear hX x0 x1 x2 e0 e1 e2 p0 p1 p2 f0 f1 f2 HD HA1 HA2 HA3
        have hrow := ownsRow_keep HO.out hbk
        have hnb := row_ne HO.out hw1
        have hcs := hbk.size
        have hxl : w1.heap.size < wr.heap.size := cell?_lt z0
        have HAPP := Lib.hid (app_keep appEv pre X pre.length rfl (by omega) (wr.alloc (.cells #[.int .i64 X.at', .int .i64 X.kind, .int .i64 X.n] 44)) w.heap.size wr.heap.size _ (hrow.alloc _) (by simp; omega) (fun j u hu => by
          have := new_cells wr wr.heap.size (evE X) 44 rfl j u hu
          rwa [add_none] at this))
        have hbA : Below wr.heap.size wr (wr.alloc (.cells #[.int .i64 X.at', .int .i64 X.kind, .int .i64 X.n] 44)) := Below.allocS (Below.refl _ _) _
        have HBW := Lib.hid (Below.step (Below.step hbw hbk) hbA)
        have HN := Lib.hid hnb
        clear hrow hnb
        go_wp2_with (at_builtin; refine wpList_app rfl (.tmp 51) (.tmp 53) 22 rfl _ _ rfl rfl HAPP.out ?_; rintro v5 w5 ⟨hown5, hbel5, hgr5⟩; obtain ⟨A5, c5, rfl, -, -⟩ := row_form hown5; have y0 := grown_cell hgr5 HN.out (keep_cell hbA z0); have y1 := grown_cell hgr5 HN.out (keep_cell hbA z1); have y2 := grown_cell hgr5 HN.out (keep_cell hbA z2); have HO5 := Lib.hid hown5; have hbw5 : Below w.heap.size w w5 := HBW.out.trans hbel5; clear hown5 hbel5 hgr5 HAPP HBW HN hbA z0 z1 z2 hbk)
        have RN : RdL (w5.alloc (.cells #[.int .i64 X.at', .int .i64 X.kind, .int .i64 X.n] 44)) (w5.alloc (.cells #[.int .i64 X.at', .int .i64 X.kind, .int .i64 X.n] 44)).heap.size evE 3 (some ⟨w5.heap.size, 0, none⟩) [X] := RdL.new _ _ evE 3 [X] (fun _ => rfl)
        have hb5 : Below w5.heap.size w5 (w5.alloc (.cells #[.int .i64 X.at', .int .i64 X.kind, .int .i64 X.n] 44)) := Below.allocS (Below.refl _ _) _
        have HQ := Lib.hid (Format_c [X] 1 rfl _ 1 (by omega) _ RN (HE.out _ (Below.step hbw5 hb5)))
        clear RN
        go_wp2_with fail
        refine (HQ.out).mono ?_
        rintro e w6 ⟨rfl, hb6⟩
        have hb56 : Below w5.heap.size w5 w6 := Below.step hb5 hb6
        have hbw6 : Below w.heap.size w w6 := Below.step hbw5 hb56
        have HR5 := ownsRow_keep HO5.out hb56
        have HO6 := Lib.hid HR5
        clear hb5 hb6 hb56 HR5 HQ y0 y1 y2 hbw5 HO5
        cases hf : fineB X
        · have HB := Lib.hid (HP.out.symm.trans (parseE_bad ht htk (okE_fine (by rw [HHe.out, HX.out]; exact hf))))
          have hm : fmtE [X] = [] := fmtE_none (by rw [ordB_one]; exact hf)
          rw [hm]
          have he : (str []).toList.isEmpty = true := empty_str []
          clear hf hm HP
          go_wp2
          refine bodyPost_ret (v := .tuple #[.slice none 0 0, .int .i64 (pre.length : Nat), .int .i64 2]) (by simp [results, Tryz.results7, go_sem, *] <;> (repeat' apply And.intro) <;> rfl) rfl ?_
          exact HB.out ▸ Parsed.err (by (repeat (first | exact Below.refl _ _ | refine Below.drew ?_ | refine Below.allocS ?_ _ | refine Below.step ?_ (by assumption) | refine Below.setCell ?_ (by simp <;> omega) _ | refine Below.drewN' ?_ _)))
        have hm : fmtE [X] = lineE X := by rw [fmtE_some (by rw [ordB_one]; exact hf), textE_one]
        rw [hm]
        have he : (str (lineE X)).toList.isEmpty = false := by
          rw [empty_str]
          have := line_ne X
          cases hh : lineE X with
          | nil => exact absurd hh this
          | cons a b => rfl
        have HPf := Lib.hid (fun W => hasPrefix_l t (lineE X) W)
        have HF := Lib.hid hf
        clear hm hf
        cases hpx : Lib.hasPrefix t (lineE X)
        · have HB := Lib.hid (HP.out.symm.trans (parseE_bad ht htk (okE_prefix (by rw [HHe.out, HX.out]; exact hpx))))
          rw [hpx] at HPf
          clear hpx HP
          go_wp2_with fail
          refine (HPf.out _).mono ?_
          rintro e w7 ⟨rfl, rfl⟩
          go_wp2
          refine bodyPost_ret (v := .tuple #[.slice none 0 0, .int .i64 (pre.length : Nat), .int .i64 2]) (by simp [results, Tryz.results7, go_sem, *] <;> (repeat' apply And.intro) <;> rfl) rfl ?_
          exact HB.out ▸ Parsed.err (by (repeat (first | exact Below.refl _ _ | refine Below.drew ?_ | refine Below.allocS ?_ _ | refine Below.step ?_ (by assumption) | refine Below.setCell ?_ (by simp <;> omega) _ | refine Below.drewN' ?_ _)))
        rw [hpx] at HPf
        have HPx := Lib.hid hpx
        have RD : RdL w6 w6.heap.size evE 3 A5 (pre ++ [X]) := RdL.of_own (n := pre.length + 1) (cap := c5) (fun _ => rfl) HO6.out (by simp)
        have HQ := Lib.hid (Format_c (pre ++ [X]) (pre.length + 1) (by simp) A5 c5 (by omega) _ RD (HE.out _ hbw6))
        clear hpx RD
        cases ho : ordB (pre ++ [X])
        · have HB := Lib.hid (HP.out.symm.trans (parseE_bad ht htk (okE_ord (by rw [HHe.out, HX.out]; exact ho))))
          rw [fmtE_none ho] at HQ
          have he2 : (str []).toList.isEmpty = true := empty_str []
          clear ho HP
          go_wp2_with fail
          refine (HPf.out _).mono ?_
          rintro e w7 ⟨rfl, rfl⟩
          go_wp2_with fail
          refine (HQ.out).mono ?_
          rintro e w7 ⟨rfl, hb7⟩
          go_wp2
          refine bodyPost_ret (v := .tuple #[.slice none 0 0, .int .i64 (pre.length : Nat), .int .i64 2]) (by simp [results, Tryz.results7, go_sem, *] <;> (repeat' apply And.intro) <;> rfl) rfl ?_
          exact HB.out ▸ Parsed.err (by (repeat (first | exact Below.refl _ _ | refine Below.drew ?_ | refine Below.allocS ?_ _ | refine Below.step ?_ (by assumption) | refine Below.setCell ?_ (by simp <;> omega) _ | refine Below.drewN' ?_ _)))
        have h100 : pre.length + 1 ≤ 100 := by have := (ordB_iff.1 ho).1; simpa using this
        obtain ⟨k', hk', hpe⟩ := parseE_ok ht htk (okE_good (by rw [HHe.out, HX.out]; exact HPx.out) (by rw [HHe.out, HX.out]; exact ho))
        rw [HHe.out, HX.out] at hpe
        have HPe := Lib.hid (hpe.symm.trans HP.out)
        have hrl := rest_len ht
        rw [fmtE_some ho] at HQ
        have he2 : (str (textE (pre ++ [X]))).toList.isEmpty = false := by
          rw [empty_str]
          have := textE_ne (l := pre ++ [X]) (by simp)
          cases hh : textE (pre ++ [X]) with
          | nil => exact absurd hh this
          | cons a b => rfl
        clear hpe HP ho
        generalize textE (pre ++ [X]) = TT at *
        go_wp2_with fail
        refine (HPf.out _).mono ?_
        rintro e w7 ⟨rfl, rfl⟩
        go_wp2_with fail
        refine (HQ.out).mono ?_
        rintro e w7 ⟨rfl, hb7⟩
        have hrw := ownsRow_keep HO6.out hb7
        have HR2 := Lib.hid hrw
        clear hrw
        go_wp2
        go_roundw
        case rel => exact ⟨pre ++ [X], restL t, k', rfl, by simp, by simpa using HR2.out, by simpa using h100, hk', by omega, HPe.out, by (repeat (first | exact Below.refl _ _ | refine Below.drew ?_ | refine Below.allocS ?_ _ | refine Below.step ?_ (by assumption) | refine Below.setCell ?_ (by simp <;> omega) _ | refine Below.drewN' ?_ _))⟩
        case measure => simp [sLen, size_str]; omega
end Go.Proofs.YtimbdnngeoccdaaGreatDoor
