/-
  Parse of the reference of night.
-/
import Derived.Test.YtimbdnngeoccdaaGreatDoorTn3
namespace Go.Proofs.YtimbdnngeoccdaaGreatDoor
open Go.RowKit Go.Deep
set_option linter.unusedVariables false
set_option linter.unusedSimpArgs false
theorem appCh : AppE 31 74 chE 5 where
  ht := Tryz.underlying31
  info := app_info (z := .agg #[.string ⟨#[]⟩, .int .i64 0, .int .i64 0, .int .i64 0, .int .i64 0]) (bytes := 48) (by kernel_rfl) rfl (by decide)
  pos := by decide
  len := fun x => rfl
  one := fun x u hu => by
    simp [chE] at hu
    rcases hu with rfl | rfl | rfl | rfl | rfl <;> rfl
def sLen : Value → Nat
  | .string b => b.size
  | _ => 0
/-- What is handed back: the chances, the line, the error. -/
def Parsed (w : World) (R : List Ch × Int × Int) (e : Ending) (w' : World) : Prop :=
  ∃ A cap, e = .returned (.tuple #[.slice A R.1.length cap, .int .i64 R.2.1, .int .i64 R.2.2]) ∧ (RdL w' w'.heap.size chE 5 A R.1 ∧ R.1.length ≤ 20 ∧ R.1.length ≤ cap) ∧ Below w.heap.size w w'
theorem Parsed.err {w w' : World} {n e : Int} (hb : Below w.heap.size w w') : Parsed w ([], n, e) (.returned (.tuple #[.slice none 0 0, .int .i64 n, .int .i64 e])) w' := ⟨none, 0, rfl, ⟨RdL.nil, Nat.zero_le _, Nat.le_refl _⟩, hb⟩
theorem Parsed.ok {w W : World} {R : List Ch × Int × Int} {pre : List Ch} {A : Option Addr} {cap base : Nat} (h : (pre, (0 : Int), (0 : Int)) = R) (hrow : W.ownsRow base 74 5 (.slice A pre.length cap) pre.length (pre.flatMap chE)) (hl : pre.length ≤ 20) (hb : Below w.heap.size w W) :
    Parsed w R (.returned (.tuple #[.slice A pre.length cap, .int .i64 0, .int .i64 0])) W := by
  subst h
  obtain ⟨A', c', hv, hc1, hc2⟩ := row_form hrow
  injection hv with e1 _ e2
  subst e1 e2
  exact ⟨A, cap, rfl, ⟨RdL.of_own (fun _ => rfl) hrow rfl, hl, hc1⟩, hb⟩
theorem good_five {l : List Ch} {s : List UInt8} (h : (pieces 32 (headL s)).length ≠ 5) : fmC.good l s = false := by
  cases hg : fmC.good l s with
  | false => rfl
  | true =>
    obtain ⟨n, a, b, c, d, e, -⟩ := good_words hg
    rw [e] at h
    exact absurd rfl h
theorem good_end {l : List Ch} {s : List UInt8} (h : (10 : UInt8) ∉ s) : fmC.good l s = false := Fm.good_not fun e => h e.1
theorem good_body {l : List Ch} {s : List UInt8} (h : bodyC (decC (headL s)) ≠ headL s) : fmC.good l s = false := Fm.good_not fun e => h e.2.1
theorem good_val {l : List Ch} {s : List UInt8} (h : okV (l ++ [decC (headL s)]) = false) : fmC.good l s = false := Fm.good_not fun e => by
  have : okV (l ++ [decC (headL s)]) = true := e.2.2
  rw [h] at this; cases this
theorem snoc_size {pre : List Ch} {x : Ch} (h : ∀ y ∈ pre, y.nm.size ≤ maxLen) (hx : x.nm.size ≤ maxLen) : ∀ y ∈ pre ++ [x], y.nm.size ≤ maxLen := fun y hy => by
  rcases List.mem_append.1 hy with hy | hy
  · exact h y hy
  · simp at hy; subst hy; exact hx
theorem okV_size {l : List Ch} (h : okV l = true) : ∀ y ∈ l, y.nm.size ≤ maxLen := fun y hy => by
  have := (name_bytes (okC_parts (okV_mem h hy)).1).2
  unfold maxLen; omega
set_option maxHeartbeats 4000000 in
set_option maxRecDepth 100000 in
theorem rParse_c (s : List UInt8) (hs : s.length ≤ 9223372036854775807) (w : World) (hE : Env w) :
    Calls Tryz.prog 15 #[.string (str s)] w (Parsed w (fmC.read s)) := by
  by_cases hlen : s.length ≤ 65536
  case neg =>
    have e1 : fmC.read s = ([], 0, 3) := by unfold Fm.read; rw [if_neg hlen]
    have hsz : (str s).size = s.length := size_str s
    rw [e1]
    have hd : decide (((str s).size : Int) > 65536) = true := decide_eq_true (by omega)
    clear e1 hE
    generalize str s = S at *
    go_enter Tryz.func15, Tryz.ntmps15
    go_wp2
    refine bodyPost_ret (v := .tuple #[.slice none 0 0, .int .i64 0, .int .i64 3]) (by simp [results, Tryz.results15, go_sem, *] <;> (repeat' apply And.intro) <;> rfl) rfl ?_
    exact Parsed.err (by (repeat (first | (with_reducible exact Below.refl _ _) | (with_reducible assumption) | (with_reducible refine Below.drew ?_) | (with_reducible refine Below.allocS ?_ _) | (with_reducible refine Below.setCell ?_ ?_ _) | (with_reducible refine Below.step ?_ (by assumption)) | (with_reducible refine Below.drewN' ?_ _))); (try any_goals (first | (with_reducible assumption) | (simp; done) | (simp; omega) | omega)))
  have e1 : fmC.read s = fmC.parse s.length [] s := by unfold Fm.read; rw [if_pos hlen]
  rw [e1]
  obtain ⟨R, hR⟩ : ∃ R, fmC.parse s.length [] s = R := ⟨_, rfl⟩
  rw [hR]
  have hsz : (str s).size = s.length := size_str s
  have hd : decide (((str s).size : Int) > 65536) = false := decide_eq_false (by omega)
  have HE := Lib.hid (fun W (hb : Below w.heap.size w W) => hE.step hb)
  have HR := Lib.hid hR
  clear e1 hR hE
  go_enter Tryz.func15, Tryz.ntmps15
  go_wp2
  clear hsz hd
  go_loopw [0, 2, 5] (fun sv lv nv wr => ∃ (pre : List Ch) (t : List UInt8) (k : Nat), sv = .string (str t) ∧ nv = .int .i64 (pre.length : Nat) ∧ wr.ownsRow w.heap.size 74 5 lv pre.length (pre.flatMap chE) ∧ okV pre = true ∧ t.length ≤ k ∧ t.length ≤ 65536 ∧ fmC.parse k pre t = R ∧ Below w.heap.size w wr) (fun sv _ _ _ => sLen sv)
  case atStart => exact ⟨[], s, s.length, rfl, rfl, World.ownsRow_nil _ _ _ _, okV_nil, Nat.le_refl _, hlen, HR.out, by (repeat (first | (with_reducible exact Below.refl _ _) | (with_reducible assumption) | (with_reducible refine Below.drew ?_) | (with_reducible refine Below.allocS ?_ _) | (with_reducible refine Below.setCell ?_ ?_ _) | (with_reducible refine Below.step ?_ (by assumption)) | (with_reducible refine Below.drewN' ?_ _))); (try any_goals (first | (with_reducible assumption) | (simp; done) | (simp; omega) | omega))⟩
  case round =>
    obtain ⟨pre, t, k, rfl, rfl, hrow, hok, htk, ht6, hpe, hbw⟩ := hrel
    clear HR
    have hpl := (okV_parts hok).2
    have HK := Lib.hid hok
    have HO := Lib.hid hrow
    have HP := Lib.hid hpe
    obtain ⟨A, cap, rfl, -, -⟩ := row_form hrow
    clear hrow hpe hok
    by_cases ht : t = []
    · subst ht
      have HP2 := Lib.hid ((Fm.parse_nil k pre).symm.trans HP.out)
      have hem : (str []).toList.isEmpty = true := by rw [ByteArray.toList_eq]; rfl
      clear HP
      go_wp2
      refine bodyPost_ret (v := .tuple #[.slice A pre.length cap, .int .i64 0, .int .i64 0]) (by simp [results, Tryz.results15, go_sem, *] <;> (repeat' apply And.intro) <;> rfl) rfl ?_
      exact Parsed.ok HP2.out HO.out hpl hbw
    have hem : (str t).toList.isEmpty = false := by
      rw [empty_str]
      cases t with
      | nil => exact absurd rfl ht
      | cons a b => rfl
    have hwr := hbw.size
    have HCut := Lib.hid (fun W hb => cut_l t (by omega) W (HE.out W hb))
    have hhl := head_le t
    have HSp := Lib.hid (fun W hb => split_l (headL t) (by omega) W (HE.out W hb))
    generalize hH : headL t = H at *
    have HHe := Lib.hid hH
    clear hH
    cases h10 : decide ((10 : UInt8) ∈ t)
    · have HB := Lib.hid (HP.out.symm.trans (Fm.parse_bad ht htk (good_end (of_decide_eq_false h10))))
      rw [h10] at HCut
      clear h10 HP
      go_wp2_with fail
      refine (HCut.out _ hbw).mono ?_
      rintro e w0 ⟨rfl, hb0⟩
      go_wp2_with fail
      refine (HSp.out _ (Below.step hbw hb0)).mono ?_
      rintro e w1 ⟨b1, rfl, hwd, hb1, hblw1, hbel1⟩
      clear hwd
      have h5 : ((((pieces 32 H).length : Int) == 5) = true) ∨ (((pieces 32 H).length : Int) == 5) = false := by cases (((pieces 32 H).length : Int) == 5) <;> simp
      have h5' : ((((pieces 32 H).length : Int) != 5) = false) ∨ (((pieces 32 H).length : Int) != 5) = true := by cases (((pieces 32 H).length : Int) != 5) <;> simp
      generalize (pieces 32 H).length = m at *
      rcases h5' with h6 | h6
      all_goals
        go_wp2
        refine bodyPost_ret (v := .tuple #[.slice none 0 0, .int .i64 (pre.length : Nat), .int .i64 2]) (by simp [results, Tryz.results15, go_sem, *] <;> (repeat' apply And.intro) <;> rfl) rfl ?_
        exact HB.out ▸ Parsed.err (by (repeat (first | exact Below.refl _ _ | refine Below.drew ?_ | refine Below.allocS ?_ _ | refine Below.step ?_ (by assumption) | refine Below.setCell ?_ (by simp <;> omega) _ | refine Below.drewN' ?_ _)))
    rw [h10] at HCut
    have H10 := Lib.hid (of_decide_eq_true h10)
    clear h10
    go_wp2_with fail
    refine (HCut.out _ hbw).mono ?_
    rintro e w0 ⟨rfl, hb0⟩
    go_wp2_with fail
    refine (HSp.out _ (Below.step hbw hb0)).mono ?_
    rintro e w1 ⟨b1, rfl, hwd, hb1, hblw1, hbel1⟩
    have hbr1 : Below wr.heap.size wr w1 := Below.step hb0 hbel1
    have HW := Lib.hid hwd
    clear hwd hb1 hbel1 hb0 HSp HCut
    by_cases h5 : (pieces 32 H).length = 5
    case neg =>
      have HB := Lib.hid (HP.out.symm.trans (Fm.parse_bad ht htk (good_five (by rw [HHe.out]; exact h5))))
      have h5' : (((pieces 32 H).length : Int) == 5) = false := by rw [beq_eq_false_iff_ne]; omega
      have h5'' : (((pieces 32 H).length : Int) != 5) = true := by simp; omega
      clear HW HP
      generalize (pieces 32 H).length = m at *
      go_wp2
      refine bodyPost_ret (v := .tuple #[.slice none 0 0, .int .i64 (pre.length : Nat), .int .i64 2]) (by simp [results, Tryz.results15, go_sem, *] <;> (repeat' apply And.intro) <;> rfl) rfl ?_
      exact HB.out ▸ Parsed.err (by (repeat (first | exact Below.refl _ _ | refine Below.drew ?_ | refine Below.allocS ?_ _ | refine Below.step ?_ (by assumption) | refine Below.setCell ?_ (by simp <;> omega) _ | refine Below.drewN' ?_ _)))
    obtain ⟨p0, p1, p2, p3, p4, hpq⟩ : ∃ p0 p1 p2 p3 p4, pieces 32 H = [p0, p1, p2, p3, p4] := by
      match pieces 32 H, h5 with
      | [p0, p1, p2, p3, p4], _ => exact ⟨p0, p1, p2, p3, p4, rfl⟩
    have hpl3 := pieces_mem_len 32 H
    rw [hpq] at hpl3 HW ⊢
    have HD := Lib.hid (show decC H = ⟨str p0, atoiN p1, atoiN p2, atoiN p3, atoiN p4⟩ by unfold decC; rw [hpq])
    have HA1 := Lib.hid (fun W hb => atoi_l p1 (by have := hpl3 p1 (by simp); omega) W (HE.out W hb))
    have HA2 := Lib.hid (fun W hb => atoi_l p2 (by have := hpl3 p2 (by simp); omega) W (HE.out W hb))
    have HA3 := Lib.hid (fun W hb => atoi_l p3 (by have := hpl3 p3 (by simp); omega) W (HE.out W hb))
    have HA4 := Lib.hid (fun W hb => atoi_l p4 (by have := hpl3 p4 (by simp); omega) W (HE.out W hb))
    have hp0 : p0.length ≤ 65536 := by have := hpl3 p0 (by simp); omega
    have d0 : w1.cell? ⟨b1, 0, none⟩ = some (.string (str p0)) := HW.out 0 p0 rfl
    have d1 : w1.cell? ⟨b1, 1, none⟩ = some (.string (str p1)) := HW.out 1 p1 rfl
    have d2 : w1.cell? ⟨b1, 2, none⟩ = some (.string (str p2)) := HW.out 2 p2 rfl
    have d3 : w1.cell? ⟨b1, 3, none⟩ = some (.string (str p3)) := HW.out 3 p3 rfl
    have d4 : w1.cell? ⟨b1, 4, none⟩ = some (.string (str p4)) := HW.out 4 p4 rfl
    clear hpq h5 hpl3 HW
    have hw1 := hbr1.size
    have hne : b1 ≠ w1.heap.size := by omega
    have hne' : w1.heap.size ≠ b1 := Ne.symm hne
    have hl3 : ([p0, p1, p2, p3, p4] : List (List UInt8)).length = 5 := rfl
    rw [hl3]
    clear hl3
    have hbw1 : Below w.heap.size w w1 := Below.step hbw hbr1
    go_wp2_with fail
    refine (HA1.out _ (by (repeat (first | exact Below.refl _ _ | refine Below.drew ?_ | refine Below.allocS ?_ _ | refine Below.step ?_ (by assumption) | refine Below.setCell ?_ (by simp <;> omega) _ | refine Below.drewN' ?_ _)))).mono ?_
    rintro e w3 ⟨E2, rfl, hbw3⟩
    have d0w3 : w3.cell? ⟨b1, 0, none⟩ = some (.string (str p0)) := keep_cell hbw3 (by simp [go_sem, *])
    have d1w3 : w3.cell? ⟨b1, 1, none⟩ = some (.string (str p1)) := keep_cell hbw3 (by simp [go_sem, *])
    have d2w3 : w3.cell? ⟨b1, 2, none⟩ = some (.string (str p2)) := keep_cell hbw3 (by simp [go_sem, *])
    have d3w3 : w3.cell? ⟨b1, 3, none⟩ = some (.string (str p3)) := keep_cell hbw3 (by simp [go_sem, *])
    have d4w3 : w3.cell? ⟨b1, 4, none⟩ = some (.string (str p4)) := keep_cell hbw3 (by simp [go_sem, *])
    have x0w3 : w3.cell? ⟨w1.heap.size, 0, none⟩ = some (.string (str p0)) := keep_cell hbw3 (by simp [go_sem, *])
    have x1w3 : w3.cell? ⟨w1.heap.size, 1, none⟩ = some (.int .i64 0) := keep_cell hbw3 (by simp [go_sem, *])
    have x2w3 : w3.cell? ⟨w1.heap.size, 2, none⟩ = some (.int .i64 0) := keep_cell hbw3 (by simp [go_sem, *])
    have x3w3 : w3.cell? ⟨w1.heap.size, 3, none⟩ = some (.int .i64 0) := keep_cell hbw3 (by simp [go_sem, *])
    have x4w3 : w3.cell? ⟨w1.heap.size, 4, none⟩ = some (.int .i64 0) := keep_cell hbw3 (by simp [go_sem, *])
    have f0w3 : w3.frozen? ⟨w1.heap.size, 0, none⟩ = false := keep_frozen hbw3 (by first | omega | (simp; omega) | simp) (by simp [go_sem, *])
    have f1w3 : w3.frozen? ⟨w1.heap.size, 1, none⟩ = false := keep_frozen hbw3 (by first | omega | (simp; omega) | simp) (by simp [go_sem, *])
    have f2w3 : w3.frozen? ⟨w1.heap.size, 2, none⟩ = false := keep_frozen hbw3 (by first | omega | (simp; omega) | simp) (by simp [go_sem, *])
    have f3w3 : w3.frozen? ⟨w1.heap.size, 3, none⟩ = false := keep_frozen hbw3 (by first | omega | (simp; omega) | simp) (by simp [go_sem, *])
    have f4w3 : w3.frozen? ⟨w1.heap.size, 4, none⟩ = false := keep_frozen hbw3 (by first | omega | (simp; omega) | simp) (by simp [go_sem, *])
    have hxlw3 : w1.heap.size < w3.heap.size := cell?_lt x0w3
    have hblw3 : b1 < w3.heap.size := cell?_lt d0w3
    have hbrw3 : Below w1.heap.size w1 w3 := by (repeat (first | exact Below.refl _ _ | refine Below.drew ?_ | refine Below.allocS ?_ _ | refine Below.step ?_ (by assumption) | refine Below.setCell ?_ (by simp <;> omega) _ | refine Below.drewN' ?_ _))
    clear hbw3 d0 d1 d2 d3 d4
    go_wp2_with fail
    refine (HA2.out _ (by (repeat (first | exact Below.refl _ _ | refine Below.drew ?_ | refine Below.allocS ?_ _ | refine Below.step ?_ (by assumption) | refine Below.setCell ?_ (by simp <;> omega) _ | refine Below.drewN' ?_ _)))).mono ?_
    rintro e w4 ⟨E3, rfl, hbw4⟩
    have d0w4 : w4.cell? ⟨b1, 0, none⟩ = some (.string (str p0)) := keep_cell hbw4 (by simp [go_sem, *])
    have d1w4 : w4.cell? ⟨b1, 1, none⟩ = some (.string (str p1)) := keep_cell hbw4 (by simp [go_sem, *])
    have d2w4 : w4.cell? ⟨b1, 2, none⟩ = some (.string (str p2)) := keep_cell hbw4 (by simp [go_sem, *])
    have d3w4 : w4.cell? ⟨b1, 3, none⟩ = some (.string (str p3)) := keep_cell hbw4 (by simp [go_sem, *])
    have d4w4 : w4.cell? ⟨b1, 4, none⟩ = some (.string (str p4)) := keep_cell hbw4 (by simp [go_sem, *])
    have x0w4 : w4.cell? ⟨w1.heap.size, 0, none⟩ = some (.string (str p0)) := keep_cell hbw4 (by simp [go_sem, *])
    have x1w4 : w4.cell? ⟨w1.heap.size, 1, none⟩ = some (.int .i64 (atoiN p1)) := keep_cell hbw4 (by simp [go_sem, *])
    have x2w4 : w4.cell? ⟨w1.heap.size, 2, none⟩ = some (.int .i64 0) := keep_cell hbw4 (by simp [go_sem, *])
    have x3w4 : w4.cell? ⟨w1.heap.size, 3, none⟩ = some (.int .i64 0) := keep_cell hbw4 (by simp [go_sem, *])
    have x4w4 : w4.cell? ⟨w1.heap.size, 4, none⟩ = some (.int .i64 0) := keep_cell hbw4 (by simp [go_sem, *])
    have f0w4 : w4.frozen? ⟨w1.heap.size, 0, none⟩ = false := keep_frozen hbw4 (by first | omega | (simp; omega) | simp) (by simp [go_sem, *])
    have f1w4 : w4.frozen? ⟨w1.heap.size, 1, none⟩ = false := keep_frozen hbw4 (by first | omega | (simp; omega) | simp) (by simp [go_sem, *])
    have f2w4 : w4.frozen? ⟨w1.heap.size, 2, none⟩ = false := keep_frozen hbw4 (by first | omega | (simp; omega) | simp) (by simp [go_sem, *])
    have f3w4 : w4.frozen? ⟨w1.heap.size, 3, none⟩ = false := keep_frozen hbw4 (by first | omega | (simp; omega) | simp) (by simp [go_sem, *])
    have f4w4 : w4.frozen? ⟨w1.heap.size, 4, none⟩ = false := keep_frozen hbw4 (by first | omega | (simp; omega) | simp) (by simp [go_sem, *])
    have hxlw4 : w1.heap.size < w4.heap.size := cell?_lt x0w4
    have hblw4 : b1 < w4.heap.size := cell?_lt d0w4
    have hbrw4 : Below w1.heap.size w1 w4 := by (repeat (first | exact Below.refl _ _ | refine Below.drew ?_ | refine Below.allocS ?_ _ | refine Below.step ?_ (by assumption) | refine Below.setCell ?_ (by simp <;> omega) _ | refine Below.drewN' ?_ _))
    clear hbw4 d0w3 d1w3 d2w3 d3w3 d4w3 x0w3 x1w3 x2w3 x3w3 x4w3 f0w3 f1w3 f2w3 f3w3 f4w3 hxlw3 hblw3 hbrw3
    go_wp2_with fail
    refine (HA3.out _ (by (repeat (first | exact Below.refl _ _ | refine Below.drew ?_ | refine Below.allocS ?_ _ | refine Below.step ?_ (by assumption) | refine Below.setCell ?_ (by simp <;> omega) _ | refine Below.drewN' ?_ _)))).mono ?_
    rintro e w5 ⟨E4, rfl, hbw5⟩
    have d0w5 : w5.cell? ⟨b1, 0, none⟩ = some (.string (str p0)) := keep_cell hbw5 (by simp [go_sem, *])
    have d1w5 : w5.cell? ⟨b1, 1, none⟩ = some (.string (str p1)) := keep_cell hbw5 (by simp [go_sem, *])
    have d2w5 : w5.cell? ⟨b1, 2, none⟩ = some (.string (str p2)) := keep_cell hbw5 (by simp [go_sem, *])
    have d3w5 : w5.cell? ⟨b1, 3, none⟩ = some (.string (str p3)) := keep_cell hbw5 (by simp [go_sem, *])
    have d4w5 : w5.cell? ⟨b1, 4, none⟩ = some (.string (str p4)) := keep_cell hbw5 (by simp [go_sem, *])
    have x0w5 : w5.cell? ⟨w1.heap.size, 0, none⟩ = some (.string (str p0)) := keep_cell hbw5 (by simp [go_sem, *])
    have x1w5 : w5.cell? ⟨w1.heap.size, 1, none⟩ = some (.int .i64 (atoiN p1)) := keep_cell hbw5 (by simp [go_sem, *])
    have x2w5 : w5.cell? ⟨w1.heap.size, 2, none⟩ = some (.int .i64 (atoiN p2)) := keep_cell hbw5 (by simp [go_sem, *])
    have x3w5 : w5.cell? ⟨w1.heap.size, 3, none⟩ = some (.int .i64 0) := keep_cell hbw5 (by simp [go_sem, *])
    have x4w5 : w5.cell? ⟨w1.heap.size, 4, none⟩ = some (.int .i64 0) := keep_cell hbw5 (by simp [go_sem, *])
    have f0w5 : w5.frozen? ⟨w1.heap.size, 0, none⟩ = false := keep_frozen hbw5 (by first | omega | (simp; omega) | simp) (by simp [go_sem, *])
    have f1w5 : w5.frozen? ⟨w1.heap.size, 1, none⟩ = false := keep_frozen hbw5 (by first | omega | (simp; omega) | simp) (by simp [go_sem, *])
    have f2w5 : w5.frozen? ⟨w1.heap.size, 2, none⟩ = false := keep_frozen hbw5 (by first | omega | (simp; omega) | simp) (by simp [go_sem, *])
    have f3w5 : w5.frozen? ⟨w1.heap.size, 3, none⟩ = false := keep_frozen hbw5 (by first | omega | (simp; omega) | simp) (by simp [go_sem, *])
    have f4w5 : w5.frozen? ⟨w1.heap.size, 4, none⟩ = false := keep_frozen hbw5 (by first | omega | (simp; omega) | simp) (by simp [go_sem, *])
    have hxlw5 : w1.heap.size < w5.heap.size := cell?_lt x0w5
    have hblw5 : b1 < w5.heap.size := cell?_lt d0w5
    have hbrw5 : Below w1.heap.size w1 w5 := by (repeat (first | exact Below.refl _ _ | refine Below.drew ?_ | refine Below.allocS ?_ _ | refine Below.step ?_ (by assumption) | refine Below.setCell ?_ (by simp <;> omega) _ | refine Below.drewN' ?_ _))
    clear hbw5 d0w4 d1w4 d2w4 d3w4 d4w4 x0w4 x1w4 x2w4 x3w4 x4w4 f0w4 f1w4 f2w4 f3w4 f4w4 hxlw4 hblw4 hbrw4
    go_wp2_with fail
    refine (HA4.out _ (by (repeat (first | exact Below.refl _ _ | refine Below.drew ?_ | refine Below.allocS ?_ _ | refine Below.step ?_ (by assumption) | refine Below.setCell ?_ (by simp <;> omega) _ | refine Below.drewN' ?_ _)))).mono ?_
    rintro e w6 ⟨E5, rfl, hbw6⟩
    have d0w6 : w6.cell? ⟨b1, 0, none⟩ = some (.string (str p0)) := keep_cell hbw6 (by simp [go_sem, *])
    have d1w6 : w6.cell? ⟨b1, 1, none⟩ = some (.string (str p1)) := keep_cell hbw6 (by simp [go_sem, *])
    have d2w6 : w6.cell? ⟨b1, 2, none⟩ = some (.string (str p2)) := keep_cell hbw6 (by simp [go_sem, *])
    have d3w6 : w6.cell? ⟨b1, 3, none⟩ = some (.string (str p3)) := keep_cell hbw6 (by simp [go_sem, *])
    have d4w6 : w6.cell? ⟨b1, 4, none⟩ = some (.string (str p4)) := keep_cell hbw6 (by simp [go_sem, *])
    have x0w6 : w6.cell? ⟨w1.heap.size, 0, none⟩ = some (.string (str p0)) := keep_cell hbw6 (by simp [go_sem, *])
    have x1w6 : w6.cell? ⟨w1.heap.size, 1, none⟩ = some (.int .i64 (atoiN p1)) := keep_cell hbw6 (by simp [go_sem, *])
    have x2w6 : w6.cell? ⟨w1.heap.size, 2, none⟩ = some (.int .i64 (atoiN p2)) := keep_cell hbw6 (by simp [go_sem, *])
    have x3w6 : w6.cell? ⟨w1.heap.size, 3, none⟩ = some (.int .i64 (atoiN p3)) := keep_cell hbw6 (by simp [go_sem, *])
    have x4w6 : w6.cell? ⟨w1.heap.size, 4, none⟩ = some (.int .i64 0) := keep_cell hbw6 (by simp [go_sem, *])
    have f0w6 : w6.frozen? ⟨w1.heap.size, 0, none⟩ = false := keep_frozen hbw6 (by first | omega | (simp; omega) | simp) (by simp [go_sem, *])
    have f1w6 : w6.frozen? ⟨w1.heap.size, 1, none⟩ = false := keep_frozen hbw6 (by first | omega | (simp; omega) | simp) (by simp [go_sem, *])
    have f2w6 : w6.frozen? ⟨w1.heap.size, 2, none⟩ = false := keep_frozen hbw6 (by first | omega | (simp; omega) | simp) (by simp [go_sem, *])
    have f3w6 : w6.frozen? ⟨w1.heap.size, 3, none⟩ = false := keep_frozen hbw6 (by first | omega | (simp; omega) | simp) (by simp [go_sem, *])
    have f4w6 : w6.frozen? ⟨w1.heap.size, 4, none⟩ = false := keep_frozen hbw6 (by first | omega | (simp; omega) | simp) (by simp [go_sem, *])
    have hxlw6 : w1.heap.size < w6.heap.size := cell?_lt x0w6
    have hblw6 : b1 < w6.heap.size := cell?_lt d0w6
    have hbrw6 : Below w1.heap.size w1 w6 := by (repeat (first | exact Below.refl _ _ | refine Below.drew ?_ | refine Below.allocS ?_ _ | refine Below.step ?_ (by assumption) | refine Below.setCell ?_ (by simp <;> omega) _ | refine Below.drewN' ?_ _))
    clear hbw6 d0w5 d1w5 d2w5 d3w5 d4w5 x0w5 x1w5 x2w5 x3w5 x4w5 f0w5 f1w5 f2w5 f3w5 f4w5 hxlw5 hblw5 hbrw5
    go_upto_region 15 with fail
    obtain ⟨X, hX⟩ : ∃ X, X = (⟨str p0, atoiN p1, atoiN p2, atoiN p3, atoiN p4⟩ : Ch) := ⟨_, rfl⟩
    have HX := Lib.hid (show decC H = X by rw [hX]; exact HD.out)
    have hXn : X.nm.size ≤ 70000 := by rw [hX]; show (str p0).size ≤ 70000; rw [size_str]; omega
    have hXa : I64 X.a := by rw [hX]; exact atoiN_range _
    have hXb : I64 X.b := by rw [hX]; exact atoiN_range _
    have hXt : I64 X.t := by rw [hX]; exact atoiN_range _
    have hXv : I64 X.v := by rw [hX]; exact atoiN_range _
    have z0 : (w6.setCell ⟨w1.heap.size, 4, none⟩ (.int .i64 (atoiN p4))).cell? ⟨w1.heap.size, 0, none⟩ = some (.string X.nm) := by rw [hX]; simp [go_sem, *]
    have z1 : (w6.setCell ⟨w1.heap.size, 4, none⟩ (.int .i64 (atoiN p4))).cell? ⟨w1.heap.size, 1, none⟩ = some (.int .i64 X.a) := by rw [hX]; simp [go_sem, *]
    have z2 : (w6.setCell ⟨w1.heap.size, 4, none⟩ (.int .i64 (atoiN p4))).cell? ⟨w1.heap.size, 2, none⟩ = some (.int .i64 X.b) := by rw [hX]; simp [go_sem, *]
    have z3 : (w6.setCell ⟨w1.heap.size, 4, none⟩ (.int .i64 (atoiN p4))).cell? ⟨w1.heap.size, 3, none⟩ = some (.int .i64 X.t) := by rw [hX]; simp [go_sem, *]
    have z4 : (w6.setCell ⟨w1.heap.size, 4, none⟩ (.int .i64 (atoiN p4))).cell? ⟨w1.heap.size, 4, none⟩ = some (.int .i64 X.v) := by rw [hX]; simp [go_sem, *]
    have hbr7 : Below w1.heap.size w1 (w6.setCell ⟨w1.heap.size, 4, none⟩ (.int .i64 (atoiN p4))) := Below.setCell hbrw6 (Nat.le_refl _) _
    have hxl7 : w1.heap.size < (w6.setCell ⟨w1.heap.size, 4, none⟩ (.int .i64 (atoiN p4))).heap.size := cell?_lt z0
    generalize (w6.setCell ⟨w1.heap.size, 4, none⟩ (.int .i64 (atoiN p4))) = w7 at *
    clear hX HD HA1 HA2 HA3 HA4 d0w6 d1w6 d2w6 d3w6 d4w6 x0w6 x1w6 x2w6 x3w6 x4w6 f0w6 f1w6 f2w6 f3w6 f4w6 hxlw6 hblw6 hbrw6
    have hrow := ownsRow_keep HO.out (Below.step hbr1 hbr7)
    have hnb : (Value.slice A pre.length cap).ownBlock ≠ some w1.heap.size := row_ne HO.out (.inl hw1)
    have HW1 := Lib.hid (Below.step hbw1 hbr7)
    have h97 := hbr7.size
    have h91 := hbw1.size
    have HAPP := Lib.hid (app_keep appCh pre X pre.length rfl (by omega) (w7.alloc (.cells #[.string X.nm, .int .i64 X.a, .int .i64 X.b, .int .i64 X.t, .int .i64 X.v] 74)) w.heap.size w7.heap.size _ (hrow.alloc _) (by simp; omega) (fun j u hu => by
      have := new_cells w7 w7.heap.size (chE X) 74 rfl j u hu
      rwa [add_none] at this))
    have hbA : Below w7.heap.size w7 (w7.alloc (.cells #[.string X.nm, .int .i64 X.a, .int .i64 X.b, .int .i64 X.t, .int .i64 X.v] 74)) := Below.allocS (Below.refl _ _) _
    have HBW := Lib.hid (Below.step HW1.out hbA)
    have HN := Lib.hid hnb
    clear hrow hnb
    go_wp2_with (at_builtin; refine wpList_app rfl (.tmp 70) (.tmp 72) 31 rfl _ _ rfl rfl HAPP.out ?_; rintro v8 w8 ⟨hown8, hbel8, hgr8⟩; obtain ⟨A8, c8, rfl, hc8, -⟩ := row_form hown8; have y0 := gr_cell hgr8 HN.out (keep_cell hbA z0); have y1 := gr_cell hgr8 HN.out (keep_cell hbA z1); have y2 := gr_cell hgr8 HN.out (keep_cell hbA z2); have y3 := gr_cell hgr8 HN.out (keep_cell hbA z3); have y4 := gr_cell hgr8 HN.out (keep_cell hbA z4); have HO8 := Lib.hid hown8; have hbw8 : Below w.heap.size w w8 := HBW.out.trans hbel8; clear hown8 hbel8 hgr8 HAPP HBW HN hbA z0 z1 z2 z3 z4 hbr7 HW1)
    have HLn := Lib.hid (rline_c X hXn hXa hXb hXt hXv w8 (HE.out _ hbw8))
    go_wp2_with fail
    refine (HLn.out).mono ?_
    rintro e w9 ⟨rfl, hb9⟩
    have hbw9 : Below w.heap.size w w9 := Below.step hbw8 hb9
    have hr9 := ownsRow_keep HO8.out hb9
    have HO9 := Lib.hid hr9
    clear hr9 y0 y1 y2 y3 y4 HLn
    have hbq := beq_str (bodyC X) H
    by_cases hyes : bodyC X = H
    case neg =>
      have HB := Lib.hid (HP.out.symm.trans (Fm.parse_bad ht htk (good_body (by rw [HHe.out, HX.out]; exact hyes))))
      rw [decide_eq_false hyes] at hbq
      clear HP hyes
      go_wp2
      refine bodyPost_ret (v := .tuple #[.slice none 0 0, .int .i64 (pre.length : Nat), .int .i64 2]) (by simp [results, Tryz.results15, go_sem, *] <;> (repeat' apply And.intro) <;> rfl) rfl ?_
      exact HB.out ▸ Parsed.err (by (repeat (first | exact Below.refl _ _ | refine Below.drew ?_ | refine Below.allocS ?_ _ | refine Below.step ?_ (by assumption) | refine Below.setCell ?_ (by simp <;> omega) _ | refine Below.drewN' ?_ _)))
    rw [decide_eq_true hyes] at hbq
    have HY := Lib.hid hyes
    clear hyes
    have RD : RdL w9 w9.heap.size chE 5 A8 (pre ++ [X]) := RdL.of_own (n := pre.length + 1) (cap := c8) (fun _ => rfl) HO9.out (by simp)
    have hVL := rValid_c (pre ++ [X]) A8 c8 (by simp; omega) (by simpa using hc8) (snoc_size (okV_size HK.out) (by unfold maxLen; omega)) w9 RD
    rw [V_eq] at hVL
    have hl1 : (pre ++ [X]).length = pre.length + 1 := by simp
    rw [hl1] at hVL
    have HVL := Lib.hid hVL
    clear hVL RD hl1
    cases hv : okV (pre ++ [X])
    · have HB := Lib.hid (HP.out.symm.trans (Fm.parse_bad ht htk (good_val (by rw [HHe.out, HX.out]; exact hv))))
      rw [hv] at HVL
      clear HP hv
      go_wp2_with fail
      refine (HVL.out).mono ?_
      rintro e wa ⟨rfl, hba⟩
      go_wp2
      refine bodyPost_ret (v := .tuple #[.slice none 0 0, .int .i64 (pre.length : Nat), .int .i64 2]) (by simp [results, Tryz.results15, go_sem, *] <;> (repeat' apply And.intro) <;> rfl) rfl ?_
      exact HB.out ▸ Parsed.err (by (repeat (first | exact Below.refl _ _ | refine Below.drew ?_ | refine Below.allocS ?_ _ | refine Below.step ?_ (by assumption) | refine Below.setCell ?_ (by simp <;> omega) _ | refine Below.drewN' ?_ _)))
    obtain ⟨k', hk', hpe⟩ := Fm.parse_ok ht htk (Fm.good_of (F := fmC) (l := pre) H10.out (show bodyC (decC (headL t)) = headL t by rw [HHe.out, HX.out]; exact HY.out) (show okV (pre ++ [decC (headL t)]) = true by rw [HHe.out, HX.out]; exact hv))
    have hdx : fmC.dec (headL t) = X := by rw [HHe.out]; exact HX.out
    rw [hdx] at hpe
    have HPe := Lib.hid (hpe.symm.trans HP.out)
    have hrl := rest_len ht
    have HV2 := Lib.hid hv
    rw [hv] at HVL
    clear hpe HP hv hdx
    go_wp2_with fail
    refine (HVL.out).mono ?_
    rintro e wa ⟨rfl, hba⟩
    have hra := ownsRow_keep HO9.out hba
    have HOa := Lib.hid hra
    clear hra
    go_wp2
    go_roundw
    case rel => exact ⟨pre ++ [X], restL t, k', rfl, by simp, by simpa using HOa.out, HV2.out, hk', by omega, HPe.out, by (repeat (first | exact Below.refl _ _ | refine Below.drew ?_ | refine Below.allocS ?_ _ | refine Below.step ?_ (by assumption) | refine Below.setCell ?_ (by simp <;> omega) _ | refine Below.drewN' ?_ _))⟩
    case measure => simp [sLen, size_str]; omega
end Go.Proofs.YtimbdnngeoccdaaGreatDoor
