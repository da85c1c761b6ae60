/-
  BallTexts: the walk. No conditions.
-/
import Derived.Test.YtimbdnngeoccdaaGreatDoorTb8
import Derived.Test.YtimbdnngeoccdaaGreatDoorTe
import Derived.Test.YtimbdnngeoccdaaGreatDoorB12
import Derived.BigQuiet
namespace Go.Proofs.YtimbdnngeoccdaaGreatDoor
open Go.RowKit Go.Deep
set_option linter.unusedVariables false
set_option linter.unusedSimpArgs false
theorem long_c (A : Option Addr) (n cap : Nat) (hn : n ≤ 9223372036854775807) (w : World) :
    Calls Tryz.prog 5 #[.slice A n cap] w fun e w' => e = .returned (.bool (decide (300 < (n : Int)))) ∧ w = w' := by
  go_enter Tryz.func5, Tryz.ntmps5
  go_wp2
  go_ret
  exact ⟨rfl, rfl⟩
set_option maxHeartbeats 1000000 in
theorem Same_c (l : List Ev) (n : Nat) (hn : l.length = n) (A B : Option Addr) (cap cap' : Nat) (hl : n ≤ 9223372036854775807) (w : World) (hr : RdL w w.heap.size evE 3 A l) (hs : RdL w w.heap.size evE 3 B l) :
    Calls Tryz.prog 11 #[.slice A n cap, .slice B n cap'] w fun e w' => e = .returned (.bool true) ∧ Below w.heap.size w w' := by
  subst hn
  have HR := Lib.hid hr
  have HS := Lib.hid hs
  clear hr hs
  go_enter Tryz.func11, Tryz.ntmps11
  go_wp2
  go_loopw [13] (fun i wr => ∃ k : Nat, k ≤ l.length ∧ i = .int .i64 k ∧ Below w.heap.size w wr) (fun i _ => l.length - (intOf i).toNat)
  case atStart => exact ⟨0, Nat.zero_le _, rfl, Below.refl _ _⟩
  case round =>
    obtain ⟨k, hk, rfl, hbw⟩ := hrel
    by_cases hlt : k < l.length
    · obtain ⟨b, off, rfl, hb0, hc⟩ := HR.out (by omega)
      obtain ⟨b', off', rfl, hb0', hc'⟩ := HS.out (by omega)
      have c0 := (hbw.cell (p := ⟨b, _, none⟩) hb0).trans (hc k hlt 0 _ rfl)
      have c1 := (hbw.cell (p := ⟨b, _, none⟩) hb0).trans (hc k hlt 1 _ rfl)
      have c2 := (hbw.cell (p := ⟨b, _, none⟩) hb0).trans (hc k hlt 2 _ rfl)
      have d0 := (hbw.cell (p := ⟨b', _, none⟩) hb0').trans (hc' k hlt 0 _ rfl)
      have d1 := (hbw.cell (p := ⟨b', _, none⟩) hb0').trans (hc' k hlt 1 _ rfl)
      have d2 := (hbw.cell (p := ⟨b', _, none⟩) hb0').trans (hc' k hlt 2 _ rfl)
      clear hc hc'
      simp at c0 d0
      have u1 : (0 : Int) ≤ (k : Int) := by omega
      have u2 : (k : Int) < (l.length : Int) := by omega
      go_wp2_with fail
      go_quiet (fail)
      go_wp2
      go_roundw
      case rel => exact ⟨k + 1, by omega, by go_num, by (repeat (first | (with_reducible exact Below.refl _ _) | (with_reducible assumption) | (with_reducible refine Below.drew ?_) | (with_reducible refine Below.allocS ?_ _) | (with_reducible refine Below.setCell ?_ ?_ _) | (with_reducible refine Below.step ?_ (by assumption)) | (with_reducible refine Below.drewN' ?_ _))); (try any_goals (first | (with_reducible assumption) | (simp; done) | (simp; omega) | omega))⟩
      case measure => simp [intOf]; omega
    · obtain rfl : k = l.length := by omega
      go_wp2
      go_ret
      exact ⟨rfl, hbw⟩
theorem parse_back {l : List Ev} (h : fmtE l ≠ []) : parseR (fmtE l) = (l, 0, 0) := by
  have ho : ordB l = true := by
    cases ho : ordB l with
    | true => rfl
    | false => exact absurd (fmtE_none ho) h
  rw [fmtE_some ho]
  have hlen := (textE_len l (fun x hx => ordB_fine ho hx)).1
  have h100 := (ordB_iff.1 ho).1
  unfold parseR
  rw [if_pos (by omega)]
  exact parse_text l [] _ ho (Nat.le_refl _)
set_option maxHeartbeats 4000000 in
set_option maxRecDepth 100000 in
theorem BallTexts_walk (w : World) (hE : Env w) (A : Option Addr) (cap : Nat) (l : List Ev) (s : ByteArray) (hl : l.length ≤ cap) (hm : cap ≤ maxLen) (hr : RdL w w.heap.size evE 3 A l) (hw : ∀ x ∈ l, ∃ g : Nat → Int, x = (⟨g 0, g 1, g 2⟩ : Ev) ∧ ∀ j, j < 3 → I64 (g j)) (hs : s.size ≤ maxLen) :
    Calls Tryz.prog 3 #[.slice A l.length cap, .string s] w fun e w' => e = .returned (.bool true) ∧ Below w.heap.size w w' := by
  have h9 : l.length ≤ 9223372036854775807 := by unfold maxLen at hm; omega
  have hs9 : s.data.toList.length ≤ 9223372036854775807 := by have := size_list s; unfold maxLen at hs; omega
  have HLg := Lib.hid (fun W => long_c A l.length cap h9 W)
  clear hw hl hm hs
  by_cases h3 : l.length ≤ 300
  case neg =>
    have hd : decide ((300 : Int) < (l.length : Int)) = true := decide_eq_true (by omega)
    rw [hd] at HLg
    clear hr hE hd
    generalize l.length = m at *
    go_enter Tryz.func3, Tryz.ntmps3
    go_wp2_with fail
    refine (HLg.out _).mono ?_
    rintro e w1 ⟨rfl, rfl⟩
    go_wp2_with fail
    refine (awake_c _).mono ?_
    rintro e w3 ⟨rfl, hb3⟩
    go_wp2
    go_ret
    exact ⟨rfl, by (repeat (first | exact Below.refl _ _ | refine Below.drew ?_ | refine Below.allocS ?_ _ | refine Below.step ?_ (by assumption) | refine Below.setCell ?_ (by simp <;> omega) _ | refine Below.drewN' ?_ _))⟩
  have hd : decide ((300 : Int) < (l.length : Int)) = false := decide_eq_false (by omega)
  rw [hd] at HLg
  by_cases hmid : 3000 < s.size ∧ s.size ≤ 65536
  case pos =>
    have hd1 : decide ((3000 : Int) < (s.size : Int)) = true := decide_eq_true (by omega)
    have hd2 : decide ((s.size : Int) ≤ 65536) = true := decide_eq_true (by omega)
    have hd3 : decide (3000 < s.size) = true := decide_eq_true (by omega)
    have hd4 : decide (s.size ≤ 65536) = true := decide_eq_true (by omega)
    clear hr hE hd
    generalize l.length = m at *
    go_enter Tryz.func3, Tryz.ntmps3
    go_wp2_with fail
    refine (HLg.out _).mono ?_
    rintro e w1 ⟨rfl, rfl⟩
    go_wp2_with fail
    refine (awake_c _).mono ?_
    rintro e w3 ⟨rfl, hb3⟩
    go_wp2
    go_ret
    exact ⟨rfl, by (repeat (first | exact Below.refl _ _ | refine Below.drew ?_ | refine Below.allocS ?_ _ | refine Below.step ?_ (by assumption) | refine Below.setCell ?_ (by simp <;> omega) _ | refine Below.drewN' ?_ _))⟩
  have hg : decide ((3000 : Int) < (s.size : Int)) = false ∨ (decide ((3000 : Int) < (s.size : Int)) = true ∧ decide ((s.size : Int) ≤ 65536) = false) := by
    rcases Nat.lt_or_ge 3000 s.size with h | h
    · exact .inr ⟨decide_eq_true (by omega), decide_eq_false (by omega)⟩
    · exact .inl (decide_eq_false (by omega))
  have H1 := Lib.hid (fun W (hb : Below w.heap.size w W) => Parse_c s.data.toList hs9 W (hE.step hb))
  have H2 := Lib.hid (fun W (hb : Below w.heap.size w W) => rParse_c s.data.toList hs9 W (hE.step hb))
  have H3 := Lib.hid (fun W (hb : Below w.heap.size w W) => Format_c l l.length rfl A cap h9 W (hr.step hb) (hE.step hb))
  have H4 := Lib.hid (fun W (hb : Below w.heap.size w W) => rFormat_c l l.length rfl A cap h9 W (hr.step hb) (hE.step hb))
  have HB := Lib.hid (fun h => parse_back (l := l) h)
  have H5 := Lib.hid (fun (h : fmtE l ≠ []) W (hb : Below w.heap.size w W) => Parse_c (fmtE l) (by
    have : (fmtE l).length ≤ 6100 := by
      unfold fmtE
      split
      · rename_i ho
        have hlen := (textE_len l (fun x hx => ordB_fine ho hx)).1
        have h100 := (ordB_iff.1 ho).1
        omega
      · simp
    omega) W (hE.step hb))
  have HRl := Lib.hid hr
  rw [str_eta] at H1 H2
  obtain ⟨R, hR⟩ : ∃ R, parseR s.data.toList = R := ⟨_, rfl⟩
  rw [hR] at H1 H2
  clear hr hE hs9 hR hd hmid
  generalize fmtE l = F at *
  obtain ⟨P, n, er⟩ := R
  have hs0 : ((str F).toList == (str F).toList) = true := by simp
  have hn0 : (n != n) = false := by simp
  have he0 : (er != er) = false := by simp
  generalize hlm : l.length = m at *
  have HLm := Lib.hid hlm
  clear hlm
  rcases hg with g1 | ⟨g1, g2⟩
  all_goals
    by_cases hF : F = []
    · subst hF
      have hem : (str []).toList.isEmpty = true := empty_str []
      go_enter Tryz.func3, Tryz.ntmps3
      go_wp2_with fail
      refine (HLg.out _).mono ?_
      rintro e w1 ⟨rfl, rfl⟩
      go_wp2_with fail
      refine (H1.out _ (Below.refl _ _)).mono ?_
      rintro e w1 ⟨A1, c1, rfl, ⟨r1, n1⟩, hb1⟩
      dsimp only at r1 n1 ⊢
      go_wp2_with fail
      refine (H2.out _ hb1).mono ?_
      rintro e w2 ⟨A2, c2, rfl, ⟨r2, -⟩, hb2⟩
      have g2' := Below.step hb1 hb2
      dsimp only at r2 ⊢
      have HS := Lib.hid (fun W (h1 : Below w2.heap.size w2 W) => Same_c P P.length rfl A1 A2 c1 c2 (by omega) W ((r1.step hb2).step h1) (r2.step h1))
      clear r1 r2 n1
      generalize P.length = p at *
      go_wp2_with fail
      refine (H3.out _ g2').mono ?_
      rintro e w3 ⟨rfl, hb3⟩
      go_wp2_with fail
      refine (H4.out _ (Below.step g2' hb3)).mono ?_
      rintro e w4 ⟨rfl, hb4⟩
      go_wp2_with fail
      refine (HS.out _ (Below.step hb3 hb4)).mono ?_
      rintro e w5 ⟨rfl, hb5⟩
      go_wp2_with fail
      refine (awake_c _).mono ?_
      rintro e w6 ⟨rfl, hb6⟩
      go_wp2
      go_ret
      exact ⟨rfl, Below.step (Below.step (Below.step (Below.step g2' hb3) hb4) hb5) hb6⟩
    · have hem : (str F).toList.isEmpty = false := by
        rw [empty_str]
        cases F with
        | nil => exact absurd rfl hF
        | cons a b => rfl
      have H6 := Lib.hid (fun W hb => H5.out hF W hb)
      rw [HB.out hF] at H6
      clear H5 HB hF
      go_enter Tryz.func3, Tryz.ntmps3
      go_wp2_with fail
      refine (HLg.out _).mono ?_
      rintro e w1 ⟨rfl, rfl⟩
      go_wp2_with fail
      refine (H1.out _ (Below.refl _ _)).mono ?_
      rintro e w1 ⟨A1, c1, rfl, ⟨r1, n1⟩, hb1⟩
      dsimp only at r1 n1 ⊢
      go_wp2_with fail
      refine (H2.out _ hb1).mono ?_
      rintro e w2 ⟨A2, c2, rfl, ⟨r2, -⟩, hb2⟩
      have g2' := Below.step hb1 hb2
      dsimp only at r2 ⊢
      have HS := Lib.hid (fun W (h1 : Below w2.heap.size w2 W) => Same_c P P.length rfl A1 A2 c1 c2 (by omega) W ((r1.step hb2).step h1) (r2.step h1))
      clear r1 r2 n1
      generalize P.length = p at *
      go_wp2_with fail
      refine (H3.out _ g2').mono ?_
      rintro e w3 ⟨rfl, hb3⟩
      go_wp2_with fail
      refine (H4.out _ (Below.step g2' hb3)).mono ?_
      rintro e w4 ⟨rfl, hb4⟩
      go_wp2_with fail
      refine (HS.out _ (Below.step hb3 hb4)).mono ?_
      rintro e w5 ⟨rfl, hb5⟩
      have g5 := Below.step (Below.step (Below.step g2' hb3) hb4) hb5
      clear hb1 hb2 hb3 hb4 hb5 g2' HS
      go_wp2_with fail
      refine (H6.out _ g5).mono ?_
      rintro e w6 ⟨A3, c3, rfl, ⟨r3, -⟩, hb6⟩
      dsimp only at r3 ⊢
      have g6 := Below.step g5 hb6
      have HS := Lib.hid (Same_c l m HLm.out A3 A c3 cap (by omega) w6 r3 (HRl.out.step g6))
      clear r3
      rw [HLm.out]
      go_wp2_with fail
      refine (HS.out).mono ?_
      rintro e w7 ⟨rfl, hb7⟩
      go_wp2_with fail
      refine (awake_c _).mono ?_
      rintro e w8 ⟨rfl, hb8⟩
      go_wp2
      go_ret
      exact ⟨rfl, Below.step (Below.step g6 hb7) hb8⟩
end Go.Proofs.YtimbdnngeoccdaaGreatDoor
