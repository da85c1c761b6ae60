/-
  NightTexts: the walk. No conditions.
-/
import Derived.Test.YtimbdnngeoccdaaGreatDoorTn5
import Derived.Test.YtimbdnngeoccdaaGreatDoorTe
import Derived.Test.YtimbdnngeoccdaaGreatDoorNt19
import Derived.Test.YtimbdnngeoccdaaGreatDoorTN
import Derived.BigQuiet
import Derived.Laws.StructEq
namespace Go.Proofs.YtimbdnngeoccdaaGreatDoor
open Go.RowKit Go.Deep
set_option linter.unusedVariables false
set_option linter.unusedSimpArgs false
set_option maxHeartbeats 1000000 in
theorem Same_c (l : List Ch) (n : Nat) (hn : l.length = n) (A B : Option Addr) (cap cap' : Nat) (hl : n ≤ 9223372036854775807) (w : World) (hr : RdL w w.heap.size chE 5 A l) (hs : RdL w w.heap.size chE 5 B l) :
    Calls Tryz.prog 16 #[.slice A n cap, .slice B n cap'] w fun e w' => e = .returned (.bool true) ∧ Below w.heap.size w w' := by
  subst hn
  have HR := Lib.hid hr
  have HS := Lib.hid hs
  clear hr hs
  go_enter Tryz.func16, Tryz.ntmps16
  go_wp2
  go_loopw [13] (fun i wr => ∃ k : Nat, k ≤ l.length ∧ i = .int .i64 k ∧ Below w.heap.size w wr) (fun i _ => l.length - (intOf i).toNat)
  case atStart => exact ⟨0, Nat.zero_le _, rfl, Below.refl _ _⟩
  case round =>
    obtain ⟨k, hk, rfl, hbw⟩ := hrel
    by_cases hlt : k < l.length
    · obtain ⟨b, off, rfl, hb0, hc⟩ := HR.out (by omega)
      obtain ⟨b', off', rfl, hb0', hc'⟩ := HS.out (by omega)
      have c0 := (hbw.cell (p := ⟨b, _, none⟩) hb0).trans (hc k hlt 0 _ rfl)
      have d0 := (hbw.cell (p := ⟨b', _, none⟩) hb0').trans (hc' k hlt 0 _ rfl)
      have c1 := (hbw.cell (p := ⟨b, _, none⟩) hb0).trans (hc k hlt 1 _ rfl)
      have d1 := (hbw.cell (p := ⟨b', _, none⟩) hb0').trans (hc' k hlt 1 _ rfl)
      have c2 := (hbw.cell (p := ⟨b, _, none⟩) hb0).trans (hc k hlt 2 _ rfl)
      have d2 := (hbw.cell (p := ⟨b', _, none⟩) hb0').trans (hc' k hlt 2 _ rfl)
      have c3 := (hbw.cell (p := ⟨b, _, none⟩) hb0).trans (hc k hlt 3 _ rfl)
      have d3 := (hbw.cell (p := ⟨b', _, none⟩) hb0').trans (hc' k hlt 3 _ rfl)
      have c4 := (hbw.cell (p := ⟨b, _, none⟩) hb0).trans (hc k hlt 4 _ rfl)
      have d4 := (hbw.cell (p := ⟨b', _, none⟩) hb0').trans (hc' k hlt 4 _ rfl)
      clear hc hc'
      generalize l[k] = x at *
      simp at c0 d0
      have u1 : (0 : Int) ≤ (k : Int) := by omega
      have u2 : (k : Int) < (l.length : Int) := by omega
      go_wp2_with fail
      go_quiet (fail)
      go_wp2
      go_roundw
      case rel => exact ⟨k + 1, by omega, by go_num, by (repeat (first | (with_reducible exact Below.refl _ _) | (with_reducible assumption) | (with_reducible refine Below.drew ?_) | (with_reducible refine Below.allocS ?_ _) | (with_reducible refine Below.setCell ?_ ?_ _) | (with_reducible refine Below.step ?_ (by assumption)) | (with_reducible refine Below.drewN' ?_ _))); (try any_goals (first | (with_reducible assumption) | (simp; done) | (simp; omega) | omega))⟩
      case measure => simp [intOf]; omega
    · obtain rfl : k = l.length := by omega
      go_wp2
      go_ret
      exact ⟨rfl, hbw⟩
set_option maxHeartbeats 4000000 in
set_option maxRecDepth 100000 in
theorem NightTexts_walk (w : World) (hE : Env w) (A : Option Addr) (cap : Nat) (l : List Ch) (s : ByteArray) (hl : l.length ≤ cap) (hm : cap ≤ maxLen) (hr : RdL w w.heap.size chE 5 A l) (hw : ∀ x ∈ l, ChOk x) (hs : s.size ≤ maxLen) :
    Calls Tryz.prog 4 #[.slice A l.length cap, .string s] w fun e w' => e = .returned (.bool true) ∧ Below w.heap.size w w' := by
  have h9 : l.length ≤ 9223372036854775807 := by unfold maxLen at hm; omega
  have hs9 : s.data.toList.length ≤ 9223372036854775807 := by have := size_list s; unfold maxLen at hs; omega
  have HNm := Lib.hid (named_c l A cap h9 w hr)
  have hwn : ∀ x ∈ l, x.nm.size ≤ maxLen := fun x hx => (hw x hx).n
  have HWn := Lib.hid hwn
  have HCap := Lib.hid hl
  clear hw hl hm hs hwn
  have HRl := Lib.hid hr
  have HEn := Lib.hid hE
  clear hr hE
  have hsz : (l.length : Int) = (l.length : Int) := rfl
  clear hsz
  obtain ⟨m, hlm⟩ : ∃ m, l.length = m := ⟨_, rfl⟩
  have HLm := Lib.hid hlm
  rw [hlm] at HNm h9 HCap ⊢
  clear hlm
  have hs0e : s = str s.data.toList := (str_eta s).symm
  have HStr := Lib.hid hs0e
  clear hs0e
  by_cases hmid : 3000 < s.size ∧ s.size ≤ 65536
  case pos =>
    have hd1 : decide ((3000 : Int) < (s.size : Int)) = true := decide_eq_true (by omega)
    have hd2 : decide ((s.size : Int) ≤ 65536) = true := decide_eq_true (by omega)
    have hd3 : decide (3000 < s.size) = true := decide_eq_true (by omega)
    have hd4 : decide (s.size ≤ 65536) = true := decide_eq_true (by omega)
    go_enter Tryz.func4, Tryz.ntmps4
    go_wp2_with fail
    refine (HNm.out).mono ?_
    rintro e w1 ⟨⟨x, rfl, -⟩, hb1⟩
    cases x
    all_goals
      go_wp2_with fail
      refine (awake_c _).mono ?_
      rintro e w3 ⟨rfl, hb3⟩
      go_wp2
      go_ret
      exact ⟨rfl, Below.step hb1 hb3⟩
  have hg : decide ((3000 : Int) < (s.size : Int)) = false ∨ (decide ((3000 : Int) < (s.size : Int)) = true ∧ decide ((s.size : Int) ≤ 65536) = false) := by
    rcases Nat.lt_or_ge 3000 s.size with h | h
    · exact .inr ⟨decide_eq_true (by omega), decide_eq_false (by omega)⟩
    · exact .inl (decide_eq_false (by omega))
  have H1 := Lib.hid (fun W (hb : Below w.heap.size w W) => Parse_c s.data.toList hs9 W (HEn.out.step hb))
  have H2 := Lib.hid (fun W (hb : Below w.heap.size w W) => rParse_c s.data.toList hs9 W (HEn.out.step hb))
  rw [str_eta] at H1 H2
  obtain ⟨R, hR⟩ : ∃ R, fmC.read s.data.toList = R := ⟨_, rfl⟩
  rw [hR] at H1 H2
  clear hs9 hR hmid HStr
  obtain ⟨P, n, er⟩ := R
  have hn0 : (n != n) = false := by simp
  have he0 : (er != er) = false := by simp
  rcases hg with g1 | ⟨g1, g2⟩
  all_goals
    go_enter Tryz.func4, Tryz.ntmps4
    go_wp2_with fail
    refine (HNm.out).mono ?_
    rintro e w0 ⟨⟨x, rfl, h30⟩, HB0⟩
    cases x
    case false =>
      clear h30
      go_wp2_with fail
      refine (awake_c _).mono ?_
      rintro e w3 ⟨rfl, hb3⟩
      go_wp2
      go_ret
      exact ⟨rfl, Below.step HB0 hb3⟩
    have hl30 : m ≤ 30 := by have := h30 rfl; have := HLm.out; omega
    have hl6 : l.length ≤ 1000000 := by have := HLm.out; omega
    have H3 := Lib.hid (fun W (hb : Below w.heap.size w W) => Format_c l A cap hl6 HWn.out W (HRl.out.step hb) (HEn.out.step hb))
    have H4 := Lib.hid (fun W (hb : Below w.heap.size w W) => rFormat_c l A cap hl6 (by have := HLm.out; have := HCap.out; omega) HWn.out W (HRl.out.step hb) (HEn.out.step hb))
    have HV := Lib.hid (fun W (hb : Below w.heap.size w W) => Valid_c l A cap hl6 HWn.out W (HRl.out.step hb))
    have hs0 : ((str (fmtC l)).toList == (str (fmtC l)).toList) = true := by simp
    rw [HLm.out] at H3 H4 HV
    clear h30 hl6
    cases hv : okV l
    · rw [hv] at HV
      clear hv
      generalize fmtC l = F at *
      go_wp2_with fail
      refine (H1.out _ HB0).mono ?_
      rintro e w1 ⟨A1, c1, rfl, ⟨r1, n1, -⟩, hb1⟩
      have q1 := Below.step HB0 hb1
      dsimp only at r1 n1 ⊢
      go_wp2_with fail
      refine (H2.out _ q1).mono ?_
      rintro e w2 ⟨A2, c2, rfl, ⟨r2, -, -⟩, hb2⟩
      have q2 := Below.step q1 hb2
      dsimp only at r2 ⊢
      have HS := Lib.hid (Same_c P P.length rfl A1 A2 c1 c2 (by omega) w2 (r1.step hb2) r2)
      clear r1 r2 n1 hb1 hb2
      generalize P.length = p at *
      go_wp2_with fail
      refine (HS.out).mono ?_
      rintro e w3 ⟨rfl, hb3⟩
      have q3 := Below.step q2 hb3
      clear hb3 q1 q2 HS
      go_wp2_with fail
      refine (H3.out _ q3).mono ?_
      rintro e w4 ⟨rfl, hb4⟩
      have q4 := Below.step q3 hb4
      clear hb4 q3
      go_wp2_with fail
      refine (H4.out _ q4).mono ?_
      rintro e w5 ⟨rfl, hb5⟩
      have q5 := Below.step q4 hb5
      clear hb5 q4
      go_wp2_with fail
      refine (HV.out _ q5).mono ?_
      rintro e w6 ⟨rfl, hb6⟩
      have q6 := Below.step q5 hb6
      clear hb6 q5
      go_wp2_with fail
      refine (awake_c _).mono ?_
      rintro e w7 ⟨rfl, hb7⟩
      go_wp2
      go_ret
      exact ⟨rfl, Below.step q6 hb7⟩
    · rw [hv] at HV
      have hFl : (fmtC l).length ≤ 2000 := by unfold fmtC; rw [if_pos hv]; exact text_le hv
      have H5 := Lib.hid (fun W (hb : Below w.heap.size w W) => Parse_c (fmtC l) (by omega) W (HEn.out.step hb))
      rw [read_back hv] at H5
      clear hv hFl
      generalize fmtC l = F at *
      go_wp2_with fail
      refine (H1.out _ HB0).mono ?_
      rintro e w1 ⟨A1, c1, rfl, ⟨r1, n1, -⟩, hb1⟩
      have q1 := Below.step HB0 hb1
      dsimp only at r1 n1 ⊢
      go_wp2_with fail
      refine (H2.out _ q1).mono ?_
      rintro e w2 ⟨A2, c2, rfl, ⟨r2, -, -⟩, hb2⟩
      have q2 := Below.step q1 hb2
      dsimp only at r2 ⊢
      have HS := Lib.hid (Same_c P P.length rfl A1 A2 c1 c2 (by omega) w2 (r1.step hb2) r2)
      clear r1 r2 n1 hb1 hb2
      generalize P.length = p at *
      go_wp2_with fail
      refine (HS.out).mono ?_
      rintro e w3 ⟨rfl, hb3⟩
      have q3 := Below.step q2 hb3
      clear hb3 q1 q2 HS
      go_wp2_with fail
      refine (H3.out _ q3).mono ?_
      rintro e w4 ⟨rfl, hb4⟩
      have q4 := Below.step q3 hb4
      clear hb4 q3
      go_wp2_with fail
      refine (H4.out _ q4).mono ?_
      rintro e w5 ⟨rfl, hb5⟩
      have q5 := Below.step q4 hb5
      clear hb5 q4
      go_wp2_with fail
      refine (HV.out _ q5).mono ?_
      rintro e w6 ⟨rfl, hb6⟩
      have q6 := Below.step q5 hb6
      clear hb6 q5
      go_wp2_with fail
      refine (H5.out _ q6).mono ?_
      rintro e w7 ⟨A3, c3, rfl, ⟨r3, -, -⟩, hb7⟩
      dsimp only at r3 ⊢
      have q7 := Below.step q6 hb7
      have HS := Lib.hid (Same_c l m HLm.out A3 A c3 cap (by omega) w7 r3 (HRl.out.step q7))
      clear r3 hb7 q6
      rw [HLm.out]
      go_wp2_with fail
      refine (HS.out).mono ?_
      rintro e w8 ⟨rfl, hb8⟩
      go_wp2_with fail
      refine (awake_c _).mono ?_
      rintro e w9 ⟨rfl, hb9⟩
      go_wp2
      go_ret
      exact ⟨rfl, Below.step (Below.step q7 hb8) hb9⟩
end Go.Proofs.YtimbdnngeoccdaaGreatDoor
