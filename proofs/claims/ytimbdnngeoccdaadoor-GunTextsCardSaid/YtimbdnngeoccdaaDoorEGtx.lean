/-
  GunTexts: the walk. No conditions.
-/
import Derived.Test.YtimbdnngeoccdaaDoorTg5
import Derived.Test.YtimbdnngeoccdaaDoorTg3
import Derived.Test.YtimbdnngeoccdaaDoorTeG
import Derived.BigQuiet
import Derived.Laws.StructEq
namespace Go.Proofs.YtimbdnngeoccdaaDoor
open Go.RowKit Go.Deep
set_option linter.unusedVariables false
set_option linter.unusedSimpArgs false
set_option maxHeartbeats 1000000 in
theorem Same_c (l : List Shot) (n : Nat) (hn : l.length = n) (A B : Option Addr) (cap cap' : Nat) (hl : n ≤ 9223372036854775807) (w : World) (hr : RdL w w.heap.size shE 4 A l) (hs : RdL w w.heap.size shE 4 B l) :
    Calls Tryd.prog 17 #[.slice A n cap, .slice B n cap'] w fun e w' => e = .returned (.bool true) ∧ Below w.heap.size w w' := by
  subst hn
  have HR := Lib.hid hr
  have HS := Lib.hid hs
  clear hr hs
  go_enter Tryd.func17, Tryd.ntmps17
  go_wp2
  go_loopw [13] (fun i wr => ∃ k : Nat, k ≤ l.length ∧ i = .int .i64 k ∧ Below w.heap.size w wr) (fun i _ => l.length - (intOf i).toNat)
  case atStart => exact ⟨0, Nat.zero_le _, rfl, Below.refl _ _⟩
  case round =>
    obtain ⟨k, hk, rfl, hbw⟩ := hrel
    by_cases hlt : k < l.length
    · obtain ⟨b, off, rfl, hb0, hc⟩ := HR.out (by omega)
      obtain ⟨b', off', rfl, hb0', hc'⟩ := HS.out (by omega)
      have c0 := (hbw.cell (p := ⟨b, _, none⟩) hb0).trans (hc k hlt 0 _ rfl)
      have d0 := (hbw.cell (p := ⟨b', _, none⟩) hb0').trans (hc' k hlt 0 _ rfl)
      have c1 := (hbw.cell (p := ⟨b, _, none⟩) hb0).trans (hc k hlt 1 _ rfl)
      have d1 := (hbw.cell (p := ⟨b', _, none⟩) hb0').trans (hc' k hlt 1 _ rfl)
      have c2 := (hbw.cell (p := ⟨b, _, none⟩) hb0).trans (hc k hlt 2 _ rfl)
      have d2 := (hbw.cell (p := ⟨b', _, none⟩) hb0').trans (hc' k hlt 2 _ rfl)
      have c3 := (hbw.cell (p := ⟨b, _, none⟩) hb0).trans (hc k hlt 3 _ rfl)
      have d3 := (hbw.cell (p := ⟨b', _, none⟩) hb0').trans (hc' k hlt 3 _ rfl)
      clear hc hc'
      generalize l[k] = x at *
      simp at c0 d0
      have u1 : (0 : Int) ≤ (k : Int) := by omega
      have u2 : (k : Int) < (l.length : Int) := by omega
      go_wp2_with fail
      go_quiet (fail)
      go_wp2
      go_roundw
      case rel => exact ⟨k + 1, by omega, by go_num, by (repeat (first | (with_reducible exact Below.refl _ _) | (with_reducible assumption) | (with_reducible refine Below.drew ?_) | (with_reducible refine Below.allocS ?_ _) | (with_reducible refine Below.setCell ?_ ?_ _) | (with_reducible refine Below.step ?_ (by assumption)) | (with_reducible refine Below.drewN' ?_ _))); (try any_goals (first | (with_reducible assumption) | (simp; done) | (simp; omega) | omega))⟩
      case measure => simp [intOf]; omega
    · obtain rfl : k = l.length := by omega
      go_wp2
      go_ret
      exact ⟨rfl, hbw⟩
set_option maxHeartbeats 4000000 in
set_option maxRecDepth 100000 in
theorem GunTexts_walk (w : World) (hE : Env w) (A : Option Addr) (cap : Nat) (l : List Shot) (s : ByteArray) (hl : l.length ≤ cap) (hm : cap ≤ maxLen) (hr : RdL w w.heap.size shE 4 A l) (hw : ∀ x ∈ l, ∃ g : Nat → Int, x = (⟨g 0, g 1, g 2, g 3⟩ : Shot) ∧ ∀ j, j < 4 → I64 (g j)) (hs : s.size ≤ maxLen) :
    Calls Tryd.prog 4 #[.slice A l.length cap, .string s] w fun e w' => e = .returned (.bool true) ∧ Below w.heap.size w w' := by
  have h9 : l.length ≤ 9223372036854775807 := by unfold maxLen at hm; omega
  have hs9 : s.data.toList.length ≤ 9223372036854775807 := by have := size_list s; unfold maxLen at hs; omega
  have HFew := Lib.hid (fun W => few_c l.length A cap W h9)
  clear hw hl hm hs
  have HRl := Lib.hid hr
  have HEn := Lib.hid hE
  clear hr hE
  cases hfw : decide (l.length ≤ 50)
  · rw [hfw] at HFew
    clear hfw
    generalize l.length = m at *
    go_enter Tryd.func4, Tryd.ntmps4
    go_wp2_with fail
    refine (HFew.out _).mono ?_
    rintro e w1 ⟨rfl, rfl⟩
    go_wp2_with fail
    refine (awake_c _).mono ?_
    rintro e w3 ⟨rfl, hb3⟩
    go_wp2
    go_ret
    exact ⟨rfl, by (repeat (first | (with_reducible exact Below.refl _ _) | (with_reducible assumption) | (with_reducible refine Below.drew ?_) | (with_reducible refine Below.allocS ?_ _) | (with_reducible refine Below.setCell ?_ ?_ _) | (with_reducible refine Below.step ?_ (by assumption)) | (with_reducible refine Below.drewN' ?_ _))); (try any_goals (first | (with_reducible assumption) | (simp; done) | (simp; omega) | omega))⟩
  rw [hfw] at HFew
  clear hfw
  by_cases hmid : 2000 < s.size ∧ s.size ≤ 65536
  case pos =>
    have hd1 : decide ((2000 : Int) < (s.size : Int)) = true := decide_eq_true (by omega)
    have hd2 : decide ((s.size : Int) ≤ 65536) = true := decide_eq_true (by omega)
    have hd3 : decide (2000 < s.size) = true := decide_eq_true (by omega)
    have hd4 : decide (s.size ≤ 65536) = true := decide_eq_true (by omega)
    generalize l.length = m at *
    go_enter Tryd.func4, Tryd.ntmps4
    go_wp2_with fail
    refine (HFew.out _).mono ?_
    rintro e w1 ⟨rfl, rfl⟩
    go_wp2_with fail
    refine (awake_c _).mono ?_
    rintro e w3 ⟨rfl, hb3⟩
    go_wp2
    go_ret
    exact ⟨rfl, by (repeat (first | (with_reducible exact Below.refl _ _) | (with_reducible assumption) | (with_reducible refine Below.drew ?_) | (with_reducible refine Below.allocS ?_ _) | (with_reducible refine Below.setCell ?_ ?_ _) | (with_reducible refine Below.step ?_ (by assumption)) | (with_reducible refine Below.drewN' ?_ _))); (try any_goals (first | (with_reducible assumption) | (simp; done) | (simp; omega) | omega))⟩
  have hg : decide ((2000 : Int) < (s.size : Int)) = false ∨ (decide ((2000 : Int) < (s.size : Int)) = true ∧ decide ((s.size : Int) ≤ 65536) = false) := by
    rcases Nat.lt_or_ge 2000 s.size with h | h
    · exact .inr ⟨decide_eq_true (by omega), decide_eq_false (by omega)⟩
    · exact .inl (decide_eq_false (by omega))
  have H1 := Lib.hid (fun W (hb : Below w.heap.size w W) => Parse_c s.data.toList hs9 W (HEn.out.step hb))
  have H2 := Lib.hid (fun W (hb : Below w.heap.size w W) => rParse_c s.data.toList hs9 W (HEn.out.step hb))
  have H3 := Lib.hid (fun W (hb : Below w.heap.size w W) => Format_c l A cap h9 W (HRl.out.step hb) (HEn.out.step hb))
  have H4 := Lib.hid (fun W (hb : Below w.heap.size w W) => rFormat_c l A cap h9 W (HRl.out.step hb) (HEn.out.step hb))
  have HV := Lib.hid (fun W (hb : Below w.heap.size w W) => rValidShots_c l A cap h9 W (HRl.out.step hb))
  rw [str_eta] at H1 H2
  obtain ⟨R, hR⟩ : ∃ R, fmG.read s.data.toList = R := ⟨_, rfl⟩
  rw [hR] at H1 H2
  clear hs9 hR hmid
  obtain ⟨P, n, er⟩ := R
  have hn0 : (n != n) = false := by simp
  have he0 : (er != er) = false := by simp
  have hs0 : ((str (fmtG l)).toList == (str (fmtG l)).toList) = true := by simp
  have HBk := Lib.hid (fun (h : okShots l = true) => show (fmtG l).length ≤ 1000 ∧ fmG.read (fmtG l) = (l, 0, 0) by rw [fmtG_ok h]; exact ⟨text_le (okG_of_shots h), read_back (okG_of_shots h)⟩)
  have hv2 : okShots l = true ∨ okShots l = false := by cases okShots l <;> simp
  obtain ⟨m, hlm⟩ : ∃ m, l.length = m := ⟨_, rfl⟩
  have HLm := Lib.hid hlm
  rw [hlm] at h9 H3 H4 HV HFew ⊢
  clear hlm
  rcases hg with g1 | ⟨g1, g2⟩
  all_goals
    rcases hv2 with hv | hv
    all_goals
      rw [hv] at HV
      have HBk2 := Lib.hid (HBk.out)
      have Hv := Lib.hid hv
      clear hv HBk
      generalize fmtG l = F at *
      go_enter Tryd.func4, Tryd.ntmps4
      go_wp2_with fail
      refine (HFew.out _).mono ?_
      rintro e w0 ⟨rfl, rfl⟩
      go_wp2_with fail
      refine (H1.out _ (Below.refl _ _)).mono ?_
      rintro e w1 ⟨A1, c1, rfl, ⟨r1, n1, -⟩, q1⟩
      dsimp only at r1 n1 ⊢
      go_wp2_with fail
      refine (H2.out _ q1).mono ?_
      rintro e w2 ⟨A2, c2, rfl, ⟨r2, -, -⟩, hb2⟩
      have q2 := Below.step q1 hb2
      dsimp only at r2 ⊢
      have HS := Lib.hid (fun W (hb : Below w2.heap.size w2 W) => Same_c P P.length rfl A1 A2 c1 c2 (by omega) W ((r1.step hb2).step hb) (r2.step hb))
      clear r1 r2 n1 hb2
      generalize P.length = p at *
      go_wp2_with fail
      refine (H3.out _ q2).mono ?_
      rintro e w3 ⟨rfl, hb3⟩
      have q3 := Below.step q2 hb3
      go_wp2_with fail
      refine (H4.out _ q3).mono ?_
      rintro e w4 ⟨rfl, hb4⟩
      have q4 := Below.step q3 hb4
      have hb24 := Below.step hb3 hb4
      go_wp2_with fail
      refine (HS.out _ hb24).mono ?_
      rintro e w5 ⟨rfl, hb5⟩
      have q5 := Below.step q4 hb5
      clear hb3 hb4 hb24 hb5 q1 q2 q3 q4 HS
      go_wp2_with fail
      refine (HV.out _ q5).mono ?_
      rintro e w6 ⟨rfl, hb6⟩
      have q6 := Below.step q5 hb6
      clear hb6 q5
    · obtain ⟨hFl, hFr⟩ := HBk2.out Hv.out
      have H5 := Lib.hid (fun W (hb : Below w.heap.size w W) => Parse_c F (by omega) W (HEn.out.step hb))
      rw [hFr] at H5
      clear hFl hFr HBk2 Hv
      go_wp2_with fail
      refine (H3.out _ q6).mono ?_
      rintro e w7 ⟨rfl, hb7⟩
      have q7 := Below.step q6 hb7
      go_wp2_with fail
      refine (H5.out _ q7).mono ?_
      rintro e w8 ⟨A3, c3, rfl, ⟨r3, -, -⟩, hb8⟩
      dsimp only at r3 ⊢
      have q8 := Below.step q7 hb8
      have HS := Lib.hid (Same_c l m HLm.out A3 A c3 cap (by omega) w8 r3 (HRl.out.step q8))
      clear r3 hb8 hb7 q6 q7
      rw [HLm.out]
      go_wp2_with fail
      refine (HS.out).mono ?_
      rintro e w9 ⟨rfl, hb9⟩
      go_wp2_with fail
      refine (awake_c _).mono ?_
      rintro e wa ⟨rfl, hba⟩
      go_wp2
      go_ret
      exact ⟨rfl, Below.step (Below.step q8 hb9) hba⟩
    · go_wp2_with fail
      refine (awake_c _).mono ?_
      rintro e w7 ⟨rfl, hb7⟩
      go_wp2
      go_ret
      exact ⟨rfl, Below.step q6 hb7⟩
end Go.Proofs.YtimbdnngeoccdaaDoor
