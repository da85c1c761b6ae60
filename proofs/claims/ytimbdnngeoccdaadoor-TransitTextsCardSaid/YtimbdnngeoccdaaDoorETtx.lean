/-
  TransitTexts: the walk. No conditions.
-/
import Derived.Test.YtimbdnngeoccdaaDoorTt5
import Derived.Test.YtimbdnngeoccdaaDoorTe
import Derived.Test.YtimbdnngeoccdaaDoorA15
import Derived.Test.YtimbdnngeoccdaaDoorTT
import Derived.BigQuiet
import Derived.Laws.StructEq
namespace Go.Proofs.YtimbdnngeoccdaaDoor
open Go.RowKit Go.Deep Go.ChangeShapes Go.WideShapes
set_option linter.unusedVariables false
set_option linter.unusedSimpArgs false
set_option maxRecDepth 100000 in
theorem open_stars {H : Type} {enc : TypeId × Value → H} {w : World} {r : Reach} {b0 : Nat} {v : Value} {d : DataW H} {p : List MemPlace}
    (hv : Value.okWide Tryd.prog w r b0 22 v) (h : DataW.Trod enc Tryd.prog w 0 (fun _ => true) true 22 v d p) :
    ∃ (A : Option Addr) (cap : Nat) (l : List St), v = .slice A l.length cap ∧ l.length ≤ cap ∧ cap ≤ maxLen ∧ RdL w w.heap.size srE 4 A l ∧ ∀ x ∈ l, StOk x := by
  obtain ⟨A, len, cap, rfl⟩ := okWide_slice Tryd.underlying22 hv
  obtain ⟨fuel, hh⟩ := h
  obtain ⟨A', cap', l, h1, h2, h3, h4, h5⟩ := open_slice_gen 4 Tryd.underlying22 (by kernel_rfl) (by omega) srE StOk st0 (fun fuel cs x hl h => star_cells hl h) hh
  simp [Value.cells] at h1
  obtain ⟨rfl, rfl, rfl⟩ := h1
  exact ⟨A, cap, l, rfl, h2, h3, h4, h5⟩
set_option maxHeartbeats 1000000 in
theorem Same_c (l : List St) (n : Nat) (hn : l.length = n) (A B : Option Addr) (cap cap' : Nat) (hl : n ≤ 9223372036854775807) (w : World) (hr : RdL w w.heap.size srE 4 A l) (hs : RdL w w.heap.size srE 4 B l) :
    Calls Tryd.prog 10 #[.slice A n cap, .slice B n cap'] w fun e w' => e = .returned (.bool true) ∧ Below w.heap.size w w' := by
  subst hn
  have HR := Lib.hid hr
  have HS := Lib.hid hs
  clear hr hs
  go_enter Tryd.func10, Tryd.ntmps10
  go_wp2
  go_loopw [13] (fun i wr => ∃ k : Nat, k ≤ l.length ∧ i = .int .i64 k ∧ Below w.heap.size w wr) (fun i _ => l.length - (intOf i).toNat)
  case atStart => exact ⟨0, Nat.zero_le _, rfl, Below.refl _ _⟩
  case round =>
    obtain ⟨k, hk, rfl, hbw⟩ := hrel
    by_cases hlt : k < l.length
    · obtain ⟨b, off, rfl, hb0, hc⟩ := HR.out (by omega)
      obtain ⟨b', off', rfl, hb0', hc'⟩ := HS.out (by omega)
      have c0 := (hbw.cell (p := ⟨b, _, none⟩) hb0).trans (hc k hlt 0 _ rfl)
      have d0 := (hbw.cell (p := ⟨b', _, none⟩) hb0').trans (hc' k hlt 0 _ rfl)
      have c1 := (hbw.cell (p := ⟨b, _, none⟩) hb0).trans (hc k hlt 1 _ rfl)
      have d1 := (hbw.cell (p := ⟨b', _, none⟩) hb0').trans (hc' k hlt 1 _ rfl)
      have c2 := (hbw.cell (p := ⟨b, _, none⟩) hb0).trans (hc k hlt 2 _ rfl)
      have d2 := (hbw.cell (p := ⟨b', _, none⟩) hb0').trans (hc' k hlt 2 _ rfl)
      have c3 := (hbw.cell (p := ⟨b, _, none⟩) hb0).trans (hc k hlt 3 _ rfl)
      have d3 := (hbw.cell (p := ⟨b', _, none⟩) hb0').trans (hc' k hlt 3 _ rfl)
      clear hc hc'
      generalize l[k] = x at *
      simp at c0 d0
      have u1 : (0 : Int) ≤ (k : Int) := by omega
      have u2 : (k : Int) < (l.length : Int) := by omega
      go_wp2_with fail
      go_quiet (fail)
      go_wp2
      go_roundw
      case rel => exact ⟨k + 1, by omega, by go_num, by (repeat (first | (with_reducible exact Below.refl _ _) | (with_reducible assumption) | (with_reducible refine Below.drew ?_) | (with_reducible refine Below.allocS ?_ _) | (with_reducible refine Below.setCell ?_ ?_ _) | (with_reducible refine Below.step ?_ (by assumption)) | (with_reducible refine Below.drewN' ?_ _))); (try any_goals (first | (with_reducible assumption) | (simp; done) | (simp; omega) | omega))⟩
      case measure => simp [intOf]; omega
    · obtain rfl : k = l.length := by omega
      go_wp2
      go_ret
      exact ⟨rfl, hbw⟩
set_option maxHeartbeats 4000000 in
set_option maxRecDepth 100000 in
theorem TransitTexts_walk (w : World) (hE : Env w) (A : Option Addr) (cap : Nat) (l : List St) (s : ByteArray) (hl : l.length ≤ cap) (hm : cap ≤ maxLen) (hr : RdL w w.heap.size srE 4 A l) (hw : ∀ x ∈ l, StOk x) (hs : s.size ≤ maxLen) :
    Calls Tryd.prog 3 #[.slice A l.length cap, .string s] w fun e w' => e = .returned (.bool true) ∧ Below w.heap.size w w' := by
  have h9 : l.length ≤ 9223372036854775807 := by unfold maxLen at hm; omega
  have hlm : l.length ≤ maxLen := by omega
  have hs9 : s.data.toList.length ≤ 9223372036854775807 := by have := size_list s; unfold maxLen at hs; omega
  have hwn : ∀ x ∈ l, x.nm.size ≤ maxLen := fun x hx => (hw x hx).n
  have HWn := Lib.hid hwn
  clear hw hl hm hs hwn
  have HRl := Lib.hid hr
  have HEn := Lib.hid hE
  clear hr hE
  by_cases h200 : l.length ≤ 200
  case neg =>
    have hd0 : decide ((l.length : Int) > 200) = true := decide_eq_true (by omega)
    clear hlm
    generalize l.length = m at *
    go_enter Tryd.func3, Tryd.ntmps3
    go_wp2_with fail
    refine (awake_c _).mono ?_
    rintro e w3 ⟨rfl, hb3⟩
    go_wp2
    go_ret
    exact ⟨rfl, by (repeat (first | (with_reducible exact Below.refl _ _) | (with_reducible assumption) | (with_reducible refine Below.drew ?_) | (with_reducible refine Below.allocS ?_ _) | (with_reducible refine Below.setCell ?_ ?_ _) | (with_reducible refine Below.step ?_ (by assumption)) | (with_reducible refine Below.drewN' ?_ _))); (try any_goals (first | (with_reducible assumption) | (simp; done) | (simp; omega) | omega))⟩
  have hd0 : decide ((l.length : Int) > 200) = false := decide_eq_false (by omega)
  by_cases hmid : 3000 < s.size ∧ s.size ≤ 65536
  case pos =>
    have hd1 : decide ((3000 : Int) < (s.size : Int)) = true := decide_eq_true (by omega)
    have hd2 : decide ((s.size : Int) ≤ 65536) = true := decide_eq_true (by omega)
    have hd3 : decide (3000 < s.size) = true := decide_eq_true (by omega)
    have hd4 : decide (s.size ≤ 65536) = true := decide_eq_true (by omega)
    clear hlm
    generalize l.length = m at *
    go_enter Tryd.func3, Tryd.ntmps3
    go_wp2_with fail
    refine (awake_c _).mono ?_
    rintro e w3 ⟨rfl, hb3⟩
    go_wp2
    go_ret
    exact ⟨rfl, by (repeat (first | (with_reducible exact Below.refl _ _) | (with_reducible assumption) | (with_reducible refine Below.drew ?_) | (with_reducible refine Below.allocS ?_ _) | (with_reducible refine Below.setCell ?_ ?_ _) | (with_reducible refine Below.step ?_ (by assumption)) | (with_reducible refine Below.drewN' ?_ _))); (try any_goals (first | (with_reducible assumption) | (simp; done) | (simp; omega) | omega))⟩
  have hg : decide ((3000 : Int) < (s.size : Int)) = false ∨ (decide ((3000 : Int) < (s.size : Int)) = true ∧ decide ((s.size : Int) ≤ 65536) = false) := by
    rcases Nat.lt_or_ge 3000 s.size with h | h
    · exact .inr ⟨decide_eq_true (by omega), decide_eq_false (by omega)⟩
    · exact .inl (decide_eq_false (by omega))
  have H1 := Lib.hid (fun W (hb : Below w.heap.size w W) => Parse_c s.data.toList hs9 W (HEn.out.step hb))
  have H2 := Lib.hid (fun W (hb : Below w.heap.size w W) => rParse_c s.data.toList hs9 W (HEn.out.step hb))
  have H3 := Lib.hid (fun W (hb : Below w.heap.size w W) => Format_c l A cap hlm HWn.out W (HRl.out.step hb) (HEn.out.step hb))
  have H4 := Lib.hid (fun W (hb : Below w.heap.size w W) => rFormat_c l A cap hlm HWn.out W (HRl.out.step hb) (HEn.out.step hb))
  rw [str_eta] at H1 H2
  obtain ⟨R, hR⟩ : ∃ R, fmS.read s.data.toList = R := ⟨_, rfl⟩
  rw [hR] at H1 H2
  clear hs9 hR hmid
  obtain ⟨P, n, er⟩ := R
  have hn0 : (n != n) = false := by simp
  have he0 : (er != er) = false := by simp
  have hs0 : ((str (fmtS l)).toList == (str (fmtS l)).toList) = true := by simp
  have hbk : fmtS l = [] ∨ (fmtS l ≠ [] ∧ (fmtS l).length ≤ 6000 ∧ fmS.read (fmtS l) = (l, 0, 0)) := by
    by_cases h : fmtS l = []
    · exact .inl h
    · refine .inr ⟨h, ?_⟩
      cases ho : okSl l with
      | false => exact absurd (fmtS_no ho) h
      | true => exact ⟨by rw [fmtS_ok ho]; exact text_le ho, read_back ho⟩
  have HBk := Lib.hid hbk
  have HFl := Lib.hid (show ∀ F, fmtS l = F → F = [] ∨ (F ≠ [] ∧ F.length ≤ 6000 ∧ fmS.read F = (l, 0, 0)) by rintro F rfl; exact HBk.out)
  clear hbk HBk
  obtain ⟨F, hF⟩ : ∃ F, fmtS l = F := ⟨_, rfl⟩
  have HF := Lib.hid (HFl.out F hF)
  rw [hF] at H3 H4 hs0
  clear hF HFl hlm
  obtain ⟨m, hlm⟩ : ∃ m, l.length = m := ⟨_, rfl⟩
  have HLm := Lib.hid hlm
  rw [hlm] at h9 h200 hd0 H3 H4 ⊢
  clear hlm
  rcases hg with g1 | ⟨g1, g2⟩
  all_goals
    go_enter Tryd.func3, Tryd.ntmps3
    go_wp2
    go_loopw [5, 34] (fun c i wr => ∃ (k : Nat) (z : Int), k ≤ m ∧ i = .int .i64 k ∧ c = .int .i64 z ∧ Below w.heap.size w wr) (fun _ i _ => m - (intOf i).toNat)
    case atStart => exact ⟨0, 0, Nat.zero_le _, rfl, rfl, Below.refl _ _⟩
    case round =>
      obtain ⟨k, z, hk, rfl, rfl, hbw⟩ := hrel
      by_cases hlt : k < m
      · have hlt' : k < l.length := by rw [HLm.out]; exact hlt
        obtain ⟨b, off, rfl, hb0, hc⟩ := HRl.out (by omega)
        have c0 := (hbw.cell (p := ⟨b, _, none⟩) hb0).trans (hc k hlt' 0 _ rfl)
        have c1 := (hbw.cell (p := ⟨b, _, none⟩) hb0).trans (hc k hlt' 1 _ rfl)
        have c2 := (hbw.cell (p := ⟨b, _, none⟩) hb0).trans (hc k hlt' 2 _ rfl)
        have c3 := (hbw.cell (p := ⟨b, _, none⟩) hb0).trans (hc k hlt' 3 _ rfl)
        have hnm := HWn.out _ (List.getElem_mem hlt')
        clear hc
        generalize l[k] = x at *
        simp at c0
        have u1 : (0 : Int) ≤ (k : Int) := by omega
        have u2 : (k : Int) < (m : Int) := by omega
        go_wp2
        go_roundw
        case rel => exact ⟨k + 1, _, by omega, by go_num, rfl, by (repeat (first | (with_reducible exact Below.refl _ _) | (with_reducible assumption) | (with_reducible refine Below.drew ?_) | (with_reducible refine Below.allocS ?_ _) | (with_reducible refine Below.setCell ?_ ?_ _) | (with_reducible refine Below.step ?_ (by assumption)) | (with_reducible refine Below.drewN' ?_ _))); (try any_goals (first | (with_reducible assumption) | (simp; done) | (simp; omega) | omega))⟩
        case measure => simp [intOf]; omega
      · obtain rfl : k = m := by omega
        have hgz : decide (5000 < z) = true ∨ decide (5000 < z) = false := by cases decide (5000 < z) <;> simp
        rcases hgz with hgz | hgz
        · go_wp2_with fail
          refine (awake_c _).mono ?_
          rintro e w3 ⟨rfl, hb3⟩
          go_wp2
          go_ret
          exact ⟨rfl, Below.step hbw hb3⟩
        go_wp2_with fail
        refine (H1.out _ hbw).mono ?_
        rintro e w1 ⟨A1, c1, rfl, ⟨r1, n1, -⟩, hb1⟩
        have q1 := Below.step hbw hb1
        dsimp only at r1 n1 ⊢
        go_wp2_with fail
        refine (H2.out _ q1).mono ?_
        rintro e w2 ⟨A2, c2, rfl, ⟨r2, -, -⟩, hb2⟩
        have q2 := Below.step q1 hb2
        dsimp only at r2 ⊢
        have HS := Lib.hid (fun W (hb : Below w2.heap.size w2 W) => Same_c P P.length rfl A1 A2 c1 c2 (by omega) W ((r1.step hb2).step hb) (r2.step hb))
        clear r1 r2 n1 hb1 hb2
        generalize P.length = p at *
        go_wp2_with fail
        refine (H3.out _ q2).mono ?_
        rintro e w3 ⟨rfl, hb3⟩
        have q3 := Below.step q2 hb3
        go_wp2_with fail
        refine (H4.out _ q3).mono ?_
        rintro e w4 ⟨rfl, hb4⟩
        have q4 := Below.step q3 hb4
        have hb24 := Below.step hb3 hb4
        go_wp2_with fail
        refine (HS.out _ hb24).mono ?_
        rintro e w5 ⟨rfl, hb5⟩
        have q5 := Below.step q4 hb5
        clear hb3 hb4 hb24 hb5 q1 q2 q3 q4 HS
        rcases HF.out with rfl | ⟨hFn, hFl, hFr⟩
        · have hem : (str []).toList.isEmpty = true := by rw [ByteArray.toList_eq]; rfl
          go_wp2_with fail
          refine (awake_c _).mono ?_
          rintro e w6 ⟨rfl, hb6⟩
          go_wp2
          go_ret
          exact ⟨rfl, Below.step q5 hb6⟩
        have hem : (str F).toList.isEmpty = false := by
          rw [ByteArray.toList_eq, str_data]
          cases F with
          | nil => exact absurd rfl hFn
          | cons a b => rfl
        have H5 := Lib.hid (Parse_c F (by omega) w5 (HEn.out.step q5))
        rw [hFr] at H5
        clear hFn hFl hFr
        go_wp2_with fail
        refine (H5.out).mono ?_
        rintro e w7 ⟨A3, c3, rfl, ⟨r3, -, -⟩, hb7⟩
        dsimp only at r3 ⊢
        have q7 := Below.step q5 hb7
        have HS := Lib.hid (Same_c l k HLm.out A3 A c3 cap (by omega) w7 r3 (HRl.out.step q7))
        clear r3 hb7 q5
        rw [HLm.out]
        go_wp2_with fail
        refine (HS.out).mono ?_
        rintro e w8 ⟨rfl, hb8⟩
        go_wp2_with fail
        refine (awake_c _).mono ?_
        rintro e w9 ⟨rfl, hb9⟩
        go_wp2
        go_ret
        exact ⟨rfl, Below.step (Below.step q7 hb8) hb9⟩
end Go.Proofs.YtimbdnngeoccdaaDoor
