/-
  IsBest and Most of night, fit. No conditions.
-/
import Derived.Test.YtomgaiokmdcjmaaNt31
import Derived.Test.YtomgaiokmdcjmaaNt19
namespace Go.Proofs.Ytomgaiokmdcjmaa
open Go.RowKit Go.Deep
set_option linter.unusedVariables false
set_option linter.unusedSimpArgs false
set_option maxHeartbeats 1000000 in
theorem EqualI_c (l r : List Int) (n m : Nat) (hn : l.length = n) (hm : r.length = m) (A B : Option Addr) (cap cap' : Nat) (hl : n ≤ 9223372036854775807) (w : World) (hr : RdL w w.heap.size inE 1 A l) (hs : RdL w w.heap.size inE 1 B r) :
    Calls Try.prog 86 #[.slice A n cap, .slice B m cap'] w fun e w' => e = .returned (.bool (decide (l = r))) ∧ Below w.heap.size w w' := by
  have HR := Lib.hid hr
  have HS := Lib.hid hs
  have HN := Lib.hid hn
  have HM := Lib.hid hm
  clear hr hs hn hm
  by_cases hnm : n = m
  · subst hnm
    go_enter Try.func86, Try.ntmps86
    go_wp2
    go_loopw [13] (fun i wr => ∃ k : Nat, k ≤ n ∧ i = .int .i64 k ∧ l.take k = r.take k ∧ Below w.heap.size w wr) (fun i _ => n - (intOf i).toNat)
    case atStart => exact ⟨0, Nat.zero_le _, rfl, rfl, Below.refl _ _⟩
    case round =>
      obtain ⟨k, hk, rfl, ht, hbw⟩ := hrel
      have HT := Lib.hid ht
      clear ht
      by_cases hlt : k < n
      · have hl1 : k < l.length := by rw [HN.out]; exact hlt
        have hl2 : k < r.length := by rw [HM.out]; exact hlt
        obtain ⟨p, hp⟩ : ∃ p, p = l[k] := ⟨_, rfl⟩
        obtain ⟨q, hq⟩ : ∃ q, q = r[k] := ⟨_, rfl⟩
        obtain ⟨b, off, rfl, hb0, hc⟩ := HR.out (by omega)
        obtain ⟨b', off', rfl, hb0', hc'⟩ := HS.out (by omega)
        have c0 := (hbw.cell (p := ⟨b, _, none⟩) hb0).trans (hc k hl1 0 _ rfl)
        have d0 := (hbw.cell (p := ⟨b', _, none⟩) hb0').trans (hc' k hl2 0 _ rfl)
        rw [← hp] at c0
        rw [← hq] at d0
        clear hc hc'
        simp at c0 d0
        have HP := Lib.hid hp
        have HQ := Lib.hid hq
        have u1 : (0 : Int) ≤ (k : Int) := by omega
        have u2 : (k : Int) < (n : Int) := by omega
        clear hp hq
        by_cases hpq : p = q
        · subst hpq
          have HT2 := Lib.hid (show l.take (k + 1) = r.take (k + 1) by
            rw [List.take_succ_eq_append_getElem hl1, List.take_succ_eq_append_getElem hl2, HT.out, ← HP.out, ← HQ.out])
          go_wp2_with fail
          go_quiet (fail)
          go_wp2
          go_roundw
          case rel => exact ⟨k + 1, by omega, by go_num, HT2.out, by (repeat (first | (with_reducible exact Below.refl _ _) | (with_reducible assumption) | (with_reducible refine Below.drew ?_) | (with_reducible refine Below.allocS ?_ _) | (with_reducible refine Below.setCell ?_ ?_ _) | (with_reducible refine Below.step ?_ (by assumption)) | (with_reducible refine Below.drewN' ?_ _))); (try any_goals (first | (with_reducible assumption) | (simp; done) | (simp; omega) | omega))⟩
          case measure => simp [intOf]; omega
        · have q1 : (p != q) = true := by simp [hpq]
          have HF := Lib.hid (show decide (l = r) = false from decide_eq_false (fun e => by subst e; exact hpq (HP.out.trans HQ.out.symm)))
          clear hpq
          go_wp2_with fail
          go_quiet (fail)
          go_wp2
          go_ret
          exact ⟨by rw [HF.out]; rfl, by (repeat (first | (with_reducible exact Below.refl _ _) | (with_reducible assumption) | (with_reducible refine Below.drew ?_) | (with_reducible refine Below.allocS ?_ _) | (with_reducible refine Below.setCell ?_ ?_ _) | (with_reducible refine Below.step ?_ (by assumption)) | (with_reducible refine Below.drewN' ?_ _))); (try any_goals (first | (with_reducible assumption) | (simp; done) | (simp; omega) | omega))⟩
      · obtain rfl : k = n := by omega
        have HF := Lib.hid (show decide (l = r) = true from decide_eq_true (by
          have := HT.out
          rwa [List.take_of_length_le (by rw [HN.out]; exact Nat.le_refl _), List.take_of_length_le (by rw [HM.out]; exact Nat.le_refl _)] at this))
        go_wp2
        go_ret
        exact ⟨by rw [HF.out]; rfl, hbw⟩
  · have q1 : ((n : Int) != (m : Int)) = true := by simp; omega
    have q2 : (n != m) = true := by simp [hnm]
    have HF := Lib.hid (show decide (l = r) = false from decide_eq_false (fun e => by subst e; exact hnm (HN.out.symm.trans HM.out)))
    clear hnm
    go_enter Try.func86, Try.ntmps86
    go_wp2
    go_ret
    exact ⟨by rw [HF.out]; rfl, Below.refl _ _⟩
set_option maxHeartbeats 1000000 in
theorem IsBest_c (l : List Ch) (A : Option Addr) (cap : Nat) (L : List Cl) (B : Option Addr) (cb : Nat) (per : Int) (w : World) (h : InAt w l A cap L B cb)
    (r : List Int) (m : Nat) (hm : r.length = m) (hl : m ≤ 1000) (C : Option Addr) (cc : Nat) (hr : RdL w w.heap.size inE 1 C r) :
    Calls Try.prog 41 #[.slice A l.length cap, .slice B L.length cb, .int .i64 per, .slice C m cc] w fun e w' => e = .returned (.bool (isbE l L per r)) ∧ Below w.heap.size w w' := by
  have H1 := Lib.hid (fun W (hb : Below w.heap.size w W) => Best_c l A cap L B cb per W (h.step hb))
  have H2 := Lib.hid (fun W (hb : Below w.heap.size w W) (x : SlL) (hx : SlAt W l.length x) (k : Nat) (hk : k = x.xs.length) => EqualI_c (x.xs.map Int.ofNat) r k m (by rw [List.length_map, hk]) hm x.A C x.c cc (by rw [hk]; have := hx.l; omega) W hx.r (hr.step hb))
  have HB : Hid (isbE l L per r = (decide (asE l L per = 0) && decide ((bstE l L per).map Int.ofNat = r))) := Lib.hid rfl
  clear h hr hm
  generalize isbE l L per r = I at *
  generalize asE l L per = v at *
  generalize bstE l L per = R at *
  generalize hn : l.length = n at *
  generalize L.length = nL at *
  clear hn
  by_cases hv : v = 0
  · subst hv
    have q0 : ((0 : Int) == 0) = true := rfl
    go_enter Try.func41, Try.ntmps41
    go_wp2_with fail
    refine (H1.out _ (by (repeat (first | exact Below.refl _ _ | refine Below.drew ?_ | refine Below.allocS ?_ _ | refine Below.step ?_ (by assumption) | refine Below.setCell ?_ (by simp <;> omega) _ | refine Below.drewN' ?_ _)))).mono ?_
    rintro e w1 ⟨⟨x, rfl, hx, hx2⟩, hb1⟩
    have HC := Lib.hid (H2.out w1 hb1 x hx _ rfl)
    have HD := Lib.hid (show I = decide (x.xs.map Int.ofNat = r) by rw [HB.out, hx2]; rfl)
    clear hx hx2
    generalize decide (x.xs.map Int.ofNat = r) = D at *
    generalize x.xs.length = xl at *
    go_wp2_with fail
    refine HC.out.mono ?_
    rintro e w2 ⟨rfl, hb2⟩
    go_wp2
    go_ret
    exact ⟨by rw [HD.out]; rfl, by (repeat (first | exact Below.refl _ _ | refine Below.drew ?_ | refine Below.allocS ?_ _ | refine Below.step ?_ (by assumption) | refine Below.setCell ?_ (by simp <;> omega) _ | refine Below.drewN' ?_ _))⟩
  · have q0 : (v == 0) = false := by simp [hv]
    have HD := Lib.hid (show I = false by rw [HB.out, decide_eq_false hv]; rfl)
    clear hv
    go_enter Try.func41, Try.ntmps41
    go_wp2_with fail
    refine (H1.out _ (by (repeat (first | exact Below.refl _ _ | refine Below.drew ?_ | refine Below.allocS ?_ _ | refine Below.step ?_ (by assumption) | refine Below.setCell ?_ (by simp <;> omega) _ | refine Below.drewN' ?_ _)))).mono ?_
    rintro e w1 ⟨⟨x, rfl, hx, hx2⟩, hb1⟩
    clear hx hx2
    generalize x.xs.length = xl at *
    go_wp2
    go_ret
    exact ⟨by rw [HD.out]; rfl, by (repeat (first | exact Below.refl _ _ | refine Below.drew ?_ | refine Below.allocS ?_ _ | refine Below.step ?_ (by assumption) | refine Below.setCell ?_ (by simp <;> omega) _ | refine Below.drewN' ?_ _))⟩
theorem appCh : AppE 22 34 chE 5 where
  ht := Try.underlying22
  info := app_info (z := .agg #[.string ByteArray.empty, .int .i64 0, .int .i64 0, .int .i64 0, .int .i64 0]) (bytes := 48) (by kernel_rfl) rfl (by decide)
  pos := by decide
  len := fun x => rfl
  one := fun x u hu => by
    simp [chE] at hu
    rcases hu with rfl | rfl | rfl | rfl | rfl <;> rfl
theorem CloneCh_c (l : List Ch) (n : Nat) (hn : l.length = n) (hl : n ≤ 1000) (A : Option Addr) (cap : Nat) (w : World) (hr : RdL w w.heap.size chE 5 A l) :
    Calls Try.prog 85 #[.slice A n cap] w fun e w' => (∃ A' c, e = .returned (.slice A' n c) ∧ w'.ownsRow w.heap.size 34 5 (.slice A' n c) n (l.flatMap chE)) ∧ Below w.heap.size w w' := by
  cases A with
  | none =>
    have h0 := hr.none_len rfl
    obtain rfl : l = [] := List.eq_nil_of_length_eq_zero h0
    obtain rfl : n = 0 := by rw [← hn]; rfl
    have qe : ∀ W, (binOp .eql 22 (.slice none 0 cap) (.slice none 0 0)).run Try.prog W = .ok (.bool true) W := fun W => Lib.run_eql_slice_nil W _ _ _ _ _ _ _ Try.underlying22
    clear hr hn h0
    go_enter Try.func85, Try.ntmps85
    go_wp2
    go_ret
    exact ⟨⟨none, 0, rfl, World.ownsRow_nil _ _ _ _⟩, by (repeat (first | (with_reducible exact Below.refl _ _) | (with_reducible assumption) | (with_reducible refine Below.drew ?_) | (with_reducible refine Below.allocS ?_ _) | (with_reducible refine Below.setCell ?_ ?_ _) | (with_reducible refine Below.step ?_ (by assumption)) | (with_reducible refine Below.drewN' ?_ _))); (try any_goals (first | (with_reducible assumption) | (simp; done) | (simp; omega) | omega))⟩
  | some b =>
    have HA : Hid (∃ v' w', (Builtin.append_ #[22, 22] 22 #[.slice (some ⟨w.heap.size, 0, none⟩) 0 0, .slice (some b) n cap]).run Try.prog (w.alloc (.cells #[] 34)) = .ok v' w' ∧ (w'.ownsRow w.heap.size 34 5 v' n (l.flatMap chE) ∧ Below w.heap.size w w')) := by
      have hb : Below w.heap.size w (w.alloc (.cells #[] 34)) := Below.allocS (Below.refl _ _) _
      obtain ⟨v', w', hrun, r1, r2, -⟩ := app_spread appCh [] l 0 n rfl hn (by omega) (w.alloc (.cells #[] 34)) w.heap.size (.slice (some ⟨w.heap.size, 0, none⟩) 0 0)
        (World.ownsRow_lit (base := w.heap.size) w #[] 0 (Nat.le_refl _) (Nat.zero_le _) rfl) (by simp) (some b) cap (hr.step hb) (fun e => by cases e)
      rw [Nat.zero_add, List.nil_append] at r1
      exact Lib.hid ⟨v', w', hrun, r1, Below.grown hb r2 (by simp) (fun k e => by cases e; exact Nat.le_refl _)⟩
    have qe : ∀ W, (binOp .eql 22 (.slice (some b) n cap) (.slice none 0 0)).run Try.prog W = .ok (.bool false) W := fun W => Lib.run_eql_slice_nil W _ _ _ _ _ _ _ Try.underlying22
    clear hr hn hl
    go_enter Try.func85, Try.ntmps85
    go_wp2_with (at_builtin; refine wpList_app rfl (.tmp 5) (.tmp 6) 22 rfl _ _ rfl rfl HA.out ?_; rintro v6 w6 ⟨hown6, hB6⟩; obtain ⟨A6, c6, rfl, -, -⟩ := row_form hown6; have HO := Lib.hid hown6; clear hown6)
    go_ret
    exact ⟨⟨A6, c6, rfl, HO.out⟩, hB6⟩
end Go.Proofs.Ytomgaiokmdcjmaa
