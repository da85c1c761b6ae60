/-
  TopLedgerBox: the walk.
-/
import Derived.Test.YtagbokhmcidokaaFh3
import Derived.Test.YtagbokhmcidokaaLe4
namespace Go.Proofs.Ytagbokhmcidokaa
open Go.RowKit Go.Deep
set_option linter.unusedVariables false
set_option linter.unusedSimpArgs false
def offOK (l : List Ent) (d : Int) : Bool := okEn l && isDayB d && (offV l d).isSome
theorem offR_ok {l : List Ent} {d : Int} (h : offOK l d = true) : offR l d = (offN l d, 0) := by
  unfold offOK at h
  simp only [Bool.and_eq_true] at h
  unfold offR
  rw [if_pos h.1.1, if_pos h.1.2, if_pos h.2]
theorem offR_no {l : List Ent} {d : Int} (h : offOK l d = false) : ∃ e, offR l d = (0, e) ∧ e ≠ 0 := by
  unfold offOK at h
  unfold offR
  split
  · split
    · split
      · simp_all
      · exact ⟨8, rfl, by decide⟩
    · exact ⟨7, rfl, by decide⟩
  · exact ⟨1, rfl, by decide⟩
/-- The errors of the box so far. -/
def bxR (l : List Ent) (a : Int) (k : Nat) : List Int := (List.range k).map fun (i : Nat) => offN l (a + (i : Int))
theorem bxR_len (l : List Ent) (a : Int) (k : Nat) : (bxR l a k).length = k := by simp [bxR]
theorem bxR_snoc (l : List Ent) (a : Int) (k : Nat) : bxR l a (k + 1) = bxR l a k ++ [offN l (a + (k : Int))] := by unfold bxR; rw [List.range_succ]; simp
theorem bxR_at (l : List Ent) (a : Int) {k i : Nat} (h : i < k) : (bxR l a k).getD i 0 = offN l (a + (i : Int)) := by
  rw [List.getD_eq_getElem?_getD, List.getElem?_eq_getElem (by rw [bxR_len]; exact h)]
  simp [bxR]
theorem difF1 (l : List Int) : ∀ (f i : Nat), 1 ≤ i → l.length ≤ i + f → difF l 1 f i = (List.range (l.length - i)).map fun j => l.getD (i + j) 0 - l.getD (i + j - 1) 0 := by
  intro f
  induction f with
  | zero => intro i h1 h2; rw [show l.length - i = 0 by omega]; rfl
  | succ f ih =>
    intro i h1 h2
    unfold difF
    split
    · rename_i h
      rw [ih (i + 1) (by omega) (by omega), show l.length - i = (l.length - (i + 1)) + 1 by omega, List.range_succ_eq_map]
      simp only [List.map_cons, List.map_map]
      congr 1
      refine List.map_congr_left fun j _ => ?_
      simp only [Function.comp_apply, Nat.succ_eq_add_one]
      rw [show i + 1 + j = i + (j + 1) by omega, show i + (j + 1) - 1 = i + j by omega]
    · rename_i h; rw [show l.length - i = 0 by omega]; rfl
theorem dif1_len (l : List Int) (h : 1 ≤ l.length) : (dif l 1).length = l.length - 1 := by unfold dif; rw [difF1 l _ 1 (Nat.le_refl _) (by omega)]; simp
theorem dif1_at (l : List Int) {i : Nat} (h : i + 1 < l.length) : (dif l 1).getD i 0 = l.getD (i + 1) 0 - l.getD i 0 := by
  unfold dif
  rw [difF1 l _ 1 (Nat.le_refl _) (by omega), List.getD_eq_getElem?_getD, List.getElem?_eq_getElem (by simp; omega)]
  simp only [List.getElem_map, List.getElem_range, Option.getD_some]
  rw [Nat.add_comm 1 i, Nat.add_sub_cancel]
theorem offOK_parts {l : List Ent} {d : Int} (h : offOK l d = true) : okEn l = true ∧ isDayB d = true ∧ (offV l d).isSome = true := by
  unfold offOK at h
  simp only [Bool.and_eq_true] at h
  exact ⟨h.1.1, h.1.2, h.2⟩
/-- What holds behind k days. -/
def LbJ (w : World) (l : List Ent) (a : Int) (k : Nat) (wr : World) : Prop := (∀ j : Nat, j < k → offOK l (a + (j : Int)) = true) ∧
  ∃ v, (wr.cell? ⟨w.heap.size, 1, none⟩ = some v ∧ wr.frozen? ⟨w.heap.size, 1, none⟩ = false) ∧ wr.cell? ⟨w.heap.size, 0, none⟩ = some (.string ⟨#[97]⟩) ∧ wr.ownsRow (w.heap.size + 1) 3 1 v k ((bxR l a k).flatMap inE) ∧ Below w.heap.size w wr
theorem day_bd {l : List Ent} {d : Int} (h : offOK l d = true) : 0 ≤ d ∧ d ≤ 182985 := wiB_true (offOK_parts h).2.1
set_option maxHeartbeats 4000000 in
set_option maxRecDepth 100000 in
theorem TopLedgerBox_walk (w : World) (A0 : Option Addr) (c0 : Nat) (l0 : List Ent) (a1 a2 : Int) (n0 : l0.length ≤ c0) (m0 : c0 ≤ maxLen) (r0 : RdL w w.heap.size enE 3 A0 l0) (w0 : ∀ x ∈ l0, I64 x.d) (w1 : I64 a1) (w2 : I64 a2) :
    Calls Try.prog 3 #[.slice A0 l0.length c0, .int .i64 a1, .int .i64 a2] w fun e w' => e = .returned (.bool true) ∧ Below w.heap.size w w' := by
  have hlm : l0.length ≤ 9223372036854775807 := by unfold maxLen at m0; omega
  have HAw := Lib.hid (fun W => awake9_c W)
  have HOff := Lib.hid (fun d W (hb : Below w.heap.size w W) => Off_c l0 A0 c0 hlm d W (r0.step hb))
  obtain ⟨v1, v2⟩ := w1
  obtain ⟨v3, v4⟩ := w2
  clear w0
  by_cases hbad : 30 < l0.length ∨ a2 < 2 ∨ 20 < a2
  · have q1 : ((decide ((l0.length : Int) > 30)) || decide (a2 < 2) || decide (a2 > 20)) = true := by
      rcases hbad with h | h | h <;> simp <;> omega
    clear r0
    generalize hn : (l0.length : Int) = n at *
    rcases Decidable.em (n > 30) with h1 | h1
    · go_enter Try.func3, Try.ntmps3
      go_wp2_with fail
      refine (HAw.out _).mono ?_
      rintro e w1 ⟨rfl, hb1⟩
      go_wp2
      go_ret
      exact ⟨rfl, hb1⟩
    · rcases Decidable.em (a2 < 2) with h2 | h2
      · go_enter Try.func3, Try.ntmps3
        go_wp2_with fail
        refine (HAw.out _).mono ?_
        rintro e w1 ⟨rfl, hb1⟩
        go_wp2
        go_ret
        exact ⟨rfl, hb1⟩
      · have h3 : 20 < a2 := by omega
        go_enter Try.func3, Try.ntmps3
        go_wp2_with fail
        refine (HAw.out _).mono ?_
        rintro e w1 ⟨rfl, hb1⟩
        go_wp2
        go_ret
        exact ⟨rfl, hb1⟩
  obtain ⟨D, rfl⟩ : ∃ D : Nat, a2 = (D : Int) := ⟨a2.toNat, by omega⟩
  have d1 : (2 : Int) ≤ (D : Int) := by omega
  have d2 : (D : Int) ≤ 20 := by omega
  have d3 : (l0.length : Int) ≤ 30 := by omega
  have HRt := Lib.hid (fun a b h1 h2 h3 h4 h5 h6 W (hb : Below w.heap.size w W) => Rated_c l0 A0 c0 hlm h1 a b h2 h3 h4 h5 h6 W (r0.step hb))
  have HD := Lib.hid (show 2 ≤ D by omega)
  clear hbad r0
  generalize l0.length = n at *
  go_enter Try.func3, Try.ntmps3
  go_wp2
  go_loopw [34] (fun i wr => ∃ k : Nat, k ≤ D ∧ i = .int .i64 k ∧ LbJ w l0 a1 k wr) (fun i _ => D - (intOf i).toNat)
  case atStart => exact ⟨0, Nat.zero_le _, rfl, fun j hj => absurd hj (Nat.not_lt_zero _), _, ⟨by simp [go_sem], by simp [go_sem]⟩, by simp [go_sem], World.ownsRow_nil _ _ _ _, by (repeat (first | (with_reducible exact Below.refl _ _) | (with_reducible assumption) | (with_reducible refine Below.drew ?_) | (with_reducible refine Below.allocS ?_ _) | (with_reducible refine Below.setCell ?_ ?_ _) | (with_reducible refine Below.step ?_ (by assumption)) | (with_reducible refine Below.drewN' ?_ _))); (try any_goals (first | (with_reducible assumption) | (simp; done) | (simp; omega) | omega))⟩
  case round =>
    obtain ⟨k, hk, rfl, hok, v, ⟨e1, e2⟩, e3, hown, hbw⟩ := hrel
    by_cases hlt : k < D
    · have hsum : -9223372036854775808 ≤ a1 + (k : Int) ∧ a1 + (k : Int) ≤ 9223372036854775807 := by
        by_cases hk0 : k = 0
        · subst hk0; constructor <;> simp <;> omega
        · have := day_bd (hok 0 (by omega)); constructor <;> omega
      obtain ⟨s1, s2⟩ := hsum
      have HK := Lib.hid hok
      obtain ⟨Av, cv, rfl, hcc, -⟩ := row_form hown
      have HOw := Lib.hid hown
      have u1 : (0 : Int) ≤ (k : Int) := by omega
      have u2 : (k : Int) < (D : Int) := by omega
      have HO := Lib.hid (HOff.out (a1 + (k : Int)) wr hbw)
      clear hok hown
      cases hof : offOK l0 (a1 + (k : Int))
      · obtain ⟨e, he, he0⟩ := offR_no hof
        rw [he] at HO
        have q1 : (e != 0) = true := by simp [he0]
        clear hof he he0
        go_wp2_with fail
        refine (HO.out).mono ?_
        rintro e w1 ⟨rfl, hb1⟩
        go_wp2_with fail
        refine (HAw.out _).mono ?_
        rintro e w2 ⟨rfl, hb2⟩
        go_wp2
        go_ret
        exact ⟨rfl, Below.step (Below.step hbw hb1) hb2⟩
      · rw [offR_ok hof] at HO
        have HK2 : Hid (∀ j : Nat, j < k + 1 → offOK l0 (a1 + (j : Int)) = true) := Lib.hid (fun j hj => by
          by_cases h : j < k
          · exact HK.out j h
          · obtain rfl : j = k := by omega
            exact hof)
        clear hof
        go_wp2_with fail
        refine (HO.out).mono ?_
        rintro e w1 ⟨rfl, hb1⟩
        have hN : Hid (bxR l0 a1 (k + 1) = bxR l0 a1 k ++ [offN l0 (a1 + (k : Int))]) := Lib.hid (bxR_snoc l0 a1 k)
        generalize offN l0 (a1 + (k : Int)) = x at *
        have f1 : w1.cell? ⟨w.heap.size, 1, none⟩ = some (.slice Av k cv) := keep_cell hb1 e1
        have f2 : w1.frozen? ⟨w.heap.size, 1, none⟩ = false := keep_frozen hb1 (cell?_lt e1) e2
        have f3 : w1.cell? ⟨w.heap.size, 0, none⟩ = some (.string ⟨#[97]⟩) := keep_cell hb1 e3
        have hbw1 := Below.step hbw hb1
        have z1 : w.heap.size < w1.heap.size := cell?_lt f1
        have hown1 := ownsRow_keep HOw.out hb1
        have HA := Lib.hid (app_run appIn (bxR l0 a1 k) x k (bxR_len _ _ _) (by omega) (w1.alloc (.cells #[.int .i64 x] 3)) (w.heap.size + 1) w1.heap.size _ (hown1.alloc _) (by simp; omega) (one_cell rfl (by simp [go_sem])))
        have HPush : Hid (∀ v8 w8, (w8.ownsRow (w.heap.size + 1) 3 1 v8 (k + 1) ((bxR l0 a1 k ++ [x]).flatMap inE) ∧ Below (w.heap.size + 1) (w1.alloc (.cells #[.int .i64 x] 3)) w8) →
            ∃ A8 c8, v8 = .slice A8 (k + 1) c8 ∧ w8.ownsRow (w.heap.size + 1) 3 1 (.slice A8 (k + 1) c8) (k + 1) ((bxR l0 a1 k ++ [x]).flatMap inE) ∧ w8.cell? ⟨w.heap.size, 1, none⟩ = some (.slice Av k cv) ∧ w8.frozen? ⟨w.heap.size, 1, none⟩ = false ∧ w8.cell? ⟨w.heap.size, 0, none⟩ = some (.string ⟨#[97]⟩) ∧ Below w.heap.size w w8) := Lib.hid (by
          rintro v8 w8 ⟨h1, h2⟩
          obtain ⟨A8, c8, rfl, -, -⟩ := row_form h1
          refine ⟨A8, c8, rfl, h1, low_at h2 (by omega) (keep_cell (Below.allocS (Below.refl _ _) _) f1), low_frozen h2 (by omega) (keep_frozen (Below.allocS (Below.refl _ _) _) (cell?_lt f1) f2), low_at h2 (by omega) (keep_cell (Below.allocS (Below.refl _ _) _) f3), (Below.allocS hbw1 _).trans (h2.mono (by omega))⟩)
        clear e1 e2 e3 hb1 HOw hown1 hbw
        go_wp2_with (at_builtin; refine wpList_app rfl (.tmp 49) (.tmp 51) 24 rfl _ _ rfl rfl HA.out ?_; rintro v8 w8 hR; obtain ⟨A8, c8, rfl, hown8, p1, p2, p3, hb8⟩ := HPush.out v8 w8 hR; have HO8 := Lib.hid hown8; clear hR hown8 HA HPush f1 f2 f3)
        go_roundw
        case rel =>
          refine ⟨k + 1, by omega, by go_num, HK2.out, .slice A8 (k + 1) c8, ⟨by simp [go_sem, *], by simp [go_sem, *]⟩, by simp [go_sem, *], ?_, Below.setCell hb8 (Nat.le_refl _) _⟩
          rw [hN.out]
          exact row_same HO8.out (fun g e => Below.heap_setCell _ _ _ _ (by
            have := (HO8.out.lt g e).1
            show g ≠ w.heap.size
            omega))
        case measure => simp [intOf]; omega
    · obtain rfl : k = D := by omega
      obtain ⟨m, rfl⟩ : ∃ m, k = m + 1 := ⟨k - 1, by omega⟩
      obtain ⟨Av, cv, rfl, hcc, -⟩ := row_form hown
      have HK := Lib.hid hok
      have hlen := bxR_len l0 a1 (m + 1)
      have hrd : RdL wr wr.heap.size inE 1 Av (bxR l0 a1 (m + 1)) := RdL.of_own (fun _ => rfl) hown hlen
      have HV := Lib.hid (ValidBox_c (bxR l0 a1 (m + 1)) Av cv (by rw [hlen]; omega) wr hrd)
      have HDa := Lib.hid (fun hq W (hb : Below wr.heap.size wr W) => Daily_c (bxR l0 a1 (m + 1)) Av cv hq W (hrd.step hb))
      rw [hlen] at HV HDa
      have hdl : (dif (bxR l0 a1 (m + 1)) 1).length = m := by rw [dif1_len _ (by rw [hlen]; omega), hlen]; rfl
      have HAt : Hid (∀ i : Nat, i < m → (dif (bxR l0 a1 (m + 1)) 1).getD i 0 = offN l0 (a1 + ((i + 1 : Nat) : Int)) - offN l0 (a1 + (i : Int))) := Lib.hid (fun i hi => by rw [dif1_at _ (by rw [hlen]; omega), bxR_at _ _ (by omega), bxR_at _ _ (by omega)])
      have HDL := Lib.hid hdl
      have hu := HD.out
      clear hlen hdl hok hown hrd
      generalize dif (bxR l0 a1 (m + 1)) 1 = R at *
      cases hq : okErr (bxR l0 a1 (m + 1))
      · rw [hq] at HV
        clear HDa hq
        go_wp2_with fail
        refine (HV.out).mono ?_
        rintro e w1 ⟨rfl, hb1⟩
        go_wp2_with fail
        refine (HAw.out _).mono ?_
        rintro e w2 ⟨rfl, hb2⟩
        go_wp2
        go_ret
        exact ⟨rfl, Below.step (Below.step hbw hb1) hb2⟩
      · rw [hq] at HV
        have HDb := Lib.hid (HDa.out hq)
        clear HDa hq
        go_wp2_with fail
        refine (HV.out).mono ?_
        rintro e w1 ⟨rfl, hb1⟩
        have f1 : w1.cell? ⟨w.heap.size, 1, none⟩ = some (.slice Av (m + 1) cv) := keep_cell hb1 e1
        have f3 : w1.cell? ⟨w.heap.size, 0, none⟩ = some (.string ⟨#[97]⟩) := keep_cell hb1 e3
        go_wp2_with fail
        refine (HDb.out _ hb1).mono ?_
        rintro e w2 ⟨A2, c2, rfl, ⟨h2, hc2⟩, hb2⟩
        rw [HDL.out] at hc2 ⊢
        have hbw2 := Below.step (Below.step hbw hb1) hb2
        have HRd := Lib.hid h2
        have HB : Hid (∀ i : Nat, i ≤ m → -172800000 ≤ offN l0 (a1 + (i : Int)) ∧ offN l0 (a1 + (i : Int)) ≤ 172800000) := Lib.hid (fun i hi => offN_bd (offOK_parts (HK.out 0 (by omega))).1 _)
        have HRt1 : Hid (∀ i j : Nat, i < j → j ≤ m → ∀ W, Below w.heap.size w W → Calls Try.prog 14 #[.slice A0 n c0, .int .i64 (a1 + (i : Int)), .int .i64 (a1 + (j : Int))] W fun e W' => e = .returned (.tuple #[.int .i64 (offN l0 (a1 + (j : Int)) - offN l0 (a1 + (i : Int))), .int .i64 0]) ∧ Below W.heap.size W W') := Lib.hid (fun i j hij hj W hb => by
          have o1 := offOK_parts (HK.out i (by omega))
          have o2 := offOK_parts (HK.out j (by omega))
          exact HRt.out _ _ o1.1 o1.2.1 o2.2.1 (by omega) o1.2.2 o2.2.2 W hb)
        obtain ⟨p1, p2⟩ := day_bd (HK.out 0 (by omega))
        simp at p1 p2
        clear f1 f3 hb1 hb2 e1 e2 e3 hbw h2 HK HV HDb HOff HRt
        have HF : ∃ x : Nat → Int, (∀ i : Nat, i ≤ m → -172800000 ≤ x i ∧ x i ≤ 172800000) ∧ (∀ i : Nat, i < m → R.getD i 0 = x (i + 1) - x i) ∧
            ∀ i j : Nat, i < j → j ≤ m → ∀ W, Below w.heap.size w W → Calls Try.prog 14 #[.slice A0 n c0, .int .i64 (a1 + (i : Int)), .int .i64 (a1 + (j : Int))] W fun e W' => e = .returned (.tuple #[.int .i64 (x j - x i), .int .i64 0]) ∧ Below W.heap.size W W' :=
          ⟨fun i => offN l0 (a1 + (i : Int)), HB.out, fun i hi => HAt.out i (by omega), HRt1.out⟩
        obtain ⟨x, hxb, hxd, hxr⟩ := HF
        have HXB := Lib.hid hxb
        have HXD := Lib.hid hxd
        have HXR := Lib.hid hxr
        obtain ⟨b2, off2, rfl, hb2, hcs⟩ := rd_cells HRd.out (by rw [HDL.out]; omega)
        rw [HDL.out] at hcs
        have HCS := Lib.hid hcs
        clear hxb hxd hxr HB HAt HRt1 HRd hcs
        have m1 : (1 : Int) ≤ (m : Int) := by omega
        have m2 : (m : Int) ≤ 19 := by omega
        go_wp2
        go_loopw [13, 75] (fun s i wr => ∃ k : Nat, k ≤ m ∧ i = .int .i64 k ∧ s = .int .i64 (x k - x 0) ∧ Below w.heap.size w wr ∧ Below w2.heap.size w2 wr) (fun _ i _ => m - (intOf i).toNat)
        case atStart => exact ⟨0, Nat.zero_le _, rfl, by simp, hbw2, Below.refl _ _⟩
        case round =>
          obtain ⟨k, hk, rfl, rfl, hbw3, hbw4⟩ := hrel
          have u1 : (0 : Int) ≤ (k : Int) := by omega
          have u2 : (k : Int) ≤ (m : Int) := by omega
          have y0 := HXB.out 0 (by omega)
          have yk := HXB.out k hk
          by_cases hlt : k < m
          · have hcell := (hbw4.cell (p := ⟨b2, off2 + k, none⟩) hb2).trans (HCS.out k hlt)
            have HR1 := Lib.hid (HXR.out k (k + 1) (by omega) (by omega) _ hbw3)
            rw [HXD.out k hlt] at hcell
            have yk1 := HXB.out (k + 1) (by omega)
            rw [show a1 + ((k + 1 : Nat) : Int) = a1 + (k : Int) + 1 by omega] at HR1
            generalize hx1 : x (k + 1) = z1 at *
            generalize hx2 : x k = z2 at *
            generalize hx3 : x 0 = z3 at *
            have HZ1 := Lib.hid hx1
            have HZ3 := Lib.hid hx3
            clear hx1 hx2 hx3 HXB HXD HXR HCS
            go_wp2_with fail
            refine (HR1.out).mono ?_
            rintro e w4 ⟨rfl, hb4⟩
            go_wp2
            go_roundw
            case rel => exact ⟨k + 1, by omega, by go_num, by rw [HZ1.out]; congr 1; omega, Below.step hbw3 hb4, Below.step hbw4 hb4⟩
            case measure => simp [intOf]; omega
          · obtain rfl : k = m := by omega
            have HR1 := Lib.hid (HXR.out 0 k (by omega) (by omega) _ hbw3)
            simp only [Int.natCast_zero, Int.add_zero] at HR1
            rw [show a1 + (k : Int) = a1 + ((k : Int) + 1) - 1 by omega] at HR1
            generalize hx2 : x k = z2 at *
            generalize hx3 : x 0 = z3 at *
            clear hx2 hx3 HXB HXD HXR HCS
            go_wp2_with fail
            refine (HR1.out).mono ?_
            rintro e w4 ⟨rfl, hb4⟩
            go_wp2_with fail
            refine (HAw.out _).mono ?_
            rintro e w5 ⟨rfl, hb5⟩
            go_wp2
            go_ret
            exact ⟨by simp, Below.step (Below.step hbw3 hb4) hb5⟩
end Go.Proofs.Ytagbokhmcidokaa
