/-
  Contract of Table, of gun.
-/
import Derived.Test.YtgiplkfdallmkaaT2
import Derived.Test.YtgiplkfdallmkaaRow2
namespace Go.Proofs.Ytgiplkfdallmkaa
open Go.RowKit
set_option linter.unusedVariables false

theorem spI : (Try.prog.info? 29).map (fun i => (i.zero, i.size, i.bytes)) = some (some (.agg #[.int .i64 0, .int .i64 0]), 2, 16) := by kernel_rfl
theorem spU : Try.prog.underlying 55 = some (.slice 29) := by kernel_rfl
def tabOf (s v x y : Int) (p : Int × Int) : Int × Int := (lagLo s v (dd x y p.1 p.2), lagHi s v (dd x y p.1 p.2))
def tabE (s v x y : Int) (l : List (Int × Int)) : Int := if askedE s v (l ++ [(x, y)]) = 0 then (if l.length ≤ 100 then 0 else 7) else askedE s v (l ++ [(x, y)])
def tabL (s v x y : Int) (l : List (Int × Int)) : List (Int × Int) := if tabE s v x y l = 0 then l.map (tabOf s v x y) else []

set_option maxHeartbeats 4000000 in
set_option maxRecDepth 100000 in
theorem Table_c (s v x y : Int) (l : List (Int × Int)) (A : Option Addr) (cap : Nat) (hc : l.length ≤ cap) (hm : cap ≤ maxLen) (hl : l.length ≤ 1000) (w : World) (hr : RdL w w.heap.size ptE 2 A l) :
    Calls Try.prog 37 #[.agg #[.int .i64 s, .int .i64 v], .agg #[.int .i64 x, .int .i64 y], .slice A l.length cap] w fun e w' => ∃ u, e = .returned (.tuple #[u, .int .i64 (tabE s v x y l)]) ∧ IsSl w' ptE 2 u (tabL s v x y l) ∧ Below w.heap.size w w' := by
  obtain ⟨i0, hi, hz0, hz1, hz2⟩ := info_parts ptI
  obtain ⟨i1, hj, hy0, hy1, hy2⟩ := info_parts spI
  have hA := Lib.hid (fun h => (⟨hr.none_len h, hr.none_len h⟩ : l.length = 0 ∧ l.length = 0))
  have HR := Lib.hid hr
  have HL := Lib.hid (flat_len ptE 2 ptE_len l)
  generalize hE : askedE s v (l ++ [(x, y)]) = E
  have HE := Lib.hid hE
  generalize hV : tabL s v x y l = V
  generalize hF : tabE s v x y l = F
  have HV := Lib.hid hV
  have HF := Lib.hid hF
  clear hr hE hV hF
  go_enter Try.func37, Try.ntmps37
  go_wp2
  go_upto_region 2 with fail
  go_cut [8] (fun s8 w1 => (s8 = .int .i64 E) ∧ w1.cell? ⟨w.heap.size, 0, none⟩ = some (.int .i64 s) ∧ w1.cell? ⟨w.heap.size, 1, none⟩ = some (.int .i64 v) ∧ w1.cell? ⟨w.heap.size + 1, 0, none⟩ = some (.int .i64 x) ∧ w1.cell? ⟨w.heap.size + 1, 1, none⟩ = some (.int .i64 y) ∧ Below w.heap.size w w1)
  case first =>
    go_region_law (first
      | (refine step_append_grows rfl (.tmp 14) (.tmp 16) 51 rfl 25 i0 (.agg #[.int .i64 0, .int .i64 0]) 2 16 (by kernel_rfl) hi hz0 hz1 hz2 rfl (by decide) A l.length l.length (l.flatMap ptE) (by simp [Act.eval]) hA.out HL.out (HR.out.olds ptE_len (by decide) (by (repeat (first | exact Below.refl _ _ | refine Below.drew ?_ | refine Below.allocS ?_ _ | refine Below.step ?_ (by assumption) | refine Below.setCell ?_ (by simp <;> omega) _ | refine Below.drewN' ?_ _)))) ⟨w.heap.size + 1 + 1, 0, none⟩ 1 1 [.int .i64 x, .int .i64 y] (by simp [Act.eval]) rfl (new_cells _ _ [.int .i64 x, .int .i64 y] _ (by simp)) (by simp [Value.oneCell']) (by omega) (by unfold maxLen; omega) (by omega) ?_; intro v' w' hown hgrow; obtain ⟨g', cap', rfl⟩ := ownsRow_succ hown; have hbg := Below.of_grow0 hgrow; have q0 : w'.cell? ⟨w.heap.size, 0, none⟩ = some (.int .i64 s) := keep_cell hbg (by simp [go_sem]); have q1 : w'.cell? ⟨w.heap.size, 1, none⟩ = some (.int .i64 v) := keep_cell hbg (by simp [go_sem]); have q2 : w'.cell? ⟨w.heap.size + 1, 0, none⟩ = some (.int .i64 x) := keep_cell hbg (by simp [go_sem]); have q3 : w'.cell? ⟨w.heap.size + 1, 1, none⟩ = some (.int .i64 y) := keep_cell hbg (by simp [go_sem]))
      | (go_simp; go_at_call 75; refine (Clip_c _ _ _ hc hm _).mono ?_; rintro e w1 ⟨rfl, rfl⟩)
      | (go_simp; go_at_call 51; refine (asked_n s v (l ++ [(x, y)]) _ (by simp) _ _ (by simp; omega) _ (RdL.of_own ptE_len (by rw [← flat_snoc]; assumption) (by simp))).mono ?_; rintro e w1 ⟨rfl, hb⟩))
    all_goals
      have z0 : w1.cell? ⟨w.heap.size, 0, none⟩ = some (.int .i64 s) := keep_cell hb (by simp [go_sem, *])
      have z1 : w1.cell? ⟨w.heap.size, 1, none⟩ = some (.int .i64 v) := keep_cell hb (by simp [go_sem, *])
      have z2 : w1.cell? ⟨w.heap.size + 1, 0, none⟩ = some (.int .i64 x) := keep_cell hb (by simp [go_sem, *])
      have z3 : w1.cell? ⟨w.heap.size + 1, 1, none⟩ = some (.int .i64 y) := keep_cell hb (by simp [go_sem, *])
      rw [HE.out]
      go_wp2_with fail
      go_meet; exact ⟨rfl, (by simp [go_sem, *]), (by simp [go_sem, *]), (by simp [go_sem, *]), (by simp [go_sem, *]), by (repeat (first | exact Below.refl _ _ | refine Below.drew ?_ | refine Below.allocS ?_ _ | refine Below.step ?_ (by assumption) | refine Below.setCell ?_ (by simp <;> omega) _ | refine Below.drewN' ?_ _))⟩
  case rest =>
    obtain ⟨c1, x1_0_0, x1_0_1, x1_1_0, x1_1_1, g1⟩ := hcut
    have y1_0 : w.heap.size < wc.heap.size := cell?_lt x1_0_0
    have y1_1 : w.heap.size + 1 < wc.heap.size := cell?_lt x1_1_0
    subst c1
    by_cases he : E = 0
    · subst he
      by_cases hw : l.length ≤ 100
      · have h2 : F = 0 := by rw [← HF.out]; unfold tabE; rw [HE.out, if_pos hw]; rfl
        have h3 : V = l.map (tabOf s v x y) := by rw [← HV.out]; unfold tabL; rw [HF.out, if_pos h2]
        have hp := Lib.hid (askedE_parts HE.out)
        have HX := Lib.hid h3
        clear h3
        subst h2
        go_wp2
        go_loopw [9, 27] (fun v9 i wr => ∃ k : Nat, k ≤ l.length ∧ i = .int .i64 k ∧ wr.ownsRow wc.heap.size 29 2 v9 k (((l.map (tabOf s v x y)).take k).flatMap ptE) ∧ Below wc.heap.size wc wr) (fun v9 i _ => l.length - (intOf i).toNat)
        case atStart => exact ⟨0, Nat.zero_le _, rfl, World.ownsRow_nil _ _ _ _, Below.refl _ _⟩
        case round =>
          obtain ⟨k, hk, rfl, hown, hbw⟩ := hrel
          have z0 := keep_cell hbw x1_0_0
          have z1 := keep_cell hbw x1_0_1
          have z2 := keep_cell hbw x1_1_0
          have z3 := keep_cell hbw x1_1_1
          have y0 := cell?_lt z0
          have y1 := cell?_lt z2
          have hs := hbw.size
          by_cases hlt : k < l.length
          · obtain ⟨p1, p2, p3⟩ := hp.out
            obtain ⟨b, off, rfl, hb0, hc⟩ := HR.out (by omega)
            have gw := Below.step g1 hbw
            have c0 := (gw.cell (p := ⟨b, _, none⟩) hb0).trans (hc k hlt 0 _ rfl)
            have c1 := (gw.cell (p := ⟨b, _, none⟩) hb0).trans (hc k hlt 1 _ rfl)
            clear hc
            simp at c0
            have q1 := p3 _ (List.getElem_mem hlt)
            have hK := fun W => lag_c s v x y l[k].1 l[k].2 p1 p2 q1 W
            have hs2 : tabOf s v x y l[k] = (lagLo s v (dd x y l[k].1 l[k].2), lagHi s v (dd x y l[k].1 l[k].2)) := rfl
            generalize lagLo s v (dd x y l[k].1 l[k].2) = a1 at hK hs2
            generalize lagHi s v (dd x y l[k].1 l[k].2) = a2 at hK hs2
            clear q1 p3
            have HS := Lib.hid hs2
            generalize l[k].1 = e1 at hK c0
            generalize l[k].2 = e2 at hK c1
            have HK := Lib.hid hK
            have hb1 : b < wr.heap.size := Nat.lt_of_lt_of_le hb0 gw.size
            clear gw hs2 hK x1_0_0 x1_0_1 x1_1_0 x1_1_1 g1 y1_0 y1_1
            have HO := Lib.hid hown
            clear hown
            go_wp2_with (first
              | (go_at_call 52; (with_reducible refine (HK.out _).mono ?_); rintro e w1 ⟨rfl, hb⟩)
              | (at_builtin; refine wpList_append_own _ rfl (.tmp 31) (.tmp 36) 55 rfl wc.heap.size 29 i1 (.agg #[.int .i64 0, .int .i64 0]) 2 16 spU hj hy0 hy1 hy2 rfl (by decide) _ _ _ rfl (ownsRow_keep HO.out (by (repeat (first | exact Below.refl _ _ | refine Below.drew ?_ | refine Below.allocS ?_ _ | refine Below.step ?_ (by assumption) | refine Below.setCell ?_ (by simp <;> omega) _ | refine Below.drewN' ?_ _)))) ⟨w1.heap.size, 0, none⟩ 1 1 [.int .i64 a1, .int .i64 a2] rfl rfl (new_cells _ _ [.int .i64 a1, .int .i64 a2] _ rfl) (by simp [Value.oneCell']) (by unfold maxLen; omega) (by omega) (by simp; have := hb.size; simp at this; omega) ?_; intro v2 w2 hown2 hgrow2 hnil2))
            go_roundw
            case rel => exact ⟨k + 1, by omega, by go_num, by rw [take_snoc _ _ (by simpa using hlt), List.getElem_map, HS.out]; exact row_snoc hown2 rfl, Below.grow (by (repeat (first | exact Below.refl _ _ | refine Below.drew ?_ | refine Below.allocS ?_ _ | refine Below.step ?_ (by assumption) | refine Below.setCell ?_ (by simp <;> omega) _ | refine Below.drewN' ?_ _))) (ownsRow_keep HO.out (by (repeat (first | exact Below.refl _ _ | refine Below.drew ?_ | refine Below.allocS ?_ _ | refine Below.step ?_ (by assumption) | refine Below.setCell ?_ (by simp <;> omega) _ | refine Below.drewN' ?_ _)))) hgrow2 rfl (by simp; have := hb.size; simp at this; omega)⟩
            case measure => simp [intOf]; omega
          · obtain rfl : k = l.length := by omega
            rw [List.take_of_length_le (by simp)] at hown
            obtain ⟨A', cap', rfl, h4, h5⟩ := row_form hown
            have HO := Lib.hid hown
            clear hown
            go_wp2
            go_ret2
            exact ⟨.slice A' l.length cap', rfl, ⟨A', cap', by rw [HX.out, List.length_map], by rw [HX.out]; exact RdL.of_own ptE_len HO.out (by simp)⟩, Below.step g1 hbw⟩
      · have h2 : F = 7 := by rw [← HF.out]; unfold tabE; rw [HE.out, if_neg hw]; rfl
        have h3 : V = [] := by rw [← HV.out]; unfold tabL; rw [HF.out, h2]; rfl
        subst h2 h3
        go_wp2
        go_ret2
        exact ⟨.slice none 0 0, rfl, IsSl.nil _ _ _, by (repeat (first | exact Below.refl _ _ | refine Below.drew ?_ | refine Below.allocS ?_ _ | refine Below.step ?_ (by assumption) | refine Below.setCell ?_ (by simp <;> omega) _ | refine Below.drewN' ?_ _))⟩
    · have hn : (E != 0) = true := by simpa using he
      have h2 : F = E := by rw [← HF.out]; unfold tabE; rw [HE.out, if_neg he]
      have h3 : V = [] := by rw [← HV.out]; unfold tabL; rw [HF.out, h2, if_neg he]
      subst h2 h3
      go_wp2
      go_ret2
      exact ⟨.slice none 0 0, rfl, IsSl.nil _ _ _, by (repeat (first | exact Below.refl _ _ | refine Below.drew ?_ | refine Below.allocS ?_ _ | refine Below.step ?_ (by assumption) | refine Below.setCell ?_ (by simp <;> omega) _ | refine Below.drewN' ?_ _))⟩
end Go.Proofs.Ytgiplkfdallmkaa
