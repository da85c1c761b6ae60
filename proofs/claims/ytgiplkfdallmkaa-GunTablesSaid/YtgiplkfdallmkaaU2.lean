/-
  Contract of Table of the reference, and of SameSpans and SameShots at equal lists.
-/
import Derived.Test.YtgiplkfdallmkaaU1
import Derived.Test.YtgiplkfdallmkaaS2
namespace Go.Proofs.Ytgiplkfdallmkaa
open Go.RowKit
set_option linter.unusedVariables false

theorem tabE_air {s v x y : Int} {l : List (Int × Int)} (ha : validAir s v = false) : tabE s v x y l = 1 := by unfold tabE; rw [askedE_air ha]; rfl
theorem tabE_no {s v x y : Int} {l : List (Int × Int)} {p : Int × Int} (ha : validAir s v = true) (hp : p ∈ l ++ [(x, y)]) (h : place p.1 p.2 = false) : tabE s v x y l = 7 := by unfold tabE; rw [askedE_no ha hp h]; rfl
theorem tabE_in {s v x y : Int} {l : List (Int × Int)} (ha : validAir s v = true) (hw : ¬ l.length ≤ 100) : tabE s v x y l = 7 := by
  unfold tabE askedE; rw [ha, if_neg hw]
  cases (l ++ [(x, y)]).any fun x => !place x.1 x.2 <;> rfl
theorem tabE_ok {s v x y : Int} {l : List (Int × Int)} (ha : validAir s v = true) (hw : l.length ≤ 100) (h : ∀ p ∈ l ++ [(x, y)], place p.1 p.2 = true) : tabE s v x y l = 0 := by unfold tabE; rw [askedE_ok ha h, if_pos hw]; rfl
theorem tabL_no {s v x y e : Int} {l : List (Int × Int)} (h : tabE s v x y l = e) (he : e ≠ 0) : tabL s v x y l = [] := by unfold tabL; rw [h, if_neg he]

set_option maxHeartbeats 4000000 in
set_option maxRecDepth 100000 in
theorem rTable_c (s v x y : Int) (l : List (Int × Int)) (A : Option Addr) (cap : Nat) (hl : l.length ≤ 1000) (w : World) (hr : RdL w w.heap.size ptE 2 A l) :
    Calls Try.prog 38 #[.agg #[.int .i64 s, .int .i64 v], .agg #[.int .i64 x, .int .i64 y], .slice A l.length cap] w fun e w' => ∃ u, e = .returned (.tuple #[u, .int .i64 (tabE s v x y l)]) ∧ IsSl w' ptE 2 u (tabL s v x y l) ∧ Below w.heap.size w w' := by
  obtain ⟨i1, hj, hy0, hy1, hy2⟩ := info_parts spI
  have HR := Lib.hid hr
  clear hr
  cases ha : validAir s v
  · have h2 := tabE_air (x := x) (y := y) (l := l) ha
    rw [h2, tabL_no h2 (by decide)]
    clear h2
    go_enter Try.func38, Try.ntmps38
    go_wp2_with fail
    refine (rvalidAir_c _ _ _).mono ?_
    rintro e w1 ⟨rfl, hb1⟩
    have x1_0_0 : w1.cell? ⟨w.heap.size, 0, none⟩ = some (.int .i64 s) := keep_cell hb1 (by simp [go_sem, *])
    have x1_0_1 : w1.cell? ⟨w.heap.size, 1, none⟩ = some (.int .i64 v) := keep_cell hb1 (by simp [go_sem, *])
    have y1_0 : w.heap.size < w1.heap.size := cell?_lt x1_0_0
    have x1_1_0 : w1.cell? ⟨w.heap.size + 1, 0, none⟩ = some (.int .i64 x) := keep_cell hb1 (by simp [go_sem, *])
    have x1_1_1 : w1.cell? ⟨w.heap.size + 1, 1, none⟩ = some (.int .i64 y) := keep_cell hb1 (by simp [go_sem, *])
    have y1_1 : w.heap.size + 1 < w1.heap.size := cell?_lt x1_1_0
    have g1 : Below w.heap.size w w1 := by (repeat (first | exact Below.refl _ _ | refine Below.drew ?_ | refine Below.allocS ?_ _ | refine Below.step ?_ (by assumption) | refine Below.setCell ?_ (by simp <;> omega) _ | refine Below.drewN' ?_ _))
    clear hb1
    rw [ha]
    go_wp2
    go_ret2
    exact ⟨.slice none 0 0, rfl, IsSl.nil _ _ _, by (repeat (first | exact Below.refl _ _ | refine Below.drew ?_ | refine Below.allocS ?_ _ | refine Below.step ?_ (by assumption) | refine Below.setCell ?_ (by simp <;> omega) _ | refine Below.drewN' ?_ _))⟩
  cases hp : place x y
  · have h2 := tabE_no (s := s) (v := v) (x := x) (y := y) (l := l) (p := (x, y)) ha (by simp) hp
    rw [h2, tabL_no h2 (by decide)]
    clear h2
    go_enter Try.func38, Try.ntmps38
    go_wp2_with fail
    refine (rvalidAir_c _ _ _).mono ?_
    rintro e w1 ⟨rfl, hb1⟩
    have x1_0_0 : w1.cell? ⟨w.heap.size, 0, none⟩ = some (.int .i64 s) := keep_cell hb1 (by simp [go_sem, *])
    have x1_0_1 : w1.cell? ⟨w.heap.size, 1, none⟩ = some (.int .i64 v) := keep_cell hb1 (by simp [go_sem, *])
    have y1_0 : w.heap.size < w1.heap.size := cell?_lt x1_0_0
    have x1_1_0 : w1.cell? ⟨w.heap.size + 1, 0, none⟩ = some (.int .i64 x) := keep_cell hb1 (by simp [go_sem, *])
    have x1_1_1 : w1.cell? ⟨w.heap.size + 1, 1, none⟩ = some (.int .i64 y) := keep_cell hb1 (by simp [go_sem, *])
    have y1_1 : w.heap.size + 1 < w1.heap.size := cell?_lt x1_1_0
    have g1 : Below w.heap.size w w1 := by (repeat (first | exact Below.refl _ _ | refine Below.drew ?_ | refine Below.allocS ?_ _ | refine Below.step ?_ (by assumption) | refine Below.setCell ?_ (by simp <;> omega) _ | refine Below.drewN' ?_ _))
    clear hb1
    rw [ha]
    go_wp2_with fail
    refine (rplace_c _ _ _).mono ?_
    rintro e w2 ⟨rfl, hb2⟩
    have x2_0_0 : w2.cell? ⟨w.heap.size, 0, none⟩ = some (.int .i64 s) := keep_cell hb2 (by simp [go_sem, *])
    have x2_0_1 : w2.cell? ⟨w.heap.size, 1, none⟩ = some (.int .i64 v) := keep_cell hb2 (by simp [go_sem, *])
    have y2_0 : w.heap.size < w2.heap.size := cell?_lt x2_0_0
    have x2_1_0 : w2.cell? ⟨w.heap.size + 1, 0, none⟩ = some (.int .i64 x) := keep_cell hb2 (by simp [go_sem, *])
    have x2_1_1 : w2.cell? ⟨w.heap.size + 1, 1, none⟩ = some (.int .i64 y) := keep_cell hb2 (by simp [go_sem, *])
    have y2_1 : w.heap.size + 1 < w2.heap.size := cell?_lt x2_1_0
    have g2 : Below w.heap.size w w2 := by (repeat (first | exact Below.refl _ _ | refine Below.drew ?_ | refine Below.allocS ?_ _ | refine Below.step ?_ (by assumption) | refine Below.setCell ?_ (by simp <;> omega) _ | refine Below.drewN' ?_ _))
    clear hb2 g1 x1_0_0 x1_0_1 x1_1_0 x1_1_1 y1_0 y1_1
    rw [hp]
    go_wp2
    go_ret2
    exact ⟨.slice none 0 0, rfl, IsSl.nil _ _ _, by (repeat (first | exact Below.refl _ _ | refine Below.drew ?_ | refine Below.allocS ?_ _ | refine Below.step ?_ (by assumption) | refine Below.setCell ?_ (by simp <;> omega) _ | refine Below.drewN' ?_ _))⟩
  by_cases hw : l.length ≤ 100
  · have hno := Lib.hid (fun (p : Int × Int) (hm : p ∈ l) (h : place p.1 p.2 = false) => (tabE_no (s := s) (v := v) (x := x) (y := y) (l := l) (p := p) ha (by simp [hm]) h : tabE s v x y l = 7))
    have hok := Lib.hid (fun (h : ∀ p ∈ l, place p.1 p.2 = true) => (tabE_ok (s := s) (v := v) (x := x) (y := y) (l := l) ha hw (by intro p hm; rcases List.mem_append.1 hm with h1 | h1; (exact h p h1); simp at h1; subst h1; exact hp) : tabE s v x y l = 0))
    generalize hV : tabL s v x y l = V
    generalize hF : tabE s v x y l = F at hno hok
    have HV := Lib.hid hV
    have HF := Lib.hid hF
    clear hV hF
    go_enter Try.func38, Try.ntmps38
    go_wp2_with fail
    refine (rvalidAir_c _ _ _).mono ?_
    rintro e w1 ⟨rfl, hb1⟩
    have x1_0_0 : w1.cell? ⟨w.heap.size, 0, none⟩ = some (.int .i64 s) := keep_cell hb1 (by simp [go_sem, *])
    have x1_0_1 : w1.cell? ⟨w.heap.size, 1, none⟩ = some (.int .i64 v) := keep_cell hb1 (by simp [go_sem, *])
    have y1_0 : w.heap.size < w1.heap.size := cell?_lt x1_0_0
    have x1_1_0 : w1.cell? ⟨w.heap.size + 1, 0, none⟩ = some (.int .i64 x) := keep_cell hb1 (by simp [go_sem, *])
    have x1_1_1 : w1.cell? ⟨w.heap.size + 1, 1, none⟩ = some (.int .i64 y) := keep_cell hb1 (by simp [go_sem, *])
    have y1_1 : w.heap.size + 1 < w1.heap.size := cell?_lt x1_1_0
    have g1 : Below w.heap.size w w1 := by (repeat (first | exact Below.refl _ _ | refine Below.drew ?_ | refine Below.allocS ?_ _ | refine Below.step ?_ (by assumption) | refine Below.setCell ?_ (by simp <;> omega) _ | refine Below.drewN' ?_ _))
    clear hb1
    rw [ha]
    go_wp2_with fail
    refine (rplace_c _ _ _).mono ?_
    rintro e w2 ⟨rfl, hb2⟩
    have x2_0_0 : w2.cell? ⟨w.heap.size, 0, none⟩ = some (.int .i64 s) := keep_cell hb2 (by simp [go_sem, *])
    have x2_0_1 : w2.cell? ⟨w.heap.size, 1, none⟩ = some (.int .i64 v) := keep_cell hb2 (by simp [go_sem, *])
    have y2_0 : w.heap.size < w2.heap.size := cell?_lt x2_0_0
    have x2_1_0 : w2.cell? ⟨w.heap.size + 1, 0, none⟩ = some (.int .i64 x) := keep_cell hb2 (by simp [go_sem, *])
    have x2_1_1 : w2.cell? ⟨w.heap.size + 1, 1, none⟩ = some (.int .i64 y) := keep_cell hb2 (by simp [go_sem, *])
    have y2_1 : w.heap.size + 1 < w2.heap.size := cell?_lt x2_1_0
    have g2 : Below w.heap.size w w2 := by (repeat (first | exact Below.refl _ _ | refine Below.drew ?_ | refine Below.allocS ?_ _ | refine Below.step ?_ (by assumption) | refine Below.setCell ?_ (by simp <;> omega) _ | refine Below.drewN' ?_ _))
    clear hb2 g1 x1_0_0 x1_0_1 x1_1_0 x1_1_1 y1_0 y1_1
    rw [hp]
    go_wp2
    generalize hwc : w2 = wc at *
    clear hwc
    go_loopw [8, 24] (fun v8 i wr => ∃ k : Nat, k ≤ l.length ∧ i = .int .i64 k ∧ (∀ j (hj : j < l.length), j < k → place l[j].1 l[j].2 = true) ∧ wr.ownsRow wc.heap.size 29 2 v8 k (((l.map (tabOf s v x y)).take k).flatMap ptE) ∧ Below wc.heap.size wc wr) (fun v8 i _ => l.length - (intOf i).toNat)
    case atStart => exact ⟨0, Nat.zero_le _, rfl, fun j hj h => absurd h (Nat.not_lt_zero _), World.ownsRow_nil _ _ _ _, Below.refl _ _⟩
    case round =>
      obtain ⟨k, hk, rfl, hpre, hown, hbw⟩ := hrel
      have HP := Lib.hid hpre
      clear hpre
      have z0 := keep_cell hbw x2_0_0
      have z1 := keep_cell hbw x2_0_1
      have z2 := keep_cell hbw x2_1_0
      have z3 := keep_cell hbw x2_1_1
      have y0 := cell?_lt z0
      have y1 := cell?_lt z2
      have hs := hbw.size
      have gw := Below.step g2 hbw
      clear x2_0_0 x2_0_1 x2_1_0 x2_1_1 g2 y2_0 y2_1
      by_cases hlt : k < l.length
      · obtain ⟨b, off, rfl, hb0, hc⟩ := HR.out (by omega)
        have hb1 : b < wr.heap.size := Nat.lt_of_lt_of_le hb0 gw.size
        have c0 := (gw.cell (p := ⟨b, _, none⟩) hb0).trans (hc k hlt 0 _ rfl)
        have c1 := (gw.cell (p := ⟨b, _, none⟩) hb0).trans (hc k hlt 1 _ rfl)
        clear hc
        simp at c0
        have HO := Lib.hid hown
        clear hown
        cases hpl : place l[k].1 l[k].2
        · have hf := hno.out _ (List.getElem_mem hlt) hpl
          have hv : V = [] := by rw [← HV.out]; exact tabL_no (HF.out.trans hf) (by decide)
          subst hf hv
          generalize l[k].1 = e1 at hpl c0
          generalize l[k].2 = e2 at hpl c1
          clear hbw
          go_wp2_with fail
          refine (rplace_c _ _ _).mono ?_
          rintro e w4 ⟨rfl, hb⟩
          rw [hpl]
          go_wp2
          go_ret2
          exact ⟨.slice none 0 0, rfl, IsSl.nil _ _ _, by (repeat (first | exact Below.refl _ _ | refine Below.drew ?_ | refine Below.allocS ?_ _ | refine Below.step ?_ (by assumption) | refine Below.setCell ?_ (by simp <;> omega) _ | refine Below.drewN' ?_ _))⟩
        · have hpre' := Lib.hid (show ∀ j (hj : j < l.length), j < k + 1 → place l[j].1 l[j].2 = true from fun j hj h => by rcases Nat.lt_or_ge j k with h1 | h1; (exact HP.out j hj h1); (obtain rfl : j = k := by omega); exact hpl)
          have hK := fun W => rlag_c s v x y l[k].1 l[k].2 ha hp hpl W
          have hs2 : tabOf s v x y l[k] = (lagLo s v (dd x y l[k].1 l[k].2), lagHi s v (dd x y l[k].1 l[k].2)) := rfl
          generalize lagLo s v (dd x y l[k].1 l[k].2) = a1 at hK hs2
          generalize lagHi s v (dd x y l[k].1 l[k].2) = a2 at hK hs2
          have HS := Lib.hid hs2
          generalize l[k].1 = e1 at hK c0 hpl
          generalize l[k].2 = e2 at hK c1 hpl
          have HK := Lib.hid hK
          clear hs2 hK gw
          go_wp2_with fail
          refine (rplace_c _ _ _).mono ?_
          rintro e w4 ⟨rfl, hb⟩
          rw [hpl]
          have t0 : w4.cell? ⟨w.heap.size, 0, none⟩ = some (.int .i64 s) := keep_cell hb (by simp [go_sem, *])
          have t1 : w4.cell? ⟨w.heap.size, 1, none⟩ = some (.int .i64 v) := keep_cell hb (by simp [go_sem, *])
          have t2 : w4.cell? ⟨w.heap.size + 1, 0, none⟩ = some (.int .i64 x) := keep_cell hb (by simp [go_sem, *])
          have t3 : w4.cell? ⟨w.heap.size + 1, 1, none⟩ = some (.int .i64 y) := keep_cell hb (by simp [go_sem, *])
          have t4 : w4.cell? ⟨wr.heap.size, 0, none⟩ = some (.int .i64 e1) := keep_cell hb (by simp [go_sem])
          have t5 : w4.cell? ⟨wr.heap.size, 1, none⟩ = some (.int .i64 e2) := keep_cell hb (by simp [go_sem])
          have gx : Below wr.heap.size wr w4 := by (repeat (first | exact Below.refl _ _ | refine Below.drew ?_ | refine Below.allocS ?_ _ | refine Below.step ?_ (by assumption) | refine Below.setCell ?_ (by simp <;> omega) _ | refine Below.drewN' ?_ _))
          have gs := gx.size
          have HO2 := Lib.hid (ownsRow_keep HO.out gx)
          have hbx := Below.step hbw gx
          clear hb z0 z1 z2 z3 c0 c1 gx hbw HO
          go_wp2_with (first
            | (go_at_call 62; (with_reducible refine (HK.out _).mono ?_); rintro e w1 ⟨rfl, hb⟩)
            | (at_builtin; refine wpList_append_own _ rfl (.tmp 31) (.tmp 36) 55 rfl wc.heap.size 29 i1 (.agg #[.int .i64 0, .int .i64 0]) 2 16 spU hj hy0 hy1 hy2 rfl (by decide) _ _ _ rfl (ownsRow_keep HO2.out (by (repeat (first | exact Below.refl _ _ | refine Below.drew ?_ | refine Below.allocS ?_ _ | refine Below.step ?_ (by assumption) | refine Below.setCell ?_ (by simp <;> omega) _ | refine Below.drewN' ?_ _)))) ⟨w1.heap.size, 0, none⟩ 1 1 [.int .i64 a1, .int .i64 a2] rfl rfl (new_cells _ _ [.int .i64 a1, .int .i64 a2] _ rfl) (by simp [Value.oneCell']) (by unfold maxLen; omega) (by omega) (by simp; have := hb.size; (try simp at this); omega) ?_; intro v2 w2 hown2 hgrow2 hnil2))
          go_roundw
          case rel => exact ⟨k + 1, by omega, by go_num, hpre'.out, by rw [take_snoc _ _ (by simpa using hlt), List.getElem_map, HS.out]; exact row_snoc hown2 rfl, Below.grow (by (repeat (first | exact Below.refl _ _ | refine Below.drew ?_ | refine Below.allocS ?_ _ | refine Below.step ?_ (by assumption) | refine Below.setCell ?_ (by simp <;> omega) _ | refine Below.drewN' ?_ _))) (ownsRow_keep HO2.out (by (repeat (first | exact Below.refl _ _ | refine Below.drew ?_ | refine Below.allocS ?_ _ | refine Below.step ?_ (by assumption) | refine Below.setCell ?_ (by simp <;> omega) _ | refine Below.drewN' ?_ _)))) hgrow2 rfl (by simp; have := hb.size; (try simp at this); omega)⟩
          case measure => simp [intOf]; omega
      · obtain rfl : k = l.length := by omega
        have hf := hok.out (fun p hm => by obtain ⟨j, hj, rfl⟩ := List.getElem_of_mem hm; exact HP.out j hj hj)
        have hv : V = l.map (tabOf s v x y) := by rw [← HV.out]; unfold tabL; rw [HF.out, if_pos hf]
        have HX := Lib.hid hv
        clear hv
        subst hf
        rw [List.take_of_length_le (by simp)] at hown
        obtain ⟨A', cap', rfl, h4, h5⟩ := row_form hown
        have HO := Lib.hid hown
        clear hown
        go_wp2
        go_ret2
        exact ⟨.slice A' l.length cap', rfl, ⟨A', cap', by rw [HX.out, List.length_map], by rw [HX.out]; exact RdL.of_own ptE_len HO.out (by simp)⟩, gw⟩
  · have h2 := tabE_in (x := x) (y := y) (l := l) ha hw
    rw [h2, tabL_no h2 (by decide)]
    clear h2
    go_enter Try.func38, Try.ntmps38
    go_wp2_with fail
    refine (rvalidAir_c _ _ _).mono ?_
    rintro e w1 ⟨rfl, hb1⟩
    have x1_0_0 : w1.cell? ⟨w.heap.size, 0, none⟩ = some (.int .i64 s) := keep_cell hb1 (by simp [go_sem, *])
    have x1_0_1 : w1.cell? ⟨w.heap.size, 1, none⟩ = some (.int .i64 v) := keep_cell hb1 (by simp [go_sem, *])
    have y1_0 : w.heap.size < w1.heap.size := cell?_lt x1_0_0
    have x1_1_0 : w1.cell? ⟨w.heap.size + 1, 0, none⟩ = some (.int .i64 x) := keep_cell hb1 (by simp [go_sem, *])
    have x1_1_1 : w1.cell? ⟨w.heap.size + 1, 1, none⟩ = some (.int .i64 y) := keep_cell hb1 (by simp [go_sem, *])
    have y1_1 : w.heap.size + 1 < w1.heap.size := cell?_lt x1_1_0
    have g1 : Below w.heap.size w w1 := by (repeat (first | exact Below.refl _ _ | refine Below.drew ?_ | refine Below.allocS ?_ _ | refine Below.step ?_ (by assumption) | refine Below.setCell ?_ (by simp <;> omega) _ | refine Below.drewN' ?_ _))
    clear hb1
    rw [ha]
    go_wp2_with fail
    refine (rplace_c _ _ _).mono ?_
    rintro e w2 ⟨rfl, hb2⟩
    have x2_0_0 : w2.cell? ⟨w.heap.size, 0, none⟩ = some (.int .i64 s) := keep_cell hb2 (by simp [go_sem, *])
    have x2_0_1 : w2.cell? ⟨w.heap.size, 1, none⟩ = some (.int .i64 v) := keep_cell hb2 (by simp [go_sem, *])
    have y2_0 : w.heap.size < w2.heap.size := cell?_lt x2_0_0
    have x2_1_0 : w2.cell? ⟨w.heap.size + 1, 0, none⟩ = some (.int .i64 x) := keep_cell hb2 (by simp [go_sem, *])
    have x2_1_1 : w2.cell? ⟨w.heap.size + 1, 1, none⟩ = some (.int .i64 y) := keep_cell hb2 (by simp [go_sem, *])
    have y2_1 : w.heap.size + 1 < w2.heap.size := cell?_lt x2_1_0
    have g2 : Below w.heap.size w w2 := by (repeat (first | exact Below.refl _ _ | refine Below.drew ?_ | refine Below.allocS ?_ _ | refine Below.step ?_ (by assumption) | refine Below.setCell ?_ (by simp <;> omega) _ | refine Below.drewN' ?_ _))
    clear hb2 g1 x1_0_0 x1_0_1 x1_1_0 x1_1_1 y1_0 y1_1
    rw [hp]
    go_wp2
    go_ret2
    exact ⟨.slice none 0 0, rfl, IsSl.nil _ _ _, by (repeat (first | exact Below.refl _ _ | refine Below.drew ?_ | refine Below.allocS ?_ _ | refine Below.step ?_ (by assumption) | refine Below.setCell ?_ (by simp <;> omega) _ | refine Below.drewN' ?_ _))⟩

set_option maxHeartbeats 1000000 in
theorem SameSpans_eq (l : List (Int × Int)) (A A' : Option Addr) (cap cap' : Nat) (hl : l.length ≤ 1000) (w : World) (hr : RdL w w.heap.size ptE 2 A l) (hr' : RdL w w.heap.size ptE 2 A' l) :
    Calls Try.prog 41 #[.slice A l.length cap, .slice A' l.length cap'] w fun e w' => e = .returned (.bool true) ∧ Below w.heap.size w w' := by
  have HR := Lib.hid hr
  have HR' := Lib.hid hr'
  clear hr hr'
  go_enter Try.func41, Try.ntmps41
  go_wp2
  go_loopw [13] (fun i wr => ∃ k : Nat, k ≤ l.length ∧ i = .int .i64 k ∧ Below w.heap.size w wr) (fun i _ => l.length - (intOf i).toNat)
  case atStart => exact ⟨0, Nat.zero_le _, rfl, Below.refl _ _⟩
  case round =>
    obtain ⟨k, hk, rfl, hbw⟩ := hrel
    by_cases hlt : k < l.length
    · obtain ⟨b, off, rfl, hb0, hc⟩ := HR.out (by omega)
      obtain ⟨b', off', rfl, hb0', hc'⟩ := HR'.out (by omega)
      have c0 := (hbw.cell (p := ⟨b, _, none⟩) hb0).trans (hc k hlt 0 _ rfl)
      have c1 := (hbw.cell (p := ⟨b, _, none⟩) hb0).trans (hc k hlt 1 _ rfl)
      have d0 := (hbw.cell (p := ⟨b', _, none⟩) hb0').trans (hc' k hlt 0 _ rfl)
      have d1 := (hbw.cell (p := ⟨b', _, none⟩) hb0').trans (hc' k hlt 1 _ rfl)
      clear hc hc'
      simp at c0 d0
      generalize l[k].1 = e1 at c0 d0
      generalize l[k].2 = e2 at c1 d1
      go_wp2
      go_region
      go_wp2
      go_roundw
      case rel => exact ⟨k + 1, by omega, by go_num, by (repeat (first | exact Below.refl _ _ | refine Below.drew ?_ | refine Below.allocS ?_ _ | refine Below.step ?_ (by assumption) | refine Below.setCell ?_ (by simp <;> omega) _ | refine Below.drewN' ?_ _))⟩
      case measure => simp [intOf]; omega
    · obtain rfl : k = l.length := by omega
      go_wp2
      go_ret
      exact ⟨rfl, hbw⟩
set_option maxHeartbeats 1000000 in
theorem SameShots_eq (l : List Shot) (A A' : Option Addr) (cap cap' : Nat) (hl : l.length ≤ 1000) (w : World) (hr : RdL w w.heap.size shE 4 A l) (hr' : RdL w w.heap.size shE 4 A' l) :
    Calls Try.prog 42 #[.slice A l.length cap, .slice A' l.length cap'] w fun e w' => e = .returned (.bool true) ∧ Below w.heap.size w w' := by
  have HR := Lib.hid hr
  have HR' := Lib.hid hr'
  clear hr hr'
  go_enter Try.func42, Try.ntmps42
  go_wp2
  go_loopw [13] (fun i wr => ∃ k : Nat, k ≤ l.length ∧ i = .int .i64 k ∧ Below w.heap.size w wr) (fun i _ => l.length - (intOf i).toNat)
  case atStart => exact ⟨0, Nat.zero_le _, rfl, Below.refl _ _⟩
  case round =>
    obtain ⟨k, hk, rfl, hbw⟩ := hrel
    by_cases hlt : k < l.length
    · obtain ⟨b, off, rfl, hb0, hc⟩ := HR.out (by omega)
      obtain ⟨b', off', rfl, hb0', hc'⟩ := HR'.out (by omega)
      have c0 := (hbw.cell (p := ⟨b, _, none⟩) hb0).trans (hc k hlt 0 _ rfl)
      have c1 := (hbw.cell (p := ⟨b, _, none⟩) hb0).trans (hc k hlt 1 _ rfl)
      have c2 := (hbw.cell (p := ⟨b, _, none⟩) hb0).trans (hc k hlt 2 _ rfl)
      have c3 := (hbw.cell (p := ⟨b, _, none⟩) hb0).trans (hc k hlt 3 _ rfl)
      have d0 := (hbw.cell (p := ⟨b', _, none⟩) hb0').trans (hc' k hlt 0 _ rfl)
      have d1 := (hbw.cell (p := ⟨b', _, none⟩) hb0').trans (hc' k hlt 1 _ rfl)
      have d2 := (hbw.cell (p := ⟨b', _, none⟩) hb0').trans (hc' k hlt 2 _ rfl)
      have d3 := (hbw.cell (p := ⟨b', _, none⟩) hb0').trans (hc' k hlt 3 _ rfl)
      clear hc hc'
      simp at c0 d0
      generalize l[k].gx = e1 at c0 d0
      generalize l[k].gy = e2 at c1 d1
      generalize l[k].lo = e3 at c2 d2
      generalize l[k].hi = e4 at c3 d3
      go_wp2
      go_region
      go_wp2
      go_roundw
      case rel => exact ⟨k + 1, by omega, by go_num, by (repeat (first | exact Below.refl _ _ | refine Below.drew ?_ | refine Below.allocS ?_ _ | refine Below.step ?_ (by assumption) | refine Below.setCell ?_ (by simp <;> omega) _ | refine Below.drewN' ?_ _))⟩
      case measure => simp [intOf]; omega
    · obtain rfl : k = l.length := by omega
      go_wp2
      go_ret
      exact ⟨rfl, hbw⟩
end Go.Proofs.Ytgiplkfdallmkaa
