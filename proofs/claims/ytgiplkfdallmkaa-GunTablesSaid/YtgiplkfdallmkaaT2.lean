/-
  Contract of First of the reference, and the walk of the law GunFirst.
-/
import Derived.Test.YtgiplkfdallmkaaT1
import Derived.Test.YtgiplkfdallmkaaL6
namespace Go.Proofs.Ytgiplkfdallmkaa
open Go.RowKit
set_option linter.unusedVariables false

theorem askedE_air {s v : Int} {l : List (Int × Int)} (ha : validAir s v = false) : askedE s v l = 1 := by unfold askedE; rw [ha]; rfl
theorem askedE_ok {s v : Int} {l : List (Int × Int)} (ha : validAir s v = true) (h : ∀ p ∈ l, place p.1 p.2 = true) : askedE s v l = 0 := by
  unfold askedE; rw [ha]
  have : (l.any fun x => !place x.1 x.2) = false := by
    rw [List.any_eq_false]; intro x hx; simp [h x hx]
  rw [this]; rfl
theorem askedE_no {s v : Int} {l : List (Int × Int)} {p : Int × Int} (ha : validAir s v = true) (hp : p ∈ l) (h : place p.1 p.2 = false) : askedE s v l = 7 := by
  unfold askedE; rw [ha]
  have : (l.any fun x => !place x.1 x.2) = true := List.any_eq_true.2 ⟨p, hp, by simp [h]⟩
  rw [this]; rfl
theorem firstE_air {s v x y : Int} {l : List (Int × Int)} (ha : validAir s v = false) : firstE s v x y l = 1 := by unfold firstE; rw [askedE_air ha]; rfl
theorem firstE_no {s v x y : Int} {l : List (Int × Int)} {p : Int × Int} (ha : validAir s v = true) (hp : p ∈ l ++ [(x, y)]) (h : place p.1 p.2 = false) : firstE s v x y l = 7 := by unfold firstE; rw [askedE_no ha hp h]; rfl
theorem firstE_in {s v x y : Int} {l : List (Int × Int)} (ha : validAir s v = true) (hw : within l.length 1 6 = false) : firstE s v x y l = 7 := by
  unfold firstE askedE; rw [ha, hw]
  cases (l ++ [(x, y)]).any fun x => !place x.1 x.2 <;> rfl
theorem firstE_ok {s v x y : Int} {l : List (Int × Int)} (ha : validAir s v = true) (hw : within l.length 1 6 = true) (h : ∀ p ∈ l ++ [(x, y)], place p.1 p.2 = true) : firstE s v x y l = 0 := by unfold firstE; rw [askedE_ok ha h, hw]; rfl
theorem firstV_no {s v x y e : Int} {l : List (Int × Int)} (h : firstE s v x y l = e) (he : e ≠ 0) : firstV s v x y l = 0 := by unfold firstV; rw [h, if_neg he]

set_option maxHeartbeats 4000000 in
set_option maxRecDepth 100000 in
theorem rFirst_c (s v x y : Int) (l : List (Int × Int)) (A : Option Addr) (cap : Nat) (hl : l.length ≤ 1000) (w : World) (hr : RdL w w.heap.size ptE 2 A l) :
    Calls Try.prog 35 #[.agg #[.int .i64 s, .int .i64 v], .slice A l.length cap, .agg #[.int .i64 x, .int .i64 y]] w fun e w' => e = .returned (.tuple #[.int .i64 (firstV s v x y l), .int .i64 (firstE s v x y l)]) ∧ Below w.heap.size w w' := by
  have HR := Lib.hid hr
  clear hr
  cases ha : validAir s v
  · have h2 := firstE_air (x := x) (y := y) (l := l) ha
    rw [h2, firstV_no h2 (by decide)]
    clear h2
    go_enter Try.func35, Try.ntmps35
    go_wp2_with fail
    refine (rvalidAir_c _ _ _).mono ?_
    rintro e w1 ⟨rfl, hb1⟩
    have x1_0_0 : w1.cell? ⟨w.heap.size, 0, none⟩ = some (.int .i64 s) := keep_cell hb1 (by simp [go_sem, *])
    have x1_0_1 : w1.cell? ⟨w.heap.size, 1, none⟩ = some (.int .i64 v) := keep_cell hb1 (by simp [go_sem, *])
    have y1_0 : w.heap.size < w1.heap.size := cell?_lt x1_0_0
    have x1_1_0 : w1.cell? ⟨w.heap.size + 1, 0, none⟩ = some (.int .i64 x) := keep_cell hb1 (by simp [go_sem, *])
    have x1_1_1 : w1.cell? ⟨w.heap.size + 1, 1, none⟩ = some (.int .i64 y) := keep_cell hb1 (by simp [go_sem, *])
    have y1_1 : w.heap.size + 1 < w1.heap.size := cell?_lt x1_1_0
    have g1 : Below w.heap.size w w1 := by (repeat (first | exact Below.refl _ _ | refine Below.drew ?_ | refine Below.allocS ?_ _ | refine Below.step ?_ (by assumption) | refine Below.setCell ?_ (by simp <;> omega) _ | refine Below.drewN' ?_ _))
    clear hb1
    rw [ha]
    go_wp2
    go_ret2
    exact ⟨rfl, by (repeat (first | exact Below.refl _ _ | refine Below.drew ?_ | refine Below.allocS ?_ _ | refine Below.step ?_ (by assumption) | refine Below.setCell ?_ (by simp <;> omega) _ | refine Below.drewN' ?_ _))⟩
  cases hw : within l.length 1 6
  · have h2 := firstE_in (x := x) (y := y) (l := l) ha hw
    rw [h2, firstV_no h2 (by decide)]
    clear h2
    go_enter Try.func35, Try.ntmps35
    go_wp2_with fail
    refine (rvalidAir_c _ _ _).mono ?_
    rintro e w1 ⟨rfl, hb1⟩
    have x1_0_0 : w1.cell? ⟨w.heap.size, 0, none⟩ = some (.int .i64 s) := keep_cell hb1 (by simp [go_sem, *])
    have x1_0_1 : w1.cell? ⟨w.heap.size, 1, none⟩ = some (.int .i64 v) := keep_cell hb1 (by simp [go_sem, *])
    have y1_0 : w.heap.size < w1.heap.size := cell?_lt x1_0_0
    have x1_1_0 : w1.cell? ⟨w.heap.size + 1, 0, none⟩ = some (.int .i64 x) := keep_cell hb1 (by simp [go_sem, *])
    have x1_1_1 : w1.cell? ⟨w.heap.size + 1, 1, none⟩ = some (.int .i64 y) := keep_cell hb1 (by simp [go_sem, *])
    have y1_1 : w.heap.size + 1 < w1.heap.size := cell?_lt x1_1_0
    have g1 : Below w.heap.size w w1 := by (repeat (first | exact Below.refl _ _ | refine Below.drew ?_ | refine Below.allocS ?_ _ | refine Below.step ?_ (by assumption) | refine Below.setCell ?_ (by simp <;> omega) _ | refine Below.drewN' ?_ _))
    clear hb1
    rw [ha]
    go_wp2_with (go_at_call 55; (with_reducible refine (rwithin_c _ _ _ _).mono ?_); rintro e w' ⟨rfl, rfl⟩)
    go_ret2
    exact ⟨rfl, by (repeat (first | exact Below.refl _ _ | refine Below.drew ?_ | refine Below.allocS ?_ _ | refine Below.step ?_ (by assumption) | refine Below.setCell ?_ (by simp <;> omega) _ | refine Below.drewN' ?_ _))⟩
  cases hp : place x y
  · have h2 := firstE_no (s := s) (v := v) (x := x) (y := y) (l := l) (p := (x, y)) ha (by simp) hp
    rw [h2, firstV_no h2 (by decide)]
    clear h2
    go_enter Try.func35, Try.ntmps35
    go_wp2_with fail
    refine (rvalidAir_c _ _ _).mono ?_
    rintro e w1 ⟨rfl, hb1⟩
    have x1_0_0 : w1.cell? ⟨w.heap.size, 0, none⟩ = some (.int .i64 s) := keep_cell hb1 (by simp [go_sem, *])
    have x1_0_1 : w1.cell? ⟨w.heap.size, 1, none⟩ = some (.int .i64 v) := keep_cell hb1 (by simp [go_sem, *])
    have y1_0 : w.heap.size < w1.heap.size := cell?_lt x1_0_0
    have x1_1_0 : w1.cell? ⟨w.heap.size + 1, 0, none⟩ = some (.int .i64 x) := keep_cell hb1 (by simp [go_sem, *])
    have x1_1_1 : w1.cell? ⟨w.heap.size + 1, 1, none⟩ = some (.int .i64 y) := keep_cell hb1 (by simp [go_sem, *])
    have y1_1 : w.heap.size + 1 < w1.heap.size := cell?_lt x1_1_0
    have g1 : Below w.heap.size w w1 := by (repeat (first | exact Below.refl _ _ | refine Below.drew ?_ | refine Below.allocS ?_ _ | refine Below.step ?_ (by assumption) | refine Below.setCell ?_ (by simp <;> omega) _ | refine Below.drewN' ?_ _))
    clear hb1
    rw [ha]
    go_wp2_with (go_at_call 55; (with_reducible refine (rwithin_c _ _ _ _).mono ?_); rintro e w' ⟨rfl, rfl⟩)
    go_wp2_with fail
    refine (rplace_c _ _ _).mono ?_
    rintro e w2 ⟨rfl, hb2⟩
    have x2_0_0 : w2.cell? ⟨w.heap.size, 0, none⟩ = some (.int .i64 s) := keep_cell hb2 (by simp [go_sem, *])
    have x2_0_1 : w2.cell? ⟨w.heap.size, 1, none⟩ = some (.int .i64 v) := keep_cell hb2 (by simp [go_sem, *])
    have y2_0 : w.heap.size < w2.heap.size := cell?_lt x2_0_0
    have x2_1_0 : w2.cell? ⟨w.heap.size + 1, 0, none⟩ = some (.int .i64 x) := keep_cell hb2 (by simp [go_sem, *])
    have x2_1_1 : w2.cell? ⟨w.heap.size + 1, 1, none⟩ = some (.int .i64 y) := keep_cell hb2 (by simp [go_sem, *])
    have y2_1 : w.heap.size + 1 < w2.heap.size := cell?_lt x2_1_0
    have g2 : Below w.heap.size w w2 := by (repeat (first | exact Below.refl _ _ | refine Below.drew ?_ | refine Below.allocS ?_ _ | refine Below.step ?_ (by assumption) | refine Below.setCell ?_ (by simp <;> omega) _ | refine Below.drewN' ?_ _))
    clear hb2 g1 x1_0_0 x1_0_1 x1_1_0 x1_1_1 y1_0 y1_1
    rw [hp]
    go_wp2
    go_ret2
    exact ⟨rfl, by (repeat (first | exact Below.refl _ _ | refine Below.drew ?_ | refine Below.allocS ?_ _ | refine Below.step ?_ (by assumption) | refine Below.setCell ?_ (by simp <;> omega) _ | refine Below.drewN' ?_ _))⟩
  have h4 := within_true hw
  have hno := Lib.hid (fun (p : Int × Int) (hm : p ∈ l) (h : place p.1 p.2 = false) => (firstE_no (s := s) (v := v) (x := x) (y := y) (l := l) (p := p) ha (by simp [hm]) h : firstE s v x y l = 7))
  have hok := Lib.hid (fun (h : ∀ p ∈ l, place p.1 p.2 = true) => (firstE_ok (s := s) (v := v) (x := x) (y := y) (l := l) ha hw (by intro p hm; rcases List.mem_append.1 hm with h1 | h1; exact h p h1; simp at h1; subst h1; exact hp) : firstE s v x y l = 0))
  generalize hV : firstV s v x y l = V
  generalize hF : firstE s v x y l = F at hno hok
  have HV := Lib.hid hV
  have HF := Lib.hid hF
  clear hV hF
  go_enter Try.func35, Try.ntmps35
  go_wp2_with fail
  refine (rvalidAir_c _ _ _).mono ?_
  rintro e w1 ⟨rfl, hb1⟩
  have x1_0_0 : w1.cell? ⟨w.heap.size, 0, none⟩ = some (.int .i64 s) := keep_cell hb1 (by simp [go_sem, *])
  have x1_0_1 : w1.cell? ⟨w.heap.size, 1, none⟩ = some (.int .i64 v) := keep_cell hb1 (by simp [go_sem, *])
  have y1_0 : w.heap.size < w1.heap.size := cell?_lt x1_0_0
  have x1_1_0 : w1.cell? ⟨w.heap.size + 1, 0, none⟩ = some (.int .i64 x) := keep_cell hb1 (by simp [go_sem, *])
  have x1_1_1 : w1.cell? ⟨w.heap.size + 1, 1, none⟩ = some (.int .i64 y) := keep_cell hb1 (by simp [go_sem, *])
  have y1_1 : w.heap.size + 1 < w1.heap.size := cell?_lt x1_1_0
  have g1 : Below w.heap.size w w1 := by (repeat (first | exact Below.refl _ _ | refine Below.drew ?_ | refine Below.allocS ?_ _ | refine Below.step ?_ (by assumption) | refine Below.setCell ?_ (by simp <;> omega) _ | refine Below.drewN' ?_ _))
  clear hb1
  rw [ha]
  go_wp2_with (go_at_call 55; (with_reducible refine (rwithin_c _ _ _ _).mono ?_); rintro e w' ⟨rfl, rfl⟩)
  go_wp2_with fail
  refine (rplace_c _ _ _).mono ?_
  rintro e w2 ⟨rfl, hb2⟩
  have x2_0_0 : w2.cell? ⟨w.heap.size, 0, none⟩ = some (.int .i64 s) := keep_cell hb2 (by simp [go_sem, *])
  have x2_0_1 : w2.cell? ⟨w.heap.size, 1, none⟩ = some (.int .i64 v) := keep_cell hb2 (by simp [go_sem, *])
  have y2_0 : w.heap.size < w2.heap.size := cell?_lt x2_0_0
  have x2_1_0 : w2.cell? ⟨w.heap.size + 1, 0, none⟩ = some (.int .i64 x) := keep_cell hb2 (by simp [go_sem, *])
  have x2_1_1 : w2.cell? ⟨w.heap.size + 1, 1, none⟩ = some (.int .i64 y) := keep_cell hb2 (by simp [go_sem, *])
  have y2_1 : w.heap.size + 1 < w2.heap.size := cell?_lt x2_1_0
  have g2 : Below w.heap.size w w2 := by (repeat (first | exact Below.refl _ _ | refine Below.drew ?_ | refine Below.allocS ?_ _ | refine Below.step ?_ (by assumption) | refine Below.setCell ?_ (by simp <;> omega) _ | refine Below.drewN' ?_ _))
  clear hb2 g1 x1_0_0 x1_0_1 x1_1_0 x1_1_1 y1_0 y1_1
  rw [hp]
  go_wp2
  go_loopw [8, 9, 10, 25, 26] (fun u8 u9 u10 i u26 wr => ∃ k : Nat, k ≤ l.length ∧ i = .int .i64 k ∧ u8 = .int .i64 (bestK (lateF s v x y l) k : Nat) ∧ (∀ j (hj : j < l.length), j < k → place l[j].1 l[j].2 = true) ∧ wr.cell? ⟨w.heap.size, 0, none⟩ = some (.int .i64 s) ∧ wr.cell? ⟨w.heap.size, 1, none⟩ = some (.int .i64 v) ∧ wr.cell? ⟨w.heap.size + 1, 0, none⟩ = some (.int .i64 x) ∧ wr.cell? ⟨w.heap.size + 1, 1, none⟩ = some (.int .i64 y) ∧ Below w.heap.size w wr) (fun u8 u9 u10 i u26 _ => l.length - (intOf i).toNat)
  case atStart => exact ⟨0, Nat.zero_le _, rfl, rfl, fun j hj h => absurd h (Nat.not_lt_zero _), x2_0_0, x2_0_1, x2_1_0, x2_1_1, g2⟩
  case round =>
    obtain ⟨k, hk, rfl, rfl, hpre, z0, z1, z2, z3, hbw⟩ := hrel
    clear x2_0_0 x2_0_1 x2_1_0 x2_1_1 g2 y2_0 y2_1
    have y0 := cell?_lt z0
    have y1 := cell?_lt z2
    have HP := Lib.hid hpre
    clear hpre
    by_cases hlt : k < l.length
    · obtain ⟨b, off, rfl, hb0, hc⟩ := HR.out (by omega)
      cases hpl : place l[k].1 l[k].2
      · have hf := hno.out _ (List.getElem_mem hlt) hpl
        have hv : V = 0 := by rw [← HV.out]; exact firstV_no (HF.out.trans hf) (by decide)
        subst hf hv
        have c0 := (hbw.cell (p := ⟨b, _, none⟩) hb0).trans (hc k hlt 0 _ rfl)
        have c1 := (hbw.cell (p := ⟨b, _, none⟩) hb0).trans (hc k hlt 1 _ rfl)
        clear hc
        simp at c0
        generalize l[k].1 = e1 at hpl c0
        generalize l[k].2 = e2 at hpl c1
        go_wp2_with fail
        refine (rplace_c _ _ _).mono ?_
        rintro e w4 ⟨rfl, hb⟩
        rw [hpl]
        go_wp2
        go_ret2
        exact ⟨rfl, by (repeat (first | exact Below.refl _ _ | refine Below.drew ?_ | refine Below.allocS ?_ _ | refine Below.step ?_ (by assumption) | refine Below.setCell ?_ (by simp <;> omega) _ | refine Below.drewN' ?_ _))⟩
      · have hm0 := bestK_lt (lateF s v x y l) k l.length (by omega) (by omega)
        have hmk := bestK_lt (lateF s v x y l) k (k + 1) (by omega) (by omega)
        have hpre' := Lib.hid (show ∀ j (hj : j < l.length), j < k + 1 → place l[j].1 l[j].2 = true from fun j hj h => by rcases Nat.lt_or_ge j k with h1 | h1; (exact HP.out j hj h1); (obtain rfl : j = k := by omega); exact hpl)
        generalize hbk : bestK (lateF s v x y l) k = m at hm0 hmk
        have hs : bestK (lateF s v x y l) (k + 1) = if lagHi s v (dd l[k].1 l[k].2 x y) < lagHi s v (dd l[m].1 l[m].2 x y) then k else m := by
          rw [bestK, hbk]; simp [lateF, hlt, hm0]
        have c0 := (hbw.cell (p := ⟨b, _, none⟩) hb0).trans (hc k hlt 0 _ rfl)
        have c1 := (hbw.cell (p := ⟨b, _, none⟩) hb0).trans (hc k hlt 1 _ rfl)
        have c2 := (hbw.cell (p := ⟨b, _, none⟩) hb0).trans (hc m hm0 0 _ rfl)
        have c3 := (hbw.cell (p := ⟨b, _, none⟩) hb0).trans (hc m hm0 1 _ rfl)
        clear hc
        simp at c0 c2
        have q2 := hpre'.out m hm0 hmk
        have hb1 : b < wr.heap.size := Nat.lt_of_lt_of_le hb0 hbw.size
        have hK := fun W => rlag_c s v l[k].1 l[k].2 x y ha hpl hp W
        have hM := fun W => rlag_c s v l[m].1 l[m].2 x y ha q2 hp W
        generalize lagLo s v (dd l[k].1 l[k].2 x y) = a1 at hK
        generalize lagHi s v (dd l[k].1 l[k].2 x y) = a2 at hK hs
        generalize lagLo s v (dd l[m].1 l[m].2 x y) = d1 at hM
        generalize lagHi s v (dd l[m].1 l[m].2 x y) = d2 at hM hs
        clear q2
        generalize l[m].1 = f1 at hM c2
        generalize l[m].2 = f2 at hM c3
        generalize l[k].1 = e1 at hK c0 hpl
        generalize l[k].2 = e2 at hK c1 hpl
        have HK := Lib.hid hK
        have HM := Lib.hid hM
        have HS := Lib.hid hs
        clear hbk hs hK hM
        have fd1 : ∀ W : World, (Instr.field 29 (.agg #[.int .i64 a1, .int .i64 a2]) 1).run Try.prog W = .ok (.int .i64 a2) W := fun _ => by kernel_rfl
        have fd2 : ∀ W : World, (Instr.field 29 (.agg #[.int .i64 d1, .int .i64 d2]) 1).run Try.prog W = .ok (.int .i64 d2) W := fun _ => by kernel_rfl
        by_cases hcmp : a2 < d2
        all_goals
          have h5 := HS.out
          first | rw [if_pos hcmp] at h5 | rw [if_neg hcmp] at h5
          have H5 := Lib.hid h5
          clear h5
          go_wp2_with fail
          refine (rplace_c _ _ _).mono ?_
          rintro e w4 ⟨rfl, hb⟩
          rw [hpl]
          have t0 : w4.cell? ⟨w.heap.size, 0, none⟩ = some (.int .i64 s) := keep_cell hb (by simp [go_sem, *])
          have t1 : w4.cell? ⟨w.heap.size, 1, none⟩ = some (.int .i64 v) := keep_cell hb (by simp [go_sem, *])
          have t2 : w4.cell? ⟨w.heap.size + 1, 0, none⟩ = some (.int .i64 x) := keep_cell hb (by simp [go_sem, *])
          have t3 : w4.cell? ⟨w.heap.size + 1, 1, none⟩ = some (.int .i64 y) := keep_cell hb (by simp [go_sem, *])
          have t4 : w4.cell? ⟨wr.heap.size, 0, none⟩ = some (.int .i64 e1) := keep_cell hb (by simp [go_sem])
          have t5 : w4.cell? ⟨wr.heap.size, 1, none⟩ = some (.int .i64 e2) := keep_cell hb (by simp [go_sem])
          have t6 : w4.cell? ⟨b, off + m * 2, none⟩ = some (.int .i64 f1) := keep_cell hb (by simp [go_sem, *])
          have t7 : w4.cell? ⟨b, off + m * 2 + 1, none⟩ = some (.int .i64 f2) := keep_cell hb (by simp [go_sem, *])
          have gx : Below wr.heap.size wr w4 := by (repeat (first | exact Below.refl _ _ | refine Below.drew ?_ | refine Below.allocS ?_ _ | refine Below.step ?_ (by assumption) | refine Below.setCell ?_ (by simp <;> omega) _ | refine Below.drewN' ?_ _))
          clear hb z0 z1 z2 z3 c0 c1 c2 c3
          go_wp2_with fail
          go_region_held3 (fun W => W.cell? ⟨w.heap.size, 0, none⟩ = some (.int .i64 s) ∧ W.cell? ⟨w.heap.size, 1, none⟩ = some (.int .i64 v) ∧ W.cell? ⟨w.heap.size + 1, 0, none⟩ = some (.int .i64 x) ∧ W.cell? ⟨w.heap.size + 1, 1, none⟩ = some (.int .i64 y) ∧ W.cell? ⟨wr.heap.size, 0, none⟩ = some (.int .i64 e1) ∧ W.cell? ⟨wr.heap.size, 1, none⟩ = some (.int .i64 e2) ∧ W.cell? ⟨b, off + m * 2, none⟩ = some (.int .i64 f1) ∧ W.cell? ⟨b, off + m * 2 + 1, none⟩ = some (.int .i64 f2) ∧ Below wr.heap.size wr W) (first | assumption | (exact And.imp (keep_cell (by assumption)) (And.imp (keep_cell (by assumption)) (And.imp (keep_cell (by assumption)) (And.imp (keep_cell (by assumption)) (And.imp (keep_cell (by assumption)) (And.imp (keep_cell (by assumption)) (And.imp (keep_cell (by assumption)) (And.imp (keep_cell (by assumption)) (fun h => Below.step h (by assumption))))))))) (by assumption)) | exact ⟨t0, t1, t2, t3, t4, t5, t6, t7, gx⟩ | exact ⟨by simp [go_sem, *], by simp [go_sem, *], by simp [go_sem, *], by simp [go_sem, *], by simp [go_sem, *], by simp [go_sem, *], by simp [go_sem, *], by simp [go_sem, *], by (repeat (first | exact Below.refl _ _ | refine Below.drew ?_ | refine Below.allocS ?_ _ | refine Below.step ?_ (by assumption) | refine Below.setCell ?_ (by simp <;> omega) _ | refine Below.drewN' ?_ _))⟩)
            (first
              | (go_at_call 62; (with_reducible refine (HK.out _).mono ?_); rintro e w1 ⟨rfl, hb⟩)
              | (go_at_call 62; (with_reducible refine (HM.out _).mono ?_); rintro e w1 ⟨rfl, hb⟩))
          obtain ⟨s0, s1, s2, s3, -, -, -, -, s8⟩ := (fun (h : _ ∧ _ ∧ _ ∧ _ ∧ _ ∧ _ ∧ _ ∧ _ ∧ Below wr.heap.size wr _) => h) (by assumption)
          go_wp2
          go_roundw
          case rel => exact ⟨k + 1, by omega, by go_num, by rw [H5.out], hpre'.out, s0, s1, s2, s3, Below.step hbw s8⟩
          case measure => simp [intOf]; omega
    · obtain rfl : k = l.length := by omega
      have hf := hok.out (fun p hm => by obtain ⟨j, hj, rfl⟩ := List.getElem_of_mem hm; exact HP.out j hj hj)
      have hv : V = (bestK (lateF s v x y l) l.length : Nat) := by rw [← HV.out]; unfold firstV; rw [HF.out, if_pos hf]
      have HX := Lib.hid hv
      clear hv
      subst hf
      go_wp2
      go_ret2
      exact ⟨by rw [HX.out]; rfl, hbw⟩

set_option maxHeartbeats 1000000 in
set_option maxRecDepth 100000 in
theorem GunFirst_walk (w : World) (a0_0 a0_1 : Int) (A1 : Option Addr) (c1 : Nat) (l1 : List _) (a2_0 a2_1 a2_2 : Int) (w0_0 : I64 a0_0) (w0_1 : I64 a0_1) (n1 : l1.length ≤ c1) (m1 : c1 ≤ maxLen) (r1 : RdL w w.heap.size ptE 2 A1 l1) (w1 : ∀ x ∈ l1, ∃ g : Nat → Int, x = (fun g => (g 0, g 1)) g ∧ ∀ j, j < 2 → I64 (g j)) (w2_0 : I64 a2_0) (w2_1 : I64 a2_1) (w2_2 : I64 a2_2) :
    Calls Try.prog 9 #[.agg #[.int .i64 a0_0, .int .i64 a0_1], .slice A1 l1.length c1, .agg #[.int .i64 a2_0, .int .i64 a2_1, .int .i64 a2_2]] w fun e w' => e = .returned (.bool true) ∧ Below w.heap.size w w' := by
  clear w1
  by_cases h : l1.length ≤ 50
  · have HF := Lib.hid (fun W (hb : Below w.heap.size w W) => First_c a0_0 a0_1 a2_0 a2_1 l1 A1 c1 n1 m1 (by omega) W (r1.step hb))
    have HG := Lib.hid (fun W (hb : Below w.heap.size w W) => rFirst_c a0_0 a0_1 a2_0 a2_1 l1 A1 c1 (by omega) W (r1.step hb))
    clear r1 m1 n1
    generalize firstV a0_0 a0_1 a2_0 a2_1 l1 = V at HF HG
    generalize firstE a0_0 a0_1 a2_0 a2_1 l1 = F at HF HG
    go_enter Try.func9, Try.ntmps9
    go_wp2_with fail
    refine (HF.out _ (by (repeat (first | exact Below.refl _ _ | refine Below.drew ?_ | refine Below.allocS ?_ _ | refine Below.step ?_ (by assumption) | refine Below.setCell ?_ (by simp <;> omega) _ | refine Below.drewN' ?_ _)))).mono ?_
    rintro e w1 ⟨rfl, hb1⟩
    have x1_0_0 : w1.cell? ⟨w.heap.size, 0, none⟩ = some (.int .i64 a0_0) := keep_cell hb1 (by simp [go_sem, *])
    have x1_0_1 : w1.cell? ⟨w.heap.size, 1, none⟩ = some (.int .i64 a0_1) := keep_cell hb1 (by simp [go_sem, *])
    have y1_0 : w.heap.size < w1.heap.size := cell?_lt x1_0_0
    have x1_1_0 : w1.cell? ⟨w.heap.size + 1, 0, none⟩ = some (.int .i64 a2_0) := keep_cell hb1 (by simp [go_sem, *])
    have x1_1_1 : w1.cell? ⟨w.heap.size + 1, 1, none⟩ = some (.int .i64 a2_1) := keep_cell hb1 (by simp [go_sem, *])
    have x1_1_2 : w1.cell? ⟨w.heap.size + 1, 2, none⟩ = some (.int .i64 a2_2) := keep_cell hb1 (by simp [go_sem, *])
    have y1_1 : w.heap.size + 1 < w1.heap.size := cell?_lt x1_1_0
    have x1_2_0 : w1.cell? ⟨w.heap.size + 1 + 1, 0, none⟩ = some (.int .i64 a2_0) := keep_cell hb1 (by simp [go_sem, *])
    have x1_2_1 : w1.cell? ⟨w.heap.size + 1 + 1, 1, none⟩ = some (.int .i64 a2_1) := keep_cell hb1 (by simp [go_sem, *])
    have y1_2 : w.heap.size + 1 + 1 < w1.heap.size := cell?_lt x1_2_0
    have g1 : Below w.heap.size w w1 := by (repeat (first | exact Below.refl _ _ | refine Below.drew ?_ | refine Below.allocS ?_ _ | refine Below.step ?_ (by assumption) | refine Below.setCell ?_ (by simp <;> omega) _ | refine Below.drewN' ?_ _))
    clear hb1
    go_wp2_with fail
    refine (HG.out _ (by (repeat (first | exact Below.refl _ _ | refine Below.drew ?_ | refine Below.allocS ?_ _ | refine Below.step ?_ (by assumption) | refine Below.setCell ?_ (by simp <;> omega) _ | refine Below.drewN' ?_ _)))).mono ?_
    rintro e w2 ⟨rfl, hb2⟩
    have x2_0_0 : w2.cell? ⟨w.heap.size, 0, none⟩ = some (.int .i64 a0_0) := keep_cell hb2 (by simp [go_sem, *])
    have x2_0_1 : w2.cell? ⟨w.heap.size, 1, none⟩ = some (.int .i64 a0_1) := keep_cell hb2 (by simp [go_sem, *])
    have y2_0 : w.heap.size < w2.heap.size := cell?_lt x2_0_0
    have x2_1_0 : w2.cell? ⟨w.heap.size + 1, 0, none⟩ = some (.int .i64 a2_0) := keep_cell hb2 (by simp [go_sem, *])
    have x2_1_1 : w2.cell? ⟨w.heap.size + 1, 1, none⟩ = some (.int .i64 a2_1) := keep_cell hb2 (by simp [go_sem, *])
    have x2_1_2 : w2.cell? ⟨w.heap.size + 1, 2, none⟩ = some (.int .i64 a2_2) := keep_cell hb2 (by simp [go_sem, *])
    have y2_1 : w.heap.size + 1 < w2.heap.size := cell?_lt x2_1_0
    have x2_2_0 : w2.cell? ⟨w.heap.size + 1 + 1, 0, none⟩ = some (.int .i64 a2_0) := keep_cell hb2 (by simp [go_sem, *])
    have x2_2_1 : w2.cell? ⟨w.heap.size + 1 + 1, 1, none⟩ = some (.int .i64 a2_1) := keep_cell hb2 (by simp [go_sem, *])
    have y2_2 : w.heap.size + 1 + 1 < w2.heap.size := cell?_lt x2_2_0
    have g2 : Below w.heap.size w w2 := by (repeat (first | exact Below.refl _ _ | refine Below.drew ?_ | refine Below.allocS ?_ _ | refine Below.step ?_ (by assumption) | refine Below.setCell ?_ (by simp <;> omega) _ | refine Below.drewN' ?_ _))
    clear hb2 g1 x1_0_0 x1_0_1 x1_1_0 x1_1_1 x1_1_2 x1_2_0 x1_2_1 y1_0 y1_1 y1_2
    go_wp2_with fail
    refine (Ring_c _ _ _ _ _ _).mono ?_
    rintro e w3 ⟨rfl, hb3⟩
    have x3_0_0 : w3.cell? ⟨w.heap.size, 0, none⟩ = some (.int .i64 a0_0) := keep_cell hb3 (by simp [go_sem, *])
    have x3_0_1 : w3.cell? ⟨w.heap.size, 1, none⟩ = some (.int .i64 a0_1) := keep_cell hb3 (by simp [go_sem, *])
    have y3_0 : w.heap.size < w3.heap.size := cell?_lt x3_0_0
    have x3_1_0 : w3.cell? ⟨w.heap.size + 1, 0, none⟩ = some (.int .i64 a2_0) := keep_cell hb3 (by simp [go_sem, *])
    have x3_1_1 : w3.cell? ⟨w.heap.size + 1, 1, none⟩ = some (.int .i64 a2_1) := keep_cell hb3 (by simp [go_sem, *])
    have x3_1_2 : w3.cell? ⟨w.heap.size + 1, 2, none⟩ = some (.int .i64 a2_2) := keep_cell hb3 (by simp [go_sem, *])
    have y3_1 : w.heap.size + 1 < w3.heap.size := cell?_lt x3_1_0
    have x3_2_0 : w3.cell? ⟨w.heap.size + 1 + 1, 0, none⟩ = some (.int .i64 a2_0) := keep_cell hb3 (by simp [go_sem, *])
    have x3_2_1 : w3.cell? ⟨w.heap.size + 1 + 1, 1, none⟩ = some (.int .i64 a2_1) := keep_cell hb3 (by simp [go_sem, *])
    have y3_2 : w.heap.size + 1 + 1 < w3.heap.size := cell?_lt x3_2_0
    have g3 : Below w.heap.size w w3 := by (repeat (first | exact Below.refl _ _ | refine Below.drew ?_ | refine Below.allocS ?_ _ | refine Below.step ?_ (by assumption) | refine Below.setCell ?_ (by simp <;> omega) _ | refine Below.drewN' ?_ _))
    clear hb3 g2 x2_0_0 x2_0_1 x2_1_0 x2_1_1 x2_1_2 x2_2_0 x2_2_1 y2_0 y2_1 y2_2
    go_wp2_with fail
    refine (rRing_c _ _ _ _ _ _).mono ?_
    rintro e w4 ⟨rfl, hb4⟩
    have x4_0_0 : w4.cell? ⟨w.heap.size, 0, none⟩ = some (.int .i64 a0_0) := keep_cell hb4 (by simp [go_sem, *])
    have x4_0_1 : w4.cell? ⟨w.heap.size, 1, none⟩ = some (.int .i64 a0_1) := keep_cell hb4 (by simp [go_sem, *])
    have y4_0 : w.heap.size < w4.heap.size := cell?_lt x4_0_0
    have x4_1_0 : w4.cell? ⟨w.heap.size + 1, 0, none⟩ = some (.int .i64 a2_0) := keep_cell hb4 (by simp [go_sem, *])
    have x4_1_1 : w4.cell? ⟨w.heap.size + 1, 1, none⟩ = some (.int .i64 a2_1) := keep_cell hb4 (by simp [go_sem, *])
    have x4_1_2 : w4.cell? ⟨w.heap.size + 1, 2, none⟩ = some (.int .i64 a2_2) := keep_cell hb4 (by simp [go_sem, *])
    have y4_1 : w.heap.size + 1 < w4.heap.size := cell?_lt x4_1_0
    have x4_2_0 : w4.cell? ⟨w.heap.size + 1 + 1, 0, none⟩ = some (.int .i64 a2_0) := keep_cell hb4 (by simp [go_sem, *])
    have x4_2_1 : w4.cell? ⟨w.heap.size + 1 + 1, 1, none⟩ = some (.int .i64 a2_1) := keep_cell hb4 (by simp [go_sem, *])
    have y4_2 : w.heap.size + 1 + 1 < w4.heap.size := cell?_lt x4_2_0
    have g4 : Below w.heap.size w w4 := by (repeat (first | exact Below.refl _ _ | refine Below.drew ?_ | refine Below.allocS ?_ _ | refine Below.step ?_ (by assumption) | refine Below.setCell ?_ (by simp <;> omega) _ | refine Below.drewN' ?_ _))
    clear hb4 g3 x3_0_0 x3_0_1 x3_1_0 x3_1_1 x3_1_2 x3_2_0 x3_2_1 y3_0 y3_1 y3_2
    go_wp2_with fail
    refine (awake_c _).mono ?_
    rintro e w5 ⟨rfl, hb5⟩
    have x5_0_0 : w5.cell? ⟨w.heap.size, 0, none⟩ = some (.int .i64 a0_0) := keep_cell hb5 (by simp [go_sem, *])
    have x5_0_1 : w5.cell? ⟨w.heap.size, 1, none⟩ = some (.int .i64 a0_1) := keep_cell hb5 (by simp [go_sem, *])
    have y5_0 : w.heap.size < w5.heap.size := cell?_lt x5_0_0
    have x5_1_0 : w5.cell? ⟨w.heap.size + 1, 0, none⟩ = some (.int .i64 a2_0) := keep_cell hb5 (by simp [go_sem, *])
    have x5_1_1 : w5.cell? ⟨w.heap.size + 1, 1, none⟩ = some (.int .i64 a2_1) := keep_cell hb5 (by simp [go_sem, *])
    have x5_1_2 : w5.cell? ⟨w.heap.size + 1, 2, none⟩ = some (.int .i64 a2_2) := keep_cell hb5 (by simp [go_sem, *])
    have y5_1 : w.heap.size + 1 < w5.heap.size := cell?_lt x5_1_0
    have x5_2_0 : w5.cell? ⟨w.heap.size + 1 + 1, 0, none⟩ = some (.int .i64 a2_0) := keep_cell hb5 (by simp [go_sem, *])
    have x5_2_1 : w5.cell? ⟨w.heap.size + 1 + 1, 1, none⟩ = some (.int .i64 a2_1) := keep_cell hb5 (by simp [go_sem, *])
    have y5_2 : w.heap.size + 1 + 1 < w5.heap.size := cell?_lt x5_2_0
    have g5 : Below w.heap.size w w5 := by (repeat (first | exact Below.refl _ _ | refine Below.drew ?_ | refine Below.allocS ?_ _ | refine Below.step ?_ (by assumption) | refine Below.setCell ?_ (by simp <;> omega) _ | refine Below.drewN' ?_ _))
    clear hb5 g4 x4_0_0 x4_0_1 x4_1_0 x4_1_1 x4_1_2 x4_2_0 x4_2_1 y4_0 y4_1 y4_2
    go_wp2
    go_ret
    exact ⟨(by first | rfl | (simp; done) | (simp; omega) | (simp [*]; done)), by (repeat (first | exact Below.refl _ _ | refine Below.drew ?_ | refine Below.allocS ?_ _ | refine Below.step ?_ (by assumption) | refine Below.setCell ?_ (by simp <;> omega) _ | refine Below.drewN' ?_ _))⟩
  · clear r1
    go_enter Try.func9, Try.ntmps9
    go_wp2_with fail
    refine (awake_c _).mono ?_
    rintro e w1 ⟨rfl, hb1⟩
    have x1_0_0 : w1.cell? ⟨w.heap.size, 0, none⟩ = some (.int .i64 a0_0) := keep_cell hb1 (by simp [go_sem, *])
    have x1_0_1 : w1.cell? ⟨w.heap.size, 1, none⟩ = some (.int .i64 a0_1) := keep_cell hb1 (by simp [go_sem, *])
    have y1_0 : w.heap.size < w1.heap.size := cell?_lt x1_0_0
    have x1_1_0 : w1.cell? ⟨w.heap.size + 1, 0, none⟩ = some (.int .i64 a2_0) := keep_cell hb1 (by simp [go_sem, *])
    have x1_1_1 : w1.cell? ⟨w.heap.size + 1, 1, none⟩ = some (.int .i64 a2_1) := keep_cell hb1 (by simp [go_sem, *])
    have x1_1_2 : w1.cell? ⟨w.heap.size + 1, 2, none⟩ = some (.int .i64 a2_2) := keep_cell hb1 (by simp [go_sem, *])
    have y1_1 : w.heap.size + 1 < w1.heap.size := cell?_lt x1_1_0
    have g1 : Below w.heap.size w w1 := by (repeat (first | exact Below.refl _ _ | refine Below.drew ?_ | refine Below.allocS ?_ _ | refine Below.step ?_ (by assumption) | refine Below.setCell ?_ (by simp <;> omega) _ | refine Below.drewN' ?_ _))
    clear hb1
    go_wp2
    go_ret
    exact ⟨(by first | rfl | (simp; done) | (simp; omega) | (simp [*]; done)), by (repeat (first | exact Below.refl _ _ | refine Below.drew ?_ | refine Below.allocS ?_ _ | refine Below.step ?_ (by assumption) | refine Below.setCell ?_ (by simp <;> omega) _ | refine Below.drewN' ?_ _))⟩
end Go.Proofs.Ytgiplkfdallmkaa
