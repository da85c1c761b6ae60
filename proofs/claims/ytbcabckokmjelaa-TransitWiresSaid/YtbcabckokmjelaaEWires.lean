/-
  TransitWires: the walk.
-/
import Derived.Test.YtbcabckokmjelaaEFits
import Derived.Test.YtbcabckokmjelaaA18
import Derived.Test.YtbcabckokmjelaaA19
namespace Go.Proofs.Ytbcabckokmjelaa
open Go.RowKit
set_option linter.unusedVariables false
set_option linter.unusedSimpArgs false
set_option maxHeartbeats 2000000 in
set_option maxRecDepth 100000 in
theorem TransitWires_walk (w : World) (x : Tb) (s : St) (at' : Int) (hx : TbAt w x) (hs : StOk s) (hd : I64 at') :
    Calls Try.prog 4 #[.agg #[.slice x.A x.xs.length x.ca, .int .i64 x.e], .agg #[.string s.nm, .int .i64 s.a, .int .i64 s.b, .int .i64 s.c], .int .i64 at'] w fun e w' => e = .returned (.bool true) ∧ Below w.heap.size w w' := by
  have hm1 : 1 ≤ maxLen := by unfold maxLen; omega
  have HW := Lib.hid (fun W hb b h => wide_c x [⟨s.nm, s.a, s.b, s.c, none, 0, []⟩] (some ⟨b, 0, none⟩) 1 W (hx.step hb) (Nat.le_refl _) hm1 h)
  have H1 := Lib.hid (fun W hb => Wired_c x s at' W (hx.step hb) hs.n)
  have H2 := Lib.hid (fun W hb => rWired_c x s at' W (hx.step hb) hs.n)
  have HX := Lib.hid hx
  have hnm : s.nm.size ≤ maxLen := hs.n
  clear hx hs hm1
  go_enter Try.func4, Try.ntmps4
  go_wp2_with fail
  refine (HW.out _ (by (repeat (first | exact Below.refl _ _ | refine Below.drew ?_ | refine Below.allocS ?_ _ | refine Below.step ?_ (by assumption) | refine Below.setCell ?_ (by simp <;> omega) _ | refine Below.drewN' ?_ _))) (w.heap.size + 2) (RdL.oneT (by simp [go_sem, *]) (by simp [go_sem, *]) (by simp [go_sem, *]) (by simp [go_sem, *]) (by simp [go_sem, *]))).mono ?_
  rintro r0 w1 ⟨⟨X, rfl, -⟩, hb1⟩
  have x1_0_0 : w1.cell? ⟨w.heap.size, 0, none⟩ = some (.slice x.A x.xs.length x.ca) := keep_cell hb1 (by simp [go_sem, *])
  have x1_0_1 : w1.cell? ⟨w.heap.size, 1, none⟩ = some (.int .i64 x.e) := keep_cell hb1 (by simp [go_sem, *])
  have y1_0 : w.heap.size < w1.heap.size := cell?_lt x1_0_0
  have x1_1_0 : w1.cell? ⟨w.heap.size + 1, 0, none⟩ = some (.string s.nm) := keep_cell hb1 (by simp [go_sem, *])
  have x1_1_1 : w1.cell? ⟨w.heap.size + 1, 1, none⟩ = some (.int .i64 s.a) := keep_cell hb1 (by simp [go_sem, *])
  have x1_1_2 : w1.cell? ⟨w.heap.size + 1, 2, none⟩ = some (.int .i64 s.b) := keep_cell hb1 (by simp [go_sem, *])
  have x1_1_3 : w1.cell? ⟨w.heap.size + 1, 3, none⟩ = some (.int .i64 s.c) := keep_cell hb1 (by simp [go_sem, *])
  have y1_1 : w.heap.size + 1 < w1.heap.size := cell?_lt x1_1_0
  have g1 : Below w.heap.size w w1 := by (repeat (first | exact Below.refl _ _ | refine Below.drew ?_ | refine Below.allocS ?_ _ | refine Below.step ?_ (by assumption) | refine Below.setCell ?_ (by simp <;> omega) _ | refine Below.drewN' ?_ _))
  clear hb1 HW
  cases X
  case true =>
    go_wp2_with fail
    refine (awake_c _).mono ?_
    rintro e w2 ⟨rfl, hb2⟩
    go_wp2
    go_ret
    exact ⟨rfl, by (repeat (first | exact Below.refl _ _ | refine Below.drew ?_ | refine Below.allocS ?_ _ | refine Below.step ?_ (by assumption) | refine Below.setCell ?_ (by simp <;> omega) _ | refine Below.drewN' ?_ _))⟩
  cases hK : wiK x s at'
  · -- an error
    obtain ⟨E, hE⟩ : ∃ E : Int, E = (if wiV x s = true then 7 else 1) := ⟨_, rfl⟩
    have H1' : Hid (∀ W, Below w.heap.size w W → Calls Try.prog 26 #[.agg #[.slice x.A x.xs.length x.ca, .int .i64 x.e], .agg #[.string s.nm, .int .i64 s.a, .int .i64 s.b, .int .i64 s.c], .int .i64 at'] W fun r w' => r = .returned (.tuple #[.agg #[.string ⟨#[]⟩, .int .i64 0, .int .i64 0, .int .i64 0, .slice none 0 0], .int .i64 E]) ∧ Below W.heap.size W w') := Lib.hid (fun W hb => (H1.out W hb).mono (by
      rintro r w' ⟨h | h, hb'⟩
      · rw [hK] at h; cases h.1
      · rw [hE]; exact ⟨h.2, hb'⟩))
    have H2' : Hid (∀ W, Below w.heap.size w W → Calls Try.prog 27 #[.agg #[.slice x.A x.xs.length x.ca, .int .i64 x.e], .agg #[.string s.nm, .int .i64 s.a, .int .i64 s.b, .int .i64 s.c], .int .i64 at'] W fun r w' => r = .returned (.tuple #[.agg #[.string ⟨#[]⟩, .int .i64 0, .int .i64 0, .int .i64 0, .slice none 0 0], .int .i64 E]) ∧ Below W.heap.size W w') := Lib.hid (fun W hb => (H2.out W hb).mono (by
      rintro r w' ⟨h | h, hb'⟩
      · rw [hK] at h; cases h.1
      · rw [hE]; exact ⟨h.2, hb'⟩))
    have hE7 : E = 7 ∨ E = 1 := by rw [hE]; split <;> simp
    have HS := Lib.hid (fun (b1 b2 : Nat) W r1 r2 => SameOne_c ⟨⟨#[]⟩, 0, 0, 0, none, 0, []⟩ ⟨⟨#[]⟩, 0, 0, 0, none, 0, []⟩ ⟨rfl, rfl, rfl, rfl⟩ 0 rfl rfl (by decide) (some ⟨b1, 0, none⟩) (some ⟨b2, 0, none⟩) 1 1 W r1 r2 RdL.nil RdL.nil)
    clear H1 H2 hK hE HX
    rcases hE7 with rfl | rfl
    all_goals
      go_wp2_with fail
      refine (H1'.out _ (by (repeat (first | exact Below.refl _ _ | refine Below.drew ?_ | refine Below.allocS ?_ _ | refine Below.step ?_ (by assumption) | refine Below.setCell ?_ (by simp <;> omega) _ | refine Below.drewN' ?_ _)))).mono ?_
      rintro e w2 ⟨rfl, hb2⟩
      have x2_0_0 : w2.cell? ⟨w.heap.size, 0, none⟩ = some (.slice x.A x.xs.length x.ca) := keep_cell hb2 (by simp [go_sem, *])
      have x2_0_1 : w2.cell? ⟨w.heap.size, 1, none⟩ = some (.int .i64 x.e) := keep_cell hb2 (by simp [go_sem, *])
      have y2_0 : w.heap.size < w2.heap.size := cell?_lt x2_0_0
      have x2_1_0 : w2.cell? ⟨w.heap.size + 1, 0, none⟩ = some (.string s.nm) := keep_cell hb2 (by simp [go_sem, *])
      have x2_1_1 : w2.cell? ⟨w.heap.size + 1, 1, none⟩ = some (.int .i64 s.a) := keep_cell hb2 (by simp [go_sem, *])
      have x2_1_2 : w2.cell? ⟨w.heap.size + 1, 2, none⟩ = some (.int .i64 s.b) := keep_cell hb2 (by simp [go_sem, *])
      have x2_1_3 : w2.cell? ⟨w.heap.size + 1, 3, none⟩ = some (.int .i64 s.c) := keep_cell hb2 (by simp [go_sem, *])
      have y2_1 : w.heap.size + 1 < w2.heap.size := cell?_lt x2_1_0
      have g2 : Below w.heap.size w w2 := by (repeat (first | exact Below.refl _ _ | refine Below.drew ?_ | refine Below.allocS ?_ _ | refine Below.step ?_ (by assumption) | refine Below.setCell ?_ (by simp <;> omega) _ | refine Below.drewN' ?_ _))
      clear hb2
      go_wp2_with fail
      refine (H2'.out _ (by (repeat (first | exact Below.refl _ _ | refine Below.drew ?_ | refine Below.allocS ?_ _ | refine Below.step ?_ (by assumption) | refine Below.setCell ?_ (by simp <;> omega) _ | refine Below.drewN' ?_ _)))).mono ?_
      rintro e w3 ⟨rfl, hb3⟩
      have x3_0_0 : w3.cell? ⟨w.heap.size, 0, none⟩ = some (.slice x.A x.xs.length x.ca) := keep_cell hb3 (by simp [go_sem, *])
      have x3_0_1 : w3.cell? ⟨w.heap.size, 1, none⟩ = some (.int .i64 x.e) := keep_cell hb3 (by simp [go_sem, *])
      have y3_0 : w.heap.size < w3.heap.size := cell?_lt x3_0_0
      have x3_1_0 : w3.cell? ⟨w.heap.size + 1, 0, none⟩ = some (.string s.nm) := keep_cell hb3 (by simp [go_sem, *])
      have x3_1_1 : w3.cell? ⟨w.heap.size + 1, 1, none⟩ = some (.int .i64 s.a) := keep_cell hb3 (by simp [go_sem, *])
      have x3_1_2 : w3.cell? ⟨w.heap.size + 1, 2, none⟩ = some (.int .i64 s.b) := keep_cell hb3 (by simp [go_sem, *])
      have x3_1_3 : w3.cell? ⟨w.heap.size + 1, 3, none⟩ = some (.int .i64 s.c) := keep_cell hb3 (by simp [go_sem, *])
      have y3_1 : w.heap.size + 1 < w3.heap.size := cell?_lt x3_1_0
      have x3_2_0 : w3.cell? ⟨w2.heap.size, 0, none⟩ = some (.string ⟨#[]⟩) := keep_cell hb3 (by simp [go_sem, *])
      have x3_2_1 : w3.cell? ⟨w2.heap.size, 1, none⟩ = some (.int .i64 0) := keep_cell hb3 (by simp [go_sem, *])
      have x3_2_2 : w3.cell? ⟨w2.heap.size, 2, none⟩ = some (.int .i64 0) := keep_cell hb3 (by simp [go_sem, *])
      have x3_2_3 : w3.cell? ⟨w2.heap.size, 3, none⟩ = some (.int .i64 0) := keep_cell hb3 (by simp [go_sem, *])
      have x3_2_4 : w3.cell? ⟨w2.heap.size, 4, none⟩ = some (.slice none 0 0) := keep_cell hb3 (by simp [go_sem, *])
      have y3_2 : w2.heap.size < w3.heap.size := cell?_lt x3_2_0
      have g3 : Below w.heap.size w w3 := by (repeat (first | exact Below.refl _ _ | refine Below.drew ?_ | refine Below.allocS ?_ _ | refine Below.step ?_ (by assumption) | refine Below.setCell ?_ (by simp <;> omega) _ | refine Below.drewN' ?_ _))
      clear hb3 g2 x2_0_0 x2_0_1 x2_1_0 x2_1_1 x2_1_2 x2_1_3 y2_0 y2_1
      go_wp2_with fail
      refine (HS.out _ _ _ (RdL.oneT (by simp [go_sem, *]) (by simp [go_sem, *]) (by simp [go_sem, *]) (by simp [go_sem, *]) (by simp [go_sem, *])) (RdL.oneT (by simp [go_sem, *]) (by simp [go_sem, *]) (by simp [go_sem, *]) (by simp [go_sem, *]) (by simp [go_sem, *]))).mono ?_
      rintro e w4 ⟨rfl, hb4⟩
      go_wp2_with fail
      refine (awake_c _).mono ?_
      rintro e w5 ⟨rfl, hb5⟩
      go_wp2
      go_ret
      exact ⟨rfl, by (repeat (first | exact Below.refl _ _ | refine Below.drew ?_ | refine Below.allocS ?_ _ | refine Below.step ?_ (by assumption) | refine Below.setCell ?_ (by simp <;> omega) _ | refine Below.drewN' ?_ _))⟩
  -- a transit
  obtain ⟨L, hL⟩ : ∃ L, L = wiL x s at' := ⟨_, rfl⟩
  obtain ⟨n, hn⟩ : ∃ n, n = L.length := ⟨_, rfl⟩
  have H1' : Hid (∀ W, Below w.heap.size w W → Calls Try.prog 26 #[.agg #[.slice x.A x.xs.length x.ca, .int .i64 x.e], .agg #[.string s.nm, .int .i64 s.a, .int .i64 s.b, .int .i64 s.c], .int .i64 at'] W fun r w' => ∃ A c, r = .returned (.tuple #[.agg #[.string s.nm, .int .i64 s.a, .int .i64 s.b, .int .i64 s.c, .slice A n c], .int .i64 0]) ∧ RdL w' w'.heap.size inE 1 A L ∧ Below W.heap.size W w') := Lib.hid (fun W hb => (H1.out W hb).mono (by
    rintro r w' ⟨h | h, hb'⟩
    · obtain ⟨-, u, h1, A, c, rfl, h2⟩ := h
      rw [hn, hL]; exact ⟨A, c, h1, h2, hb'⟩
    · rw [hK] at h; cases h.1))
  have H2' : Hid (∀ W, Below w.heap.size w W → Calls Try.prog 27 #[.agg #[.slice x.A x.xs.length x.ca, .int .i64 x.e], .agg #[.string s.nm, .int .i64 s.a, .int .i64 s.b, .int .i64 s.c], .int .i64 at'] W fun r w' => ∃ A c, r = .returned (.tuple #[.agg #[.string s.nm, .int .i64 s.a, .int .i64 s.b, .int .i64 s.c, .slice A n c], .int .i64 0]) ∧ RdL w' w'.heap.size inE 1 A L ∧ Below W.heap.size W w') := Lib.hid (fun W hb => (H2.out W hb).mono (by
    rintro r w' ⟨h | h, hb'⟩
    · obtain ⟨-, u, h1, A, c, rfl, h2⟩ := h
      rw [hn, hL]; exact ⟨A, c, h1, h2, hb'⟩
    · rw [hK] at h; cases h.1))
  have hf := fits_at (wi_fits hK)
  have hlx : L.length = x.xs.length := by rw [hL]; unfold wiL; rw [List.length_map]
  have h7 : n ≤ 7 := by have : x.xs.length ≤ 7 := hf.n7; omega
  have HS := Lib.hid (fun (A1 A2 : Option Addr) (c1 c2 b1 b2 : Nat) W r1 r2 => SameOne_c ⟨s.nm, s.a, s.b, s.c, A1, c1, L⟩ ⟨s.nm, s.a, s.b, s.c, A2, c2, L⟩ ⟨rfl, rfl, rfl, rfl⟩ n hn.symm rfl (by omega) (some ⟨b1, 0, none⟩) (some ⟨b2, 0, none⟩) 1 1 W r1 r2)
  obtain ⟨he0, hcv⟩ := wi_cross hK
  have hm9 : maxLen ≤ 9223372036854775807 := by unfold maxLen; omega
  have HC : Hid (∀ (A : Option Addr) (c : Nat) W, Below w.heap.size w W → RdL W W.heap.size inE 1 A L → Calls Try.prog 14 #[.agg #[.slice x.A x.xs.length x.ca, .int .i64 x.e], .agg #[.string s.nm, .int .i64 s.a, .int .i64 s.b, .int .i64 s.c, .slice A n c]] W fun r w' => r = .returned (.tuple #[.int .i64 (crV (wiO x s at')), .int .i64 0]) ∧ Below W.heap.size W w') := Lib.hid (fun A c W hb hr => by
    have h := Crossing_c (wiO x s at') x.A A x.ca c W ⟨by have := hnm; simp only [wiO]; omega, by simp only [wiO]; have := (HX.out).n; have := (HX.out).m; omega, by simp only [wiO]; rw [← hL]; omega, (HX.out.r.step hb), by simp only [wiO]; rw [← hL]; exact hr⟩
    rw [he0] at h
    rw [hn, hL]
    exact h)
  have hday : -86400000 ≤ at' ∧ at' ≤ 172800000 := by
    have hV : wiV x s = true := by unfold wiK at hK; rw [Bool.and_eq_true] at hK; exact hK.1
    rcases Decidable.em (at' < -86400000 ∨ 172800000 < at') with h | h
    · rw [wi_far hV h] at hK; cases hK
    · omega
  have v1 : IntKind.i64.wrap (at' - 1) = at' - 1 := IntWalk.i64_in _ (by omega)
  generalize crV (wiO x s at') = V at *
  have hne : at' - 1 ≠ at' := by omega
  clear H1 H2 hK HX hf hlx he0 hm9 hday hnm hd
  have HLn := Lib.hid hn
  clear hn hL
  go_wp2_with fail
  refine (H1'.out _ (by (repeat (first | exact Below.refl _ _ | refine Below.drew ?_ | refine Below.allocS ?_ _ | refine Below.step ?_ (by assumption) | refine Below.setCell ?_ (by simp <;> omega) _ | refine Below.drewN' ?_ _)))).mono ?_
  rintro e w2 ⟨A1, c1, rfl, r1, hb2⟩
  have x2_0_0 : w2.cell? ⟨w.heap.size, 0, none⟩ = some (.slice x.A x.xs.length x.ca) := keep_cell hb2 (by simp [go_sem, *])
  have x2_0_1 : w2.cell? ⟨w.heap.size, 1, none⟩ = some (.int .i64 x.e) := keep_cell hb2 (by simp [go_sem, *])
  have y2_0 : w.heap.size < w2.heap.size := cell?_lt x2_0_0
  have x2_1_0 : w2.cell? ⟨w.heap.size + 1, 0, none⟩ = some (.string s.nm) := keep_cell hb2 (by simp [go_sem, *])
  have x2_1_1 : w2.cell? ⟨w.heap.size + 1, 1, none⟩ = some (.int .i64 s.a) := keep_cell hb2 (by simp [go_sem, *])
  have x2_1_2 : w2.cell? ⟨w.heap.size + 1, 2, none⟩ = some (.int .i64 s.b) := keep_cell hb2 (by simp [go_sem, *])
  have x2_1_3 : w2.cell? ⟨w.heap.size + 1, 3, none⟩ = some (.int .i64 s.c) := keep_cell hb2 (by simp [go_sem, *])
  have y2_1 : w.heap.size + 1 < w2.heap.size := cell?_lt x2_1_0
  have g2 : Below w.heap.size w w2 := by (repeat (first | exact Below.refl _ _ | refine Below.drew ?_ | refine Below.allocS ?_ _ | refine Below.step ?_ (by assumption) | refine Below.setCell ?_ (by simp <;> omega) _ | refine Below.drewN' ?_ _))
  clear hb2
  go_wp2_with fail
  refine (H2'.out _ (by (repeat (first | exact Below.refl _ _ | refine Below.drew ?_ | refine Below.allocS ?_ _ | refine Below.step ?_ (by assumption) | refine Below.setCell ?_ (by simp <;> omega) _ | refine Below.drewN' ?_ _)))).mono ?_
  rintro e w3 ⟨A2, c2, rfl, r2, hb3⟩
  replace r1 := r1.step (W := w3) (by (repeat (first | exact Below.refl _ _ | refine Below.drew ?_ | refine Below.allocS ?_ _ | refine Below.step ?_ (by assumption) | refine Below.setCell ?_ (by simp <;> omega) _ | refine Below.drewN' ?_ _)))
  have x3_0_0 : w3.cell? ⟨w.heap.size, 0, none⟩ = some (.slice x.A x.xs.length x.ca) := keep_cell hb3 (by simp [go_sem, *])
  have x3_0_1 : w3.cell? ⟨w.heap.size, 1, none⟩ = some (.int .i64 x.e) := keep_cell hb3 (by simp [go_sem, *])
  have y3_0 : w.heap.size < w3.heap.size := cell?_lt x3_0_0
  have x3_1_0 : w3.cell? ⟨w.heap.size + 1, 0, none⟩ = some (.string s.nm) := keep_cell hb3 (by simp [go_sem, *])
  have x3_1_1 : w3.cell? ⟨w.heap.size + 1, 1, none⟩ = some (.int .i64 s.a) := keep_cell hb3 (by simp [go_sem, *])
  have x3_1_2 : w3.cell? ⟨w.heap.size + 1, 2, none⟩ = some (.int .i64 s.b) := keep_cell hb3 (by simp [go_sem, *])
  have x3_1_3 : w3.cell? ⟨w.heap.size + 1, 3, none⟩ = some (.int .i64 s.c) := keep_cell hb3 (by simp [go_sem, *])
  have y3_1 : w.heap.size + 1 < w3.heap.size := cell?_lt x3_1_0
  have x3_2_0 : w3.cell? ⟨w2.heap.size, 0, none⟩ = some (.string s.nm) := keep_cell hb3 (by simp [go_sem, *])
  have x3_2_1 : w3.cell? ⟨w2.heap.size, 1, none⟩ = some (.int .i64 s.a) := keep_cell hb3 (by simp [go_sem, *])
  have x3_2_2 : w3.cell? ⟨w2.heap.size, 2, none⟩ = some (.int .i64 s.b) := keep_cell hb3 (by simp [go_sem, *])
  have x3_2_3 : w3.cell? ⟨w2.heap.size, 3, none⟩ = some (.int .i64 s.c) := keep_cell hb3 (by simp [go_sem, *])
  have x3_2_4 : w3.cell? ⟨w2.heap.size, 4, none⟩ = some (.slice A1 n c1) := keep_cell hb3 (by simp [go_sem, *])
  have y3_2 : w2.heap.size < w3.heap.size := cell?_lt x3_2_0
  have g3 : Below w.heap.size w w3 := by (repeat (first | exact Below.refl _ _ | refine Below.drew ?_ | refine Below.allocS ?_ _ | refine Below.step ?_ (by assumption) | refine Below.setCell ?_ (by simp <;> omega) _ | refine Below.drewN' ?_ _))
  clear hb3 g2 x2_0_0 x2_0_1 x2_1_0 x2_1_1 x2_1_2 x2_1_3 y2_0 y2_1
  go_wp2_with fail
  refine (HS.out A1 A2 c1 c2 _ _ _ (RdL.oneT (by simp [go_sem, *]) (by simp [go_sem, *]) (by simp [go_sem, *]) (by simp [go_sem, *]) (by simp [go_sem, HLn.out, *])) (RdL.oneT (by simp [go_sem, *]) (by simp [go_sem, *]) (by simp [go_sem, *]) (by simp [go_sem, *]) (by simp [go_sem, HLn.out, *])) (r1.step (by (repeat (first | exact Below.refl _ _ | refine Below.drew ?_ | refine Below.allocS ?_ _ | refine Below.step ?_ (by assumption) | refine Below.setCell ?_ (by simp <;> omega) _ | refine Below.drewN' ?_ _)))) (r2.step (by (repeat (first | exact Below.refl _ _ | refine Below.drew ?_ | refine Below.allocS ?_ _ | refine Below.step ?_ (by assumption) | refine Below.setCell ?_ (by simp <;> omega) _ | refine Below.drewN' ?_ _))))).mono ?_
  rintro e w4 ⟨rfl, hb4⟩
  replace r1 := r1.step (W := w4) (by (repeat (first | exact Below.refl _ _ | refine Below.drew ?_ | refine Below.allocS ?_ _ | refine Below.step ?_ (by assumption) | refine Below.setCell ?_ (by simp <;> omega) _ | refine Below.drewN' ?_ _)))
  have hW : Below w3.heap.size w3 w4 := by (repeat (first | exact Below.refl _ _ | refine Below.drew ?_ | refine Below.allocS ?_ _ | refine Below.step ?_ (by assumption) | refine Below.setCell ?_ (by simp <;> omega) _ | refine Below.drewN' ?_ _))
  have z0 : w4.cell? ⟨w.heap.size, 0, none⟩ = some (.slice x.A x.xs.length x.ca) := keep_cell hW x3_0_0
  have z1 : w4.cell? ⟨w.heap.size, 1, none⟩ = some (.int .i64 x.e) := keep_cell hW x3_0_1
  have z2 : w4.cell? ⟨w2.heap.size, 0, none⟩ = some (.string s.nm) := keep_cell hW x3_2_0
  have z3 : w4.cell? ⟨w2.heap.size, 1, none⟩ = some (.int .i64 s.a) := keep_cell hW x3_2_1
  have z4 : w4.cell? ⟨w2.heap.size, 2, none⟩ = some (.int .i64 s.b) := keep_cell hW x3_2_2
  have z5 : w4.cell? ⟨w2.heap.size, 3, none⟩ = some (.int .i64 s.c) := keep_cell hW x3_2_3
  have z6 : w4.cell? ⟨w2.heap.size, 4, none⟩ = some (.slice A1 n c1) := keep_cell hW x3_2_4
  have g4 : Below w.heap.size w w4 := by (repeat (first | exact Below.refl _ _ | refine Below.drew ?_ | refine Below.allocS ?_ _ | refine Below.step ?_ (by assumption) | refine Below.setCell ?_ (by simp <;> omega) _ | refine Below.drewN' ?_ _))
  clear hb4 hW
  go_wp2_with fail
  refine (HC.out A1 c1 _ (by (repeat (first | exact Below.refl _ _ | refine Below.drew ?_ | refine Below.allocS ?_ _ | refine Below.step ?_ (by assumption) | refine Below.setCell ?_ (by simp <;> omega) _ | refine Below.drewN' ?_ _))) r1).mono ?_
  rintro e w5 ⟨rfl, hb5⟩
  rcases hcv with rfl | rfl
  · go_wp2_with fail
    refine (awake_c _).mono ?_
    rintro e w6 ⟨rfl, hb6⟩
    go_wp2
    go_ret
    exact ⟨rfl, by (repeat (first | exact Below.refl _ _ | refine Below.drew ?_ | refine Below.allocS ?_ _ | refine Below.step ?_ (by assumption) | refine Below.setCell ?_ (by simp <;> omega) _ | refine Below.drewN' ?_ _))⟩
  · go_wp2_with fail
    refine (awake_c _).mono ?_
    rintro e w6 ⟨rfl, hb6⟩
    go_wp2
    go_ret
    exact ⟨rfl, by (repeat (first | exact Below.refl _ _ | refine Below.drew ?_ | refine Below.allocS ?_ _ | refine Below.step ?_ (by assumption) | refine Below.setCell ?_ (by simp <;> omega) _ | refine Below.drewN' ?_ _))⟩
end Go.Proofs.Ytbcabckokmjelaa
