/-
  The walk of the law SpanSkies: Sidereal and Mean of span and of its reference answer the same, and are each other's inverse up to one. No conditions.
-/
import Derived.Test.YtjkcgbidceakjaaDoorD8
import Derived.Test.YtjkcgbidceakjaaDoorD22
import Derived.Laws.StructEq
namespace Go.Proofs.YtjkcgbidceakjaaDoor
open Go.RowKit
set_option linter.unusedVariables false
set_option linter.unusedSimpArgs false
set_option maxHeartbeats 2000000 in
set_option maxRecDepth 100000 in
theorem SpanSkies_walk (t u : Int) (w0 : I64 t) (w1 : I64 u) (w : World) : Calls Tryd.prog 4 #[.int .i64 t, .int .i64 u] w fun e w' => e = .returned (.bool true) ∧ Below w.heap.size w w' := by
  have H1 := Lib.hid (fun W => Sidereal_c t W)
  have H2 := Lib.hid (fun W => rSidereal_c t W)
  have H3 := Lib.hid (fun W => Mean_c t W)
  have H4 := Lib.hid (fun W => rMean_c t W)
  have H6 := Lib.hid (fun W => Sidereal_c u W)
  clear w0 w1
  by_cases ht : 0 ≤ t ∧ t ≤ 1000000000000
  · have e1 : skyR t 3662422 3652422 = (t * 3662422 / 3652422, 0) := by unfold skyR; rw [if_pos ht]
    have e2 : skyR t 3652422 3662422 = (t * 3652422 / 3662422, 0) := by unfold skyR; rw [if_pos ht]
    rw [e1] at H1 H2
    rw [e2] at H3 H4
    clear e1 e2
    obtain ⟨t0, t1⟩ := ht
    have hb := skies t0 (s := t * 3662422 / 3652422) rfl
    have hlt : t < u → t * 3662422 / 3652422 < u * 3662422 / 3652422 := skies2 t0
    have s0 : 0 ≤ t * 3662422 / 3652422 := by omega
    have s1 : t * 3662422 / 3652422 ≤ 1100000000000 := by omega
    generalize t * 3662422 / 3652422 = s at *
    generalize t * 3652422 / 3662422 = m at *
    have H5 := Lib.hid (fun W => Mean_c s W)
    obtain ⟨v, j, hj⟩ : ∃ v j, skyR u 3662422 3652422 = (v, j) := ⟨_, _, rfl⟩
    have hu : j ≠ 0 ∨ u ≤ t ∨ s < v := by
      unfold skyR at hj
      by_cases hr : 0 ≤ u ∧ u ≤ 1000000000000
      · rw [if_pos hr] at hj
        simp only [Prod.mk.injEq] at hj
        obtain ⟨rfl, rfl⟩ := hj
        by_cases h : u ≤ t
        · exact Or.inr (Or.inl h)
        · exact Or.inr (Or.inr (hlt (by omega)))
      · rw [if_neg hr] at hj
        simp only [Prod.mk.injEq] at hj
        left; omega
    rw [hj] at H6
    clear hj hlt
    unfold two at *
    have hw : IntKind.i64.wrap (t - 1) = t - 1 := IntWalk.i64_in _ (by omega)
    by_cases hs : s ≤ 1000000000000
    · have e5 : skyR s 3652422 3662422 = (s * 3652422 / 3662422, 0) := by unfold skyR; rw [if_pos ⟨s0, hs⟩]
      rw [e5] at H5
      clear e5
      have hne : (t - 1 == t) = false := by simp; omega
      have hne2 : (t - 1 != t) = true := by simp; omega
      rcases hb with hb | hb
      all_goals
        rw [hb] at H5
        clear hb
        by_cases hj : j = 0
        · subst hj
          rcases hu with hu | hu | hu
          · exact absurd rfl hu
          · have g := decide_eq_true hu
            go_enter Tryd.func4, Tryd.ntmps4
            go_wp2_with fail
            refine (H1.out _).mono ?_
            rintro e w1 ⟨rfl, hb1⟩
            have g1 : Below w.heap.size w w1 := by (repeat (first | exact Below.refl _ _ | refine Below.drew ?_ | refine Below.allocS ?_ _ | refine Below.step ?_ (by assumption) | refine Below.setCell ?_ (by simp <;> omega) _ | refine Below.drewN' ?_ _))
            clear hb1
            go_wp2_with fail
            refine (H2.out _).mono ?_
            rintro e w2 ⟨rfl, hb2⟩
            have g2 : Below w.heap.size w w2 := by (repeat (first | exact Below.refl _ _ | refine Below.drew ?_ | refine Below.allocS ?_ _ | refine Below.step ?_ (by assumption) | refine Below.setCell ?_ (by simp <;> omega) _ | refine Below.drewN' ?_ _))
            clear hb2 g1 
            go_wp2_with fail
            refine (H3.out _).mono ?_
            rintro e w3 ⟨rfl, hb3⟩
            have g3 : Below w.heap.size w w3 := by (repeat (first | exact Below.refl _ _ | refine Below.drew ?_ | refine Below.allocS ?_ _ | refine Below.step ?_ (by assumption) | refine Below.setCell ?_ (by simp <;> omega) _ | refine Below.drewN' ?_ _))
            clear hb3 g2 
            go_wp2_with fail
            refine (H4.out _).mono ?_
            rintro e w4 ⟨rfl, hb4⟩
            have g4 : Below w.heap.size w w4 := by (repeat (first | exact Below.refl _ _ | refine Below.drew ?_ | refine Below.allocS ?_ _ | refine Below.step ?_ (by assumption) | refine Below.setCell ?_ (by simp <;> omega) _ | refine Below.drewN' ?_ _))
            clear hb4 g3 
            go_wp2_with fail
            refine (H5.out _).mono ?_
            rintro e w5 ⟨rfl, hb5⟩
            have g5 : Below w.heap.size w w5 := by (repeat (first | exact Below.refl _ _ | refine Below.drew ?_ | refine Below.allocS ?_ _ | refine Below.step ?_ (by assumption) | refine Below.setCell ?_ (by simp <;> omega) _ | refine Below.drewN' ?_ _))
            clear hb5 g4 
            go_wp2_with fail
            refine (H6.out _).mono ?_
            rintro e w6 ⟨rfl, hb6⟩
            have g6 : Below w.heap.size w w6 := by (repeat (first | exact Below.refl _ _ | refine Below.drew ?_ | refine Below.allocS ?_ _ | refine Below.step ?_ (by assumption) | refine Below.setCell ?_ (by simp <;> omega) _ | refine Below.drewN' ?_ _))
            clear hb6 g5 
            go_wp2_with fail
            refine (awake_c _).mono ?_
            rintro e w7 ⟨rfl, hb7⟩
            have g7 : Below w.heap.size w w7 := by (repeat (first | exact Below.refl _ _ | refine Below.drew ?_ | refine Below.allocS ?_ _ | refine Below.step ?_ (by assumption) | refine Below.setCell ?_ (by simp <;> omega) _ | refine Below.drewN' ?_ _))
            clear hb7 g6 
            go_wp2
            go_ret
            exact ⟨(by first | rfl | (simp; done) | (simp; omega) | (simp [*]; done)), by (repeat (first | (with_reducible exact Below.refl _ _) | (with_reducible assumption) | (with_reducible refine Below.drew ?_) | (with_reducible refine Below.allocS ?_ _) | (with_reducible refine Below.setCell ?_ ?_ _) | (with_reducible refine Below.step ?_ (by assumption)) | (with_reducible refine Below.drewN' ?_ _))); (try any_goals (first | (with_reducible assumption) | (simp; done) | (simp; omega) | omega))⟩
          · by_cases hut : u ≤ t
            · have g := decide_eq_true hut
              go_enter Tryd.func4, Tryd.ntmps4
              go_wp2_with fail
              refine (H1.out _).mono ?_
              rintro e w1 ⟨rfl, hb1⟩
              have g1 : Below w.heap.size w w1 := by (repeat (first | exact Below.refl _ _ | refine Below.drew ?_ | refine Below.allocS ?_ _ | refine Below.step ?_ (by assumption) | refine Below.setCell ?_ (by simp <;> omega) _ | refine Below.drewN' ?_ _))
              clear hb1
              go_wp2_with fail
              refine (H2.out _).mono ?_
              rintro e w2 ⟨rfl, hb2⟩
              have g2 : Below w.heap.size w w2 := by (repeat (first | exact Below.refl _ _ | refine Below.drew ?_ | refine Below.allocS ?_ _ | refine Below.step ?_ (by assumption) | refine Below.setCell ?_ (by simp <;> omega) _ | refine Below.drewN' ?_ _))
              clear hb2 g1 
              go_wp2_with fail
              refine (H3.out _).mono ?_
              rintro e w3 ⟨rfl, hb3⟩
              have g3 : Below w.heap.size w w3 := by (repeat (first | exact Below.refl _ _ | refine Below.drew ?_ | refine Below.allocS ?_ _ | refine Below.step ?_ (by assumption) | refine Below.setCell ?_ (by simp <;> omega) _ | refine Below.drewN' ?_ _))
              clear hb3 g2 
              go_wp2_with fail
              refine (H4.out _).mono ?_
              rintro e w4 ⟨rfl, hb4⟩
              have g4 : Below w.heap.size w w4 := by (repeat (first | exact Below.refl _ _ | refine Below.drew ?_ | refine Below.allocS ?_ _ | refine Below.step ?_ (by assumption) | refine Below.setCell ?_ (by simp <;> omega) _ | refine Below.drewN' ?_ _))
              clear hb4 g3 
              go_wp2_with fail
              refine (H5.out _).mono ?_
              rintro e w5 ⟨rfl, hb5⟩
              have g5 : Below w.heap.size w w5 := by (repeat (first | exact Below.refl _ _ | refine Below.drew ?_ | refine Below.allocS ?_ _ | refine Below.step ?_ (by assumption) | refine Below.setCell ?_ (by simp <;> omega) _ | refine Below.drewN' ?_ _))
              clear hb5 g4 
              go_wp2_with fail
              refine (H6.out _).mono ?_
              rintro e w6 ⟨rfl, hb6⟩
              have g6 : Below w.heap.size w w6 := by (repeat (first | exact Below.refl _ _ | refine Below.drew ?_ | refine Below.allocS ?_ _ | refine Below.step ?_ (by assumption) | refine Below.setCell ?_ (by simp <;> omega) _ | refine Below.drewN' ?_ _))
              clear hb6 g5 
              go_wp2_with fail
              refine (awake_c _).mono ?_
              rintro e w7 ⟨rfl, hb7⟩
              have g7 : Below w.heap.size w w7 := by (repeat (first | exact Below.refl _ _ | refine Below.drew ?_ | refine Below.allocS ?_ _ | refine Below.step ?_ (by assumption) | refine Below.setCell ?_ (by simp <;> omega) _ | refine Below.drewN' ?_ _))
              clear hb7 g6 
              go_wp2
              go_ret
              exact ⟨(by first | rfl | (simp; done) | (simp; omega) | (simp [*]; done)), by (repeat (first | (with_reducible exact Below.refl _ _) | (with_reducible assumption) | (with_reducible refine Below.drew ?_) | (with_reducible refine Below.allocS ?_ _) | (with_reducible refine Below.setCell ?_ ?_ _) | (with_reducible refine Below.step ?_ (by assumption)) | (with_reducible refine Below.drewN' ?_ _))); (try any_goals (first | (with_reducible assumption) | (simp; done) | (simp; omega) | omega))⟩
            · have g := decide_eq_false hut
              have g' := decide_eq_true hu
              go_enter Tryd.func4, Tryd.ntmps4
              go_wp2_with fail
              refine (H1.out _).mono ?_
              rintro e w1 ⟨rfl, hb1⟩
              have g1 : Below w.heap.size w w1 := by (repeat (first | exact Below.refl _ _ | refine Below.drew ?_ | refine Below.allocS ?_ _ | refine Below.step ?_ (by assumption) | refine Below.setCell ?_ (by simp <;> omega) _ | refine Below.drewN' ?_ _))
              clear hb1
              go_wp2_with fail
              refine (H2.out _).mono ?_
              rintro e w2 ⟨rfl, hb2⟩
              have g2 : Below w.heap.size w w2 := by (repeat (first | exact Below.refl _ _ | refine Below.drew ?_ | refine Below.allocS ?_ _ | refine Below.step ?_ (by assumption) | refine Below.setCell ?_ (by simp <;> omega) _ | refine Below.drewN' ?_ _))
              clear hb2 g1 
              go_wp2_with fail
              refine (H3.out _).mono ?_
              rintro e w3 ⟨rfl, hb3⟩
              have g3 : Below w.heap.size w w3 := by (repeat (first | exact Below.refl _ _ | refine Below.drew ?_ | refine Below.allocS ?_ _ | refine Below.step ?_ (by assumption) | refine Below.setCell ?_ (by simp <;> omega) _ | refine Below.drewN' ?_ _))
              clear hb3 g2 
              go_wp2_with fail
              refine (H4.out _).mono ?_
              rintro e w4 ⟨rfl, hb4⟩
              have g4 : Below w.heap.size w w4 := by (repeat (first | exact Below.refl _ _ | refine Below.drew ?_ | refine Below.allocS ?_ _ | refine Below.step ?_ (by assumption) | refine Below.setCell ?_ (by simp <;> omega) _ | refine Below.drewN' ?_ _))
              clear hb4 g3 
              go_wp2_with fail
              refine (H5.out _).mono ?_
              rintro e w5 ⟨rfl, hb5⟩
              have g5 : Below w.heap.size w w5 := by (repeat (first | exact Below.refl _ _ | refine Below.drew ?_ | refine Below.allocS ?_ _ | refine Below.step ?_ (by assumption) | refine Below.setCell ?_ (by simp <;> omega) _ | refine Below.drewN' ?_ _))
              clear hb5 g4 
              go_wp2_with fail
              refine (H6.out _).mono ?_
              rintro e w6 ⟨rfl, hb6⟩
              have g6 : Below w.heap.size w w6 := by (repeat (first | exact Below.refl _ _ | refine Below.drew ?_ | refine Below.allocS ?_ _ | refine Below.step ?_ (by assumption) | refine Below.setCell ?_ (by simp <;> omega) _ | refine Below.drewN' ?_ _))
              clear hb6 g5 
              go_wp2_with fail
              refine (awake_c _).mono ?_
              rintro e w7 ⟨rfl, hb7⟩
              have g7 : Below w.heap.size w w7 := by (repeat (first | exact Below.refl _ _ | refine Below.drew ?_ | refine Below.allocS ?_ _ | refine Below.step ?_ (by assumption) | refine Below.setCell ?_ (by simp <;> omega) _ | refine Below.drewN' ?_ _))
              clear hb7 g6 
              go_wp2
              go_ret
              exact ⟨(by first | rfl | (simp; done) | (simp; omega) | (simp [*]; done)), by (repeat (first | (with_reducible exact Below.refl _ _) | (with_reducible assumption) | (with_reducible refine Below.drew ?_) | (with_reducible refine Below.allocS ?_ _) | (with_reducible refine Below.setCell ?_ ?_ _) | (with_reducible refine Below.step ?_ (by assumption)) | (with_reducible refine Below.drewN' ?_ _))); (try any_goals (first | (with_reducible assumption) | (simp; done) | (simp; omega) | omega))⟩
        · have hj1 : (j != 0) = true := by simpa using hj
          have hj2 : (j == 0) = false := by simpa using hj
          clear hj hu
          go_enter Tryd.func4, Tryd.ntmps4
          go_wp2_with fail
          refine (H1.out _).mono ?_
          rintro e w1 ⟨rfl, hb1⟩
          have g1 : Below w.heap.size w w1 := by (repeat (first | exact Below.refl _ _ | refine Below.drew ?_ | refine Below.allocS ?_ _ | refine Below.step ?_ (by assumption) | refine Below.setCell ?_ (by simp <;> omega) _ | refine Below.drewN' ?_ _))
          clear hb1
          go_wp2_with fail
          refine (H2.out _).mono ?_
          rintro e w2 ⟨rfl, hb2⟩
          have g2 : Below w.heap.size w w2 := by (repeat (first | exact Below.refl _ _ | refine Below.drew ?_ | refine Below.allocS ?_ _ | refine Below.step ?_ (by assumption) | refine Below.setCell ?_ (by simp <;> omega) _ | refine Below.drewN' ?_ _))
          clear hb2 g1 
          go_wp2_with fail
          refine (H3.out _).mono ?_
          rintro e w3 ⟨rfl, hb3⟩
          have g3 : Below w.heap.size w w3 := by (repeat (first | exact Below.refl _ _ | refine Below.drew ?_ | refine Below.allocS ?_ _ | refine Below.step ?_ (by assumption) | refine Below.setCell ?_ (by simp <;> omega) _ | refine Below.drewN' ?_ _))
          clear hb3 g2 
          go_wp2_with fail
          refine (H4.out _).mono ?_
          rintro e w4 ⟨rfl, hb4⟩
          have g4 : Below w.heap.size w w4 := by (repeat (first | exact Below.refl _ _ | refine Below.drew ?_ | refine Below.allocS ?_ _ | refine Below.step ?_ (by assumption) | refine Below.setCell ?_ (by simp <;> omega) _ | refine Below.drewN' ?_ _))
          clear hb4 g3 
          go_wp2_with fail
          refine (H5.out _).mono ?_
          rintro e w5 ⟨rfl, hb5⟩
          have g5 : Below w.heap.size w w5 := by (repeat (first | exact Below.refl _ _ | refine Below.drew ?_ | refine Below.allocS ?_ _ | refine Below.step ?_ (by assumption) | refine Below.setCell ?_ (by simp <;> omega) _ | refine Below.drewN' ?_ _))
          clear hb5 g4 
          go_wp2_with fail
          refine (H6.out _).mono ?_
          rintro e w6 ⟨rfl, hb6⟩
          have g6 : Below w.heap.size w w6 := by (repeat (first | exact Below.refl _ _ | refine Below.drew ?_ | refine Below.allocS ?_ _ | refine Below.step ?_ (by assumption) | refine Below.setCell ?_ (by simp <;> omega) _ | refine Below.drewN' ?_ _))
          clear hb6 g5 
          go_wp2_with fail
          refine (awake_c _).mono ?_
          rintro e w7 ⟨rfl, hb7⟩
          have g7 : Below w.heap.size w w7 := by (repeat (first | exact Below.refl _ _ | refine Below.drew ?_ | refine Below.allocS ?_ _ | refine Below.step ?_ (by assumption) | refine Below.setCell ?_ (by simp <;> omega) _ | refine Below.drewN' ?_ _))
          clear hb7 g6 
          go_wp2
          go_ret
          exact ⟨(by first | rfl | (simp; done) | (simp; omega) | (simp [*]; done)), by (repeat (first | (with_reducible exact Below.refl _ _) | (with_reducible assumption) | (with_reducible refine Below.drew ?_) | (with_reducible refine Below.allocS ?_ _) | (with_reducible refine Below.setCell ?_ ?_ _) | (with_reducible refine Below.step ?_ (by assumption)) | (with_reducible refine Below.drewN' ?_ _))); (try any_goals (first | (with_reducible assumption) | (simp; done) | (simp; omega) | omega))⟩
    · have e5 : skyR s 3652422 3662422 = (0, 7) := by unfold skyR; rw [if_neg (by omega)]
      rw [e5] at H5
      have gs := decide_eq_false hs
      clear e5 hb hs
      by_cases hj : j = 0
      · subst hj
        rcases hu with hu | hu | hu
        · exact absurd rfl hu
        · have g := decide_eq_true hu
          go_enter Tryd.func4, Tryd.ntmps4
          go_wp2_with fail
          refine (H1.out _).mono ?_
          rintro e w1 ⟨rfl, hb1⟩
          have g1 : Below w.heap.size w w1 := by (repeat (first | exact Below.refl _ _ | refine Below.drew ?_ | refine Below.allocS ?_ _ | refine Below.step ?_ (by assumption) | refine Below.setCell ?_ (by simp <;> omega) _ | refine Below.drewN' ?_ _))
          clear hb1
          go_wp2_with fail
          refine (H2.out _).mono ?_
          rintro e w2 ⟨rfl, hb2⟩
          have g2 : Below w.heap.size w w2 := by (repeat (first | exact Below.refl _ _ | refine Below.drew ?_ | refine Below.allocS ?_ _ | refine Below.step ?_ (by assumption) | refine Below.setCell ?_ (by simp <;> omega) _ | refine Below.drewN' ?_ _))
          clear hb2 g1 
          go_wp2_with fail
          refine (H3.out _).mono ?_
          rintro e w3 ⟨rfl, hb3⟩
          have g3 : Below w.heap.size w w3 := by (repeat (first | exact Below.refl _ _ | refine Below.drew ?_ | refine Below.allocS ?_ _ | refine Below.step ?_ (by assumption) | refine Below.setCell ?_ (by simp <;> omega) _ | refine Below.drewN' ?_ _))
          clear hb3 g2 
          go_wp2_with fail
          refine (H4.out _).mono ?_
          rintro e w4 ⟨rfl, hb4⟩
          have g4 : Below w.heap.size w w4 := by (repeat (first | exact Below.refl _ _ | refine Below.drew ?_ | refine Below.allocS ?_ _ | refine Below.step ?_ (by assumption) | refine Below.setCell ?_ (by simp <;> omega) _ | refine Below.drewN' ?_ _))
          clear hb4 g3 
          go_wp2_with fail
          refine (H5.out _).mono ?_
          rintro e w5 ⟨rfl, hb5⟩
          have g5 : Below w.heap.size w w5 := by (repeat (first | exact Below.refl _ _ | refine Below.drew ?_ | refine Below.allocS ?_ _ | refine Below.step ?_ (by assumption) | refine Below.setCell ?_ (by simp <;> omega) _ | refine Below.drewN' ?_ _))
          clear hb5 g4 
          go_wp2_with fail
          refine (H6.out _).mono ?_
          rintro e w6 ⟨rfl, hb6⟩
          have g6 : Below w.heap.size w w6 := by (repeat (first | exact Below.refl _ _ | refine Below.drew ?_ | refine Below.allocS ?_ _ | refine Below.step ?_ (by assumption) | refine Below.setCell ?_ (by simp <;> omega) _ | refine Below.drewN' ?_ _))
          clear hb6 g5 
          go_wp2_with fail
          refine (awake_c _).mono ?_
          rintro e w7 ⟨rfl, hb7⟩
          have g7 : Below w.heap.size w w7 := by (repeat (first | exact Below.refl _ _ | refine Below.drew ?_ | refine Below.allocS ?_ _ | refine Below.step ?_ (by assumption) | refine Below.setCell ?_ (by simp <;> omega) _ | refine Below.drewN' ?_ _))
          clear hb7 g6 
          go_wp2
          go_ret
          exact ⟨(by first | rfl | (simp; done) | (simp; omega) | (simp [*]; done)), by (repeat (first | (with_reducible exact Below.refl _ _) | (with_reducible assumption) | (with_reducible refine Below.drew ?_) | (with_reducible refine Below.allocS ?_ _) | (with_reducible refine Below.setCell ?_ ?_ _) | (with_reducible refine Below.step ?_ (by assumption)) | (with_reducible refine Below.drewN' ?_ _))); (try any_goals (first | (with_reducible assumption) | (simp; done) | (simp; omega) | omega))⟩
        · by_cases hut : u ≤ t
          · have g := decide_eq_true hut
            go_enter Tryd.func4, Tryd.ntmps4
            go_wp2_with fail
            refine (H1.out _).mono ?_
            rintro e w1 ⟨rfl, hb1⟩
            have g1 : Below w.heap.size w w1 := by (repeat (first | exact Below.refl _ _ | refine Below.drew ?_ | refine Below.allocS ?_ _ | refine Below.step ?_ (by assumption) | refine Below.setCell ?_ (by simp <;> omega) _ | refine Below.drewN' ?_ _))
            clear hb1
            go_wp2_with fail
            refine (H2.out _).mono ?_
            rintro e w2 ⟨rfl, hb2⟩
            have g2 : Below w.heap.size w w2 := by (repeat (first | exact Below.refl _ _ | refine Below.drew ?_ | refine Below.allocS ?_ _ | refine Below.step ?_ (by assumption) | refine Below.setCell ?_ (by simp <;> omega) _ | refine Below.drewN' ?_ _))
            clear hb2 g1 
            go_wp2_with fail
            refine (H3.out _).mono ?_
            rintro e w3 ⟨rfl, hb3⟩
            have g3 : Below w.heap.size w w3 := by (repeat (first | exact Below.refl _ _ | refine Below.drew ?_ | refine Below.allocS ?_ _ | refine Below.step ?_ (by assumption) | refine Below.setCell ?_ (by simp <;> omega) _ | refine Below.drewN' ?_ _))
            clear hb3 g2 
            go_wp2_with fail
            refine (H4.out _).mono ?_
            rintro e w4 ⟨rfl, hb4⟩
            have g4 : Below w.heap.size w w4 := by (repeat (first | exact Below.refl _ _ | refine Below.drew ?_ | refine Below.allocS ?_ _ | refine Below.step ?_ (by assumption) | refine Below.setCell ?_ (by simp <;> omega) _ | refine Below.drewN' ?_ _))
            clear hb4 g3 
            go_wp2_with fail
            refine (H5.out _).mono ?_
            rintro e w5 ⟨rfl, hb5⟩
            have g5 : Below w.heap.size w w5 := by (repeat (first | exact Below.refl _ _ | refine Below.drew ?_ | refine Below.allocS ?_ _ | refine Below.step ?_ (by assumption) | refine Below.setCell ?_ (by simp <;> omega) _ | refine Below.drewN' ?_ _))
            clear hb5 g4 
            go_wp2_with fail
            refine (H6.out _).mono ?_
            rintro e w6 ⟨rfl, hb6⟩
            have g6 : Below w.heap.size w w6 := by (repeat (first | exact Below.refl _ _ | refine Below.drew ?_ | refine Below.allocS ?_ _ | refine Below.step ?_ (by assumption) | refine Below.setCell ?_ (by simp <;> omega) _ | refine Below.drewN' ?_ _))
            clear hb6 g5 
            go_wp2_with fail
            refine (awake_c _).mono ?_
            rintro e w7 ⟨rfl, hb7⟩
            have g7 : Below w.heap.size w w7 := by (repeat (first | exact Below.refl _ _ | refine Below.drew ?_ | refine Below.allocS ?_ _ | refine Below.step ?_ (by assumption) | refine Below.setCell ?_ (by simp <;> omega) _ | refine Below.drewN' ?_ _))
            clear hb7 g6 
            go_wp2
            go_ret
            exact ⟨(by first | rfl | (simp; done) | (simp; omega) | (simp [*]; done)), by (repeat (first | (with_reducible exact Below.refl _ _) | (with_reducible assumption) | (with_reducible refine Below.drew ?_) | (with_reducible refine Below.allocS ?_ _) | (with_reducible refine Below.setCell ?_ ?_ _) | (with_reducible refine Below.step ?_ (by assumption)) | (with_reducible refine Below.drewN' ?_ _))); (try any_goals (first | (with_reducible assumption) | (simp; done) | (simp; omega) | omega))⟩
          · have g := decide_eq_false hut
            have g' := decide_eq_true hu
            go_enter Tryd.func4, Tryd.ntmps4
            go_wp2_with fail
            refine (H1.out _).mono ?_
            rintro e w1 ⟨rfl, hb1⟩
            have g1 : Below w.heap.size w w1 := by (repeat (first | exact Below.refl _ _ | refine Below.drew ?_ | refine Below.allocS ?_ _ | refine Below.step ?_ (by assumption) | refine Below.setCell ?_ (by simp <;> omega) _ | refine Below.drewN' ?_ _))
            clear hb1
            go_wp2_with fail
            refine (H2.out _).mono ?_
            rintro e w2 ⟨rfl, hb2⟩
            have g2 : Below w.heap.size w w2 := by (repeat (first | exact Below.refl _ _ | refine Below.drew ?_ | refine Below.allocS ?_ _ | refine Below.step ?_ (by assumption) | refine Below.setCell ?_ (by simp <;> omega) _ | refine Below.drewN' ?_ _))
            clear hb2 g1 
            go_wp2_with fail
            refine (H3.out _).mono ?_
            rintro e w3 ⟨rfl, hb3⟩
            have g3 : Below w.heap.size w w3 := by (repeat (first | exact Below.refl _ _ | refine Below.drew ?_ | refine Below.allocS ?_ _ | refine Below.step ?_ (by assumption) | refine Below.setCell ?_ (by simp <;> omega) _ | refine Below.drewN' ?_ _))
            clear hb3 g2 
            go_wp2_with fail
            refine (H4.out _).mono ?_
            rintro e w4 ⟨rfl, hb4⟩
            have g4 : Below w.heap.size w w4 := by (repeat (first | exact Below.refl _ _ | refine Below.drew ?_ | refine Below.allocS ?_ _ | refine Below.step ?_ (by assumption) | refine Below.setCell ?_ (by simp <;> omega) _ | refine Below.drewN' ?_ _))
            clear hb4 g3 
            go_wp2_with fail
            refine (H5.out _).mono ?_
            rintro e w5 ⟨rfl, hb5⟩
            have g5 : Below w.heap.size w w5 := by (repeat (first | exact Below.refl _ _ | refine Below.drew ?_ | refine Below.allocS ?_ _ | refine Below.step ?_ (by assumption) | refine Below.setCell ?_ (by simp <;> omega) _ | refine Below.drewN' ?_ _))
            clear hb5 g4 
            go_wp2_with fail
            refine (H6.out _).mono ?_
            rintro e w6 ⟨rfl, hb6⟩
            have g6 : Below w.heap.size w w6 := by (repeat (first | exact Below.refl _ _ | refine Below.drew ?_ | refine Below.allocS ?_ _ | refine Below.step ?_ (by assumption) | refine Below.setCell ?_ (by simp <;> omega) _ | refine Below.drewN' ?_ _))
            clear hb6 g5 
            go_wp2_with fail
            refine (awake_c _).mono ?_
            rintro e w7 ⟨rfl, hb7⟩
            have g7 : Below w.heap.size w w7 := by (repeat (first | exact Below.refl _ _ | refine Below.drew ?_ | refine Below.allocS ?_ _ | refine Below.step ?_ (by assumption) | refine Below.setCell ?_ (by simp <;> omega) _ | refine Below.drewN' ?_ _))
            clear hb7 g6 
            go_wp2
            go_ret
            exact ⟨(by first | rfl | (simp; done) | (simp; omega) | (simp [*]; done)), by (repeat (first | (with_reducible exact Below.refl _ _) | (with_reducible assumption) | (with_reducible refine Below.drew ?_) | (with_reducible refine Below.allocS ?_ _) | (with_reducible refine Below.setCell ?_ ?_ _) | (with_reducible refine Below.step ?_ (by assumption)) | (with_reducible refine Below.drewN' ?_ _))); (try any_goals (first | (with_reducible assumption) | (simp; done) | (simp; omega) | omega))⟩
      · have hj1 : (j != 0) = true := by simpa using hj
        have hj2 : (j == 0) = false := by simpa using hj
        clear hj hu
        go_enter Tryd.func4, Tryd.ntmps4
        go_wp2_with fail
        refine (H1.out _).mono ?_
        rintro e w1 ⟨rfl, hb1⟩
        have g1 : Below w.heap.size w w1 := by (repeat (first | exact Below.refl _ _ | refine Below.drew ?_ | refine Below.allocS ?_ _ | refine Below.step ?_ (by assumption) | refine Below.setCell ?_ (by simp <;> omega) _ | refine Below.drewN' ?_ _))
        clear hb1
        go_wp2_with fail
        refine (H2.out _).mono ?_
        rintro e w2 ⟨rfl, hb2⟩
        have g2 : Below w.heap.size w w2 := by (repeat (first | exact Below.refl _ _ | refine Below.drew ?_ | refine Below.allocS ?_ _ | refine Below.step ?_ (by assumption) | refine Below.setCell ?_ (by simp <;> omega) _ | refine Below.drewN' ?_ _))
        clear hb2 g1 
        go_wp2_with fail
        refine (H3.out _).mono ?_
        rintro e w3 ⟨rfl, hb3⟩
        have g3 : Below w.heap.size w w3 := by (repeat (first | exact Below.refl _ _ | refine Below.drew ?_ | refine Below.allocS ?_ _ | refine Below.step ?_ (by assumption) | refine Below.setCell ?_ (by simp <;> omega) _ | refine Below.drewN' ?_ _))
        clear hb3 g2 
        go_wp2_with fail
        refine (H4.out _).mono ?_
        rintro e w4 ⟨rfl, hb4⟩
        have g4 : Below w.heap.size w w4 := by (repeat (first | exact Below.refl _ _ | refine Below.drew ?_ | refine Below.allocS ?_ _ | refine Below.step ?_ (by assumption) | refine Below.setCell ?_ (by simp <;> omega) _ | refine Below.drewN' ?_ _))
        clear hb4 g3 
        go_wp2_with fail
        refine (H5.out _).mono ?_
        rintro e w5 ⟨rfl, hb5⟩
        have g5 : Below w.heap.size w w5 := by (repeat (first | exact Below.refl _ _ | refine Below.drew ?_ | refine Below.allocS ?_ _ | refine Below.step ?_ (by assumption) | refine Below.setCell ?_ (by simp <;> omega) _ | refine Below.drewN' ?_ _))
        clear hb5 g4 
        go_wp2_with fail
        refine (H6.out _).mono ?_
        rintro e w6 ⟨rfl, hb6⟩
        have g6 : Below w.heap.size w w6 := by (repeat (first | exact Below.refl _ _ | refine Below.drew ?_ | refine Below.allocS ?_ _ | refine Below.step ?_ (by assumption) | refine Below.setCell ?_ (by simp <;> omega) _ | refine Below.drewN' ?_ _))
        clear hb6 g5 
        go_wp2_with fail
        refine (awake_c _).mono ?_
        rintro e w7 ⟨rfl, hb7⟩
        have g7 : Below w.heap.size w w7 := by (repeat (first | exact Below.refl _ _ | refine Below.drew ?_ | refine Below.allocS ?_ _ | refine Below.step ?_ (by assumption) | refine Below.setCell ?_ (by simp <;> omega) _ | refine Below.drewN' ?_ _))
        clear hb7 g6 
        go_wp2
        go_ret
        exact ⟨(by first | rfl | (simp; done) | (simp; omega) | (simp [*]; done)), by (repeat (first | (with_reducible exact Below.refl _ _) | (with_reducible assumption) | (with_reducible refine Below.drew ?_) | (with_reducible refine Below.allocS ?_ _) | (with_reducible refine Below.setCell ?_ ?_ _) | (with_reducible refine Below.step ?_ (by assumption)) | (with_reducible refine Below.drewN' ?_ _))); (try any_goals (first | (with_reducible assumption) | (simp; done) | (simp; omega) | omega))⟩
  · have e1 : skyR t 3662422 3652422 = (0, 7) := by unfold skyR; rw [if_neg ht]
    have e2 : skyR t 3652422 3662422 = (0, 7) := by unfold skyR; rw [if_neg ht]
    rw [e1] at H1 H2
    rw [e2] at H3 H4
    clear e1 e2 ht
    unfold two at *
    go_enter Tryd.func4, Tryd.ntmps4
    go_wp2_with fail
    refine (H1.out _).mono ?_
    rintro e w1 ⟨rfl, hb1⟩
    have g1 : Below w.heap.size w w1 := by (repeat (first | exact Below.refl _ _ | refine Below.drew ?_ | refine Below.allocS ?_ _ | refine Below.step ?_ (by assumption) | refine Below.setCell ?_ (by simp <;> omega) _ | refine Below.drewN' ?_ _))
    clear hb1
    go_wp2_with fail
    refine (H2.out _).mono ?_
    rintro e w2 ⟨rfl, hb2⟩
    have g2 : Below w.heap.size w w2 := by (repeat (first | exact Below.refl _ _ | refine Below.drew ?_ | refine Below.allocS ?_ _ | refine Below.step ?_ (by assumption) | refine Below.setCell ?_ (by simp <;> omega) _ | refine Below.drewN' ?_ _))
    clear hb2 g1 
    go_wp2_with fail
    refine (H3.out _).mono ?_
    rintro e w3 ⟨rfl, hb3⟩
    have g3 : Below w.heap.size w w3 := by (repeat (first | exact Below.refl _ _ | refine Below.drew ?_ | refine Below.allocS ?_ _ | refine Below.step ?_ (by assumption) | refine Below.setCell ?_ (by simp <;> omega) _ | refine Below.drewN' ?_ _))
    clear hb3 g2 
    go_wp2_with fail
    refine (H4.out _).mono ?_
    rintro e w4 ⟨rfl, hb4⟩
    have g4 : Below w.heap.size w w4 := by (repeat (first | exact Below.refl _ _ | refine Below.drew ?_ | refine Below.allocS ?_ _ | refine Below.step ?_ (by assumption) | refine Below.setCell ?_ (by simp <;> omega) _ | refine Below.drewN' ?_ _))
    clear hb4 g3 
    go_wp2_with fail
    refine (awake_c _).mono ?_
    rintro e w5 ⟨rfl, hb5⟩
    have g5 : Below w.heap.size w w5 := by (repeat (first | exact Below.refl _ _ | refine Below.drew ?_ | refine Below.allocS ?_ _ | refine Below.step ?_ (by assumption) | refine Below.setCell ?_ (by simp <;> omega) _ | refine Below.drewN' ?_ _))
    clear hb5 g4 
    go_wp2
    go_ret
    exact ⟨(by first | rfl | (simp; done) | (simp; omega) | (simp [*]; done)), by (repeat (first | (with_reducible exact Below.refl _ _) | (with_reducible assumption) | (with_reducible refine Below.drew ?_) | (with_reducible refine Below.allocS ?_ _) | (with_reducible refine Below.setCell ?_ ?_ _) | (with_reducible refine Below.step ?_ (by assumption)) | (with_reducible refine Below.drewN' ?_ _))); (try any_goals (first | (with_reducible assumption) | (simp; done) | (simp; omega) | omega))⟩
end Go.Proofs.YtjkcgbidceakjaaDoor
