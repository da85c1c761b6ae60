/-
  Contracts of Heard and Corrected, of gun and of its reference, and the walk of the law GunHeard.
-/
import Derived.Test.YtgiplkfdallmkaaL1
import Derived.Test.YtgiplkfdallmkaaGM
import Derived.Test.YtgiplkfdallmkaaPre2
namespace Go.Proofs.Ytgiplkfdallmkaa
open Go.RowKit
set_option linter.unusedVariables false

theorem LLo_bd (s v a b c d : Int) : 0 ≤ LLo s v a b c d ∧ LLo s v a b c d ≤ 1000000 := by
  by_cases h : lagE s v a b c d = 0
  · obtain ⟨g1, g2, g3⟩ := lagE_ok h
    obtain ⟨⟨p1, p2⟩, p3, p4⟩ := validAir_true g1
    obtain ⟨q0, q1⟩ := dd_bd g2 g3
    obtain ⟨l0, l1⟩ := dLo_bd q0 q1
    rw [LLo_ok h]; unfold lagLo ovLo
    refine ⟨Int.ediv_nonneg (by omega) (by omega), ?_⟩
    have := Int.ediv_le_of_le_mul (a := dLo (dd a b c d) * 1000) (b := 1000000) (c := s + v) (by omega) (by omega)
    exact this
  · unfold LLo; rw [if_neg h]; omega
theorem LHi_bd (s v a b c d : Int) : 0 ≤ LHi s v a b c d ∧ LHi s v a b c d ≤ 1000000 := by
  by_cases h : lagE s v a b c d = 0
  · obtain ⟨g1, g2, g3⟩ := lagE_ok h
    obtain ⟨⟨p1, p2⟩, p3, p4⟩ := validAir_true g1
    obtain ⟨q0, q1⟩ := dd_bd g2 g3
    obtain ⟨l0, l1⟩ := dHi_bd q0 q1
    rw [LHi_ok h]; unfold lagHi ovHi
    refine ⟨Int.ediv_nonneg (by omega) (by omega), ?_⟩
    have := Int.ediv_le_of_le_mul (a := dHi (dd a b c d) * 1000 + (s - v) - 1) (b := 1000000) (c := s - v) (by omega) (by omega)
    exact this
  · unfold LHi; rw [if_neg h]; omega

/-- What Heard and Corrected answer: their error, and the ends. -/
def hrE (s v a b c d t : Int) : Int := if lagE s v a b c d = 0 then (if within t 0 86399999 then 0 else 7) else lagE s v a b c d
def hrLo (s v a b c d t : Int) : Int := if hrE s v a b c d t = 0 then t + LLo s v a b c d else 0
def hrHi (s v a b c d t : Int) : Int := if hrE s v a b c d t = 0 then t + LHi s v a b c d else 0
def crLo (s v a b c d t : Int) : Int := if hrE s v a b c d t = 0 then t - LHi s v a b c d else 0
def crHi (s v a b c d t : Int) : Int := if hrE s v a b c d t = 0 then t - LLo s v a b c d else 0
theorem hrE_ok {s v a b c d t : Int} (h : hrE s v a b c d t = 0) : lagE s v a b c d = 0 ∧ 0 ≤ t ∧ t ≤ 86399999 := by
  unfold hrE at h
  by_cases h1 : lagE s v a b c d = 0
  · rw [if_pos h1] at h
    cases h2 : within t 0 86399999
    · rw [h2] at h; simp at h
    · exact ⟨h1, within_true h2⟩
  · rw [if_neg h1] at h; exact absurd h h1

theorem Heard_c (s v a b c d t : Int) (w : World) :
    Calls Try.prog 24 #[.agg #[.int .i64 s, .int .i64 v], .agg #[.int .i64 a, .int .i64 b], .agg #[.int .i64 c, .int .i64 d], .int .i64 t] w fun e w' => e = .returned (.tuple #[.agg #[.int .i64 (hrLo s v a b c d t), .int .i64 (hrHi s v a b c d t)], .int .i64 (hrE s v a b c d t)]) ∧ Below w.heap.size w w' := by
  by_cases h1 : lagE s v a b c d = 0
  · obtain ⟨b1, b2⟩ := LLo_bd s v a b c d
    obtain ⟨b3, b4⟩ := LHi_bd s v a b c d
    cases h2 : within t 0 86399999
    · have e1 : hrE s v a b c d t = 7 := by unfold hrE; rw [if_pos h1, h2]; rfl
      have e2 : hrLo s v a b c d t = 0 := by unfold hrLo; rw [e1]; rfl
      have e3 : hrHi s v a b c d t = 0 := by unfold hrHi; rw [e1]; rfl
      rw [e1, e2, e3]
      clear e1 e2 e3
      go_enter Try.func24, Try.ntmps24
      go_wp2_with fail
      refine (Lag_c _ _ _ _ _ _ _).mono ?_
      rintro e w1 ⟨rfl, hb1⟩
      have x1_0_0 : w1.cell? ⟨w.heap.size, 0, none⟩ = some (.int .i64 s) := keep_cell hb1 (by simp [go_sem, *])
      have x1_0_1 : w1.cell? ⟨w.heap.size, 1, none⟩ = some (.int .i64 v) := keep_cell hb1 (by simp [go_sem, *])
      have y1_0 : w.heap.size < w1.heap.size := cell?_lt x1_0_0
      have x1_1_0 : w1.cell? ⟨w.heap.size + 1, 0, none⟩ = some (.int .i64 a) := keep_cell hb1 (by simp [go_sem, *])
      have x1_1_1 : w1.cell? ⟨w.heap.size + 1, 1, none⟩ = some (.int .i64 b) := keep_cell hb1 (by simp [go_sem, *])
      have y1_1 : w.heap.size + 1 < w1.heap.size := cell?_lt x1_1_0
      have x1_2_0 : w1.cell? ⟨w.heap.size + 1 + 1, 0, none⟩ = some (.int .i64 c) := keep_cell hb1 (by simp [go_sem, *])
      have x1_2_1 : w1.cell? ⟨w.heap.size + 1 + 1, 1, none⟩ = some (.int .i64 d) := keep_cell hb1 (by simp [go_sem, *])
      have y1_2 : w.heap.size + 1 + 1 < w1.heap.size := cell?_lt x1_2_0
      have x1_3_0 : w1.cell? ⟨w.heap.size + 1 + 1 + 1, 0, none⟩ = some (.int .i64 0) := keep_cell hb1 (by simp [go_sem, *])
      have f1_3_0 : w1.frozen? ⟨w.heap.size + 1 + 1 + 1, 0, none⟩ = false := keep_frozen hb1 (by simp) (by simp [go_sem, *])
      have x1_3_1 : w1.cell? ⟨w.heap.size + 1 + 1 + 1, 1, none⟩ = some (.int .i64 0) := keep_cell hb1 (by simp [go_sem, *])
      have f1_3_1 : w1.frozen? ⟨w.heap.size + 1 + 1 + 1, 1, none⟩ = false := keep_frozen hb1 (by simp) (by simp [go_sem, *])
      have y1_3 : w.heap.size + 1 + 1 + 1 < w1.heap.size := cell?_lt x1_3_0
      have g1 : Below w.heap.size w w1 := by (repeat (first | exact Below.refl _ _ | refine Below.drew ?_ | refine Below.allocS ?_ _ | refine Below.step ?_ (by assumption) | refine Below.setCell ?_ (by simp <;> omega) _ | refine Below.drewN' ?_ _))
      clear hb1
      go_wp2_with (go_at_call 53; (with_reducible refine (within_c _ _ _ _).mono ?_); rintro e w' ⟨rfl, rfl⟩)
      all_goals
        refine bodyPost_ret (v := .tuple #[.agg #[.int .i64 0, .int .i64 0], .int .i64 7]) (by simp [results, Try.results24, go_sem, *] <;> (repeat' apply And.intro) <;> rfl) rfl ⟨rfl, ?_⟩
        (repeat (first | exact Below.refl _ _ | refine Below.drew ?_ | refine Below.allocS ?_ _ | refine Below.step ?_ (by assumption) | refine Below.setCell ?_ (by simp <;> omega) _ | refine Below.drewN' ?_ _))
    · have e1 : hrE s v a b c d t = 0 := by unfold hrE; rw [if_pos h1, h2]; rfl
      have e2 : hrLo s v a b c d t = t + LLo s v a b c d := by unfold hrLo; rw [if_pos e1]
      have e3 : hrHi s v a b c d t = t + LHi s v a b c d := by unfold hrHi; rw [if_pos e1]
      rw [e1, e2, e3]
      clear e1 e2 e3
      obtain ⟨t1, t2⟩ := within_true h2
      go_enter Try.func24, Try.ntmps24
      go_wp2_with fail
      refine (Lag_c _ _ _ _ _ _ _).mono ?_
      rintro e w1 ⟨rfl, hb1⟩
      have x1_0_0 : w1.cell? ⟨w.heap.size, 0, none⟩ = some (.int .i64 s) := keep_cell hb1 (by simp [go_sem, *])
      have x1_0_1 : w1.cell? ⟨w.heap.size, 1, none⟩ = some (.int .i64 v) := keep_cell hb1 (by simp [go_sem, *])
      have y1_0 : w.heap.size < w1.heap.size := cell?_lt x1_0_0
      have x1_1_0 : w1.cell? ⟨w.heap.size + 1, 0, none⟩ = some (.int .i64 a) := keep_cell hb1 (by simp [go_sem, *])
      have x1_1_1 : w1.cell? ⟨w.heap.size + 1, 1, none⟩ = some (.int .i64 b) := keep_cell hb1 (by simp [go_sem, *])
      have y1_1 : w.heap.size + 1 < w1.heap.size := cell?_lt x1_1_0
      have x1_2_0 : w1.cell? ⟨w.heap.size + 1 + 1, 0, none⟩ = some (.int .i64 c) := keep_cell hb1 (by simp [go_sem, *])
      have x1_2_1 : w1.cell? ⟨w.heap.size + 1 + 1, 1, none⟩ = some (.int .i64 d) := keep_cell hb1 (by simp [go_sem, *])
      have y1_2 : w.heap.size + 1 + 1 < w1.heap.size := cell?_lt x1_2_0
      have x1_3_0 : w1.cell? ⟨w.heap.size + 1 + 1 + 1, 0, none⟩ = some (.int .i64 0) := keep_cell hb1 (by simp [go_sem, *])
      have f1_3_0 : w1.frozen? ⟨w.heap.size + 1 + 1 + 1, 0, none⟩ = false := keep_frozen hb1 (by simp) (by simp [go_sem, *])
      have x1_3_1 : w1.cell? ⟨w.heap.size + 1 + 1 + 1, 1, none⟩ = some (.int .i64 0) := keep_cell hb1 (by simp [go_sem, *])
      have f1_3_1 : w1.frozen? ⟨w.heap.size + 1 + 1 + 1, 1, none⟩ = false := keep_frozen hb1 (by simp) (by simp [go_sem, *])
      have y1_3 : w.heap.size + 1 + 1 + 1 < w1.heap.size := cell?_lt x1_3_0
      have g1 : Below w.heap.size w w1 := by (repeat (first | exact Below.refl _ _ | refine Below.drew ?_ | refine Below.allocS ?_ _ | refine Below.step ?_ (by assumption) | refine Below.setCell ?_ (by simp <;> omega) _ | refine Below.drewN' ?_ _))
      clear hb1
      go_wp2_with (go_at_call 53; (with_reducible refine (within_c _ _ _ _).mono ?_); rintro e w' ⟨rfl, rfl⟩)
      all_goals
        refine bodyPost_ret (v := .tuple #[.agg #[.int .i64 (t + LLo s v a b c d), .int .i64 (t + LHi s v a b c d)], .int .i64 0]) (by simp [results, Try.results24, go_sem, *] <;> (repeat' apply And.intro) <;> rfl) rfl ⟨rfl, ?_⟩
        (repeat (first | exact Below.refl _ _ | refine Below.drew ?_ | refine Below.allocS ?_ _ | refine Below.step ?_ (by assumption) | refine Below.setCell ?_ (by simp <;> omega) _ | refine Below.drewN' ?_ _))
  · have e1 : hrE s v a b c d t = lagE s v a b c d := by unfold hrE; rw [if_neg h1]
    have e2 : hrLo s v a b c d t = 0 := by unfold hrLo; rw [e1, if_neg h1]
    have e3 : hrHi s v a b c d t = 0 := by unfold hrHi; rw [e1, if_neg h1]
    rw [e1, e2, e3]
    clear e1 e2 e3
    have hn : (lagE s v a b c d != 0) = true := by simpa using h1
    clear h1
    go_enter Try.func24, Try.ntmps24
    go_wp2_with fail
    refine (Lag_c _ _ _ _ _ _ _).mono ?_
    rintro e w1 ⟨rfl, hb1⟩
    have x1_0_0 : w1.cell? ⟨w.heap.size, 0, none⟩ = some (.int .i64 s) := keep_cell hb1 (by simp [go_sem, *])
    have x1_0_1 : w1.cell? ⟨w.heap.size, 1, none⟩ = some (.int .i64 v) := keep_cell hb1 (by simp [go_sem, *])
    have y1_0 : w.heap.size < w1.heap.size := cell?_lt x1_0_0
    have x1_1_0 : w1.cell? ⟨w.heap.size + 1, 0, none⟩ = some (.int .i64 a) := keep_cell hb1 (by simp [go_sem, *])
    have x1_1_1 : w1.cell? ⟨w.heap.size + 1, 1, none⟩ = some (.int .i64 b) := keep_cell hb1 (by simp [go_sem, *])
    have y1_1 : w.heap.size + 1 < w1.heap.size := cell?_lt x1_1_0
    have x1_2_0 : w1.cell? ⟨w.heap.size + 1 + 1, 0, none⟩ = some (.int .i64 c) := keep_cell hb1 (by simp [go_sem, *])
    have x1_2_1 : w1.cell? ⟨w.heap.size + 1 + 1, 1, none⟩ = some (.int .i64 d) := keep_cell hb1 (by simp [go_sem, *])
    have y1_2 : w.heap.size + 1 + 1 < w1.heap.size := cell?_lt x1_2_0
    have x1_3_0 : w1.cell? ⟨w.heap.size + 1 + 1 + 1, 0, none⟩ = some (.int .i64 0) := keep_cell hb1 (by simp [go_sem, *])
    have f1_3_0 : w1.frozen? ⟨w.heap.size + 1 + 1 + 1, 0, none⟩ = false := keep_frozen hb1 (by simp) (by simp [go_sem, *])
    have x1_3_1 : w1.cell? ⟨w.heap.size + 1 + 1 + 1, 1, none⟩ = some (.int .i64 0) := keep_cell hb1 (by simp [go_sem, *])
    have f1_3_1 : w1.frozen? ⟨w.heap.size + 1 + 1 + 1, 1, none⟩ = false := keep_frozen hb1 (by simp) (by simp [go_sem, *])
    have y1_3 : w.heap.size + 1 + 1 + 1 < w1.heap.size := cell?_lt x1_3_0
    have g1 : Below w.heap.size w w1 := by (repeat (first | exact Below.refl _ _ | refine Below.drew ?_ | refine Below.allocS ?_ _ | refine Below.step ?_ (by assumption) | refine Below.setCell ?_ (by simp <;> omega) _ | refine Below.drewN' ?_ _))
    clear hb1
    go_wp2
    all_goals
      refine bodyPost_ret (v := .tuple #[.agg #[.int .i64 0, .int .i64 0], .int .i64 (lagE s v a b c d)]) (by simp [results, Try.results24, go_sem, *] <;> (repeat' apply And.intro) <;> rfl) rfl ⟨rfl, ?_⟩
      (repeat (first | exact Below.refl _ _ | refine Below.drew ?_ | refine Below.allocS ?_ _ | refine Below.step ?_ (by assumption) | refine Below.setCell ?_ (by simp <;> omega) _ | refine Below.drewN' ?_ _))

theorem rHeard_c (s v a b c d t : Int) (w : World) :
    Calls Try.prog 25 #[.agg #[.int .i64 s, .int .i64 v], .agg #[.int .i64 a, .int .i64 b], .agg #[.int .i64 c, .int .i64 d], .int .i64 t] w fun e w' => e = .returned (.tuple #[.agg #[.int .i64 (hrLo s v a b c d t), .int .i64 (hrHi s v a b c d t)], .int .i64 (hrE s v a b c d t)]) ∧ Below w.heap.size w w' := by
  by_cases h1 : lagE s v a b c d = 0
  · obtain ⟨b1, b2⟩ := LLo_bd s v a b c d
    obtain ⟨b3, b4⟩ := LHi_bd s v a b c d
    cases h2 : within t 0 86399999
    · have e1 : hrE s v a b c d t = 7 := by unfold hrE; rw [if_pos h1, h2]; rfl
      have e2 : hrLo s v a b c d t = 0 := by unfold hrLo; rw [e1]; rfl
      have e3 : hrHi s v a b c d t = 0 := by unfold hrHi; rw [e1]; rfl
      rw [e1, e2, e3]
      clear e1 e2 e3
      go_enter Try.func25, Try.ntmps25
      go_wp2_with fail
      refine (rLag_c _ _ _ _ _ _ _).mono ?_
      rintro e w1 ⟨rfl, hb1⟩
      have x1_0_0 : w1.cell? ⟨w.heap.size, 0, none⟩ = some (.int .i64 s) := keep_cell hb1 (by simp [go_sem, *])
      have x1_0_1 : w1.cell? ⟨w.heap.size, 1, none⟩ = some (.int .i64 v) := keep_cell hb1 (by simp [go_sem, *])
      have y1_0 : w.heap.size < w1.heap.size := cell?_lt x1_0_0
      have x1_1_0 : w1.cell? ⟨w.heap.size + 1, 0, none⟩ = some (.int .i64 a) := keep_cell hb1 (by simp [go_sem, *])
      have x1_1_1 : w1.cell? ⟨w.heap.size + 1, 1, none⟩ = some (.int .i64 b) := keep_cell hb1 (by simp [go_sem, *])
      have y1_1 : w.heap.size + 1 < w1.heap.size := cell?_lt x1_1_0
      have x1_2_0 : w1.cell? ⟨w.heap.size + 1 + 1, 0, none⟩ = some (.int .i64 c) := keep_cell hb1 (by simp [go_sem, *])
      have x1_2_1 : w1.cell? ⟨w.heap.size + 1 + 1, 1, none⟩ = some (.int .i64 d) := keep_cell hb1 (by simp [go_sem, *])
      have y1_2 : w.heap.size + 1 + 1 < w1.heap.size := cell?_lt x1_2_0
      have x1_3_0 : w1.cell? ⟨w.heap.size + 1 + 1 + 1, 0, none⟩ = some (.int .i64 0) := keep_cell hb1 (by simp [go_sem, *])
      have f1_3_0 : w1.frozen? ⟨w.heap.size + 1 + 1 + 1, 0, none⟩ = false := keep_frozen hb1 (by simp) (by simp [go_sem, *])
      have x1_3_1 : w1.cell? ⟨w.heap.size + 1 + 1 + 1, 1, none⟩ = some (.int .i64 0) := keep_cell hb1 (by simp [go_sem, *])
      have f1_3_1 : w1.frozen? ⟨w.heap.size + 1 + 1 + 1, 1, none⟩ = false := keep_frozen hb1 (by simp) (by simp [go_sem, *])
      have y1_3 : w.heap.size + 1 + 1 + 1 < w1.heap.size := cell?_lt x1_3_0
      have g1 : Below w.heap.size w w1 := by (repeat (first | exact Below.refl _ _ | refine Below.drew ?_ | refine Below.allocS ?_ _ | refine Below.step ?_ (by assumption) | refine Below.setCell ?_ (by simp <;> omega) _ | refine Below.drewN' ?_ _))
      clear hb1
      go_wp2_with (go_at_call 55; (with_reducible refine (rwithin_c _ _ _ _).mono ?_); rintro e w' ⟨rfl, rfl⟩)
      all_goals
        refine bodyPost_ret (v := .tuple #[.agg #[.int .i64 0, .int .i64 0], .int .i64 7]) (by simp [results, Try.results25, go_sem, *] <;> (repeat' apply And.intro) <;> rfl) rfl ⟨rfl, ?_⟩
        (repeat (first | exact Below.refl _ _ | refine Below.drew ?_ | refine Below.allocS ?_ _ | refine Below.step ?_ (by assumption) | refine Below.setCell ?_ (by simp <;> omega) _ | refine Below.drewN' ?_ _))
    · have e1 : hrE s v a b c d t = 0 := by unfold hrE; rw [if_pos h1, h2]; rfl
      have e2 : hrLo s v a b c d t = t + LLo s v a b c d := by unfold hrLo; rw [if_pos e1]
      have e3 : hrHi s v a b c d t = t + LHi s v a b c d := by unfold hrHi; rw [if_pos e1]
      rw [e1, e2, e3]
      clear e1 e2 e3
      obtain ⟨t1, t2⟩ := within_true h2
      go_enter Try.func25, Try.ntmps25
      go_wp2_with fail
      refine (rLag_c _ _ _ _ _ _ _).mono ?_
      rintro e w1 ⟨rfl, hb1⟩
      have x1_0_0 : w1.cell? ⟨w.heap.size, 0, none⟩ = some (.int .i64 s) := keep_cell hb1 (by simp [go_sem, *])
      have x1_0_1 : w1.cell? ⟨w.heap.size, 1, none⟩ = some (.int .i64 v) := keep_cell hb1 (by simp [go_sem, *])
      have y1_0 : w.heap.size < w1.heap.size := cell?_lt x1_0_0
      have x1_1_0 : w1.cell? ⟨w.heap.size + 1, 0, none⟩ = some (.int .i64 a) := keep_cell hb1 (by simp [go_sem, *])
      have x1_1_1 : w1.cell? ⟨w.heap.size + 1, 1, none⟩ = some (.int .i64 b) := keep_cell hb1 (by simp [go_sem, *])
      have y1_1 : w.heap.size + 1 < w1.heap.size := cell?_lt x1_1_0
      have x1_2_0 : w1.cell? ⟨w.heap.size + 1 + 1, 0, none⟩ = some (.int .i64 c) := keep_cell hb1 (by simp [go_sem, *])
      have x1_2_1 : w1.cell? ⟨w.heap.size + 1 + 1, 1, none⟩ = some (.int .i64 d) := keep_cell hb1 (by simp [go_sem, *])
      have y1_2 : w.heap.size + 1 + 1 < w1.heap.size := cell?_lt x1_2_0
      have x1_3_0 : w1.cell? ⟨w.heap.size + 1 + 1 + 1, 0, none⟩ = some (.int .i64 0) := keep_cell hb1 (by simp [go_sem, *])
      have f1_3_0 : w1.frozen? ⟨w.heap.size + 1 + 1 + 1, 0, none⟩ = false := keep_frozen hb1 (by simp) (by simp [go_sem, *])
      have x1_3_1 : w1.cell? ⟨w.heap.size + 1 + 1 + 1, 1, none⟩ = some (.int .i64 0) := keep_cell hb1 (by simp [go_sem, *])
      have f1_3_1 : w1.frozen? ⟨w.heap.size + 1 + 1 + 1, 1, none⟩ = false := keep_frozen hb1 (by simp) (by simp [go_sem, *])
      have y1_3 : w.heap.size + 1 + 1 + 1 < w1.heap.size := cell?_lt x1_3_0
      have g1 : Below w.heap.size w w1 := by (repeat (first | exact Below.refl _ _ | refine Below.drew ?_ | refine Below.allocS ?_ _ | refine Below.step ?_ (by assumption) | refine Below.setCell ?_ (by simp <;> omega) _ | refine Below.drewN' ?_ _))
      clear hb1
      go_wp2_with (go_at_call 55; (with_reducible refine (rwithin_c _ _ _ _).mono ?_); rintro e w' ⟨rfl, rfl⟩)
      all_goals
        refine bodyPost_ret (v := .tuple #[.agg #[.int .i64 (t + LLo s v a b c d), .int .i64 (t + LHi s v a b c d)], .int .i64 0]) (by simp [results, Try.results25, go_sem, *] <;> (repeat' apply And.intro) <;> rfl) rfl ⟨rfl, ?_⟩
        (repeat (first | exact Below.refl _ _ | refine Below.drew ?_ | refine Below.allocS ?_ _ | refine Below.step ?_ (by assumption) | refine Below.setCell ?_ (by simp <;> omega) _ | refine Below.drewN' ?_ _))
  · have e1 : hrE s v a b c d t = lagE s v a b c d := by unfold hrE; rw [if_neg h1]
    have e2 : hrLo s v a b c d t = 0 := by unfold hrLo; rw [e1, if_neg h1]
    have e3 : hrHi s v a b c d t = 0 := by unfold hrHi; rw [e1, if_neg h1]
    rw [e1, e2, e3]
    clear e1 e2 e3
    have hn : (lagE s v a b c d != 0) = true := by simpa using h1
    clear h1
    go_enter Try.func25, Try.ntmps25
    go_wp2_with fail
    refine (rLag_c _ _ _ _ _ _ _).mono ?_
    rintro e w1 ⟨rfl, hb1⟩
    have x1_0_0 : w1.cell? ⟨w.heap.size, 0, none⟩ = some (.int .i64 s) := keep_cell hb1 (by simp [go_sem, *])
    have x1_0_1 : w1.cell? ⟨w.heap.size, 1, none⟩ = some (.int .i64 v) := keep_cell hb1 (by simp [go_sem, *])
    have y1_0 : w.heap.size < w1.heap.size := cell?_lt x1_0_0
    have x1_1_0 : w1.cell? ⟨w.heap.size + 1, 0, none⟩ = some (.int .i64 a) := keep_cell hb1 (by simp [go_sem, *])
    have x1_1_1 : w1.cell? ⟨w.heap.size + 1, 1, none⟩ = some (.int .i64 b) := keep_cell hb1 (by simp [go_sem, *])
    have y1_1 : w.heap.size + 1 < w1.heap.size := cell?_lt x1_1_0
    have x1_2_0 : w1.cell? ⟨w.heap.size + 1 + 1, 0, none⟩ = some (.int .i64 c) := keep_cell hb1 (by simp [go_sem, *])
    have x1_2_1 : w1.cell? ⟨w.heap.size + 1 + 1, 1, none⟩ = some (.int .i64 d) := keep_cell hb1 (by simp [go_sem, *])
    have y1_2 : w.heap.size + 1 + 1 < w1.heap.size := cell?_lt x1_2_0
    have x1_3_0 : w1.cell? ⟨w.heap.size + 1 + 1 + 1, 0, none⟩ = some (.int .i64 0) := keep_cell hb1 (by simp [go_sem, *])
    have f1_3_0 : w1.frozen? ⟨w.heap.size + 1 + 1 + 1, 0, none⟩ = false := keep_frozen hb1 (by simp) (by simp [go_sem, *])
    have x1_3_1 : w1.cell? ⟨w.heap.size + 1 + 1 + 1, 1, none⟩ = some (.int .i64 0) := keep_cell hb1 (by simp [go_sem, *])
    have f1_3_1 : w1.frozen? ⟨w.heap.size + 1 + 1 + 1, 1, none⟩ = false := keep_frozen hb1 (by simp) (by simp [go_sem, *])
    have y1_3 : w.heap.size + 1 + 1 + 1 < w1.heap.size := cell?_lt x1_3_0
    have g1 : Below w.heap.size w w1 := by (repeat (first | exact Below.refl _ _ | refine Below.drew ?_ | refine Below.allocS ?_ _ | refine Below.step ?_ (by assumption) | refine Below.setCell ?_ (by simp <;> omega) _ | refine Below.drewN' ?_ _))
    clear hb1
    go_wp2
    all_goals
      refine bodyPost_ret (v := .tuple #[.agg #[.int .i64 0, .int .i64 0], .int .i64 (lagE s v a b c d)]) (by simp [results, Try.results25, go_sem, *] <;> (repeat' apply And.intro) <;> rfl) rfl ⟨rfl, ?_⟩
      (repeat (first | exact Below.refl _ _ | refine Below.drew ?_ | refine Below.allocS ?_ _ | refine Below.step ?_ (by assumption) | refine Below.setCell ?_ (by simp <;> omega) _ | refine Below.drewN' ?_ _))

theorem Corrected_c (s v a b c d t : Int) (w : World) :
    Calls Try.prog 26 #[.agg #[.int .i64 s, .int .i64 v], .agg #[.int .i64 a, .int .i64 b], .agg #[.int .i64 c, .int .i64 d], .int .i64 t] w fun e w' => e = .returned (.tuple #[.agg #[.int .i64 (crLo s v a b c d t), .int .i64 (crHi s v a b c d t)], .int .i64 (hrE s v a b c d t)]) ∧ Below w.heap.size w w' := by
  by_cases h1 : lagE s v a b c d = 0
  · obtain ⟨b1, b2⟩ := LLo_bd s v a b c d
    obtain ⟨b3, b4⟩ := LHi_bd s v a b c d
    cases h2 : within t 0 86399999
    · have e1 : hrE s v a b c d t = 7 := by unfold hrE; rw [if_pos h1, h2]; rfl
      have e2 : crLo s v a b c d t = 0 := by unfold crLo; rw [e1]; rfl
      have e3 : crHi s v a b c d t = 0 := by unfold crHi; rw [e1]; rfl
      rw [e1, e2, e3]
      clear e1 e2 e3
      go_enter Try.func26, Try.ntmps26
      go_wp2_with fail
      refine (Lag_c _ _ _ _ _ _ _).mono ?_
      rintro e w1 ⟨rfl, hb1⟩
      have x1_0_0 : w1.cell? ⟨w.heap.size, 0, none⟩ = some (.int .i64 s) := keep_cell hb1 (by simp [go_sem, *])
      have x1_0_1 : w1.cell? ⟨w.heap.size, 1, none⟩ = some (.int .i64 v) := keep_cell hb1 (by simp [go_sem, *])
      have y1_0 : w.heap.size < w1.heap.size := cell?_lt x1_0_0
      have x1_1_0 : w1.cell? ⟨w.heap.size + 1, 0, none⟩ = some (.int .i64 a) := keep_cell hb1 (by simp [go_sem, *])
      have x1_1_1 : w1.cell? ⟨w.heap.size + 1, 1, none⟩ = some (.int .i64 b) := keep_cell hb1 (by simp [go_sem, *])
      have y1_1 : w.heap.size + 1 < w1.heap.size := cell?_lt x1_1_0
      have x1_2_0 : w1.cell? ⟨w.heap.size + 1 + 1, 0, none⟩ = some (.int .i64 c) := keep_cell hb1 (by simp [go_sem, *])
      have x1_2_1 : w1.cell? ⟨w.heap.size + 1 + 1, 1, none⟩ = some (.int .i64 d) := keep_cell hb1 (by simp [go_sem, *])
      have y1_2 : w.heap.size + 1 + 1 < w1.heap.size := cell?_lt x1_2_0
      have x1_3_0 : w1.cell? ⟨w.heap.size + 1 + 1 + 1, 0, none⟩ = some (.int .i64 0) := keep_cell hb1 (by simp [go_sem, *])
      have f1_3_0 : w1.frozen? ⟨w.heap.size + 1 + 1 + 1, 0, none⟩ = false := keep_frozen hb1 (by simp) (by simp [go_sem, *])
      have x1_3_1 : w1.cell? ⟨w.heap.size + 1 + 1 + 1, 1, none⟩ = some (.int .i64 0) := keep_cell hb1 (by simp [go_sem, *])
      have f1_3_1 : w1.frozen? ⟨w.heap.size + 1 + 1 + 1, 1, none⟩ = false := keep_frozen hb1 (by simp) (by simp [go_sem, *])
      have y1_3 : w.heap.size + 1 + 1 + 1 < w1.heap.size := cell?_lt x1_3_0
      have g1 : Below w.heap.size w w1 := by (repeat (first | exact Below.refl _ _ | refine Below.drew ?_ | refine Below.allocS ?_ _ | refine Below.step ?_ (by assumption) | refine Below.setCell ?_ (by simp <;> omega) _ | refine Below.drewN' ?_ _))
      clear hb1
      go_wp2_with (go_at_call 53; (with_reducible refine (within_c _ _ _ _).mono ?_); rintro e w' ⟨rfl, rfl⟩)
      all_goals
        refine bodyPost_ret (v := .tuple #[.agg #[.int .i64 0, .int .i64 0], .int .i64 7]) (by simp [results, Try.results26, go_sem, *] <;> (repeat' apply And.intro) <;> rfl) rfl ⟨rfl, ?_⟩
        (repeat (first | exact Below.refl _ _ | refine Below.drew ?_ | refine Below.allocS ?_ _ | refine Below.step ?_ (by assumption) | refine Below.setCell ?_ (by simp <;> omega) _ | refine Below.drewN' ?_ _))
    · have e1 : hrE s v a b c d t = 0 := by unfold hrE; rw [if_pos h1, h2]; rfl
      have e2 : crLo s v a b c d t = t - LHi s v a b c d := by unfold crLo; rw [if_pos e1]
      have e3 : crHi s v a b c d t = t - LLo s v a b c d := by unfold crHi; rw [if_pos e1]
      rw [e1, e2, e3]
      clear e1 e2 e3
      obtain ⟨t1, t2⟩ := within_true h2
      go_enter Try.func26, Try.ntmps26
      go_wp2_with fail
      refine (Lag_c _ _ _ _ _ _ _).mono ?_
      rintro e w1 ⟨rfl, hb1⟩
      have x1_0_0 : w1.cell? ⟨w.heap.size, 0, none⟩ = some (.int .i64 s) := keep_cell hb1 (by simp [go_sem, *])
      have x1_0_1 : w1.cell? ⟨w.heap.size, 1, none⟩ = some (.int .i64 v) := keep_cell hb1 (by simp [go_sem, *])
      have y1_0 : w.heap.size < w1.heap.size := cell?_lt x1_0_0
      have x1_1_0 : w1.cell? ⟨w.heap.size + 1, 0, none⟩ = some (.int .i64 a) := keep_cell hb1 (by simp [go_sem, *])
      have x1_1_1 : w1.cell? ⟨w.heap.size + 1, 1, none⟩ = some (.int .i64 b) := keep_cell hb1 (by simp [go_sem, *])
      have y1_1 : w.heap.size + 1 < w1.heap.size := cell?_lt x1_1_0
      have x1_2_0 : w1.cell? ⟨w.heap.size + 1 + 1, 0, none⟩ = some (.int .i64 c) := keep_cell hb1 (by simp [go_sem, *])
      have x1_2_1 : w1.cell? ⟨w.heap.size + 1 + 1, 1, none⟩ = some (.int .i64 d) := keep_cell hb1 (by simp [go_sem, *])
      have y1_2 : w.heap.size + 1 + 1 < w1.heap.size := cell?_lt x1_2_0
      have x1_3_0 : w1.cell? ⟨w.heap.size + 1 + 1 + 1, 0, none⟩ = some (.int .i64 0) := keep_cell hb1 (by simp [go_sem, *])
      have f1_3_0 : w1.frozen? ⟨w.heap.size + 1 + 1 + 1, 0, none⟩ = false := keep_frozen hb1 (by simp) (by simp [go_sem, *])
      have x1_3_1 : w1.cell? ⟨w.heap.size + 1 + 1 + 1, 1, none⟩ = some (.int .i64 0) := keep_cell hb1 (by simp [go_sem, *])
      have f1_3_1 : w1.frozen? ⟨w.heap.size + 1 + 1 + 1, 1, none⟩ = false := keep_frozen hb1 (by simp) (by simp [go_sem, *])
      have y1_3 : w.heap.size + 1 + 1 + 1 < w1.heap.size := cell?_lt x1_3_0
      have g1 : Below w.heap.size w w1 := by (repeat (first | exact Below.refl _ _ | refine Below.drew ?_ | refine Below.allocS ?_ _ | refine Below.step ?_ (by assumption) | refine Below.setCell ?_ (by simp <;> omega) _ | refine Below.drewN' ?_ _))
      clear hb1
      go_wp2_with (go_at_call 53; (with_reducible refine (within_c _ _ _ _).mono ?_); rintro e w' ⟨rfl, rfl⟩)
      all_goals
        refine bodyPost_ret (v := .tuple #[.agg #[.int .i64 (t - LHi s v a b c d), .int .i64 (t - LLo s v a b c d)], .int .i64 0]) (by simp [results, Try.results26, go_sem, *] <;> (repeat' apply And.intro) <;> rfl) rfl ⟨rfl, ?_⟩
        (repeat (first | exact Below.refl _ _ | refine Below.drew ?_ | refine Below.allocS ?_ _ | refine Below.step ?_ (by assumption) | refine Below.setCell ?_ (by simp <;> omega) _ | refine Below.drewN' ?_ _))
  · have e1 : hrE s v a b c d t = lagE s v a b c d := by unfold hrE; rw [if_neg h1]
    have e2 : crLo s v a b c d t = 0 := by unfold crLo; rw [e1, if_neg h1]
    have e3 : crHi s v a b c d t = 0 := by unfold crHi; rw [e1, if_neg h1]
    rw [e1, e2, e3]
    clear e1 e2 e3
    have hn : (lagE s v a b c d != 0) = true := by simpa using h1
    clear h1
    go_enter Try.func26, Try.ntmps26
    go_wp2_with fail
    refine (Lag_c _ _ _ _ _ _ _).mono ?_
    rintro e w1 ⟨rfl, hb1⟩
    have x1_0_0 : w1.cell? ⟨w.heap.size, 0, none⟩ = some (.int .i64 s) := keep_cell hb1 (by simp [go_sem, *])
    have x1_0_1 : w1.cell? ⟨w.heap.size, 1, none⟩ = some (.int .i64 v) := keep_cell hb1 (by simp [go_sem, *])
    have y1_0 : w.heap.size < w1.heap.size := cell?_lt x1_0_0
    have x1_1_0 : w1.cell? ⟨w.heap.size + 1, 0, none⟩ = some (.int .i64 a) := keep_cell hb1 (by simp [go_sem, *])
    have x1_1_1 : w1.cell? ⟨w.heap.size + 1, 1, none⟩ = some (.int .i64 b) := keep_cell hb1 (by simp [go_sem, *])
    have y1_1 : w.heap.size + 1 < w1.heap.size := cell?_lt x1_1_0
    have x1_2_0 : w1.cell? ⟨w.heap.size + 1 + 1, 0, none⟩ = some (.int .i64 c) := keep_cell hb1 (by simp [go_sem, *])
    have x1_2_1 : w1.cell? ⟨w.heap.size + 1 + 1, 1, none⟩ = some (.int .i64 d) := keep_cell hb1 (by simp [go_sem, *])
    have y1_2 : w.heap.size + 1 + 1 < w1.heap.size := cell?_lt x1_2_0
    have x1_3_0 : w1.cell? ⟨w.heap.size + 1 + 1 + 1, 0, none⟩ = some (.int .i64 0) := keep_cell hb1 (by simp [go_sem, *])
    have f1_3_0 : w1.frozen? ⟨w.heap.size + 1 + 1 + 1, 0, none⟩ = false := keep_frozen hb1 (by simp) (by simp [go_sem, *])
    have x1_3_1 : w1.cell? ⟨w.heap.size + 1 + 1 + 1, 1, none⟩ = some (.int .i64 0) := keep_cell hb1 (by simp [go_sem, *])
    have f1_3_1 : w1.frozen? ⟨w.heap.size + 1 + 1 + 1, 1, none⟩ = false := keep_frozen hb1 (by simp) (by simp [go_sem, *])
    have y1_3 : w.heap.size + 1 + 1 + 1 < w1.heap.size := cell?_lt x1_3_0
    have g1 : Below w.heap.size w w1 := by (repeat (first | exact Below.refl _ _ | refine Below.drew ?_ | refine Below.allocS ?_ _ | refine Below.step ?_ (by assumption) | refine Below.setCell ?_ (by simp <;> omega) _ | refine Below.drewN' ?_ _))
    clear hb1
    go_wp2
    all_goals
      refine bodyPost_ret (v := .tuple #[.agg #[.int .i64 0, .int .i64 0], .int .i64 (lagE s v a b c d)]) (by simp [results, Try.results26, go_sem, *] <;> (repeat' apply And.intro) <;> rfl) rfl ⟨rfl, ?_⟩
      (repeat (first | exact Below.refl _ _ | refine Below.drew ?_ | refine Below.allocS ?_ _ | refine Below.step ?_ (by assumption) | refine Below.setCell ?_ (by simp <;> omega) _ | refine Below.drewN' ?_ _))

theorem rCorrected_c (s v a b c d t : Int) (w : World) :
    Calls Try.prog 27 #[.agg #[.int .i64 s, .int .i64 v], .agg #[.int .i64 a, .int .i64 b], .agg #[.int .i64 c, .int .i64 d], .int .i64 t] w fun e w' => e = .returned (.tuple #[.agg #[.int .i64 (crLo s v a b c d t), .int .i64 (crHi s v a b c d t)], .int .i64 (hrE s v a b c d t)]) ∧ Below w.heap.size w w' := by
  by_cases h1 : lagE s v a b c d = 0
  · obtain ⟨b1, b2⟩ := LLo_bd s v a b c d
    obtain ⟨b3, b4⟩ := LHi_bd s v a b c d
    cases h2 : within t 0 86399999
    · have e1 : hrE s v a b c d t = 7 := by unfold hrE; rw [if_pos h1, h2]; rfl
      have e2 : crLo s v a b c d t = 0 := by unfold crLo; rw [e1]; rfl
      have e3 : crHi s v a b c d t = 0 := by unfold crHi; rw [e1]; rfl
      rw [e1, e2, e3]
      clear e1 e2 e3
      go_enter Try.func27, Try.ntmps27
      go_wp2_with fail
      refine (rLag_c _ _ _ _ _ _ _).mono ?_
      rintro e w1 ⟨rfl, hb1⟩
      have x1_0_0 : w1.cell? ⟨w.heap.size, 0, none⟩ = some (.int .i64 s) := keep_cell hb1 (by simp [go_sem, *])
      have x1_0_1 : w1.cell? ⟨w.heap.size, 1, none⟩ = some (.int .i64 v) := keep_cell hb1 (by simp [go_sem, *])
      have y1_0 : w.heap.size < w1.heap.size := cell?_lt x1_0_0
      have x1_1_0 : w1.cell? ⟨w.heap.size + 1, 0, none⟩ = some (.int .i64 a) := keep_cell hb1 (by simp [go_sem, *])
      have x1_1_1 : w1.cell? ⟨w.heap.size + 1, 1, none⟩ = some (.int .i64 b) := keep_cell hb1 (by simp [go_sem, *])
      have y1_1 : w.heap.size + 1 < w1.heap.size := cell?_lt x1_1_0
      have x1_2_0 : w1.cell? ⟨w.heap.size + 1 + 1, 0, none⟩ = some (.int .i64 c) := keep_cell hb1 (by simp [go_sem, *])
      have x1_2_1 : w1.cell? ⟨w.heap.size + 1 + 1, 1, none⟩ = some (.int .i64 d) := keep_cell hb1 (by simp [go_sem, *])
      have y1_2 : w.heap.size + 1 + 1 < w1.heap.size := cell?_lt x1_2_0
      have x1_3_0 : w1.cell? ⟨w.heap.size + 1 + 1 + 1, 0, none⟩ = some (.int .i64 0) := keep_cell hb1 (by simp [go_sem, *])
      have f1_3_0 : w1.frozen? ⟨w.heap.size + 1 + 1 + 1, 0, none⟩ = false := keep_frozen hb1 (by simp) (by simp [go_sem, *])
      have x1_3_1 : w1.cell? ⟨w.heap.size + 1 + 1 + 1, 1, none⟩ = some (.int .i64 0) := keep_cell hb1 (by simp [go_sem, *])
      have f1_3_1 : w1.frozen? ⟨w.heap.size + 1 + 1 + 1, 1, none⟩ = false := keep_frozen hb1 (by simp) (by simp [go_sem, *])
      have y1_3 : w.heap.size + 1 + 1 + 1 < w1.heap.size := cell?_lt x1_3_0
      have g1 : Below w.heap.size w w1 := by (repeat (first | exact Below.refl _ _ | refine Below.drew ?_ | refine Below.allocS ?_ _ | refine Below.step ?_ (by assumption) | refine Below.setCell ?_ (by simp <;> omega) _ | refine Below.drewN' ?_ _))
      clear hb1
      go_wp2_with (go_at_call 55; (with_reducible refine (rwithin_c _ _ _ _).mono ?_); rintro e w' ⟨rfl, rfl⟩)
      all_goals
        refine bodyPost_ret (v := .tuple #[.agg #[.int .i64 0, .int .i64 0], .int .i64 7]) (by simp [results, Try.results27, go_sem, *] <;> (repeat' apply And.intro) <;> rfl) rfl ⟨rfl, ?_⟩
        (repeat (first | exact Below.refl _ _ | refine Below.drew ?_ | refine Below.allocS ?_ _ | refine Below.step ?_ (by assumption) | refine Below.setCell ?_ (by simp <;> omega) _ | refine Below.drewN' ?_ _))
    · have e1 : hrE s v a b c d t = 0 := by unfold hrE; rw [if_pos h1, h2]; rfl
      have e2 : crLo s v a b c d t = t - LHi s v a b c d := by unfold crLo; rw [if_pos e1]
      have e3 : crHi s v a b c d t = t - LLo s v a b c d := by unfold crHi; rw [if_pos e1]
      rw [e1, e2, e3]
      clear e1 e2 e3
      obtain ⟨t1, t2⟩ := within_true h2
      go_enter Try.func27, Try.ntmps27
      go_wp2_with fail
      refine (rLag_c _ _ _ _ _ _ _).mono ?_
      rintro e w1 ⟨rfl, hb1⟩
      have x1_0_0 : w1.cell? ⟨w.heap.size, 0, none⟩ = some (.int .i64 s) := keep_cell hb1 (by simp [go_sem, *])
      have x1_0_1 : w1.cell? ⟨w.heap.size, 1, none⟩ = some (.int .i64 v) := keep_cell hb1 (by simp [go_sem, *])
      have y1_0 : w.heap.size < w1.heap.size := cell?_lt x1_0_0
      have x1_1_0 : w1.cell? ⟨w.heap.size + 1, 0, none⟩ = some (.int .i64 a) := keep_cell hb1 (by simp [go_sem, *])
      have x1_1_1 : w1.cell? ⟨w.heap.size + 1, 1, none⟩ = some (.int .i64 b) := keep_cell hb1 (by simp [go_sem, *])
      have y1_1 : w.heap.size + 1 < w1.heap.size := cell?_lt x1_1_0
      have x1_2_0 : w1.cell? ⟨w.heap.size + 1 + 1, 0, none⟩ = some (.int .i64 c) := keep_cell hb1 (by simp [go_sem, *])
      have x1_2_1 : w1.cell? ⟨w.heap.size + 1 + 1, 1, none⟩ = some (.int .i64 d) := keep_cell hb1 (by simp [go_sem, *])
      have y1_2 : w.heap.size + 1 + 1 < w1.heap.size := cell?_lt x1_2_0
      have x1_3_0 : w1.cell? ⟨w.heap.size + 1 + 1 + 1, 0, none⟩ = some (.int .i64 0) := keep_cell hb1 (by simp [go_sem, *])
      have f1_3_0 : w1.frozen? ⟨w.heap.size + 1 + 1 + 1, 0, none⟩ = false := keep_frozen hb1 (by simp) (by simp [go_sem, *])
      have x1_3_1 : w1.cell? ⟨w.heap.size + 1 + 1 + 1, 1, none⟩ = some (.int .i64 0) := keep_cell hb1 (by simp [go_sem, *])
      have f1_3_1 : w1.frozen? ⟨w.heap.size + 1 + 1 + 1, 1, none⟩ = false := keep_frozen hb1 (by simp) (by simp [go_sem, *])
      have y1_3 : w.heap.size + 1 + 1 + 1 < w1.heap.size := cell?_lt x1_3_0
      have g1 : Below w.heap.size w w1 := by (repeat (first | exact Below.refl _ _ | refine Below.drew ?_ | refine Below.allocS ?_ _ | refine Below.step ?_ (by assumption) | refine Below.setCell ?_ (by simp <;> omega) _ | refine Below.drewN' ?_ _))
      clear hb1
      go_wp2_with (go_at_call 55; (with_reducible refine (rwithin_c _ _ _ _).mono ?_); rintro e w' ⟨rfl, rfl⟩)
      all_goals
        refine bodyPost_ret (v := .tuple #[.agg #[.int .i64 (t - LHi s v a b c d), .int .i64 (t - LLo s v a b c d)], .int .i64 0]) (by simp [results, Try.results27, go_sem, *] <;> (repeat' apply And.intro) <;> rfl) rfl ⟨rfl, ?_⟩
        (repeat (first | exact Below.refl _ _ | refine Below.drew ?_ | refine Below.allocS ?_ _ | refine Below.step ?_ (by assumption) | refine Below.setCell ?_ (by simp <;> omega) _ | refine Below.drewN' ?_ _))
  · have e1 : hrE s v a b c d t = lagE s v a b c d := by unfold hrE; rw [if_neg h1]
    have e2 : crLo s v a b c d t = 0 := by unfold crLo; rw [e1, if_neg h1]
    have e3 : crHi s v a b c d t = 0 := by unfold crHi; rw [e1, if_neg h1]
    rw [e1, e2, e3]
    clear e1 e2 e3
    have hn : (lagE s v a b c d != 0) = true := by simpa using h1
    clear h1
    go_enter Try.func27, Try.ntmps27
    go_wp2_with fail
    refine (rLag_c _ _ _ _ _ _ _).mono ?_
    rintro e w1 ⟨rfl, hb1⟩
    have x1_0_0 : w1.cell? ⟨w.heap.size, 0, none⟩ = some (.int .i64 s) := keep_cell hb1 (by simp [go_sem, *])
    have x1_0_1 : w1.cell? ⟨w.heap.size, 1, none⟩ = some (.int .i64 v) := keep_cell hb1 (by simp [go_sem, *])
    have y1_0 : w.heap.size < w1.heap.size := cell?_lt x1_0_0
    have x1_1_0 : w1.cell? ⟨w.heap.size + 1, 0, none⟩ = some (.int .i64 a) := keep_cell hb1 (by simp [go_sem, *])
    have x1_1_1 : w1.cell? ⟨w.heap.size + 1, 1, none⟩ = some (.int .i64 b) := keep_cell hb1 (by simp [go_sem, *])
    have y1_1 : w.heap.size + 1 < w1.heap.size := cell?_lt x1_1_0
    have x1_2_0 : w1.cell? ⟨w.heap.size + 1 + 1, 0, none⟩ = some (.int .i64 c) := keep_cell hb1 (by simp [go_sem, *])
    have x1_2_1 : w1.cell? ⟨w.heap.size + 1 + 1, 1, none⟩ = some (.int .i64 d) := keep_cell hb1 (by simp [go_sem, *])
    have y1_2 : w.heap.size + 1 + 1 < w1.heap.size := cell?_lt x1_2_0
    have x1_3_0 : w1.cell? ⟨w.heap.size + 1 + 1 + 1, 0, none⟩ = some (.int .i64 0) := keep_cell hb1 (by simp [go_sem, *])
    have f1_3_0 : w1.frozen? ⟨w.heap.size + 1 + 1 + 1, 0, none⟩ = false := keep_frozen hb1 (by simp) (by simp [go_sem, *])
    have x1_3_1 : w1.cell? ⟨w.heap.size + 1 + 1 + 1, 1, none⟩ = some (.int .i64 0) := keep_cell hb1 (by simp [go_sem, *])
    have f1_3_1 : w1.frozen? ⟨w.heap.size + 1 + 1 + 1, 1, none⟩ = false := keep_frozen hb1 (by simp) (by simp [go_sem, *])
    have y1_3 : w.heap.size + 1 + 1 + 1 < w1.heap.size := cell?_lt x1_3_0
    have g1 : Below w.heap.size w w1 := by (repeat (first | exact Below.refl _ _ | refine Below.drew ?_ | refine Below.allocS ?_ _ | refine Below.step ?_ (by assumption) | refine Below.setCell ?_ (by simp <;> omega) _ | refine Below.drewN' ?_ _))
    clear hb1
    go_wp2
    all_goals
      refine bodyPost_ret (v := .tuple #[.agg #[.int .i64 0, .int .i64 0], .int .i64 (lagE s v a b c d)]) (by simp [results, Try.results27, go_sem, *] <;> (repeat' apply And.intro) <;> rfl) rfl ⟨rfl, ?_⟩
      (repeat (first | exact Below.refl _ _ | refine Below.drew ?_ | refine Below.allocS ?_ _ | refine Below.step ?_ (by assumption) | refine Below.setCell ?_ (by simp <;> omega) _ | refine Below.drewN' ?_ _))

set_option maxHeartbeats 4000000 in
set_option maxRecDepth 100000 in
theorem GunHeard_walk (a0_0 a0_1 : Int) (a1_0 a1_1 a1_2 a1_3 : Int) (a2_0 a2_1 : Int) (w0_0 : I64 a0_0) (w0_1 : I64 a0_1) (w1_0 : I64 a1_0) (w1_1 : I64 a1_1) (w1_2 : I64 a1_2) (w1_3 : I64 a1_3) (w2_0 : I64 a2_0) (w2_1 : I64 a2_1) (w : World) :
    Calls Try.prog 6 #[.agg #[.int .i64 a0_0, .int .i64 a0_1], .agg #[.int .i64 a1_0, .int .i64 a1_1, .int .i64 a1_2, .int .i64 a1_3], .agg #[.int .i64 a2_0, .int .i64 a2_1]] w fun e w' => e = .returned (.bool true) ∧ Below w.heap.size w w' := by
  have hall : (hrE a0_0 a0_1 a1_0 a1_1 a1_2 a1_3 a2_0 != 0) = true ∨ hrE a0_0 a0_1 a1_0 a1_1 a1_2 a1_3 a2_0 = 0 ∧ ((hrE a0_0 a0_1 a1_0 a1_1 a1_2 a1_3 a2_1 != 0) = true ∨ hrE a0_0 a0_1 a1_0 a1_1 a1_2 a1_3 a2_1 = 0 ∧ (a2_1 < hrLo a0_0 a0_1 a1_0 a1_1 a1_2 a1_3 a2_0 ∨ hrLo a0_0 a0_1 a1_0 a1_1 a1_2 a1_3 a2_0 ≤ a2_1 ∧ (hrHi a0_0 a0_1 a1_0 a1_1 a1_2 a1_3 a2_0 < a2_1 ∨ a2_1 ≤ hrHi a0_0 a0_1 a1_0 a1_1 a1_2 a1_3 a2_0 ∧ crLo a0_0 a0_1 a1_0 a1_1 a1_2 a1_3 a2_1 ≤ a2_0 ∧ a2_0 ≤ crHi a0_0 a0_1 a1_0 a1_1 a1_2 a1_3 a2_1))) := by
    by_cases h1 : hrE a0_0 a0_1 a1_0 a1_1 a1_2 a1_3 a2_0 = 0
    · by_cases h2 : hrE a0_0 a0_1 a1_0 a1_1 a1_2 a1_3 a2_1 = 0
      · refine Or.inr ⟨h1, Or.inr ⟨h2, ?_⟩⟩
        unfold hrLo hrHi crLo crHi
        rw [if_pos h1, if_pos h1, if_pos h2, if_pos h2]
        omega
      · exact Or.inr ⟨h1, Or.inl (by simpa using h2)⟩
    · exact Or.inl (by simpa using h1)
  rcases hall with h1 | ⟨h1, h2 | ⟨h2, h3 | ⟨h3, h4 | ⟨h4, h5, h6⟩⟩⟩⟩
  all_goals
    go_enter Try.func6, Try.ntmps6
    go_wp2_with fail
    refine (Heard_c _ _ _ _ _ _ _ _).mono ?_
    rintro e w1 ⟨rfl, hb1⟩
    have x1_0_0 : w1.cell? ⟨w.heap.size, 0, none⟩ = some (.int .i64 a0_0) := keep_cell hb1 (by simp [go_sem, *])
    have x1_0_1 : w1.cell? ⟨w.heap.size, 1, none⟩ = some (.int .i64 a0_1) := keep_cell hb1 (by simp [go_sem, *])
    have y1_0 : w.heap.size < w1.heap.size := cell?_lt x1_0_0
    have x1_1_0 : w1.cell? ⟨w.heap.size + 1, 0, none⟩ = some (.int .i64 a1_0) := keep_cell hb1 (by simp [go_sem, *])
    have x1_1_1 : w1.cell? ⟨w.heap.size + 1, 1, none⟩ = some (.int .i64 a1_1) := keep_cell hb1 (by simp [go_sem, *])
    have x1_1_2 : w1.cell? ⟨w.heap.size + 1, 2, none⟩ = some (.int .i64 a1_2) := keep_cell hb1 (by simp [go_sem, *])
    have x1_1_3 : w1.cell? ⟨w.heap.size + 1, 3, none⟩ = some (.int .i64 a1_3) := keep_cell hb1 (by simp [go_sem, *])
    have y1_1 : w.heap.size + 1 < w1.heap.size := cell?_lt x1_1_0
    have x1_2_0 : w1.cell? ⟨w.heap.size + 1 + 1, 0, none⟩ = some (.int .i64 a2_0) := keep_cell hb1 (by simp [go_sem, *])
    have x1_2_1 : w1.cell? ⟨w.heap.size + 1 + 1, 1, none⟩ = some (.int .i64 a2_1) := keep_cell hb1 (by simp [go_sem, *])
    have y1_2 : w.heap.size + 1 + 1 < w1.heap.size := cell?_lt x1_2_0
    have g1 : Below w.heap.size w w1 := by (repeat (first | exact Below.refl _ _ | refine Below.drew ?_ | refine Below.allocS ?_ _ | refine Below.step ?_ (by assumption) | refine Below.setCell ?_ (by simp <;> omega) _ | refine Below.drewN' ?_ _))
    clear hb1
    go_wp2_with fail
    refine (rHeard_c _ _ _ _ _ _ _ _).mono ?_
    rintro e w2 ⟨rfl, hb2⟩
    have x2_0_0 : w2.cell? ⟨w.heap.size, 0, none⟩ = some (.int .i64 a0_0) := keep_cell hb2 (by simp [go_sem, *])
    have x2_0_1 : w2.cell? ⟨w.heap.size, 1, none⟩ = some (.int .i64 a0_1) := keep_cell hb2 (by simp [go_sem, *])
    have y2_0 : w.heap.size < w2.heap.size := cell?_lt x2_0_0
    have x2_1_0 : w2.cell? ⟨w.heap.size + 1, 0, none⟩ = some (.int .i64 a1_0) := keep_cell hb2 (by simp [go_sem, *])
    have x2_1_1 : w2.cell? ⟨w.heap.size + 1, 1, none⟩ = some (.int .i64 a1_1) := keep_cell hb2 (by simp [go_sem, *])
    have x2_1_2 : w2.cell? ⟨w.heap.size + 1, 2, none⟩ = some (.int .i64 a1_2) := keep_cell hb2 (by simp [go_sem, *])
    have x2_1_3 : w2.cell? ⟨w.heap.size + 1, 3, none⟩ = some (.int .i64 a1_3) := keep_cell hb2 (by simp [go_sem, *])
    have y2_1 : w.heap.size + 1 < w2.heap.size := cell?_lt x2_1_0
    have x2_2_0 : w2.cell? ⟨w.heap.size + 1 + 1, 0, none⟩ = some (.int .i64 a2_0) := keep_cell hb2 (by simp [go_sem, *])
    have x2_2_1 : w2.cell? ⟨w.heap.size + 1 + 1, 1, none⟩ = some (.int .i64 a2_1) := keep_cell hb2 (by simp [go_sem, *])
    have y2_2 : w.heap.size + 1 + 1 < w2.heap.size := cell?_lt x2_2_0
    have x2_3_0 : w2.cell? ⟨w1.heap.size, 0, none⟩ = some (.int .i64 (hrLo a0_0 a0_1 a1_0 a1_1 a1_2 a1_3 a2_0)) := keep_cell hb2 (by simp [go_sem, *])
    have x2_3_1 : w2.cell? ⟨w1.heap.size, 1, none⟩ = some (.int .i64 (hrHi a0_0 a0_1 a1_0 a1_1 a1_2 a1_3 a2_0)) := keep_cell hb2 (by simp [go_sem, *])
    have y2_3 : w1.heap.size < w2.heap.size := cell?_lt x2_3_0
    have g2 : Below w.heap.size w w2 := by (repeat (first | exact Below.refl _ _ | refine Below.drew ?_ | refine Below.allocS ?_ _ | refine Below.step ?_ (by assumption) | refine Below.setCell ?_ (by simp <;> omega) _ | refine Below.drewN' ?_ _))
    clear hb2 g1 x1_0_0 x1_0_1 x1_1_0 x1_1_1 x1_1_2 x1_1_3 x1_2_0 x1_2_1 y1_0 y1_1 y1_2
    go_wp2_with fail
    refine (Corrected_c _ _ _ _ _ _ _ _).mono ?_
    rintro e w3 ⟨rfl, hb3⟩
    have x3_0_0 : w3.cell? ⟨w.heap.size, 0, none⟩ = some (.int .i64 a0_0) := keep_cell hb3 (by simp [go_sem, *])
    have x3_0_1 : w3.cell? ⟨w.heap.size, 1, none⟩ = some (.int .i64 a0_1) := keep_cell hb3 (by simp [go_sem, *])
    have y3_0 : w.heap.size < w3.heap.size := cell?_lt x3_0_0
    have x3_1_0 : w3.cell? ⟨w.heap.size + 1, 0, none⟩ = some (.int .i64 a1_0) := keep_cell hb3 (by simp [go_sem, *])
    have x3_1_1 : w3.cell? ⟨w.heap.size + 1, 1, none⟩ = some (.int .i64 a1_1) := keep_cell hb3 (by simp [go_sem, *])
    have x3_1_2 : w3.cell? ⟨w.heap.size + 1, 2, none⟩ = some (.int .i64 a1_2) := keep_cell hb3 (by simp [go_sem, *])
    have x3_1_3 : w3.cell? ⟨w.heap.size + 1, 3, none⟩ = some (.int .i64 a1_3) := keep_cell hb3 (by simp [go_sem, *])
    have y3_1 : w.heap.size + 1 < w3.heap.size := cell?_lt x3_1_0
    have x3_2_0 : w3.cell? ⟨w.heap.size + 1 + 1, 0, none⟩ = some (.int .i64 a2_0) := keep_cell hb3 (by simp [go_sem, *])
    have x3_2_1 : w3.cell? ⟨w.heap.size + 1 + 1, 1, none⟩ = some (.int .i64 a2_1) := keep_cell hb3 (by simp [go_sem, *])
    have y3_2 : w.heap.size + 1 + 1 < w3.heap.size := cell?_lt x3_2_0
    have x3_3_0 : w3.cell? ⟨w1.heap.size, 0, none⟩ = some (.int .i64 (hrLo a0_0 a0_1 a1_0 a1_1 a1_2 a1_3 a2_0)) := keep_cell hb3 (by simp [go_sem, *])
    have x3_3_1 : w3.cell? ⟨w1.heap.size, 1, none⟩ = some (.int .i64 (hrHi a0_0 a0_1 a1_0 a1_1 a1_2 a1_3 a2_0)) := keep_cell hb3 (by simp [go_sem, *])
    have y3_3 : w1.heap.size < w3.heap.size := cell?_lt x3_3_0
    have x3_4_0 : w3.cell? ⟨w2.heap.size, 0, none⟩ = some (.int .i64 (hrLo a0_0 a0_1 a1_0 a1_1 a1_2 a1_3 a2_0)) := keep_cell hb3 (by simp [go_sem, *])
    have x3_4_1 : w3.cell? ⟨w2.heap.size, 1, none⟩ = some (.int .i64 (hrHi a0_0 a0_1 a1_0 a1_1 a1_2 a1_3 a2_0)) := keep_cell hb3 (by simp [go_sem, *])
    have y3_4 : w2.heap.size < w3.heap.size := cell?_lt x3_4_0
    have g3 : Below w.heap.size w w3 := by (repeat (first | exact Below.refl _ _ | refine Below.drew ?_ | refine Below.allocS ?_ _ | refine Below.step ?_ (by assumption) | refine Below.setCell ?_ (by simp <;> omega) _ | refine Below.drewN' ?_ _))
    clear hb3 g2 x2_0_0 x2_0_1 x2_1_0 x2_1_1 x2_1_2 x2_1_3 x2_2_0 x2_2_1 x2_3_0 x2_3_1 y2_0 y2_1 y2_2 y2_3
    go_wp2_with fail
    refine (rCorrected_c _ _ _ _ _ _ _ _).mono ?_
    rintro e w4 ⟨rfl, hb4⟩
    have x4_0_0 : w4.cell? ⟨w.heap.size, 0, none⟩ = some (.int .i64 a0_0) := keep_cell hb4 (by simp [go_sem, *])
    have x4_0_1 : w4.cell? ⟨w.heap.size, 1, none⟩ = some (.int .i64 a0_1) := keep_cell hb4 (by simp [go_sem, *])
    have y4_0 : w.heap.size < w4.heap.size := cell?_lt x4_0_0
    have x4_1_0 : w4.cell? ⟨w.heap.size + 1, 0, none⟩ = some (.int .i64 a1_0) := keep_cell hb4 (by simp [go_sem, *])
    have x4_1_1 : w4.cell? ⟨w.heap.size + 1, 1, none⟩ = some (.int .i64 a1_1) := keep_cell hb4 (by simp [go_sem, *])
    have x4_1_2 : w4.cell? ⟨w.heap.size + 1, 2, none⟩ = some (.int .i64 a1_2) := keep_cell hb4 (by simp [go_sem, *])
    have x4_1_3 : w4.cell? ⟨w.heap.size + 1, 3, none⟩ = some (.int .i64 a1_3) := keep_cell hb4 (by simp [go_sem, *])
    have y4_1 : w.heap.size + 1 < w4.heap.size := cell?_lt x4_1_0
    have x4_2_0 : w4.cell? ⟨w.heap.size + 1 + 1, 0, none⟩ = some (.int .i64 a2_0) := keep_cell hb4 (by simp [go_sem, *])
    have x4_2_1 : w4.cell? ⟨w.heap.size + 1 + 1, 1, none⟩ = some (.int .i64 a2_1) := keep_cell hb4 (by simp [go_sem, *])
    have y4_2 : w.heap.size + 1 + 1 < w4.heap.size := cell?_lt x4_2_0
    have x4_3_0 : w4.cell? ⟨w1.heap.size, 0, none⟩ = some (.int .i64 (hrLo a0_0 a0_1 a1_0 a1_1 a1_2 a1_3 a2_0)) := keep_cell hb4 (by simp [go_sem, *])
    have x4_3_1 : w4.cell? ⟨w1.heap.size, 1, none⟩ = some (.int .i64 (hrHi a0_0 a0_1 a1_0 a1_1 a1_2 a1_3 a2_0)) := keep_cell hb4 (by simp [go_sem, *])
    have y4_3 : w1.heap.size < w4.heap.size := cell?_lt x4_3_0
    have x4_4_0 : w4.cell? ⟨w2.heap.size, 0, none⟩ = some (.int .i64 (hrLo a0_0 a0_1 a1_0 a1_1 a1_2 a1_3 a2_0)) := keep_cell hb4 (by simp [go_sem, *])
    have x4_4_1 : w4.cell? ⟨w2.heap.size, 1, none⟩ = some (.int .i64 (hrHi a0_0 a0_1 a1_0 a1_1 a1_2 a1_3 a2_0)) := keep_cell hb4 (by simp [go_sem, *])
    have y4_4 : w2.heap.size < w4.heap.size := cell?_lt x4_4_0
    have x4_5_0 : w4.cell? ⟨w3.heap.size, 0, none⟩ = some (.int .i64 (crLo a0_0 a0_1 a1_0 a1_1 a1_2 a1_3 a2_1)) := keep_cell hb4 (by simp [go_sem, *])
    have x4_5_1 : w4.cell? ⟨w3.heap.size, 1, none⟩ = some (.int .i64 (crHi a0_0 a0_1 a1_0 a1_1 a1_2 a1_3 a2_1)) := keep_cell hb4 (by simp [go_sem, *])
    have y4_5 : w3.heap.size < w4.heap.size := cell?_lt x4_5_0
    have g4 : Below w.heap.size w w4 := by (repeat (first | exact Below.refl _ _ | refine Below.drew ?_ | refine Below.allocS ?_ _ | refine Below.step ?_ (by assumption) | refine Below.setCell ?_ (by simp <;> omega) _ | refine Below.drewN' ?_ _))
    clear hb4 g3 x3_0_0 x3_0_1 x3_1_0 x3_1_1 x3_1_2 x3_1_3 x3_2_0 x3_2_1 x3_3_0 x3_3_1 x3_4_0 x3_4_1 y3_0 y3_1 y3_2 y3_3 y3_4
    go_wp2_with fail
    refine (awake_c _).mono ?_
    rintro e w5 ⟨rfl, hb5⟩
    have x5_0_0 : w5.cell? ⟨w.heap.size, 0, none⟩ = some (.int .i64 a0_0) := keep_cell hb5 (by simp [go_sem, *])
    have x5_0_1 : w5.cell? ⟨w.heap.size, 1, none⟩ = some (.int .i64 a0_1) := keep_cell hb5 (by simp [go_sem, *])
    have y5_0 : w.heap.size < w5.heap.size := cell?_lt x5_0_0
    have x5_1_0 : w5.cell? ⟨w.heap.size + 1, 0, none⟩ = some (.int .i64 a1_0) := keep_cell hb5 (by simp [go_sem, *])
    have x5_1_1 : w5.cell? ⟨w.heap.size + 1, 1, none⟩ = some (.int .i64 a1_1) := keep_cell hb5 (by simp [go_sem, *])
    have x5_1_2 : w5.cell? ⟨w.heap.size + 1, 2, none⟩ = some (.int .i64 a1_2) := keep_cell hb5 (by simp [go_sem, *])
    have x5_1_3 : w5.cell? ⟨w.heap.size + 1, 3, none⟩ = some (.int .i64 a1_3) := keep_cell hb5 (by simp [go_sem, *])
    have y5_1 : w.heap.size + 1 < w5.heap.size := cell?_lt x5_1_0
    have x5_2_0 : w5.cell? ⟨w.heap.size + 1 + 1, 0, none⟩ = some (.int .i64 a2_0) := keep_cell hb5 (by simp [go_sem, *])
    have x5_2_1 : w5.cell? ⟨w.heap.size + 1 + 1, 1, none⟩ = some (.int .i64 a2_1) := keep_cell hb5 (by simp [go_sem, *])
    have y5_2 : w.heap.size + 1 + 1 < w5.heap.size := cell?_lt x5_2_0
    have x5_3_0 : w5.cell? ⟨w1.heap.size, 0, none⟩ = some (.int .i64 (hrLo a0_0 a0_1 a1_0 a1_1 a1_2 a1_3 a2_0)) := keep_cell hb5 (by simp [go_sem, *])
    have x5_3_1 : w5.cell? ⟨w1.heap.size, 1, none⟩ = some (.int .i64 (hrHi a0_0 a0_1 a1_0 a1_1 a1_2 a1_3 a2_0)) := keep_cell hb5 (by simp [go_sem, *])
    have y5_3 : w1.heap.size < w5.heap.size := cell?_lt x5_3_0
    have x5_4_0 : w5.cell? ⟨w2.heap.size, 0, none⟩ = some (.int .i64 (hrLo a0_0 a0_1 a1_0 a1_1 a1_2 a1_3 a2_0)) := keep_cell hb5 (by simp [go_sem, *])
    have x5_4_1 : w5.cell? ⟨w2.heap.size, 1, none⟩ = some (.int .i64 (hrHi a0_0 a0_1 a1_0 a1_1 a1_2 a1_3 a2_0)) := keep_cell hb5 (by simp [go_sem, *])
    have y5_4 : w2.heap.size < w5.heap.size := cell?_lt x5_4_0
    have x5_5_0 : w5.cell? ⟨w3.heap.size, 0, none⟩ = some (.int .i64 (crLo a0_0 a0_1 a1_0 a1_1 a1_2 a1_3 a2_1)) := keep_cell hb5 (by simp [go_sem, *])
    have x5_5_1 : w5.cell? ⟨w3.heap.size, 1, none⟩ = some (.int .i64 (crHi a0_0 a0_1 a1_0 a1_1 a1_2 a1_3 a2_1)) := keep_cell hb5 (by simp [go_sem, *])
    have y5_5 : w3.heap.size < w5.heap.size := cell?_lt x5_5_0
    have x5_6_0 : w5.cell? ⟨w4.heap.size, 0, none⟩ = some (.int .i64 (crLo a0_0 a0_1 a1_0 a1_1 a1_2 a1_3 a2_1)) := keep_cell hb5 (by simp [go_sem, *])
    have x5_6_1 : w5.cell? ⟨w4.heap.size, 1, none⟩ = some (.int .i64 (crHi a0_0 a0_1 a1_0 a1_1 a1_2 a1_3 a2_1)) := keep_cell hb5 (by simp [go_sem, *])
    have y5_6 : w4.heap.size < w5.heap.size := cell?_lt x5_6_0
    have g5 : Below w.heap.size w w5 := by (repeat (first | exact Below.refl _ _ | refine Below.drew ?_ | refine Below.allocS ?_ _ | refine Below.step ?_ (by assumption) | refine Below.setCell ?_ (by simp <;> omega) _ | refine Below.drewN' ?_ _))
    clear hb5 g4 x4_0_0 x4_0_1 x4_1_0 x4_1_1 x4_1_2 x4_1_3 x4_2_0 x4_2_1 x4_3_0 x4_3_1 x4_4_0 x4_4_1 x4_5_0 x4_5_1 y4_0 y4_1 y4_2 y4_3 y4_4 y4_5
    go_wp2
    go_ret
    exact ⟨rfl, by (repeat (first | exact Below.refl _ _ | refine Below.drew ?_ | refine Below.allocS ?_ _ | refine Below.step ?_ (by assumption) | refine Below.setCell ?_ (by simp <;> omega) _ | refine Below.drewN' ?_ _))⟩
end Go.Proofs.Ytgiplkfdallmkaa
