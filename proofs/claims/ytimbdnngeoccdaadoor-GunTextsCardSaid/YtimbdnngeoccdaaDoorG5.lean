/-
  Contracts of Lag and of Distance, of gun and of its reference.
-/
import Derived.Test.YtimbdnngeoccdaaDoorG4
namespace Go.Proofs.YtimbdnngeoccdaaDoor
open Go.RowKit

theorem lagE_ok {s v a b c d : Int} (h : lagE s v a b c d = 0) : validAir s v = true ∧ place a b = true ∧ place c d = true := by
  unfold lagE at h
  cases h1 : validAir s v <;> cases h2 : place a b <;> cases h3 : place c d <;> simp_all

theorem Lag_no (s v a b c d : Int) (he : lagE s v a b c d ≠ 0) (w : World) :
    Calls Tryd.prog 34 #[.agg #[.int .i64 s, .int .i64 v], .agg #[.int .i64 a, .int .i64 b], .agg #[.int .i64 c, .int .i64 d]] w fun e w' => e = .returned (.tuple #[.agg #[.int .i64 0, .int .i64 0], .int .i64 (lagE s v a b c d)]) ∧ Below w.heap.size w w' := by
  have hn : (lagE s v a b c d == 0) = false := by simpa using he
  have hn' : (lagE s v a b c d != 0) = true := by simpa using he
  clear he
  go_enter Tryd.func34, Tryd.ntmps34
  go_wp2_with (go_at_call 59; refine (asked_two s v a b c d _ _ (by simp) (by simp [go_sem]) (by simp [go_sem]) (by simp [go_sem]) (by simp [go_sem])).mono ?_; rintro e w1 ⟨rfl, hb⟩; obtain ⟨hc, hf⟩ := bcell hb; have hz := hb.size; (try simp at hz); (try have hz0 : w.heap.size < w1.heap.size := by omega); (try have hz1 : w.heap.size + 1 < w1.heap.size := by omega); (try have hz2 : w.heap.size + 1 + 1 < w1.heap.size := by omega); (try have hz3 : w.heap.size + 1 + 1 + 1 < w1.heap.size := by omega); (try have hz4 : w.heap.size + 1 + 1 + 1 + 1 < w1.heap.size := by omega); (try have hz5 : w.heap.size + 1 + 1 + 1 + 1 + 1 < w1.heap.size := by omega))
  refine bodyPost_ret (v := .tuple #[.agg #[.int .i64 0, .int .i64 0], .int .i64 (lagE s v a b c d)]) (by simp [results, Tryd.results34, go_sem, *] <;> (repeat' apply And.intro) <;> rfl) rfl ⟨rfl, ?_⟩
  (repeat (first | exact Below.refl _ _ | refine Below.drew ?_ | refine Below.allocS ?_ _ | refine Below.step ?_ (by assumption) | refine Below.setCell ?_ (by simp <;> omega) _ | refine Below.drewN' ?_ _))
theorem Lag_ok (s v a b c d : Int) (he : lagE s v a b c d = 0) (w : World) :
    Calls Tryd.prog 34 #[.agg #[.int .i64 s, .int .i64 v], .agg #[.int .i64 a, .int .i64 b], .agg #[.int .i64 c, .int .i64 d]] w fun e w' => e = .returned (.tuple #[.agg #[.int .i64 (lagLo s v (dd a b c d)), .int .i64 (lagHi s v (dd a b c d))], .int .i64 0]) ∧ Below w.heap.size w w' := by
  obtain ⟨h1, h2, h3⟩ := lagE_ok he
  go_enter Tryd.func34, Tryd.ntmps34
  go_wp2_with (first | (go_at_call 59; refine (asked_two s v a b c d _ _ (by simp) (by simp [go_sem]) (by simp [go_sem]) (by simp [go_sem]) (by simp [go_sem])).mono ?_; rintro e w1 ⟨rfl, hb⟩; obtain ⟨hc, hf⟩ := bcell hb; have hz := hb.size; (try simp at hz); (try have hz0 : w.heap.size < w1.heap.size := by omega); (try have hz1 : w.heap.size + 1 < w1.heap.size := by omega); (try have hz2 : w.heap.size + 1 + 1 < w1.heap.size := by omega); (try have hz3 : w.heap.size + 1 + 1 + 1 < w1.heap.size := by omega); (try have hz4 : w.heap.size + 1 + 1 + 1 + 1 < w1.heap.size := by omega); (try have hz5 : w.heap.size + 1 + 1 + 1 + 1 + 1 < w1.heap.size := by omega)) | (go_at_call 60; (with_reducible refine (lag_c s v a b c d h1 h2 h3 _).mono ?_); rintro e w1 ⟨rfl, hb⟩; obtain ⟨hc, hf⟩ := bcell hb; have hz := hb.size; (try simp at hz); (try have hz0 : w.heap.size < w1.heap.size := by omega); (try have hz1 : w.heap.size + 1 < w1.heap.size := by omega); (try have hz2 : w.heap.size + 1 + 1 < w1.heap.size := by omega); (try have hz3 : w.heap.size + 1 + 1 + 1 < w1.heap.size := by omega); (try have hz4 : w.heap.size + 1 + 1 + 1 + 1 < w1.heap.size := by omega); (try have hz5 : w.heap.size + 1 + 1 + 1 + 1 + 1 < w1.heap.size := by omega)))
  refine bodyPost_ret (v := .tuple #[.agg #[.int .i64 (lagLo s v (dd a b c d)), .int .i64 (lagHi s v (dd a b c d))], .int .i64 0]) (by simp [results, Tryd.results34, go_sem, *] <;> (repeat' apply And.intro) <;> rfl) rfl ⟨rfl, ?_⟩
  (repeat (first | exact Below.refl _ _ | refine Below.drew ?_ | refine Below.allocS ?_ _ | refine Below.step ?_ (by assumption) | refine Below.setCell ?_ (by simp <;> omega) _ | refine Below.drewN' ?_ _))

/-- What Lag answers. -/
def LLo (s v a b c d : Int) : Int := if lagE s v a b c d = 0 then lagLo s v (dd a b c d) else 0
def LHi (s v a b c d : Int) : Int := if lagE s v a b c d = 0 then lagHi s v (dd a b c d) else 0
theorem Lag_c (s v a b c d : Int) (w : World) :
    Calls Tryd.prog 34 #[.agg #[.int .i64 s, .int .i64 v], .agg #[.int .i64 a, .int .i64 b], .agg #[.int .i64 c, .int .i64 d]] w fun e w' => e = .returned (.tuple #[.agg #[.int .i64 (LLo s v a b c d), .int .i64 (LHi s v a b c d)], .int .i64 (lagE s v a b c d)]) ∧ Below w.heap.size w w' := by
  unfold LLo LHi
  by_cases he : lagE s v a b c d = 0
  · rw [if_pos he, if_pos he]
    have := Lag_ok s v a b c d he w
    rwa [← he] at this
  · rw [if_neg he, if_neg he]
    exact Lag_no s v a b c d he w

end Go.Proofs.YtimbdnngeoccdaaDoor
