/-
  sound, allowed, then, Next of the reference of ball, and Next of ball.
-/
import Derived.Test.YtimbdnngeoccdaaGreatDoorB2
namespace Go.Proofs.YtimbdnngeoccdaaGreatDoor
open Go.RowKit
set_option linter.unusedVariables false

theorem sound_c (e : Ev) (w : World) :
    Calls Tryz.prog 54 #[evV e] w fun r w' => r = .returned (.int .i64 (soundE e)) ∧ Below w.heap.size w w' := by
  unfold evV
  have hall : (soundE e = 7 ∧ (within e.at' 0 86399999 = false ∨ within e.at' 0 86399999 = true ∧ (within e.kind 1 6 = false ∨ within e.kind 1 6 = true ∧ ((e.kind == 1) = true ∧ within e.n 0 1000 = false ∨ (e.kind == 1) = false ∧ (e.n == 0) = false)))) ∨ (soundE e = 0 ∧ within e.at' 0 86399999 = true ∧ within e.kind 1 6 = true ∧ ((e.kind == 1) = true ∧ within e.n 0 1000 = true ∨ (e.kind == 1) = false ∧ (e.n == 0) = true)) := by
    unfold soundE fineB
    by_cases h5 : e.n = 0
    · have h6 : within e.n 0 1000 = true := by rw [h5]; rfl
      rw [h6]
      cases within e.at' 0 86399999 <;> cases within e.kind 1 6 <;> by_cases h4 : e.kind = 1 <;> simp [h4, h5]
    · cases within e.at' 0 86399999 <;> cases within e.kind 1 6 <;> cases within e.n 0 1000 <;> by_cases h4 : e.kind = 1 <;> simp [h4, h5]
  rcases hall with ⟨h, h1 | ⟨h1, h2 | ⟨h2, ⟨h3, h4⟩ | ⟨h3, h4⟩⟩⟩⟩ | ⟨h, h1, h2, ⟨h3, h4⟩ | ⟨h3, h4⟩⟩
  all_goals
    rw [h]
    clear h
    have hn := Lib.hid h1
    (try have hA := Lib.hid h2)
    have h3' : True := trivial
    (try have h5 : (e.kind != 1) = false := by simpa using h3)
    (try have h5 : (e.kind != 1) = true := by simpa using h3)
    (try have h6 : (e.n != 0) = false := by simpa using h4)
    (try have h6 : (e.n != 0) = true := by simpa using h4)
    (try generalize e.kind = k at *)
    go_enter Tryz.func54, Tryz.ntmps54
    go_wp2_with (first | (go_at_call 88; (with_reducible refine (rwithin_c _ _ _ _).mono ?_); rintro e w' ⟨rfl, rfl⟩))
    go_ret
    exact ⟨rfl, by (repeat (first | exact Below.refl _ _ | refine Below.drew ?_ | refine Below.allocS ?_ _ | refine Below.step ?_ (by assumption) | refine Below.setCell ?_ (by simp <;> omega) _ | refine Below.drewN' ?_ _))⟩

/-- What Next answers. -/
def goE (x : Ms) (s : Bl) (e : Ev) : Int := if okMast x && okBall s then nextE x s e else 1
def goS (x : Ms) (s : Bl) (e : Ev) : Bl := if okMast x && okBall s then nextS x s e else bl0
theorem go_bad {x : Ms} {s : Bl} {e : Ev} (h : (okMast x && okBall s) = false) : goE x s e = 1 ∧ goS x s e = bl0 := by
  unfold goE goS; rw [h]; exact ⟨rfl, rfl⟩
theorem go_good {x : Ms} {s : Bl} {e : Ev} (h : okMast x = true) (k : okBall s = true) : goE x s e = nextE x s e ∧ goS x s e = nextS x s e := by
  unfold goE goS; rw [h, k]; exact ⟨rfl, rfl⟩

end Go.Proofs.YtimbdnngeoccdaaGreatDoor
