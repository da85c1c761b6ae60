/-
  Meeting spans, and the places that suit shots, of gun and of its reference.
-/
import Derived.Test.YtimbdnngeoccdaaDoorS1
namespace Go.Proofs.YtimbdnngeoccdaaDoor
open Go.RowKit
set_option linter.unusedVariables false

/-- Spans from a to b and from c to d have a number in common. -/
def meetB (a b c d : Int) : Bool := decide (a ≤ d) && decide (c ≤ b)
theorem lag_le {s v a b c d : Int} (ha : validAir s v = true) (hp : place a b = true) (hq : place c d = true) : lagLo s v (dd a b c d) ≤ lagHi s v (dd a b c d) := by
  obtain ⟨⟨p1, p2⟩, p3, p4⟩ := validAir_true ha
  obtain ⟨q0, q1⟩ := dd_bd hp hq
  have h1 : dLo (dd a b c d) ≤ dHi (dd a b c d) := by unfold dLo dHi; split <;> omega
  have h2 := dLo_bd q0 q1
  unfold lagLo lagHi ovLo ovHi
  refine Int.le_trans (ediv_anti (a := dLo (dd a b c d) * 1000) (c := s - v) (by omega) (by omega) (by omega)) (Int.ediv_le_ediv (by omega) (by omega))
/-- Whether a place suits a shot. -/
def suit1 (s v x y : Int) (t : Shot) : Bool := meetB (lagLo s v (dd t.gx t.gy x y)) (lagHi s v (dd t.gx t.gy x y)) t.lo t.hi

/-- Whether a place suits shots. -/
def suitAll (s v x y : Int) (l : List Shot) : Bool := l.all (suit1 s v x y)
end Go.Proofs.YtimbdnngeoccdaaDoor
