/-
  long of the statements about ball, and numbers of a slice's length.
-/
import Derived.Test.YtcdohibphhbllaaB12
namespace Go.Proofs.Ytcdohibphhbllaa
open Go.RowKit
set_option linter.unusedVariables false
theorem long_c (A : Option Addr) (n cap : Nat) (hn : n ≤ 9223372036854775807) (w : World) :
    Calls Try.prog 13 #[.slice A n cap] w fun e w' => e = .returned (.bool (decide (300 < (n : Int)))) ∧ w = w' := by
  go_enter Try.func13, Try.ntmps13
  go_wp2
  go_ret
  exact ⟨rfl, rfl⟩
end Go.Proofs.Ytcdohibphhbllaa
