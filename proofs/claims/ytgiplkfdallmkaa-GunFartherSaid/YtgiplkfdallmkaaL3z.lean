/-
  The walk of the law GunFarther.
-/
import Derived.Test.YtgiplkfdallmkaaL3a
import Derived.Test.YtgiplkfdallmkaaL3b
import Derived.Test.YtgiplkfdallmkaaL3c
import Derived.Test.YtgiplkfdallmkaaL3d
import Derived.Deep.DeepCutAuto
import Derived.Outline
import Derived.Deep.QuietTactic
import Derived.BigQuiet
namespace Go.Proofs.Ytgiplkfdallmkaa
open Go.RowKit
set_option linter.unusedVariables false

theorem far_main (s v s' v' a b c d x y : Int) (h : lagE s v a b c d = 0) (h' : lagE s v a b x y = 0) (w : World) :
    Calls Try.prog 3 #[.agg #[.int .i64 s, .int .i64 v], .agg #[.int .i64 s', .int .i64 v'], .agg #[.int .i64 a, .int .i64 b, .int .i64 c, .int .i64 d], .agg #[.int .i64 x, .int .i64 y]] w fun e w' => e = .returned (.bool true) ∧ Below w.heap.size w w' := by
  by_cases hg : lagE s' v' a b c d = 0
  · rcases far_three h hg with k1 | ⟨k1, k2⟩ | ⟨k1, k2, k3, k4⟩
    · exact far_B1 s v s' v' a b c d x y h h' hg k1 w
    · exact far_B2 s v s' v' a b c d x y h h' hg k1 k2 w
    · exact far_B3 s v s' v' a b c d x y h h' hg k1 k2 k3 k4 w
  · exact far_A s v s' v' a b c d x y h h' (by simpa using hg) w

theorem GunFarther_walk (a0_0 a0_1 : Int) (a1_0 a1_1 : Int) (a2_0 a2_1 a2_2 a2_3 : Int) (a3_0 a3_1 : Int) (w0_0 : I64 a0_0) (w0_1 : I64 a0_1) (w1_0 : I64 a1_0) (w1_1 : I64 a1_1) (w2_0 : I64 a2_0) (w2_1 : I64 a2_1) (w2_2 : I64 a2_2) (w2_3 : I64 a2_3) (w3_0 : I64 a3_0) (w3_1 : I64 a3_1) (w : World) :
    Calls Try.prog 3 #[.agg #[.int .i64 a0_0, .int .i64 a0_1], .agg #[.int .i64 a1_0, .int .i64 a1_1], .agg #[.int .i64 a2_0, .int .i64 a2_1, .int .i64 a2_2, .int .i64 a2_3], .agg #[.int .i64 a3_0, .int .i64 a3_1]] w fun e w' => e = .returned (.bool true) ∧ Below w.heap.size w w' := by
  by_cases h : lagE a0_0 a0_1 a2_0 a2_1 a2_2 a2_3 = 0
  · by_cases h' : lagE a0_0 a0_1 a2_0 a2_1 a3_0 a3_1 = 0
    · exact far_main _ _ _ _ _ _ _ _ _ _ h h' w
    · exact far_awake _ _ _ _ _ _ _ _ _ _ (Or.inr ⟨h, h'⟩) w
  · exact far_awake _ _ _ _ _ _ _ _ _ _ (Or.inl h) w
end Go.Proofs.Ytgiplkfdallmkaa
