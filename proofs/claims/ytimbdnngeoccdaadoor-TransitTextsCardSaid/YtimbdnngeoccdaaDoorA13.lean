/-
  Crossing of the reference.
-/
import Derived.Test.YtimbdnngeoccdaaDoorA12
namespace Go.Proofs.YtimbdnngeoccdaaDoor
open Go.RowKit
set_option linter.unusedVariables false
set_option linter.unusedSimpArgs false
end Go.Proofs.YtimbdnngeoccdaaDoor
