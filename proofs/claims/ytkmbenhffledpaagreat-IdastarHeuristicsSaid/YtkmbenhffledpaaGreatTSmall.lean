
/-
  A small task's projections are within the limits.
-/
import Derived.Test.YtkmbenhffledpaaGreatWAffects
set_option linter.unusedSimpArgs false
set_option linter.unusedVariables false
namespace Go.Proofs.YtkmbenhffledpaaGreat
open Go.Sl Go

end Go.Proofs.YtkmbenhffledpaaGreat
