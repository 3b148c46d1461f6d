
/-
  Walks of a task project to walks of its projections.
-/
import Derived.Test.YtkmbenhffledpaaGreatMW6
set_option linter.unusedSimpArgs false
set_option linter.unusedVariables false
namespace Go.Proofs.YtkmbenhffledpaaGreat
open Go.Sl Go

end Go.Proofs.YtkmbenhffledpaaGreat
