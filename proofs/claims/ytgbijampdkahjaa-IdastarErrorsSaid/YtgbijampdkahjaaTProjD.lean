
/-
  Walks of a task project to walks of its projections.
-/
import Derived.Test.YtgbijampdkahjaaWDist
set_option linter.unusedSimpArgs false
set_option linter.unusedVariables false
namespace Go.Proofs.Ytgbijampdkahjaa
open Go.Sl Go

end Go.Proofs.Ytgbijampdkahjaa
