
/-
  A small task's projections are within the limits.
-/
import Derived.Test.YtgbijampdkahjaaWAffects
set_option linter.unusedSimpArgs false
set_option linter.unusedVariables false
namespace Go.Proofs.Ytgbijampdkahjaa
open Go.Sl Go

end Go.Proofs.Ytgbijampdkahjaa
