
/-
  A small task's projections are within the limits.
-/
import Derived.Test.YtegndanecnicaaaGreatWAffects
set_option linter.unusedSimpArgs false
set_option linter.unusedVariables false
namespace Go.Proofs.YtegndanecnicaaaGreat
open Go.Sl Go

end Go.Proofs.YtegndanecnicaaaGreat
