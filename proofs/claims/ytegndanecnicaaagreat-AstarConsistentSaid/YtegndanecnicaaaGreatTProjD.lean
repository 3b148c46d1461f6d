
/-
  Walks of a task project to walks of its projections.
-/
import Derived.Test.YtegndanecnicaaaGreatWDist
set_option linter.unusedSimpArgs false
set_option linter.unusedVariables false
namespace Go.Proofs.YtegndanecnicaaaGreat
open Go.Sl Go

end Go.Proofs.YtegndanecnicaaaGreat
