
/-
  Walks of a task project to walks of its projections.
-/
import Derived.Test.YtoddgmmkpiojlaaWDist
set_option linter.unusedSimpArgs false
set_option linter.unusedVariables false
namespace Go.Proofs.Ytoddgmmkpiojlaa
open Go.Sl Go

end Go.Proofs.Ytoddgmmkpiojlaa
