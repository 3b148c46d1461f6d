
/-
  A small task's projections are within the limits.
-/
import Derived.Test.YtoddgmmkpiojlaaWAffects
set_option linter.unusedSimpArgs false
set_option linter.unusedVariables false
namespace Go.Proofs.Ytoddgmmkpiojlaa
open Go.Sl Go

end Go.Proofs.Ytoddgmmkpiojlaa
