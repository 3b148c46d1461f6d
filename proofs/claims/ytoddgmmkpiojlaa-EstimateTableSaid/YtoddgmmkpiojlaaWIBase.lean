
/-
  Contracts of the verifier's 'Best', 'Cost', 'Result'.
-/
import Derived.Test.YtoddgmmkpiojlaaWRun
import Derived.Test.YtoddgmmkpiojlaaWDist
import Derived.Test.YtoddgmmkpiojlaaTIda4
set_option linter.unusedSimpArgs false
set_option linter.unusedVariables false
namespace Go.Proofs.Ytoddgmmkpiojlaa
open Go.Sl Go
attribute [local irreducible] vc opsW opsD opV opW PureV ReadV Thn Blk
end Go.Proofs.Ytoddgmmkpiojlaa
