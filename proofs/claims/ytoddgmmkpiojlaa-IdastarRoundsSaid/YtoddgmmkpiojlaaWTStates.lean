
/-
  Contracts of the helpers 'States' and 'Edges'.
-/
import Derived.Test.YtoddgmmkpiojlaaWTState
set_option linter.unusedSimpArgs false
set_option linter.unusedVariables false
namespace Go.Proofs.Ytoddgmmkpiojlaa
open Go.Sl
attribute [local irreducible] vc opsW opsD opV opW PureV ReadV Thn Blk

end Go.Proofs.Ytoddgmmkpiojlaa
