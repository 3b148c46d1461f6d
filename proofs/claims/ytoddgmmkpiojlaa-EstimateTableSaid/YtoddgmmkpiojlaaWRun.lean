
/-
  Contract of 'idastar.run': all rounds.
-/
import Derived.Test.YtoddgmmkpiojlaaWVis
import Derived.Test.YtoddgmmkpiojlaaMSlB
import Derived.Test.YtoddgmmkpiojlaaMTA
set_option linter.unusedSimpArgs false
set_option linter.unusedVariables false
namespace Go.Proofs.Ytoddgmmkpiojlaa
open Go.Sl Go
attribute [local irreducible] vc opsW opsD opV opW PureV ReadV Thn Blk
end Go.Proofs.Ytoddgmmkpiojlaa
