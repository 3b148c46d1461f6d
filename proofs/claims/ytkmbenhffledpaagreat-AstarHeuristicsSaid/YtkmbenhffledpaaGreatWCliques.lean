/-
  Contract of 'graph.Cliques'.
-/
import Derived.Test.YtkmbenhffledpaaGreatWCheckG
import Derived.Test.YtkmbenhffledpaaGreatWFind
import Derived.Test.YtkmbenhffledpaaGreatWSortC
import Derived.Test.YtkmbenhffledpaaGreatMTA
set_option linter.unusedSimpArgs false
set_option linter.unusedVariables false
namespace Go.Proofs.YtkmbenhffledpaaGreat
open Go.Sl Go
attribute [local irreducible] vc opsW opsD opV opW PureV ReadV Thn Blk
end Go.Proofs.YtkmbenhffledpaaGreat
