/-
  Contract of the check of a graph.
-/
import Derived.Test.YtkmbenhffledpaaGreatMW1
import Derived.Test.YtkmbenhffledpaaGreatMTA
set_option linter.unusedSimpArgs false
set_option linter.unusedVariables false
namespace Go.Proofs.YtkmbenhffledpaaGreat
open Go.Sl Go
attribute [local irreducible] vc opsW opsD opV opW PureV ReadV Thn Blk
end Go.Proofs.YtkmbenhffledpaaGreat
