/-
  Contract of 'patterns.Cliques'.
-/
import Derived.Test.YtkmbenhffledpaaGreatWPat1
import Derived.Test.YtkmbenhffledpaaGreatTPat
import Derived.Test.YtkmbenhffledpaaGreatWCliques
set_option linter.unusedSimpArgs false
set_option linter.unusedVariables false
namespace Go.Proofs.YtkmbenhffledpaaGreat
open Go.Sl Go
attribute [local irreducible] vc opsW opsD opV opW PureV ReadV Thn Blk
end Go.Proofs.YtkmbenhffledpaaGreat
