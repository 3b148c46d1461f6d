/-
  The sorted list of rows.
-/
import Derived.Test.YtkmbenhffledpaaGreatWSortF
set_option linter.unusedSimpArgs false
set_option linter.unusedVariables false
namespace Go.Proofs.YtkmbenhffledpaaGreat
open Go.Sl Go Go.Shelf Go.Sort
attribute [local irreducible] vc opsW opsD opV opW PureV ReadV Thn Blk
end Go.Proofs.YtkmbenhffledpaaGreat
