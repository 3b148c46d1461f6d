/-
  The kit's contract of 'slices.SortFunc' over lists of numbers, and the contract of 'slices.Compare'.
-/
import Derived.Test.YtkmbenhffledpaaGreatTypes
import Derived.Test.YtkmbenhffledpaaGreatMTA
import Derived.Test.YtkmbenhffledpaaGreatMSlB
import Derived.Shelf.SlSortCmp.Whole1
set_option linter.unusedSimpArgs false
set_option linter.unusedVariables false
namespace Go.Proofs.YtkmbenhffledpaaGreat
open Go.Sl Go Go.Shelf
attribute [local irreducible] vc opsW opsD opV opW PureV ReadV Thn Blk
end Go.Proofs.YtkmbenhffledpaaGreat
