
/-
  The kit's contracts of 'slices.Sort' and 'slices.Compact' over ints, at this program.
-/
import Derived.Test.YtoddgmmkpiojlaaMW1
import Derived.Test.YtoddgmmkpiojlaaMSlB
import Derived.Shelf.Sort.Plain
import Derived.Shelf.Slices.In.SortNone
import Derived.Shelf.Slices.CompactI
set_option linter.unusedSimpArgs false
set_option linter.unusedVariables false
namespace Go.Proofs.Ytoddgmmkpiojlaa
open Go.Sl Go Go.Shelf

end Go.Proofs.Ytoddgmmkpiojlaa
