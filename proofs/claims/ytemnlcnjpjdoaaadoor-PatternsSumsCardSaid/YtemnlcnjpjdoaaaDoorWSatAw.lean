
/-
  The example of layer 43, 'awake' and 'picked'.
-/
import Derived.Test.YtemnlcnjpjdoaaaDoorWSatVal
import Derived.Test.YtemnlcnjpjdoaaaDoorTCalc
import Derived.Test.YtemnlcnjpjdoaaaDoorMW7
import Derived.Test.YtemnlcnjpjdoaaaDoorMSlB
set_option linter.unusedSimpArgs false
set_option linter.unusedVariables false
namespace Go.Proofs.YtemnlcnjpjdoaaaDoor
open Go.Sl Go
attribute [local irreducible] vc opsW opsD opV opW PureV ReadV Thn Blk
end Go.Proofs.YtemnlcnjpjdoaaaDoor
