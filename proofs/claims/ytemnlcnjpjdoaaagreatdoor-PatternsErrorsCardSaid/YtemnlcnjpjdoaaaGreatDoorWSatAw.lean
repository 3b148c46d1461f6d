
/-
  The example of layer 43, 'awake' and 'picked'.
-/
import Derived.Test.YtemnlcnjpjdoaaaGreatDoorWSatVal
import Derived.Test.YtemnlcnjpjdoaaaGreatDoorTCalc
import Derived.Test.YtemnlcnjpjdoaaaGreatDoorMW6
import Derived.Test.YtemnlcnjpjdoaaaGreatDoorMSlB
set_option linter.unusedSimpArgs false
set_option linter.unusedVariables false
namespace Go.Proofs.YtemnlcnjpjdoaaaGreatDoor
open Go.Sl Go
attribute [local irreducible] vc opsW opsD opV opW PureV ReadV Thn Blk
end Go.Proofs.YtemnlcnjpjdoaaaGreatDoor
