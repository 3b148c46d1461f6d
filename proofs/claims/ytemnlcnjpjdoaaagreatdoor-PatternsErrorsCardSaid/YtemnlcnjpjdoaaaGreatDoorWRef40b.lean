
/-
  Contracts of the reference's 'Project' and 'Same'.
-/
import Derived.Test.YtemnlcnjpjdoaaaGreatDoorWRef40
import Derived.Test.YtemnlcnjpjdoaaaGreatDoorMW7
set_option linter.unusedSimpArgs false
set_option linter.unusedVariables false
namespace Go.Proofs.YtemnlcnjpjdoaaaGreatDoor
open Go.Sl Go
attribute [local irreducible] vc opsW opsD opV opW PureV ReadV Thn Blk


end Go.Proofs.YtemnlcnjpjdoaaaGreatDoor
