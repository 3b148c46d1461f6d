
/-
  Contracts of the reference's 'Index', 'Goals', 'Project', 'Same' and of 'project.Index'.
-/
import Derived.Test.YtemnlcnjpjdoaaaGreatDoorMW7
import Derived.Test.YtemnlcnjpjdoaaaGreatDoorMTA
import Derived.Test.YtemnlcnjpjdoaaaGreatDoorMW2
set_option linter.unusedSimpArgs false
set_option linter.unusedVariables false
namespace Go.Proofs.YtemnlcnjpjdoaaaGreatDoor
open Go.Sl Go
attribute [local irreducible] vc opsW opsD opV opW PureV ReadV Thn Blk

end Go.Proofs.YtemnlcnjpjdoaaaGreatDoor
