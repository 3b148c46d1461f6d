/-
  Contracts of 'task.States', 'task.counted', 'task.Rank'.
-/
import Derived.Test.YtggdgcmjcahbbaaGreatDoorMW2
import Derived.Test.YtggdgcmjcahbbaaGreatDoorMW3
set_option linter.unusedSimpArgs false
set_option linter.unusedVariables false
namespace Go.Proofs.YtggdgcmjcahbbaaGreatDoor
open Go.Sl Go
attribute [local irreducible] vc opsW opsD opV opW PureV ReadV Thn Blk
end Go.Proofs.YtggdgcmjcahbbaaGreatDoor
