/-
  Contract of 'idastar.visit': a visit, as the plain recursion.
-/
import Derived.Test.YtggdgcmjcahbbaaGreatDoorWSucG
import Derived.Test.YtggdgcmjcahbbaaGreatDoorWEst3
import Derived.Test.YtggdgcmjcahbbaaGreatDoorMTA
set_option linter.unusedSimpArgs false
set_option linter.unusedVariables false
namespace Go.Proofs.YtggdgcmjcahbbaaGreatDoor
open Go.Sl Go
attribute [local irreducible] vc opsW opsD opV opW PureV ReadV Thn Blk
end Go.Proofs.YtggdgcmjcahbbaaGreatDoor
