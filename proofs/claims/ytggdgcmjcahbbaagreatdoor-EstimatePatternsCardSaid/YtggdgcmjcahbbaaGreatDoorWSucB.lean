/-
  Contracts of 'succgen.fact' and of the question of 'succgen.build'.
-/
import Derived.Test.YtggdgcmjcahbbaaGreatDoorWSucC
import Derived.Test.YtggdgcmjcahbbaaGreatDoorWEst3
set_option linter.unusedSimpArgs false
set_option linter.unusedVariables false
namespace Go.Proofs.YtggdgcmjcahbbaaGreatDoor
open Go.Sl Go
attribute [local irreducible] vc opsW opsD opV opW PureV ReadV Thn Blk
end Go.Proofs.YtggdgcmjcahbbaaGreatDoor
