/-
  Contracts of 'succgen.New', 'collect', 'find', 'Applicable', 'Successors'.
-/
import Derived.Test.YtggdgcmjcahbbaaGreatDoorWSucN
set_option linter.unusedSimpArgs false
set_option linter.unusedVariables false
namespace Go.Proofs.YtggdgcmjcahbbaaGreatDoor
open Go.Sl Go
attribute [local irreducible] vc opsW opsD opV opW PureV ReadV Thn Blk
end Go.Proofs.YtggdgcmjcahbbaaGreatDoor
