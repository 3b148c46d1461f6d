/-
  Contracts of the verifier's 'Best', 'Cost', 'Result'.
-/
import Derived.Test.YtggdgcmjcahbbaaGreatDoorWRun
import Derived.Test.YtggdgcmjcahbbaaGreatDoorMW5
import Derived.Test.YtggdgcmjcahbbaaGreatDoorTIda4
set_option linter.unusedSimpArgs false
set_option linter.unusedVariables false
namespace Go.Proofs.YtggdgcmjcahbbaaGreatDoor
open Go.Sl Go
attribute [local irreducible] vc opsW opsD opV opW PureV ReadV Thn Blk
end Go.Proofs.YtggdgcmjcahbbaaGreatDoor
