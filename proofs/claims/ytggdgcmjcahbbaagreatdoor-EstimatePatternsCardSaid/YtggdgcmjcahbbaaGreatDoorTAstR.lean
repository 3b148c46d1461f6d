/-
  What A*'s run returns, in plain Lean: plans along links, their costs, when the limit is reached.
-/
import Derived.Test.YtggdgcmjcahbbaaGreatDoorMTA
import Derived.Test.YtggdgcmjcahbbaaGreatDoorTIda3
set_option linter.unusedSimpArgs false
set_option linter.unusedVariables false
namespace Go.Proofs.YtggdgcmjcahbbaaGreatDoor
open Go.Sl
section
variable {A:APar}
end
end Go.Proofs.YtggdgcmjcahbbaaGreatDoor
