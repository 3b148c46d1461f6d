/-
  The tables that the statements of layer 50 use.
-/
import Derived.Test.YtggdgcmjcahbbaaGreatDoorTIda3
set_option linter.unusedSimpArgs false
set_option linter.unusedVariables false
namespace Go.Proofs.YtggdgcmjcahbbaaGreatDoor
open Go.Sl
section
variable {t:TTask}{D less:List Int}
end
end Go.Proofs.YtggdgcmjcahbbaaGreatDoor
