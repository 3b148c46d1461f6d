/-
  IDA* with a table of values, in plain Lean: plans and least costs, admissible tables, the bounds of the rounds.
-/
import Derived.Test.YtggdgcmjcahbbaaGreatDoorMTA
import Derived.Test.YtggdgcmjcahbbaaGreatDoorMW8
set_option linter.unusedSimpArgs false
set_option linter.unusedVariables false
namespace Go.Proofs.YtggdgcmjcahbbaaGreatDoor
open Go.Sl
section
variable {t:TTask}
variable {H:List Int→Int}{lim:Nat}
end
end Go.Proofs.YtggdgcmjcahbbaaGreatDoor
