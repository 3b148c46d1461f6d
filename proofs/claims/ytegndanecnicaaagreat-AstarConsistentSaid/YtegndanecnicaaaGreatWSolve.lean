
/-
  Contracts of 'task.apply', 'task.Run', 'task.Solves' for a plan that is one.
-/
import Derived.Test.YtegndanecnicaaaGreatWIAw
import Derived.Test.YtegndanecnicaaaGreatMTA
import Derived.Test.YtegndanecnicaaaGreatMSlB
set_option linter.unusedSimpArgs false
set_option linter.unusedVariables false
namespace Go.Proofs.YtegndanecnicaaaGreat
open Go.Sl Go
attribute [local irreducible] vc opsW opsD opV opW PureV ReadV Thn Blk
end Go.Proofs.YtegndanecnicaaaGreat
