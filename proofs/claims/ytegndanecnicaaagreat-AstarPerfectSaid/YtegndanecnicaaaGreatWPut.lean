
/-
  Contract of 'project.put': a range over 'slices.Backward'.
-/
import Derived.Test.YtegndanecnicaaaGreatMW7
import Derived.Test.YtegndanecnicaaaGreatMTA
set_option linter.unusedSimpArgs false
set_option linter.unusedVariables false
namespace Go.Proofs.YtegndanecnicaaaGreat
open Go.Sl Go
attribute [local irreducible] vc opsW opsD opV opW PureV ReadV Thn Blk

end Go.Proofs.YtegndanecnicaaaGreat
