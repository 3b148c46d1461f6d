
/-
  The iterator of 'slices.Backward' over ints: its contract for whatever loop's body.
-/
import Derived.Test.YtegndanecnicaaaGreatMW2
import Derived.Test.YtegndanecnicaaaGreatMSlB
set_option linter.unusedSimpArgs false
set_option linter.unusedVariables false
namespace Go.Proofs.YtegndanecnicaaaGreat
open Go.Sl Go
attribute [local irreducible] vc opsW opsD opV opW PureV ReadV Thn Blk

end Go.Proofs.YtegndanecnicaaaGreat
