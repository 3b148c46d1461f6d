
/-
  The beginning of each statement of layer 50; 'fits' and 'below'.
-/
import Derived.Test.YtegndanecnicaaaGreatWI50
import Derived.Test.YtegndanecnicaaaGreatWIBase
import Derived.Test.YtegndanecnicaaaGreatMSlB
set_option linter.unusedSimpArgs false
set_option linter.unusedVariables false
namespace Go.Proofs.YtegndanecnicaaaGreat
open Go.Sl Go
attribute [local irreducible] vc opsW opsD opV opW PureV ReadV Thn Blk
end Go.Proofs.YtegndanecnicaaaGreat
