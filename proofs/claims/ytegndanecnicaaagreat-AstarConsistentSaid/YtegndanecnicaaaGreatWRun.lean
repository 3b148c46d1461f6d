
/-
  Contract of 'idastar.run': all rounds.
-/
import Derived.Test.YtegndanecnicaaaGreatWVis
import Derived.Test.YtegndanecnicaaaGreatMSlB
import Derived.Test.YtegndanecnicaaaGreatMTA
set_option linter.unusedSimpArgs false
set_option linter.unusedVariables false
namespace Go.Proofs.YtegndanecnicaaaGreat
open Go.Sl Go
attribute [local irreducible] vc opsW opsD opV opW PureV ReadV Thn Blk
end Go.Proofs.YtegndanecnicaaaGreat
