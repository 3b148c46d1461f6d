
/-
  Contracts of 'project.check', 'count', 'number', 'has', 'outside'.
-/
import Derived.Test.YtegndanecnicaaaGreatMW3
import Derived.Test.YtegndanecnicaaaGreatMW2
import Derived.Test.YtegndanecnicaaaGreatWPut
import Derived.Test.YtegndanecnicaaaGreatMTA
set_option linter.unusedSimpArgs false
set_option linter.unusedVariables false
namespace Go.Proofs.YtegndanecnicaaaGreat
open Go.Sl Go
attribute [local irreducible] vc opsW opsD opV opW PureV ReadV Thn Blk

instance (vars p : List Int) : Decidable (PatOk vars p) := by unfold PatOk; infer_instance
end Go.Proofs.YtegndanecnicaaaGreat
