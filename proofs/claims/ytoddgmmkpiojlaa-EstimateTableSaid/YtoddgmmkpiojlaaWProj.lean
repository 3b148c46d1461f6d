
/-
  Contracts of 'project.check', 'count', 'number', 'has', 'outside'.
-/
import Derived.Test.YtoddgmmkpiojlaaWTCheck3
import Derived.Test.YtoddgmmkpiojlaaMW2
import Derived.Test.YtoddgmmkpiojlaaWPut
import Derived.Test.YtoddgmmkpiojlaaMTA
set_option linter.unusedSimpArgs false
set_option linter.unusedVariables false
namespace Go.Proofs.Ytoddgmmkpiojlaa
open Go.Sl Go
attribute [local irreducible] vc opsW opsD opV opW PureV ReadV Thn Blk

instance (vars p : List Int) : Decidable (PatOk vars p) := by unfold PatOk; infer_instance
end Go.Proofs.Ytoddgmmkpiojlaa
