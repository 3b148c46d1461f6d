/-
  Several texts as one: WPut, WProj, WProj2, WTgt.
-/
import Derived.Test.YtegndanecnicaaaGreatMW7
import Derived.Test.YtegndanecnicaaaGreatMTA
import Derived.Test.YtegndanecnicaaaGreatMW3
import Derived.Test.YtegndanecnicaaaGreatMW2
set_option linter.unusedSimpArgs false
set_option linter.unusedVariables false

/-
  Contract of 'project.put': a range over 'slices.Backward'.
-/
namespace Go.Proofs.YtegndanecnicaaaGreat
open Go.Sl Go
attribute [local irreducible] vc opsW opsD opV opW PureV ReadV Thn Blk

end Go.Proofs.YtegndanecnicaaaGreat

/-
  Contracts of 'project.check', 'count', 'number', 'has', 'outside'.
-/
namespace Go.Proofs.YtegndanecnicaaaGreat
open Go.Sl Go
attribute [local irreducible] vc opsW opsD opV opW PureV ReadV Thn Blk

instance (vars p : List Int) : Decidable (PatOk vars p) := by unfold PatOk; infer_instance
end Go.Proofs.YtegndanecnicaaaGreat

/-
  Contracts of 'project.has' and 'outside'.
-/
namespace Go.Proofs.YtegndanecnicaaaGreat
open Go.Sl Go
attribute [local irreducible] vc opsW opsD opV opW PureV ReadV Thn Blk

end Go.Proofs.YtegndanecnicaaaGreat

/-
  Contract of 'project.targets'.
-/
namespace Go.Proofs.YtegndanecnicaaaGreat
open Go.Sl Go
attribute [local irreducible] vc opsW opsD opV opW PureV ReadV Thn Blk

end Go.Proofs.YtegndanecnicaaaGreat
