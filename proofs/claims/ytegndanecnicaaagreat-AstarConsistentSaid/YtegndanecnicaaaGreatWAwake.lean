
/-
  The example with which each statement begins: 'example' and 'awake'.
-/
import Derived.Test.YtegndanecnicaaaGreatWProject
import Derived.Test.YtegndanecnicaaaGreatMSlB
set_option linter.unusedSimpArgs false
set_option linter.unusedVariables false
namespace Go.Proofs.YtegndanecnicaaaGreat
open Go.Sl Go
attribute [local irreducible] vc opsW opsD opV opW PureV ReadV Thn Blk

/-! ### The systems of the example -/
instance (vars s : List Int) : Decidable (StateOk vars s) := by unfold StateOk; infer_instance
instance (vars : List Int) (x : Fact) : Decidable (FactOk vars x) := by unfold FactOk; infer_instance
instance (vars : List Int) (f : List Fact) : Decidable (FactsOk vars f) := by unfold FactsOk; infer_instance
end Go.Proofs.YtegndanecnicaaaGreat
