
/-
  The example with which each statement begins: 'example' and 'awake'.
-/
import Derived.Test.YtkmbenhffledpaaGreatMW6
import Derived.Test.YtkmbenhffledpaaGreatMSlB
set_option linter.unusedSimpArgs false
set_option linter.unusedVariables false
namespace Go.Proofs.YtkmbenhffledpaaGreat
open Go.Sl Go
attribute [local irreducible] vc opsW opsD opV opW PureV ReadV Thn Blk

instance inWAwake1 : EqIntsT Tryz.prog 208 3 := ⟨by kernel_rfl⟩
/-! ### The systems of the example -/
instance (vars s : List Int) : Decidable (StateOk vars s) := by unfold StateOk; infer_instance
instance (vars : List Int) (x : Fact) : Decidable (FactOk vars x) := by unfold FactOk; infer_instance
instance (vars : List Int) (f : List Fact) : Decidable (FactsOk vars f) := by unfold FactsOk; infer_instance
end Go.Proofs.YtkmbenhffledpaaGreat
