/-
  Several texts as one: WBack, WPut, WProj, WProj2.
-/
import Derived.Test.YtkmbenhffledpaaGreatMW1
import Derived.Test.YtkmbenhffledpaaGreatMSlB
import Derived.Test.YtkmbenhffledpaaGreatMTA
import Derived.Test.YtkmbenhffledpaaGreatMW2
set_option linter.unusedSimpArgs false
set_option linter.unusedVariables false

/-
  The iterator of 'slices.Backward' over ints: its contract for whatever loop's body.
-/
namespace Go.Proofs.YtkmbenhffledpaaGreat
open Go.Sl Go
attribute [local irreducible] vc opsW opsD opV opW PureV ReadV Thn Blk

end Go.Proofs.YtkmbenhffledpaaGreat

/-
  Contract of 'project.put': a range over 'slices.Backward'.
-/
namespace Go.Proofs.YtkmbenhffledpaaGreat
open Go.Sl Go
attribute [local irreducible] vc opsW opsD opV opW PureV ReadV Thn Blk

end Go.Proofs.YtkmbenhffledpaaGreat

/-
  Contracts of 'project.check', 'count', 'number', 'has', 'outside'.
-/
namespace Go.Proofs.YtkmbenhffledpaaGreat
open Go.Sl Go
attribute [local irreducible] vc opsW opsD opV opW PureV ReadV Thn Blk

instance (vars p : List Int) : Decidable (PatOk vars p) := by unfold PatOk; infer_instance
end Go.Proofs.YtkmbenhffledpaaGreat

/-
  Contracts of 'project.has' and 'outside'.
-/
namespace Go.Proofs.YtkmbenhffledpaaGreat
open Go.Sl Go
attribute [local irreducible] vc opsW opsD opV opW PureV ReadV Thn Blk

end Go.Proofs.YtkmbenhffledpaaGreat
