/-
  Several texts as one: WDist, TProjD, WAwake, WChosen.
-/
import Derived.Test.YtdadmnlenbdfbaaGreatMTA
import Derived.Test.YtdadmnlenbdfbaaGreatMW2
import Derived.Test.YtdadmnlenbdfbaaGreatMW6
import Derived.Test.YtdadmnlenbdfbaaGreatMSlB
set_option linter.unusedSimpArgs false
set_option linter.unusedVariables false
/-
  Contracts of 'Distances' of the base and of the reference of layer 40.
-/
namespace Go.Proofs.YtdadmnlenbdfbaaGreat
open Go.Sl Go
attribute [local irreducible] vc opsW opsD opV opW PureV ReadV Thn Blk
end Go.Proofs.YtdadmnlenbdfbaaGreat
/-
  Walks of a task project to walks of its projections.
-/
namespace Go.Proofs.YtdadmnlenbdfbaaGreat
open Go.Sl Go
end Go.Proofs.YtdadmnlenbdfbaaGreat
/-
  The example with which each statement begins: 'example' and 'awake'.
-/
namespace Go.Proofs.YtdadmnlenbdfbaaGreat
open Go.Sl Go
attribute [local irreducible] vc opsW opsD opV opW PureV ReadV Thn Blk
instance (vars s:List Int):Decidable (StateOk vars s):=by unfold StateOk;infer_instance
instance (vars:List Int) (x:Fact):Decidable (FactOk vars x):=by unfold FactOk;infer_instance
instance (vars:List Int) (f:List Fact):Decidable (FactsOk vars f):=by unfold FactsOk;infer_instance
end Go.Proofs.YtdadmnlenbdfbaaGreat
/-
  Contracts of the laws' helpers 'chosen', 'few' and of the reference's 'Many', 'Index'; of 'project.Index'.
-/
namespace Go.Proofs.YtdadmnlenbdfbaaGreat
open Go.Sl Go
attribute [local irreducible] vc opsW opsD opV opW PureV ReadV Thn Blk
end Go.Proofs.YtdadmnlenbdfbaaGreat
