/-
  Several texts as one: WAwake, WChosen, WAffects, TSmall.
-/
import Derived.Test.YtjdlohdcdmhigaaGreatDoorMW7
import Derived.Test.YtjdlohdcdmhigaaGreatDoorMSlB
set_option linter.unusedSimpArgs false
set_option linter.unusedVariables false
/-
  The example with which each statement begins: 'example' and 'awake'.
-/
namespace Go.Proofs.YtjdlohdcdmhigaaGreatDoor
open Go.Sl Go
attribute [local irreducible] vc opsW opsD opV opW PureV ReadV Thn Blk
instance (vars s:List Int):Decidable (StateOk vars s):=by unfold StateOk;infer_instance
instance (vars:List Int) (x:Fact):Decidable (FactOk vars x):=by unfold FactOk;infer_instance
instance (vars:List Int) (f:List Fact):Decidable (FactsOk vars f):=by unfold FactsOk;infer_instance
end Go.Proofs.YtjdlohdcdmhigaaGreatDoor
/-
  Contracts of the laws' helpers 'chosen', 'few' and of the reference's 'Many', 'Index'; of 'project.Index'.
-/
namespace Go.Proofs.YtjdlohdcdmhigaaGreatDoor
open Go.Sl Go
attribute [local irreducible] vc opsW opsD opV opW PureV ReadV Thn Blk
end Go.Proofs.YtjdlohdcdmhigaaGreatDoor
/-
  Contract of 'project.Affects'.
-/
namespace Go.Proofs.YtjdlohdcdmhigaaGreatDoor
open Go.Sl Go
attribute [local irreducible] vc opsW opsD opV opW PureV ReadV Thn Blk
def AffOf (t:TTask) (L:List Int) (i:Nat):Prop:=∃ e∈(t.ops.getD i dOp).effs,e.var∈L
instance (t:TTask) (L:List Int) (i:Nat):Decidable (AffOf t L i):=by unfold AffOf;infer_instance
end Go.Proofs.YtjdlohdcdmhigaaGreatDoor
/-
  A small task's projections are within the limits.
-/
namespace Go.Proofs.YtjdlohdcdmhigaaGreatDoor
open Go.Sl Go
end Go.Proofs.YtjdlohdcdmhigaaGreatDoor
