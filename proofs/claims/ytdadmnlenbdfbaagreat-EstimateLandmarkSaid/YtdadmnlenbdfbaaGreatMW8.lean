/-
  Several texts as one: WAffects, TSmall, TLaw5, TNarrow.
-/
import Derived.Test.YtdadmnlenbdfbaaGreatMW7
set_option linter.unusedSimpArgs false
set_option linter.unusedVariables false
/-
  Contract of 'project.Affects'.
-/
namespace Go.Proofs.YtdadmnlenbdfbaaGreat
open Go.Sl Go
attribute [local irreducible] vc opsW opsD opV opW PureV ReadV Thn Blk
def AffOf (t:TTask) (L:List Int) (i:Nat):Prop:=∃ e∈(t.ops.getD i dOp).effs,e.var∈L
instance (t:TTask) (L:List Int) (i:Nat):Decidable (AffOf t L i):=by unfold AffOf;infer_instance
end Go.Proofs.YtdadmnlenbdfbaaGreat
/-
  A small task's projections are within the limits.
-/
namespace Go.Proofs.YtdadmnlenbdfbaaGreat
open Go.Sl Go
end Go.Proofs.YtdadmnlenbdfbaaGreat
/-
  Plain facts for the statement 'ProjectAffects', and two steps for reads that are looked at again under a guard.
-/
namespace Go.Proofs.YtdadmnlenbdfbaaGreat
open Go.Sl Go
end Go.Proofs.YtdadmnlenbdfbaaGreat
/-
  Projections of projections, in plain Lean.
-/
namespace Go.Proofs.YtdadmnlenbdfbaaGreat
open Go.Sl Go
section
variable {t:TTask}{p q:List Int}
end
theorem getD_set_ne {l:List Int}{i j:Nat}{v:Int}(h:i≠j):(l.set i v).getD j tInt.dflt=l.getD j tInt.dflt:=by
 simp only [List.getD_eq_getElem?_getD]
 rw [List.getElem?_set_ne h]
end Go.Proofs.YtdadmnlenbdfbaaGreat
