
/-
  Contract of 'project.Affects'.
-/
import Derived.Test.YtkmbenhffledpaaGreatWChosen
set_option linter.unusedSimpArgs false
set_option linter.unusedVariables false
namespace Go.Proofs.YtkmbenhffledpaaGreat
open Go.Sl Go
attribute [local irreducible] vc opsW opsD opV opW PureV ReadV Thn Blk

def AffOf (t : TTask) (L : List Int) (i : Nat) : Prop := ∃ e ∈ (t.ops.getD i dOp).effs, e.var ∈ L
instance (t : TTask) (L : List Int) (i : Nat) : Decidable (AffOf t L i) := by unfold AffOf; infer_instance
end Go.Proofs.YtkmbenhffledpaaGreat
