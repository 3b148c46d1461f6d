
/-
  Contract of 'project.Affects'.
-/
import Derived.Test.YtnoiagnmbipppaaWChosen
set_option linter.unusedSimpArgs false
set_option linter.unusedVariables false
namespace Go.Proofs.Ytnoiagnmbipppaa
open Go.Sl Go
attribute [local irreducible] vc opsW opsD opV opW PureV ReadV Thn Blk

def AffOf (t : TTask) (L : List Int) (i : Nat) : Prop := ∃ e ∈ (t.ops.getD i dOp).effs, e.var ∈ L
instance (t : TTask) (L : List Int) (i : Nat) : Decidable (AffOf t L i) := by unfold AffOf; infer_instance
def affK (t : TTask) (L : List Int) (k : Nat) : List Int := ((List.range k).filter fun i => decide (AffOf t L i)).map fun (i : Nat) => (i : Int)
theorem affK_succ (t : TTask) (L : List Int) (k : Nat) : affK t L (k + 1) = if AffOf t L k then affK t L k ++ [(k : Int)] else affK t L k := by
  unfold affK
  rw [List.range_succ, List.filter_append]
  split
  · rename_i h; simp [h]
  · rename_i h; simp [h]
theorem affK_len (t : TTask) (L : List Int) (k : Nat) : (affK t L k).length ≤ k := by
  have := List.length_filter_le (fun i => decide (AffOf t L i)) (List.range k)
  simp only [affK, List.length_map, List.length_range] at *
  omega

end Go.Proofs.Ytnoiagnmbipppaa
