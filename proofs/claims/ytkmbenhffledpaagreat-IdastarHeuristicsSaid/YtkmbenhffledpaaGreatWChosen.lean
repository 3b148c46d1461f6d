
/-
  Contracts of the laws' helpers 'chosen', 'few' and of the reference's 'Many', 'Index'; of 'project.Index'.
-/
import Derived.Test.YtkmbenhffledpaaGreatWAwake
set_option linter.unusedSimpArgs false
set_option linter.unusedVariables false
namespace Go.Proofs.YtkmbenhffledpaaGreat
open Go.Sl Go
attribute [local irreducible] vc opsW opsD opV opW PureV ReadV Thn Blk

theorem upTo_succ (k : Nat) : upTo ((k + 1 : Nat) : Int) = upTo (k : Int) ++ [(k : Int)] := by simp [upTo, List.range_succ]
end Go.Proofs.YtkmbenhffledpaaGreat
