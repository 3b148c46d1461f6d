
/-
  The statement 'IdastarBounds' returns true.
-/
import Derived.Test.YtoddgmmkpiojlaaWIAw
import Derived.Test.YtoddgmmkpiojlaaMTA
set_option linter.unusedSimpArgs false
set_option linter.unusedVariables false
namespace Go.Proofs.Ytoddgmmkpiojlaa
open Go.Sl Go
attribute [local irreducible] vc opsW opsD opV opW PureV ReadV Thn Blk
theorem is_ten {w : World} : Calls Try.prog 21 #[errV 10, .int .i64 10] w fun e w' => e = .returned (.bool true) ∧ Sat w w' [] := by
  have h := Is_spec (w0 := w) 10 10
  refine Calls.mono h fun e w' hh => ⟨?_, hh.2⟩
  rw [hh.1]
  simp
end Go.Proofs.Ytoddgmmkpiojlaa
