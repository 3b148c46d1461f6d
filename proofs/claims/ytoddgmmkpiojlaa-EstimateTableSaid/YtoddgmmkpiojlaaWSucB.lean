
/-
  Contracts of 'succgen.fact' and of the question of 'succgen.build'.
-/
import Derived.Test.YtoddgmmkpiojlaaWSucC
import Derived.Test.YtoddgmmkpiojlaaWEst3
set_option linter.unusedSimpArgs false
set_option linter.unusedVariables false
namespace Go.Proofs.Ytoddgmmkpiojlaa
open Go.Sl Go
attribute [local irreducible] vc opsW opsD opV opW PureV ReadV Thn Blk
/-- A generator's task is read. -/
def GenT (w : World) (p : Addr) (t : TTask) : Prop := ∃ a b c d r vs, BoxR w p [a, b, c, d, r] ∧ RTask w a b c d vs t
theorem GenT.at {w0 w : World} {Γ : List HP} {p : Addr} {t : TTask} (h : GenT w0 p t) (hw : Sat w0 w Γ) : GenT w p t := by
  obtain ⟨a, b, c, d, r, vs, h1, h2⟩ := h
  exact ⟨a, b, c, d, r, vs, h1.at hw, h2.at hw⟩
end Go.Proofs.Ytoddgmmkpiojlaa
