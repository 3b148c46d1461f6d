
/-
  Contract of 'project.Project'.
-/
import Derived.Test.YtegndanecnicaaaGreatMW8
import Derived.Test.YtegndanecnicaaaGreatMTA
import Derived.Test.YtegndanecnicaaaGreatMSlB
set_option linter.unusedSimpArgs false
set_option linter.unusedVariables false
namespace Go.Proofs.YtegndanecnicaaaGreat
open Go.Sl Go
attribute [local irreducible] vc opsW opsD opV opW PureV ReadV Thn Blk

theorem sat_none {w0 w : World} {Γ : List HP} (hw : Sat w0 w Γ) : Sat w0 w [] := ⟨hw.below, trivial⟩
end Go.Proofs.YtegndanecnicaaaGreat
