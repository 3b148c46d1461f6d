
/-
  A system's three lists are read.
-/
import Derived.Test.YtegndanecnicaaaGreatWProject
set_option linter.unusedSimpArgs false
set_option linter.unusedVariables false
namespace Go.Proofs.YtegndanecnicaaaGreat
open Go.Sl Go
/-- A system's three lists are read. -/
structure RSys (w : World) (cv ev gv : Value) (S : SysV) : Prop where
  costs : RS tInt w cv S.costs
  edges : RS tEdg w ev S.edges
  goals : RS tBool w gv S.goals
theorem RSys.at {w0 w : World} {Γ : List HP} {cv ev gv : Value} {S : SysV} (h : RSys w0 cv ev gv S) (hw : Sat w0 w Γ) : RSys w cv ev gv S := ⟨h.costs.at hw, h.edges.at hw, h.goals.at hw⟩
end Go.Proofs.YtegndanecnicaaaGreat
