/-
  Several texts as one: WTgt, WProject, WSys, WDist.
-/
import Derived.Test.YtegndanecnicaaaGreatMW5
import Derived.Test.YtegndanecnicaaaGreatMTA
import Derived.Test.YtegndanecnicaaaGreatMSlB
import Derived.Test.YtegndanecnicaaaGreatMW4
set_option linter.unusedSimpArgs false
set_option linter.unusedVariables false

/-
  Contract of 'project.targets'.
-/
namespace Go.Proofs.YtegndanecnicaaaGreat
open Go.Sl Go
attribute [local irreducible] vc opsW opsD opV opW PureV ReadV Thn Blk

end Go.Proofs.YtegndanecnicaaaGreat

/-
  Contract of 'project.Project'.
-/
namespace Go.Proofs.YtegndanecnicaaaGreat
open Go.Sl Go
attribute [local irreducible] vc opsW opsD opV opW PureV ReadV Thn Blk

theorem sat_none {w0 w : World} {Γ : List HP} (hw : Sat w0 w Γ) : Sat w0 w [] := ⟨hw.below, trivial⟩
end Go.Proofs.YtegndanecnicaaaGreat

/-
  A system's three lists are read.
-/
namespace Go.Proofs.YtegndanecnicaaaGreat
open Go.Sl Go
/-- A system's three lists are read. -/
structure RSys (w : World) (cv ev gv : Value) (S : SysV) : Prop where
  costs : RS tInt w cv S.costs
  edges : RS tEdg w ev S.edges
  goals : RS tBool w gv S.goals
theorem RSys.at {w0 w : World} {Γ : List HP} {cv ev gv : Value} {S : SysV} (h : RSys w0 cv ev gv S) (hw : Sat w0 w Γ) : RSys w cv ev gv S := ⟨h.costs.at hw, h.edges.at hw, h.goals.at hw⟩
end Go.Proofs.YtegndanecnicaaaGreat

/-
  Contracts of 'Distances' of the base and of the reference of layer 40.
-/
namespace Go.Proofs.YtegndanecnicaaaGreat
open Go.Sl Go
attribute [local irreducible] vc opsW opsD opV opW PureV ReadV Thn Blk

/-- The given costs, or the operators' own. -/
inductive CostsOf (w : World) (t : TTask) (kv : Value) (cs : List Int) : Prop
  | own : kv = .slice none 0 0 → cs = costsT t → CostsOf w t kv cs
  | new : (∃ p n k, kv = .slice (some p) n k) → RS tInt w kv cs → cs.length = t.ops.length → (∀ x ∈ cs, 0 ≤ x ∧ x ≤ 1099511627776) → CostsOf w t kv cs
theorem CostsOf.at {w0 w : World} {Γ : List HP} {t : TTask} {kv : Value} {cs : List Int} (h : CostsOf w0 t kv cs) (hw : Sat w0 w Γ) : CostsOf w t kv cs := by
  rcases h with ⟨h1, h2⟩ | ⟨h1, h2, h3, h4⟩
  · exact .own h1 h2
  · exact .new h1 (h2.at hw) h3 h4
theorem CostsOf.ok {w : World} {t : TTask} {kv : Value} {cs : List Int} (h : CostsOf w t kv cs) (hg : GoodT t) : cs.length = t.ops.length ∧ ∀ x ∈ cs, 0 ≤ x ∧ x ≤ 1099511627776 := by
  rcases h with ⟨h1, h2⟩ | ⟨h1, h2, h3, h4⟩
  · subst h2
    refine ⟨by simp [costsT], fun x hx => ?_⟩
    obtain ⟨o, ho, rfl⟩ := List.mem_map.1 hx
    obtain ⟨i, hi, rfl⟩ := List.getElem_of_mem ho
    have := hg.op i hi
    rw [getD_at hi] at this
    have h1 := this.cost0
    have h2 := this.cost1
    omega
  · exact ⟨h3, h4⟩
end Go.Proofs.YtegndanecnicaaaGreat
