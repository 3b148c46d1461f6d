/-
  Several texts as one: WDist, TProjD, WAwake, WChosen.
-/
import Derived.Test.YtkmbenhffledpaaGreatMTA
import Derived.Test.YtkmbenhffledpaaGreatMW2
import Derived.Test.YtkmbenhffledpaaGreatMW6
import Derived.Test.YtkmbenhffledpaaGreatMSlB
set_option linter.unusedSimpArgs false
set_option linter.unusedVariables false

/-
  Contracts of 'Distances' of the base and of the reference of layer 40.
-/
namespace Go.Proofs.YtkmbenhffledpaaGreat
open Go.Sl Go
attribute [local irreducible] vc opsW opsD opV opW PureV ReadV Thn Blk

/-- The given costs, or the operators' own. -/
inductive CostsOf (w : World) (t : TTask) (kv : Value) (cs : List Int) : Prop
  | own : kv = .slice none 0 0 → cs = costsT t → CostsOf w t kv cs
  | new : (∃ p n k, kv = .slice (some p) n k) → RS tInt w kv cs → cs.length = t.ops.length → (∀ x ∈ cs, 0 ≤ x ∧ x ≤ 1099511627776) → CostsOf w t kv cs
theorem CostsOf.at {w0 w : World} {Γ : List HP} {t : TTask} {kv : Value} {cs : List Int} (h : CostsOf w0 t kv cs) (hw : Sat w0 w Γ) : CostsOf w t kv cs := by
  rcases h with ⟨h1, h2⟩ | ⟨h1, h2, h3, h4⟩
  · exact .own h1 h2
  · exact .new h1 (h2.at hw) h3 h4
theorem CostsOf.ok {w : World} {t : TTask} {kv : Value} {cs : List Int} (h : CostsOf w t kv cs) (hg : GoodT t) : cs.length = t.ops.length ∧ ∀ x ∈ cs, 0 ≤ x ∧ x ≤ 1099511627776 := by
  rcases h with ⟨h1, h2⟩ | ⟨h1, h2, h3, h4⟩
  · subst h2
    refine ⟨by simp [costsT], fun x hx => ?_⟩
    obtain ⟨o, ho, rfl⟩ := List.mem_map.1 hx
    obtain ⟨i, hi, rfl⟩ := List.getElem_of_mem ho
    have := hg.op i hi
    rw [getD_at hi] at this
    have h1 := this.cost0
    have h2 := this.cost1
    omega
  · exact ⟨h3, h4⟩
end Go.Proofs.YtkmbenhffledpaaGreat

/-
  Walks of a task project to walks of its projections.
-/
namespace Go.Proofs.YtkmbenhffledpaaGreat
open Go.Sl Go

end Go.Proofs.YtkmbenhffledpaaGreat

/-
  The example with which each statement begins: 'example' and 'awake'.
-/
namespace Go.Proofs.YtkmbenhffledpaaGreat
open Go.Sl Go
attribute [local irreducible] vc opsW opsD opV opW PureV ReadV Thn Blk

instance inWAwake1 : EqIntsT Tryz.prog 208 3 := ⟨by kernel_rfl⟩
/-! ### The systems of the example -/
instance (vars s : List Int) : Decidable (StateOk vars s) := by unfold StateOk; infer_instance
instance (vars : List Int) (x : Fact) : Decidable (FactOk vars x) := by unfold FactOk; infer_instance
instance (vars : List Int) (f : List Fact) : Decidable (FactsOk vars f) := by unfold FactsOk; infer_instance
end Go.Proofs.YtkmbenhffledpaaGreat

/-
  Contracts of the laws' helpers 'chosen', 'few' and of the reference's 'Many', 'Index'; of 'project.Index'.
-/
namespace Go.Proofs.YtkmbenhffledpaaGreat
open Go.Sl Go
attribute [local irreducible] vc opsW opsD opV opW PureV ReadV Thn Blk

end Go.Proofs.YtkmbenhffledpaaGreat
