/-
  Several texts as one: WProj2, WTgt, WProject, WSys.
-/
import Derived.Test.YtkmbenhffledpaaGreatMW5
import Derived.Test.YtkmbenhffledpaaGreatMTA
import Derived.Test.YtkmbenhffledpaaGreatMSlB
set_option linter.unusedSimpArgs false
set_option linter.unusedVariables false

/-
  Contracts of 'project.has' and 'outside'.
-/
namespace Go.Proofs.YtkmbenhffledpaaGreat
open Go.Sl Go
attribute [local irreducible] vc opsW opsD opV opW PureV ReadV Thn Blk

end Go.Proofs.YtkmbenhffledpaaGreat

/-
  Contract of 'project.targets'.
-/
namespace Go.Proofs.YtkmbenhffledpaaGreat
open Go.Sl Go
attribute [local irreducible] vc opsW opsD opV opW PureV ReadV Thn Blk

theorem compL_eq (l : List Int) : compL l = ((List.range l.length).filter fun j => decide (j = 0 ∨ l.getD j tInt.dflt ≠ l.getD (j - 1) tInt.dflt)).map fun j => l.getD j tInt.dflt := by
  have e : ∀ j, l.toArray[j]! = l.getD j tInt.dflt := fun j => by
    simp [getElem!_def, List.getD]
    cases l[j]? <;> rfl
  unfold compL Lib.compact Lib.compactUpTo Lib.keeps
  simp only [e]
theorem compL_mem {l : List Int} {x : Int} : x ∈ compL l ↔ x ∈ l := by
  rw [compL_eq]
  simp only [List.mem_map, List.mem_filter, List.mem_range, decide_eq_true_eq]
  constructor
  · rintro ⟨j, ⟨hj, _⟩, rfl⟩; exact mem_getD _ hj
  · intro hx
    obtain ⟨i, hi, he⟩ := List.mem_iff_getElem.1 hx
    have key : ∀ i, i < l.length → ∃ j, (j < l.length ∧ (j = 0 ∨ l.getD j tInt.dflt ≠ l.getD (j - 1) tInt.dflt)) ∧ l.getD j tInt.dflt = l.getD i tInt.dflt := by
      intro i
      induction i with
      | zero => intro h; exact ⟨0, ⟨h, .inl rfl⟩, rfl⟩
      | succ i ih =>
        intro h
        by_cases hh : l.getD (i + 1) tInt.dflt = l.getD i tInt.dflt
        · obtain ⟨j, h1, h2⟩ := ih (by omega)
          exact ⟨j, h1, h2.trans hh.symm⟩
        · exact ⟨i + 1, ⟨h, .inr hh⟩, rfl⟩
    obtain ⟨j, h1, h2⟩ := key i hi
    exact ⟨j, h1, by rw [h2, getD_at hi, he]⟩
theorem compL_asc {l : List Int} (h : l.Pairwise (· ≤ ·)) : (compL l).Pairwise (· < ·) := by
  rw [compL_eq, List.pairwise_map]
  have hle : ∀ i j, i ≤ j → j < l.length → l.getD i tInt.dflt ≤ l.getD j tInt.dflt := fun i j hij hj => by
    rcases Nat.lt_or_ge i j with h' | h'
    · rw [getD_at (by omega), getD_at hj]; exact List.pairwise_iff_getElem.1 h _ _ _ _ h'
    · have : i = j := by omega
      subst this; exact Int.le_refl _
  refine (List.pairwise_lt_range.filter _).imp_of_mem fun {i j} hi hj hij => ?_
  simp only [List.mem_filter, List.mem_range, decide_eq_true_eq] at hi hj
  have h1 := hle i (j - 1) (by omega) (by omega)
  have h2 := hle (j - 1) j (by omega) hj.1
  have h3 := hj.2.resolve_left (by omega)
  omega
end Go.Proofs.YtkmbenhffledpaaGreat

/-
  Contract of 'project.Project'.
-/
namespace Go.Proofs.YtkmbenhffledpaaGreat
open Go.Sl Go
attribute [local irreducible] vc opsW opsD opV opW PureV ReadV Thn Blk

theorem sat_none {w0 w : World} {Γ : List HP} (hw : Sat w0 w Γ) : Sat w0 w [] := ⟨hw.below, trivial⟩
def SysAt (w0 w : World) (cv ev gv : Value) (S : SysV) : Prop := Sat w0 w [OS tInt 3 cv S.costs, OS tEdg 208 ev S.edges, OS tBool 4 gv S.goals]
end Go.Proofs.YtkmbenhffledpaaGreat

/-
  A system's three lists are read.
-/
namespace Go.Proofs.YtkmbenhffledpaaGreat
open Go.Sl Go
/-- A system's three lists are read. -/
structure RSys (w : World) (cv ev gv : Value) (S : SysV) : Prop where
  costs : RS tInt w cv S.costs
  edges : RS tEdg w ev S.edges
  goals : RS tBool w gv S.goals
theorem RSys.at {w0 w : World} {Γ : List HP} {cv ev gv : Value} {S : SysV} (h : RSys w0 cv ev gv S) (hw : Sat w0 w Γ) : RSys w cv ev gv S := ⟨h.costs.at hw, h.edges.at hw, h.goals.at hw⟩
theorem SysAt.rs {w0 w : World} {cv ev gv : Value} {S : SysV} (h : SysAt w0 w cv ev gv S) : RSys w cv ev gv S := ⟨Sat.rs h 0 rfl, Sat.rs h 1 rfl, Sat.rs h 2 rfl⟩
end Go.Proofs.YtkmbenhffledpaaGreat
