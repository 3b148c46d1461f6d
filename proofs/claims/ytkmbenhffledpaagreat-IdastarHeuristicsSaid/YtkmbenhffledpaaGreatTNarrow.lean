
/-
  Projections of projections, in plain Lean.
-/
import Derived.Test.YtkmbenhffledpaaGreatTLaw5
set_option linter.unusedSimpArgs false
set_option linter.unusedVariables false
namespace Go.Proofs.YtkmbenhffledpaaGreat
open Go.Sl Go

section
variable {t : TTask} {p q : List Int}
end
theorem getD_set_ne {l : List Int} {i j : Nat} {v : Int} (h : i ≠ j) : (l.set i v).getD j tInt.dflt = l.getD j tInt.dflt := by
  simp only [List.getD_eq_getElem?_getD]
  rw [List.getElem?_set_ne h]
end Go.Proofs.YtkmbenhffledpaaGreat
