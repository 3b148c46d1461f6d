
/-
  The tables that the statements of layer 50 use.
-/
import Derived.Test.YtegndanecnicaaaGreatTIda3
set_option linter.unusedSimpArgs false
set_option linter.unusedVariables false
namespace Go.Proofs.YtegndanecnicaaaGreat
open Go.Sl
section
variable {t : TTask} {D less : List Int}
end
/-- What a table says of the states. -/
theorem tabH_small {t : TTask} {T : List Int} {M : Int} (hg : GoodT t) (hl : T.length = (statesL t.vars).length) (hM0 : 0 ≤ M) (hT : ∀ x ∈ T, x < inf → x ≤ M) : ∀ y, tabH t T y < inf → tabH t T y ≤ M := fun y h => by
  by_cases hs : StateOk t.vars y
  · rw [tabH_ok hs] at h ⊢
    exact hT _ (mem_getD tInt.dflt (by have := (statesL_of hg.pos hs).1; omega)) h
  · rw [tabH_no hs]; exact hM0
end Go.Proofs.YtegndanecnicaaaGreat
