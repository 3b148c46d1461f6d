
/-
  IDA* with a table of values, in plain Lean: plans and least costs, admissible tables, the bounds of the rounds.
-/
import Derived.Test.YtegndanecnicaaaGreatMTA
import Derived.Test.YtegndanecnicaaaGreatTPdb
set_option linter.unusedSimpArgs false
set_option linter.unusedVariables false
namespace Go.Proofs.YtegndanecnicaaaGreat
open Go.Sl
section
variable {t : TTask}
/-- The least cost of a plan. -/
structure Least (t : TTask) (s : List Int) (b : Int) : Prop where
  le : b ≤ inf
  nn : 0 ≤ b
  att : b < inf → ∃ p, Pln t s p b
  low : ∀ p c, Pln t s p c → b ≤ c ∧ b < inf
variable {H : List Int → Int} {lim : Nat}
end
end Go.Proofs.YtegndanecnicaaaGreat
