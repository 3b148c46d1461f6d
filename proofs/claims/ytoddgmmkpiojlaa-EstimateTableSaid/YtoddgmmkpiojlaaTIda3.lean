
/-
  IDA* with a table of values, in plain Lean: plans and least costs, admissible tables, the bounds of the rounds.
-/
import Derived.Test.YtoddgmmkpiojlaaMTA
import Derived.Test.YtoddgmmkpiojlaaTPdb
set_option linter.unusedSimpArgs false
set_option linter.unusedVariables false
namespace Go.Proofs.Ytoddgmmkpiojlaa
open Go.Sl
section
variable {t : TTask}
open Classical in
/-- The values of a table (of improper states nothing is asked). -/
noncomputable def tabH (t : TTask) (T : List Int) (y : List Int) : Int := if StateOk t.vars y then T.getD (rankL t.vars y).toNat tInt.dflt else 0
theorem tabH_ok {T y : List Int} (h : StateOk t.vars y) : tabH t T y = T.getD (rankL t.vars y).toNat tInt.dflt := if_pos h
variable {H : List Int → Int} {lim : Nat}
end
end Go.Proofs.Ytoddgmmkpiojlaa
