/-
  Sums that stop at infinity, and scaled costs, for saturated partitions.
-/
import Derived.Test.YtkmbenhffledpaaGreatTSatLaw
set_option linter.unusedSimpArgs false
set_option linter.unusedVariables false
namespace Go.Proofs.YtkmbenhffledpaaGreat
open Go.Sl Go
section
variable {f:Int}{t:TTask}{Ls Ds Ps Ds' Ps':List (List Int)}
end
end Go.Proofs.YtkmbenhffledpaaGreat
