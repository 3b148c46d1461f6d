
/-
  Plain facts for the statement 'ProjectAffects', and two steps for reads that are looked at again under a guard.
-/
import Derived.Test.YtkmbenhffledpaaGreatTSmall
set_option linter.unusedSimpArgs false
set_option linter.unusedVariables false
namespace Go.Proofs.YtkmbenhffledpaaGreat
open Go.Sl Go

end Go.Proofs.YtkmbenhffledpaaGreat
