/-
  The graph of additive patterns, in plain Lean.
-/
import Derived.Test.YtkmbenhffledpaaGreatTCanon
import Derived.Test.YtkmbenhffledpaaGreatMTA
set_option linter.unusedSimpArgs false
set_option linter.unusedVariables false
namespace Go.Proofs.YtkmbenhffledpaaGreat
open Go.Sl Go
end Go.Proofs.YtkmbenhffledpaaGreat
