
/-
  Concrete tasks: goals and least costs of projections, calculated.
-/
import Derived.Test.YtemnlcnjpjdoaaaDoorMW6
set_option linter.unusedSimpArgs false
set_option linter.unusedVariables false
namespace Go.Proofs.YtemnlcnjpjdoaaaDoor
open Go.Sl Go

end Go.Proofs.YtemnlcnjpjdoaaaDoor
