
/-
  Concrete tasks: goals and least costs of projections, calculated.
-/
import Derived.Test.YtemnlcnjpjdoaaaGreatDoorMW6
set_option linter.unusedSimpArgs false
set_option linter.unusedVariables false
namespace Go.Proofs.YtemnlcnjpjdoaaaGreatDoor
open Go.Sl Go

end Go.Proofs.YtemnlcnjpjdoaaaGreatDoor
