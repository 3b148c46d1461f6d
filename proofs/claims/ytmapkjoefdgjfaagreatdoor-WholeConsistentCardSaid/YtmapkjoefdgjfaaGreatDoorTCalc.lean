/-
  Concrete tasks: goals and least costs of projections, calculated.
-/
import Derived.Test.YtmapkjoefdgjfaaGreatDoorMW10
set_option linter.unusedSimpArgs false
set_option linter.unusedVariables false
set_option maxRecDepth 8000
set_option maxHeartbeats 16000000
open List Nat
namespace Go.Proofs.YtmapkjoefdgjfaaGreatDoor
open Go.Sl Go

end Go.Proofs.YtmapkjoefdgjfaaGreatDoor
