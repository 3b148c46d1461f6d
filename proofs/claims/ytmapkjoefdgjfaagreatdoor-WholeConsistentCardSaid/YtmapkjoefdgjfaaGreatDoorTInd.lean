/-
  Tasks of independent goals: each operator reaches one goal; the systematic patterns are the variables, and the canonical value is the sum.
-/
import Derived.Test.YtmapkjoefdgjfaaGreatDoorTMore
import Derived.Test.YtmapkjoefdgjfaaGreatDoorMW18
set_option linter.unusedSimpArgs false
set_option linter.unusedVariables false
set_option maxRecDepth 8000
set_option maxHeartbeats 16000000
open List Nat
namespace Go.Proofs.YtmapkjoefdgjfaaGreatDoor
open Go.Sl Go
section
variable {t:Aa}
variable {Ds Cs:List (List Int)}{N:Nat->Nat}
end
end Go.Proofs.YtmapkjoefdgjfaaGreatDoor
