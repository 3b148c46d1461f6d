/-
  The canonical value of more patterns, and of patterns in another order, in plain Lean.
-/
import Derived.Test.YtmapkjoefdgjfaaGreatDoorMW16
set_option linter.unusedSimpArgs false
set_option linter.unusedVariables false
set_option maxRecDepth 8000
set_option maxHeartbeats 16000000
open List Nat
namespace Go.Proofs.YtmapkjoefdgjfaaGreatDoor
open Go.Sl Go
section
variable {t:Aa}{Ls Ds Cs Ls' Ds' Cs':List (List Int)}{N N':Nat->Nat}
end
end Go.Proofs.YtmapkjoefdgjfaaGreatDoor
