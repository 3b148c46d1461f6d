/- Several texts. -/
import Derived.Test.YtmapkjoefdgjfaaGreatDoorMW27E
set_option linter.unusedSimpArgs false
set_option linter.unusedVariables false
set_option maxRecDepth 8000
set_option maxHeartbeats 16000000
open List Nat
namespace Go.Proofs.YtmapkjoefdgjfaaGreatDoor
open Go.Sl Go
attribute [local irreducible] vc opsW opsD opV opW PureV ReadV Thn Blk

end Go.Proofs.YtmapkjoefdgjfaaGreatDoor
