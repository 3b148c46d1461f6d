
/-
  Contracts of the methods 'Parts' and 'Value' of a partition.
-/
import Derived.Test.YtemnlcnjpjdoaaaGreatDoorWSatNew
set_option linter.unusedSimpArgs false
set_option linter.unusedVariables false
namespace Go.Proofs.YtemnlcnjpjdoaaaGreatDoor
open Go.Sl Go
attribute [local irreducible] vc opsW opsD opV opW PureV ReadV Thn Blk
end Go.Proofs.YtemnlcnjpjdoaaaGreatDoor
