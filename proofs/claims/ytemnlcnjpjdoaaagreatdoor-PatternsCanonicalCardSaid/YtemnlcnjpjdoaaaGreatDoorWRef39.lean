
/-
  The reference of layer 39: contracts of 'on', 'Arc' and 'Connected'; 'Clip'.
-/
import Derived.Test.YtemnlcnjpjdoaaaGreatDoorTConnR
import Derived.Test.YtemnlcnjpjdoaaaGreatDoorWSyst
set_option linter.unusedSimpArgs false
set_option linter.unusedVariables false
namespace Go.Proofs.YtemnlcnjpjdoaaaGreatDoor
open Go.Sl Go
attribute [local irreducible] vc opsW opsD opV opW PureV ReadV Thn Blk
theorem beq_tf : (true == false) = false := rfl
theorem beq_ft : (false == true) = false := rfl
theorem gv_f (v : Value) : gv false v = undef := by unfold gv; rfl
theorem gv_t (v : Value) : gv true v = v := gv_true rfl
end Go.Proofs.YtemnlcnjpjdoaaaGreatDoor
