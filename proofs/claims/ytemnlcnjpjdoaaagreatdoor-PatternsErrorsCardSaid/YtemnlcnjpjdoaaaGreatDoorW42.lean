
/-
  What the statements of layer 42 share: contracts of 'lists', 'chosen', 'picked'.
-/
import Derived.Test.YtemnlcnjpjdoaaaGreatDoorTIndT
import Derived.Test.YtemnlcnjpjdoaaaGreatDoorWPicked
import Derived.Test.YtemnlcnjpjdoaaaGreatDoorWRef40b
set_option linter.unusedSimpArgs false
set_option linter.unusedVariables false
namespace Go.Proofs.YtemnlcnjpjdoaaaGreatDoor
open Go.Sl Go
attribute [local irreducible] vc opsW opsD opV opW PureV ReadV Thn Blk
theorem PickOk.pats {t : TTask} {xs : List Int} (h : PickOk t xs) : PatsOk t (pickLs t xs) where
  small := h.1
  len := by rw [pickLs_len]; have := h.2.1; omega
  inv := fun i hi => PickOk.inV (by rw [pickLs_len] at hi; exact hi)
  cnt := fun i hi => by
    rw [pickLs_len] at hi
    rw [pickLs_at hi]; exact h.2.2 i hi
  full := fun _ => few_not_full (by rw [pickLs_len]; have := h.2.1; omega)
end Go.Proofs.YtemnlcnjpjdoaaaGreatDoor
