
/-
  'awake', 'fits' and 'priced' of layer 41, 'Costs' of the reference of layer 34.
-/
import Derived.Test.YtemnlcnjpjdoaaaGreatDoorWPdbEx
import Derived.Test.YtemnlcnjpjdoaaaGreatDoorTCalc
set_option linter.unusedSimpArgs false
set_option linter.unusedVariables false
namespace Go.Proofs.YtemnlcnjpjdoaaaGreatDoor
open Go.Sl Go
attribute [local irreducible] vc opsW opsD opV opW PureV ReadV Thn Blk
instance : IntT Tryz.prog 59 .u16 := ⟨by kernel_rfl⟩
instance : IntT Tryz.prog 3 .i64 := ⟨by kernel_rfl⟩
theorem bErr_zero {t : TTask} {L cs : List Int} (hg : GoodT t) (h : ¬ (0 < cs.length ∧ cs.length ≠ t.ops.length) ∧ ¬ ∃ x ∈ cs, BadC x) (hp : pErr t L = 0) : bErr t L cs = 0 := by
  unfold bErr
  rw [if_neg (by rw [(good_iff t).2 hg]; decide), if_neg h.1, if_neg h.2, hp]
end Go.Proofs.YtemnlcnjpjdoaaaGreatDoor
