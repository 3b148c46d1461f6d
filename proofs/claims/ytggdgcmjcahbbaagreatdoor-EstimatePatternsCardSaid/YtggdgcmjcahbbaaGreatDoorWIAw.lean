/-
  The beginning of each statement of layer 50; 'fits' and 'below'.
-/
import Derived.Test.YtggdgcmjcahbbaaGreatDoorWI50
import Derived.Test.YtggdgcmjcahbbaaGreatDoorWIBase
import Derived.Test.YtggdgcmjcahbbaaGreatDoorMSlB
set_option linter.unusedSimpArgs false
set_option linter.unusedVariables false
namespace Go.Proofs.YtggdgcmjcahbbaaGreatDoor
open Go.Sl Go
attribute [local irreducible] vc opsW opsD opV opW PureV ReadV Thn Blk
theorem qde:GoodT exIT:=by
 refine⟨by decide,by decide,by decide,by decide,by decide,fun i hi => ?_⟩
 have h0:i=0∨i=1∨i=2:=by simp [exIT] at hi;omega
 rcases h0 with rfl|rfl|rfl
 all_goals
  refine⟨by decide,by decide,by decide,⟨Nat.le_of_ble_eq_true rfl,fun i hi=>absurd hi (Nat.not_lt_zero _)⟩,by decide,fun j hj => ?_⟩
  have h1:j=0:=by simp [exIT,exOpI] at hj;omega
  subst h1
  exact⟨by decide,by decide⟩
end Go.Proofs.YtggdgcmjcahbbaaGreatDoor
