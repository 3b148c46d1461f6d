/- Several texts. -/
import Derived.Test.YtmapkjoefdgjfaaGreatDoorMW15H
set_option linter.unusedSimpArgs false
set_option linter.unusedVariables false
set_option maxRecDepth 8000
set_option maxHeartbeats 16000000
open List Nat
namespace Go.Proofs.YtmapkjoefdgjfaaGreatDoor
open Go.Sl Go
attribute [local irreducible] vc opsW opsD opV opW PureV ReadV Thn Blk
theorem WE {t:aa}(I:aJ t):∀ k,k<=t.M.length->0<=kX t k/\kX t k<=bZ
 | 0,_=>by simp[kX]
 | k+1,h=>by
  have a:=WE I k U;have b:=(I.op k U).l9;rw[KC U];omega
theorem PZ {t:aa}(I:aJ t):CQ t (cX t):=by
 have h:=WE I t.M.length (cP _);refine⟨I,fun y=>?_,fun y=>?_⟩
 ·unfold cX gH;split
  ·exact iq _
  exact h.1
 unfold cX gH;split
 ·decide
 exact h.2
end Go.Proofs.YtmapkjoefdgjfaaGreatDoor
