/-
  'awake', 'fits' and 'priced' of layer 41, 'Costs' of the reference of layer 34.
-/
import Derived.Test.YtmapkjoefdgjfaaGreatDoorWPdbEx
import Derived.Test.YtmapkjoefdgjfaaGreatDoorTCalc
set_option linter.unusedSimpArgs false
set_option linter.unusedVariables false
set_option maxRecDepth 8000
set_option maxHeartbeats 16000000
open List Nat
namespace Go.Proofs.YtmapkjoefdgjfaaGreatDoor
open Go.Sl Go
attribute [local irreducible] vc opsW opsD opV opW PureV ReadV Thn Blk
theorem qro {t:Aa}{L cs:List Int}(hg:Af t) (h:¬(0<cs.length/\cs.length≠t.ops.length)/\¬∃ x∈cs,BH x) (hp:bM t L=0):fJ t L cs=0:=by
 unfold fJ;rw[if_neg (by rw[(nZ t).2 hg];decide),if_neg h.1,if_neg h.2,hp]
end Go.Proofs.YtmapkjoefdgjfaaGreatDoor
