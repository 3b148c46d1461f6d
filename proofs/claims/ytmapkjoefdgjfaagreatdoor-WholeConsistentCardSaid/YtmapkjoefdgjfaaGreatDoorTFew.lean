/-
  Few variables: few patterns, and so not too many cliques.
-/
import Derived.Test.YtmapkjoefdgjfaaGreatDoorWCanE
set_option linter.unusedSimpArgs false
set_option linter.unusedVariables false
set_option maxRecDepth 8000
set_option maxHeartbeats 16000000
open List Nat
namespace Go.Proofs.YtmapkjoefdgjfaaGreatDoor
open Go.Sl
theorem qvI {n:Nat}(hn:n<=4):(ni n 1).length+(ni n 2).length<=12:=by
 have:n=0\/n=1\/n=2\/n=3\/n=4:=by omega
 rcases this with rfl|rfl|rfl|rfl|rfl<;>decide
theorem qvJ {t:Aa}(hv:t.vars.length<=4):(bR t 2).length<=12:=by
 have e:dm 2=2:=by decide
 have h1:=qdC (t:=t) 1;have h2:=qdC (t:=t) 2;have h3:=qvI hv;unfold bR;rw[e,qnk,length_take,length_append];omega
theorem qtG {t:Aa}(hs:AB t) (hv:t.vars.length<=4):AX t (bR t 2) :=
 ⟨hs,qdI t 2,fun _ hi=>vU hi,fun _ hi=>Int.le_trans (zC hs.cr.pos (vU hi)) hs.many,fun _=>qjW (qvJ hv)⟩
end Go.Proofs.YtmapkjoefdgjfaaGreatDoor
