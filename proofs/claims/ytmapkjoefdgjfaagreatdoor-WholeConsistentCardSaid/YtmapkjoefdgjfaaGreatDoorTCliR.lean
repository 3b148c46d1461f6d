/-
  The reference's maximal additive sets, in plain Lean: sets of bits in ascending order, each list put at its place.
-/
import Derived.Test.YtmapkjoefdgjfaaGreatDoorMW17
set_option linter.unusedSimpArgs false
set_option linter.unusedVariables false
set_option maxRecDepth 8000
set_option maxHeartbeats 16000000
open List Nat
namespace Go.Proofs.YtmapkjoefdgjfaaGreatDoor
open Go.Sl Go
theorem B8.lt {n:Nat}{N:Nat->Nat}{C:Nat}(h:B8 n N C):C<2 ^ n:=qfa h.bd
structure DF (t:Aa) (Ls:List (List Int)) (N:Nat->Nat):Prop where
 gr:Gr Ls.length N
 add:∀ u v,u<Ls.length->v<Ls.length->(ib (N u) v↔u≠v/\kn t (Ls.getD u []) (Ls.getD v []))
theorem qys (t:Aa) (Ls:List (List Int)):DF t Ls (nN Ls.length (eB t Ls Ls.length)) :=
 ⟨quu qlJ,fun u v hu hv=>by rw[qgU qlJ,qs9 hu hv]⟩
end Go.Proofs.YtmapkjoefdgjfaaGreatDoor
