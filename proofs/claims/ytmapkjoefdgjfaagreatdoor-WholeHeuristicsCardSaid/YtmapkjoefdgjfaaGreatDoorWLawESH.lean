/-
  The statement 'EstimateBest' returns true.
-/
import Derived.Test.YtmapkjoefdgjfaaGreatDoorMW32H
import Derived.Test.YtmapkjoefdgjfaaGreatDoorWBTaskH
set_option linter.unusedSimpArgs false
set_option linter.unusedVariables false
set_option maxRecDepth 8000
set_option maxHeartbeats 16000000
open List Nat
namespace Go.Proofs.YtmapkjoefdgjfaaGreatDoor
open Go.Sl Go
attribute [local irreducible] vc opsW opsD opV opW PureV ReadV Thn Blk
theorem Nj {n:Nat}{t:aa}{i:Nat}(h:i<n):(replicate n t).getD i dT=t:=F6 h
theorem Zt {w0:World}{lv:Value}{ps:List (Option Addr)}{t:aa}{Gs:List (J->Int)}(j:RS aA w0 lv (ps.map Value.pointer))(m:ps.length<=1024)(d:0<ps.length)(I:aJ t)(f:ps.length=Gs.length)(g:ig w0 ps t Gs) :
  Calls ak 14 #[lv] w0 fun e w'=>∃ p,e=.returned (.tuple #[.pointer (some p),.nilIface])/\Z w0 w' [bA fun w=>ig w ps t Gs->cF w p t (eG t Gs)]:=by
 have a:(replicate ps.length t).getD 0 dT=t:=Nj d;have k:oU ps (replicate ps.length t)=0:=by
  unfold oU;rw[aM,aM]
  ·rintro⟨i,b,c⟩
   exact c (by rw[Nj b,a])
  rintro (h|h)
  ·rw[h]at d;exact absurd d (Nat.lt_irrefl _)
  obtain⟨i,b,e⟩:=ga h;obtain⟨p,h1,_⟩:=g i b;rw[aq b,e]at h1;cases h1
 refine(Η (us:=replicate ps.length t) (Hs:=Gs) j U f.symm (fun i b p l=>?_) (by rw[a];exact I)).mono fun e w' h=>?_
 ·obtain⟨q,h1,c⟩:=g i b
  rw[l]at h1;obtain rfl:p=q:=zD h1;rw[Nj b];exact c
 rcases h with ⟨h1,_⟩|⟨_,p,rfl,c⟩
 ·exact absurd k h1
 rw[a]at c;exact⟨p,rfl,c⟩
end Go.Proofs.YtmapkjoefdgjfaaGreatDoor
