/- Several texts. -/
import Derived.Test.YtmapkjoefdgjfaaGreatDoorMW15D
set_option linter.unusedSimpArgs false
set_option linter.unusedVariables false
set_option maxRecDepth 8000
set_option maxHeartbeats 16000000
open List Nat
namespace Go.Proofs.YtmapkjoefdgjfaaGreatDoor
open Go.Sl Go
attribute [local irreducible] vc opsW opsD opV opW PureV ReadV Thn Blk
def u7 (k:Int):ko:=⟨ByteArray.empty,2,[⟨0,k⟩],[⟨[],0,k+1⟩]⟩
def bQ:aa:=⟨[4],[0],[⟨0,3⟩],[u7 0,u7 1,u7 2]⟩
def qk (vs:List iX)(os:List ko)(w:World):Prop:=vs.length=os.length/\∀ i,i<os.length->oC w (az cp vs i) (os.getD i bf)
theorem qk.fe {vs:List iX}{os:List ko}{v:iX}{o:ko}{w:World}(h:qk vs os w)(hv:oC w v o):qk (vs++[v]) (os++[o]) w:=by
 refine⟨by simp[h.1],fun i c=>?_⟩;have d:=h.1;rw[nr];by_cases hk:i<os.length
 ·have h1:(vs++[v]).getD i cp.dflt=vs.getD i cp.dflt:=by simp[iB,js (show i<vs.length by omega)]
  have a:(os++[o]).getD i bf=os.getD i bf:=by simp[iB,js hk]
  rw[h1,a,<-nr];exact h.2 i hk
 have b:i=os.length:=by simp at c;omega
 subst b;have h1:(vs++[v]).getD os.length cp.dflt=v:=by rw[<-d];simp[iB]
 have a:(os++[o]).getD os.length bf=o:=by simp[iB]
 rw[h1,a];exact hv
theorem MW {w0 w:World}{pv ev:Value}{aO x k:Int}(Y:M w0 w [X aY 61 ev [⟨nS,0,k⟩],X aq 63 pv [⟨0,x⟩]]):oC w ⟨ByteArray.empty,aO,pv,ev⟩ ⟨ByteArray.empty,aO,[⟨0,x⟩],[⟨[],0,k⟩]⟩:=by
 refine⟨rfl,fX rfl,rfl,Y.rs 1 rfl,[⟨nS,0,k⟩],Y.rs 0 rfl,rfl,fun j a=>?_⟩;have b:j=0:=by simp at a;exact a
 subst b;rw[nr];exact⟨rfl,rfl,RS.nil⟩

theorem TM {t:aa}(I:aC t):∀ k,k<=t.Z.length->0<=jV t k/\jV t k<=bD
 | 0,_=>by simp[jV]
 | k+1,h=>by
  have a:=TM I k U;have b:=(I.op k U).kI;rw[II U];omega
theorem Κ {t:aa}(I:aC t):Bs t (bR t):=by
 have h:=TM I t.Z.length (cz _);refine⟨I,fun y=>?_,fun y=>?_⟩
 ·unfold bR gl;split
  ·exact du _
  exact h.1
 unfold bR gl;split
 ·decide
 exact h.2
theorem Io:aC bQ:=by
 refine⟨dc,dc,dc,dc,dc,fun i a=>?_⟩;have b:i=0\/i=1\/i=2:=by simp[bQ]at a;omega
 rcases b with rfl|rfl|rfl
 all_goals
  refine⟨dc,dc,dc,⟨fX rfl,fun i a=>absurd a (dx _)⟩,dc,fun j c=>?_⟩;have h1:j=0:=by simp[bQ,u7]at c;omega
  subst h1;exact⟨dc,dc⟩
end Go.Proofs.YtmapkjoefdgjfaaGreatDoor
