/- Several texts. -/
import Derived.Test.YtmapkjoefdgjfaaGreatDoorMW15E
set_option linter.unusedSimpArgs false
set_option linter.unusedVariables false
set_option maxRecDepth 8000
set_option maxHeartbeats 16000000
open List Nat
namespace Go.Proofs.YtmapkjoefdgjfaaGreatDoor
open Go.Sl Go
attribute [local irreducible] vc opsW opsD opV opW PureV ReadV Thn Blk
def vh (k:Int):km:=⟨ByteArray.empty,2,[⟨0,k⟩],[⟨[],0,k+1⟩]⟩
def bV:aa:=⟨[4],[0],[⟨0,3⟩],[vh 0,vh 1,vh 2]⟩
def qt (vs:List iW)(os:List km)(w:World):Prop:=vs.length=os.length/\∀ i,i<os.length->oG w (au cd vs i) (os.getD i bj)
theorem qt.eQ {vs:List iW}{os:List km}{v:iW}{o:km}{w:World}(h:qt vs os w)(hv:oG w v o):qt (vs++[v]) (os++[o]) w:=by
 refine⟨by simp[h.1],fun i c=>?_⟩;have d:=h.1;rw[nt];by_cases hk:i<os.length
 ·have h1:(vs++[v]).getD i cd.dflt=vs.getD i cd.dflt:=by simp[iD,iX (show i<vs.length by omega)]
  have a:(os++[o]).getD i bj=os.getD i bj:=by simp[iD,iX hk]
  rw[h1,a,<-nt];exact h.2 i hk
 have b:i=os.length:=by simp at c;omega
 subst b;have h1:(vs++[v]).getD os.length cd.dflt=v:=by rw[<-d];simp[iD]
 have a:(os++[o]).getD os.length bj=o:=by simp[iD]
 rw[h1,a];exact hv
theorem Nc {w0 w:World}{pv ev:Value}{aN x k:Int}(Y:Z w0 w [X aV 61 ev [⟨nS,0,k⟩],X aq 63 pv [⟨0,x⟩]]):oG w ⟨ByteArray.empty,aN,pv,ev⟩ ⟨ByteArray.empty,aN,[⟨0,x⟩],[⟨[],0,k⟩]⟩:=by
 refine⟨rfl,fY rfl,rfl,Y.rs 1 rfl,[⟨nS,0,k⟩],Y.rs 0 rfl,rfl,fun j a=>?_⟩;have b:j=0:=by simp at a;exact a
 subst b;rw[nt];exact⟨rfl,rfl,RS.nil⟩

theorem TZ {t:aa}(I:aG t):∀ k,k<=t.M.length->0<=jX t k/\jX t k<=bH
 | 0,_=>by simp[jX]
 | k+1,h=>by
  have a:=TZ I k U;have b:=(I.op k U).lE;rw[I3 U];omega
theorem θ {t:aa}(I:aG t):BB t (bP t):=by
 have h:=TZ I t.M.length (cD _);refine⟨I,fun y=>?_,fun y=>?_⟩
 ·unfold bP gj;split
  ·exact dt _
  exact h.1
 unfold bP gj;split
 ·decide
 exact h.2
theorem IG:aG bV:=by
 refine⟨dc,dc,dc,dc,dc,fun i a=>?_⟩;have b:i=0\/i=1\/i=2:=by simp[bV]at a;omega
 rcases b with rfl|rfl|rfl
 all_goals
  refine⟨dc,dc,dc,⟨fY rfl,fun i a=>absurd a (dr _)⟩,dc,fun j c=>?_⟩;have h1:j=0:=by simp[bV,vh]at c;omega
  subst h1;exact⟨dc,dc⟩
end Go.Proofs.YtmapkjoefdgjfaaGreatDoor
