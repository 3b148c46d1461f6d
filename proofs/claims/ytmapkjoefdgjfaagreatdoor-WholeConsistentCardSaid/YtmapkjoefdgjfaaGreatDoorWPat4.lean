/-
  Contract of the method 'Value' of the canonical heuristic.
-/
import Derived.Test.YtmapkjoefdgjfaaGreatDoorWPat3
set_option linter.unusedSimpArgs false
set_option linter.unusedVariables false
set_option maxRecDepth 8000
set_option maxHeartbeats 16000000
open List Nat
namespace Go.Proofs.YtmapkjoefdgjfaaGreatDoor
open Go.Sl Go
attribute [local irreducible] vc opsW opsD opV opW PureV ReadV Thn Blk
open Classical in
noncomputable def zB (t:Aa) (Ls Ds Cs:List (List Int)) (s:List Int):Int:=if Ac t.vars s then fc t Ls Ds Cs s else 1125899906842624
theorem qvL {t:Aa}{Ls Ds Cs:List (List Int)}{s:List Int}(h:¬Ac t.vars s):zB t Ls Ds Cs s=1125899906842624:=if_neg h
theorem qrt {t:Aa}{Ls Ds Cs:List (List Int)}{s:List Int}(h:Ac t.vars s):zB t Ls Ds Cs s=fc t Ls Ds Cs s:=if_pos h
theorem qmj {w0:World}{p:Addr}{t:Aa}{Ls Ds Cs:List (List Int)}{sv:Value}{s:List Int}(hr:BT w0 p t Ls Ds Cs) (hl:Ls.length<=32) (oO:Ds.length=Ls.length) (eN:Cs.length<=4096) (iK:∀ l∈Cs,∀ i∈l,0<=i/\i<Ls.length) (hp:∀ i,i<Ls.length->bM t (Ls.getD i [])=0) (hD:∀ i,i<Ls.length->As (aZ t (Ls.getD i [])) (ar t) (AG t (Ls.getD i [])) (aL t.vars (Ls.getD i [])).toNat (Ds.getD i [])) (hs:RS aa w0 sv s) :
  Calls Tryz.prog 326 #[.pointer (some p),sv] w0 fun e w'=>e=.returned (.int .i64 (zB t Ls Ds Cs s))/\Sat w0 w' []:=by
 obtain⟨vv,dv,cv,qs,fs,h1,h2,h3,h4,h5⟩:=hr;have jY:=h4.1.trans oO;have ot:=h5.len;have h5r:=h5.rs;have hw:=Sat.start w0;refine bn (args:=[.pointer (some p),sv]) mixed Tryz.func326 ?_;refine ab ?_;refine aJ rfl (wB h2 (hs.at hw)) ?_;rintro _ w' ⟨⟨r,rfl,hr⟩,aj⟩;refine aC ?_;clear aj hw;intro hw;cases r
 ·rw[qvL (fun h=>by have:=hr.2 h;cases this)]
  refine ab ?_;exact aW (v:=.int .i64 1125899906842624) rfl rfl ⟨rfl,hw⟩
 have br:=hr.1 rfl;rw[qrt br];have o8:∀ k,k<Ls.length->0<=(aX t Ls Ds s) k/\(aX t Ls Ds s) k<=1125899906842624:=fun k hk=>qiM (qez (hp k hk)).2.1 (hD k hk) br;refine kq ?_;intro s w hw;obtain⟨vv2,qzF⟩:∃ vv2,vv2=s:=⟨s,rfl⟩
 subst qzF;rw[jY,Int.toNat_natCast,<-qeQ _ (aX t Ls Ds s)]at hw;refine cd [6,7,34,45] (G:=Nat) (fun k=>[(34,.int .i64 k)]) (fun k w=>k<=Ls.length/\Sat w0 w [OS aa 3 vv2 (c9 Ls.length (aX t Ls Ds s) k)]) (fun k=>Ls.length-k) 0 (fun _=>rfl) ⟨rfl,trivial⟩ ⟨zero_le _,hw⟩ ?_;clear hw;rintro σ k w ⟨hk,hw⟩;have qAb:=qc2 Ls.length (aX t Ls Ds s) k;refine ab ?_;refine ai ?_ ?_<;>intro h7
 ·have aK:k<Ls.length:=by omega
  obtain⟨q,hq,uE⟩:=h4.2 k om;have hdo:=qqv (hp k aK) (hD k aK);have nt:sy (kX t (Ls.getD k []) (Ds.getD k [])) s=(aX t Ls Ds s) k:=qla br;refine ab ?_;rw[hq];refine aJ rfl (qh5 (uE.at hw) hdo (hs.at hw)) ?_;rintro _ w' ⟨rfl,aj⟩;replace hw:=hw.bz aj;clear aj;rw[nt];refine⟨_,rfl,?_⟩;refine fi ?_;intro w hw;rw[show (c9 Ls.length (aX t Ls Ds s) k).set k ((aX t Ls Ds s) k)=c9 Ls.length (aX t Ls Ds s) (k+1) from qf6]at hw;exact⟨k+1,⟨rfl,trivial⟩,aH,⟨by omega,hw⟩,by omega⟩
 have cH:k=Ls.length:=by omega
 subst cH;refine ab ?_;refine dj [8,8,10,11,13,13,51,72] (G:=Nat) (H:=Int) (fun k b=>[(51,.int .i64 k),(8,.int .i64 b)]) (fun k b w=>k<=Cs.length/\b=dY (aX t Ls Ds s) (Cs.take k)/\Sat w0 w [OS aa 3 vv2 (c9 Ls.length (aX t Ls Ds s) Ls.length)]) (fun k _=>Cs.length-k) 0 0 (fun _ _=>rfl) ⟨rfl,rfl,trivial⟩ ⟨zero_le _,rfl,hw⟩ ?_;clear hw;rintro σ k b w ⟨hk,hb,hw⟩;refine ab ?_;refine ai ?_ ?_<;>intro h8
 ·have aK:k<Cs.length:=by omega
  have uU:=h5.at_ k aK;obtain⟨C,hC⟩:∃ C,C=Cs.getD k []:=⟨_,rfl⟩
  have hCm:C∈Cs:=by rw[hC];exact bY [] aK
  rw[<-hC]at uU;have hCb:=uU.bo;refine ab ?_;refine dj [11,11,13,13,57,68] (G:=Nat) (H:=Int) (fun j x=>[(57,.int .i64 j),(11,.int .i64 x)]) (fun j x w=>j<=C.length/\x=jU (aX t Ls Ds s) (C.take j)/\Sat w0 w [OS aa 3 vv2 (c9 Ls.length (aX t Ls Ds s) Ls.length)]) (fun j _=>C.length-j) 0 0 (fun _ _=>rfl) ⟨rfl,rfl,trivial⟩ ⟨zero_le _,rfl,hw⟩ ?_;clear hw;rintro σ1 j x w ⟨hj,hx,hw⟩;refine ab ?_;refine ai ?_ ?_<;>intro h9
  ·have cJ:j<C.length:=by omega
   have qAc:=iK C hCm _ (bY aa.dflt cJ);have hfa:=qmD (n:=Ls.length) (f:=(aX t Ls Ds s)) (k:=Ls.length) (i:=(C.getD j aa.dflt).toNat) om om;have hfb:=o8 (C.getD j aa.dflt).toNat om;have hxr:=qs0 (f:=(aX t Ls Ds s)) (l:=C.take j) fun i hi=>(o8 i.toNat (by have:=iK C hCm i (mem_of_mem_take hi);omega)).1;have e2:inf=1125899906842624:=rfl;refine ab ?_;refine⟨j+1,_,⟨rfl,rfl,trivial⟩,aH,⟨by omega,?_,hw⟩,by omega⟩;rw[dJ aa.dflt cJ,qkl,hfa,hx];split<;>omega
  have iR:j=C.length:=by omega
  subst iR;refine ab ?_;refine⟨k+1,_,⟨rfl,rfl,trivial⟩,aH,⟨by omega,?_,hw⟩,by omega⟩;rw[dJ [] aK,qe4,hb,hx,<-hC,take_length];split<;>omega
 have cH:k=Cs.length:=by omega
 subst cH;rw[take_length]at hb;refine ab ?_;exact aW (v:=.int .i64 b) rfl rfl ⟨by rw[hb];rfl,lB hw⟩
end Go.Proofs.YtmapkjoefdgjfaaGreatDoor
