/-
  Contracts of the relaxation's 'Max' and of 'estimate.HMax'.
-/
import Derived.Test.YtmapkjoefdgjfaaGreatDoorWRlxV
set_option linter.unusedSimpArgs false
set_option linter.unusedVariables false
set_option maxRecDepth 8000
set_option maxHeartbeats 16000000
open List Nat
namespace Go.Proofs.YtmapkjoefdgjfaaGreatDoor
open Go.Sl Go
attribute [local irreducible] vc opsW opsD opV opW PureV ReadV Thn Blk
theorem BW.at {w0 w:World}{Γ:List HP}{pr:Addr}{t:Aa}(h:BW w0 pr t) (hw:Sat w0 w Γ):BW w pr t:=by
 obtain⟨a,c,fv,uv,nv,frv,us,ss,hbx,ha,hc,hf,yU,iw,hU,sA,mj,fe,kA⟩:=h.ex;exact⟨a,c,fv,uv,nv,frv,us,ss,hbx.at hw,ha.at hw,hc.at hw,hf.at hw,yU.at hw,iw,fun i hi=>⟨(hU i hi).op,(hU i hi).dL,(hU i hi).cost,(hU i hi).makes,(hU i hi).an.at hw⟩,sA.at hw,mj,fun f hf=>(fe f hf).at hw,kA.at hw⟩
theorem qrT {w0:World}{pr:Addr}{sv:Value}{t:Aa}{z:List Int}(hr:BW w0 pr t) (hg:Af t) (hs:RS aa w0 sv z) (br:Ac t.vars z) :
  Calls Tryz.prog 261 #[.pointer (some pr),sv] w0 fun e w'=>e=.returned (.int .i64 (cp t z))/\Sat w0 w' []:=by
 have j1:=hr;obtain⟨a,c,fv,uv,nv,frv,us,ss,hbx,ha,hc,hf,yU,iw,hU,sA,mj,fe,kA⟩:=hr.ex;have kL:=qI hg.goal;have eW:=hg.vars;have hw:=Sat.start w0;refine bn (args:=[.pointer (some pr),sv]) mixed Tryz.func261 ?_;refine ab ?_;refine aJ rfl (wB (ha.at hw) (hs.at hw)) ?_;rintro _ w' ⟨⟨r,rfl,wI⟩,aj⟩;refine aC ?_;clear aj hw;intro hw;have hrt:r=true:=wI.2 br;subst hrt;refine ab ?_;refine aJ rfl (qk9 (j1.at hw) hg (hs.at hw) br) ?_;rintro _ w' ⟨ov,out,rfl,hHM,aj⟩;refine aA ?_;clear aj hw;intro hw;have l5:=hHM.len;refine ab ?_;refine cd [6,6,8,8,28,40] (G:=Nat) (fun k=>[(28,.int .i64 k),(6,.int .i64 (bQ t.vars (t.goal.take k) out))]) (fun k w=>k<=t.goal.length/\Sat w0 w [OS aa 3 ov out]) (fun k=>t.goal.length-k) 0 (fun _=>rfl) ⟨rfl,rfl,trivial⟩ ⟨zero_le _,hw⟩ ?_;clear hw;rintro σ k w ⟨hk,hw⟩;refine ab ?_;refine ai ?_ ?_<;>intro h1
 ·have aK:k<t.goal.length:=by omega
  have j2:=(hg.goal k aK).1;refine cK ?_;clear hw;intro p w hw;refine aJ rfl (qdm (f:=t.goal.getD k aq.dflt) (hbx.at hw) (hf.at hw) hg.pos (fun i hi=>(hg.gd i hi).2) eW j2) ?_;rintro _ w' ⟨rfl,aj⟩;refine aC ?_;clear aj hw;intro hw;have hnr:=rz hg.pos j2;rw[<-pd hg,<-l5]at hnr;have e:(if out.getD (cz t.vars (t.goal.getD k aq.dflt)).toNat aa.dflt>bQ t.vars (t.goal.take k) out then out.getD (cz t.vars (t.goal.getD k aq.dflt)).toNat aa.dflt else bQ t.vars (t.goal.take k) out)=bQ t.vars (t.goal.take (k+1)) out:=by
   rw[dJ aq.dflt aK,qf5];unfold dg;split<;>omega
  refine ab ?_;exact⟨k+1,⟨rfl,by rw[<-e];rfl,trivial⟩,aH,⟨by omega,hw.tail⟩,by omega⟩
 have cH:k=t.goal.length:=by omega
 rw[cH,take_length];refine ab ?_;exact aW (v:=.int .i64 (bQ t.vars t.goal out)) rfl rfl ⟨by rw[tM br hHM],hw.aT⟩
instance qxs:Ck Tryz.prog 97 "Value" 262 := ⟨kr⟩
theorem qoV {w0:World}{pr:Addr}{sv:Value}{t:Aa}{z:List Int}(hr:BW w0 pr t) (hg:Af t) (hs:RS aa w0 sv z) (br:Ac t.vars z) :
  Calls Tryz.prog 262 #[.agg #[.pointer (some pr)],sv] w0 fun e w'=>e=.returned (.int .i64 (cp t z))/\Sat w0 w' []:=by
 have hw:=Sat.start w0;refine bn (args:=[.agg #[.pointer (some pr)],sv]) mixed Tryz.func262 ?_;refine db ?_;clear hw;intro p w hw;refine aJ rfl (qrT (hr.at hw) hg (hs.at hw) br) ?_;rintro _ w' ⟨rfl,aj⟩;refine aC ?_;clear aj hw;intro hw;refine ab ?_;exact aW (v:=.int .i64 (cp t z)) rfl rfl ⟨rfl,hw.aT⟩
theorem qqW {w:World}{t:Aa}{pr:Addr}(h:BW w pr t) (hg:Af t):A0 w (.iface 97 (.agg #[.pointer (some pr)])) t (cp t) :=
 ⟨_,_,_,_,rfl,qm3 _,inferInstance,fun _ _ _ _ hs mH br=>qoV (h.at hs) hg mH br⟩
theorem qk4 {w0:World}{a b c d:Value}{vs:List AK}{t:Aa}(ht:Am w0 a b c d vs t) (hg:Af t) :
  Calls Tryz.prog 27 #[.agg #[a,b,c,d]] w0 fun e w'=>∃ p,e=.returned (.tuple #[.pointer (some p),.nilIface])/\Sat w0 w' [Aj fun w=>Ay w p t (cp t)]:=by
 have hw:=Sat.start w0;refine bn (args:=[.agg #[a,b,c,d]]) mixed Tryz.func27 ?_;refine cK ?_;clear hw;intro p w hw;obtain⟨pt,dO⟩:∃ pt,pt=p:=⟨p,rfl⟩
 subst dO;refine aJ rfl (qrZ (ht.at hw) hg) ?_;rintro _ w' ⟨pr,rfl,aj⟩;refine aA ?_;clear aj hw;intro hw;refine ab ?_;refine aJ rfl (wC (h:=.iface 97 (.agg #[.pointer (some pr)])) (H:=cp t) (ht.at hw) hg ⟨_,_,rfl⟩) ?_;rintro _ w' ⟨pe,rfl,aj⟩;refine aA ?_;clear aj hw;intro hw;refine ab ?_;have ct:Sat w0 w' [Aj fun w=>A0 w (.iface 97 (.agg #[.pointer (some pr)])) t (cp t)->Ay w pe t (cp t),Aj fun w=>BW w pr t,Ad pt 26 [a,b,c,d]]:=hw;have gX:=Sat.rd (Δ:=[Aj fun w=>A0 w (.iface 97 (.agg #[.pointer (some pr)])) t (cp t)->Ay w pe t (cp t),Aj fun w=>BW w pr t]) (φ:=fun w=>Ay w pe t (cp t)) (fun _ w h=>(h.dM 0 rfl) (qqW (h.dM 1 rfl) hg)) ct;exact dz (v:=.pointer (some pe)) (v':=.nilIface) rfl rfl rfl ⟨pe,rfl,gX.aT⟩
end Go.Proofs.YtmapkjoefdgjfaaGreatDoor
