/-
  Contract of 'patterns.New'.
-/
import Derived.Test.YtmapkjoefdgjfaaGreatDoorMW19
set_option linter.unusedSimpArgs false
set_option linter.unusedVariables false
set_option maxRecDepth 8000
set_option maxHeartbeats 16000000
open List Nat
namespace Go.Proofs.YtmapkjoefdgjfaaGreatDoor
open Go.Sl Go
attribute [local irreducible] vc opsW opsD opV opW PureV ReadV Thn Blk
def BT (w:World) (p:Addr) (t:Aa) (Ls Ds Cs:List (List Int)):Prop:=∃ vv dv cv qs fs,AD w p [vv,dv,cv]/\RS aa w vv t.vars/\RS al w dv qs/\Bm t Ls qs Ds w/\Co w cv fs Cs
open Classical in
noncomputable def cD (t:Aa) (Ls:List (List Int)):Int:=if eG t Ls≠0 then eG t Ls else if 32<Ls.length then 5 else if 0<Ls.length/\A7 Ls.length (nN Ls.length (eB t Ls Ls.length)) then 10 else 0
theorem qsJ {t:Aa}{Ls:List (List Int)}(h:eG t Ls≠0):cD t Ls=eG t Ls:=by rw[cD,if_pos h]
theorem qsK {t:Aa}{Ls:List (List Int)}(h:eG t Ls=0) (h1:32<Ls.length):cD t Ls=5:=by rw[cD,if_neg (by simp[h]),if_pos h1]
theorem qp0 {t:Aa}{Ls:List (List Int)}(h:eG t Ls=0) (h0:0<Ls.length) (h1:Ls.length<=32) (hf:A7 Ls.length (nN Ls.length (eB t Ls Ls.length))):cD t Ls=10:=by rw[cD,if_neg (by simp[h]),if_neg om,if_pos ⟨h0,hf⟩]
theorem qn6 {t:Aa}{Ls:List (List Int)}(h:eG t Ls=0) (h0:Ls.length=0):cD t Ls=0:=by rw[cD,if_neg (by simp[h]),if_neg om,if_neg om]
theorem qj2 {n:Nat}{N:Nat->Nat}{Cs:List (List Int)}(hc:Bh n N Cs) (hl:Cs.length<=4096):¬A7 n N:=by
 rintro⟨M,hd,eT,hm⟩;have h1:=qhu hd hm;have h2:=qls h1 (M:=Cs) fun x hx=>by
  obtain⟨C,hC,rfl⟩:=mem_map.1 hx;exact(hc _).2 ⟨C,hm C hC,rfl⟩
 rw[length_map]at h2;omega
theorem qp1 {t:Aa}{Ls Cs:List (List Int)}(h:eG t Ls=0) (h1:Ls.length<=32) (hc:Bh Ls.length (nN Ls.length (eB t Ls Ls.length)) Cs) (hl:Cs.length<=4096):cD t Ls=0:=by rw[cD,if_neg (by simp[h]),if_neg om,if_neg (fun hh=>qj2 hc hl hh.2)]
theorem qh9 {w0:World}{a b c d s:Value}{vs:List AK}{t:Aa}{ss:List Value}{Ls:List (List Int)}(ht:Am w0 a b c d vs t) (hl:Co w0 s ss Ls) (hT:Bp w0) :
  Calls Tryz.prog 56 #[.agg #[a,b,c,d],s] w0 fun e w' =>
   (cD t Ls≠0/\e=.returned (.tuple #[.pointer none,bE (cD t Ls)])/\Sat w0 w' []) \/
   (cD t Ls=0/\(∃ k,k<Ls.length/\(∀ i,i<k->fJ t (Ls.getD i []) []=0)/\fJ t (Ls.getD k []) []≠0/\e=.returned (.tuple #[.pointer none,bE (fJ t (Ls.getD k []) [])]))/\Sat w0 w' []) \/
   (cD t Ls=0/\eG t Ls=0/\Ls.length<=32/\(∀ i,i<Ls.length->fJ t (Ls.getD i []) []=0)/\∃ p Ds Cs,e=.returned (.tuple #[.pointer (some p),.nilIface])/\(Ls=[]->Cs=[])/\(Ls≠[]->Bh Ls.length (nN Ls.length (eB t Ls Ls.length)) Cs)/\Cs.length<=4096/\Ds.length=Ls.length/\(∀ i,i<Ls.length->As (aZ t (Ls.getD i [])) (qY t []) (AG t (Ls.getD i [])) (aL t.vars (Ls.getD i [])).toNat (Ds.getD i []))/\Sat w0 w' [Aj fun w=>BT w p t Ls Ds Cs]):=by
 have eF:=ht;obtain⟨ha,hb,hc,hd⟩:=ht;have mh:=hl.rs;have l6:=hl.len;have nO:=mh.bo;have hw:=Sat.start w0;refine bn (args:=[.agg #[a,b,c,d],s]) mixed Tryz.func56 ?_;refine db ?_;intro p w hw;obtain⟨pt,dO⟩:∃ pt,pt=p:=⟨p,rfl⟩
 subst dO;refine aJ rfl (qhm (eF.at hw) (hl.at hw) (hT.at hw)) ?_;rintro _ w' hR;rcases hR with ⟨hk,rfl,aj⟩|⟨hk,ux,rfl,aj⟩|⟨hk,hz,rfl,aj⟩|⟨hk,h0,ux,hF,rfl,aj⟩|⟨hk,h0,ux,fv,fs,Cs,rfl,uX,eN,uY,aj⟩
 ·have py:=qsJ hk
  replace hw:=hw.bz aj;refine⟨_,rfl,?_⟩;rw[py,ep hk];refine ab ?_;exact dz (v:=.pointer none) (v':=.iface 57 (.int .i64 (eG t Ls))) rfl rfl rfl (.inl ⟨hk,rfl,hw.aT⟩)
 ·have py:=qsK hk ux
  replace hw:=hw.bz aj;refine⟨_,rfl,?_⟩;rw[py];refine ab ?_;exact dz (v:=.pointer none) (v':=bE 5) rfl rfl rfl (.inl ⟨by decide,rfl,hw.aT⟩)
 ·have py:=qn6 hk hz
  have ux:Ls.length<=32:=by omega
  replace hw:=((hw.bz aj).nil (T:=al) (e:=22)).mF (T:=aa) (e:=3);clear aj;refine⟨_,rfl,?_⟩
  have hg:Af t:=(nZ t).1 (by
   by_cases h:bk t=0
   ·exact h
   ·exact absurd hk (by rw[eG,if_pos h];exact h))
  have ru:t.vars.length<=1099511627776:=by have:=hg.vars;omega
  refine ab ?_;refine aJ rfl (lx (ha.at hw) ru) ?_;rintro _ w' ⟨vv,rfl,aj⟩;refine aA ?_;clear aj hw;intro hw;have ovv:=(hw.rs 0 rfl).one;have ofv:=(hw.rs 2 rfl).one;refine ab ?_;refine wA (v1:=vv) (v2:=.slice none 0 0) rfl rfl rfl (by simp only[all_cons,all_nil,ovv,ofv];rfl) ?_;refine xP (vs:=[vv,.slice none 0 0,.slice none 0 0]) rfl hw ?_;clear hw;intro pp w hw;refine ab ?_;have bb:Sat w0 w [Aj (Bm t Ls [] []),OS al 149 (.slice none 0 0) [],Ad pp 148 [vv,.slice none 0 0,.slice none 0 0],OS aa 3 vv t.vars,Ab aa 3 [] [],OS al 22 (.slice none 0 0) [],Ad pt 26 [a,b,c,d]]:=by
   have ct:Sat w0 w [Ad pp 148 [vv,.slice none 0 0,.slice none 0 0],OS aa 3 vv t.vars,Ab aa 3 [] [],OS al 22 (.slice none 0 0) [],Ad pt 26 [a,b,c,d]]:=hw;have gX:=Sat.nX (φ:=Bm t Ls [] []) (fun w=>⟨rfl,fun i hi=>absurd hi (not_lt_zero _)⟩) (ct.nil (T:=al) (e:=149));exact gX.aT
  clear hw;refine cd [4,5,10,12,30,53] (G:=Nat × Value × List Value × List (List Int)) (fun x=>[(30,.int .i64 x.1)]) (fun x w=>x.1<=Ls.length/\x.2.2.1.length=x.1/\x.2.2.2.length=x.1/\(∀ i,i<x.1->fJ t (Ls.getD i []) []=0/\As (aZ t (Ls.getD i [])) (qY t []) (AG t (Ls.getD i [])) (aL t.vars (Ls.getD i [])).toNat (x.2.2.2.getD i []))/\Sat w0 w [Aj (Bm t Ls x.2.2.1 x.2.2.2),OS al 149 x.2.1 x.2.2.1,Ad pp 148 [vv,x.2.1,.slice none 0 0],OS aa 3 vv t.vars,Ab aa 3 [] [],OS al 22 (.slice none 0 0) [],Ad pt 26 [a,b,c,d]]) (fun x=>Ls.length-x.1) (0,.slice none 0 0,[],[]) (fun _=>rfl) ⟨rfl,trivial⟩ ⟨zero_le _,rfl,rfl,fun i hi=>absurd hi (not_lt_zero _),bb⟩ ?_;clear bb;rintro σ ⟨k,dv,qs,Ds⟩ w ⟨j7,jY,oO,hD,hw⟩;simp only at j7 jY oO hD hw;refine ab ?_;refine ai ?_ ?_<;>intro h1
  ·have aK:k<Ls.length:=by omega
   have uU:=hl.at_ k aK;refine ab ?_;refine aJ rfl (qfh (kv:=.slice none 0 0) (vp:=cU ss k) (L:=Ls.getD k []) (cs:=[]) (eF.at hw) (uU.at hw) RS.nil) ?_;rintro _ w' (⟨hb,rfl,aj⟩|⟨hb,hp,_,_,q,D,rfl,hDk,aj⟩)
   ·replace hw:=hw.bz aj
    clear aj;refine⟨_,rfl,?_⟩;rw[ep hb];refine ab ?_;exact dz (v:=.pointer none) (v':=.iface 57 (.int .i64 (fJ t (Ls.getD k []) []))) rfl rfl rfl (.inr (.inl ⟨py,⟨k,aK,fun i hi=>(hD i hi).1,hb,by rw[ep hb]⟩,hw.aT⟩))
   ·replace hw:=hw.jC aj
    clear aj;refine⟨_,rfl,?_⟩;have hqb:qs.length<=32:=by omega
    repeat (first|refine bV ?_|(refine nL ?_;clear hw;intro w hw)|(refine cB ?_;clear hw;intro s w hw))
    obtain⟨dv2,yZ⟩:∃ dv2,dv2=s:=⟨s,rfl⟩
    subst yZ;have bb:Sat w0 w [Cj q (kX t (Ls.getD k []) D),Aj (Bm t Ls qs Ds),OS al 149 dv2 (qs++[.pointer (some q)]),Ad pp 148 [vv,dv2,.slice none 0 0],OS aa 3 vv t.vars,Ab aa 3 [] [],OS al 22 (.slice none 0 0) [],Ad pt 26 [a,b,c,d]]:=hw.tail;have gX:=Sat.rd2 (χ:=Bm t Ls (qs++[.pointer (some q)]) (Ds++[D])) (fun w h1 h2=>h2.snoc (by rw[oO];exact h1)) (Sat.rd (Δ:=[Cj q (kX t (Ls.getD k []) D)]) (φ:=fun w=>CN w q (kX t (Ls.getD k []) D)) (fun _ _ h=>mT h 0 rfl) bb);refine⟨(k+1,dv2,qs++[.pointer (some q)],Ds++[D]),⟨rfl,trivial⟩,aH,⟨by omega,by simp[jY],by simp[oO],fun i hi=>?_,gX.aT⟩,by simp only;omega⟩;by_cases h:i=k
    ·subst h
     refine⟨hb,?_⟩;rw[show (Ds++[D]).getD i []=D by simp[List.getD,getElem?_append,oO]];exact hDk
    ·have:=hD i om
     rw[show (Ds++[D]).getD i []=Ds.getD i [] by simp[List.getD,getElem?_append,show i<Ds.length by omega]];exact this
  ·have cH:k=Ls.length:=by omega
   subst cH;refine ab ?_;have bb:Sat w0 w [Aj (Bm t Ls qs Ds),OS al 149 dv qs,Ad pp 148 [vv,dv,.slice none 0 0],OS aa 3 vv t.vars,Ab aa 3 [] [],OS al 22 (.slice none 0 0) []]:=hw.aT;have ct:=Sat.rd (Δ:=[Aj (Bm t Ls qs Ds),OS al 149 dv qs,Ad pp 148 [vv,dv,.slice none 0 0],OS aa 3 vv t.vars,Ab aa 3 [] [],OS al 22 (.slice none 0 0) []]) (Γ:=[]) (φ:=fun w=>BT w pp t Ls Ds []) (fun _ w h=>⟨vv,dv,.slice none 0 0,qs,[],h.mR 2 rfl,h.rs 3 rfl,h.rs 1 rfl,h.dM 0 rfl,h.rs 5 rfl,(h.focus 4 rfl).bw,fun i hi=>(h.focus 4 rfl).row hi⟩) bb;exact dz (v:=.pointer (some pp)) (v':=.nilIface) rfl rfl rfl (.inr (.inr ⟨py,hk,ux,fun i hi=>(hD i hi).1,pp,Ds,[],rfl,fun _=>rfl,fun h=>absurd (eq_nil_of_length_eq_zero hz) h,zero_le _,oO,fun i hi=>(hD i hi).2,ct⟩))
 ·have py:=qp0 hk h0 ux hF
  replace hw:=hw.bz aj;refine⟨_,rfl,?_⟩;rw[py];refine ab ?_;exact dz (v:=.pointer none) (v':=bE 10) rfl rfl rfl (.inl ⟨by decide,rfl,hw.aT⟩)
 ·have py:=qp1 hk ux eN uY
  refine lu ?_;clear aj hw;intro hw
  have hg:Af t:=(nZ t).1 (by
   by_cases h:bk t=0
   ·exact h
   ·exact absurd hk (by rw[eG,if_pos h];exact h))
  have ru:t.vars.length<=1099511627776:=by have:=hg.vars;omega
  refine ab ?_;refine aJ rfl (lx (ha.at hw) ru) ?_;rintro _ w' ⟨vv,rfl,aj⟩;refine aA ?_;clear aj hw;intro hw;have ovv:=(hw.rs 0 rfl).one;have ofv:=(hw.rs 2 rfl).one;refine ab ?_;refine wA (v1:=vv) (v2:=fv) rfl rfl rfl (by simp only[all_cons,all_nil,ovv,ofv];rfl) ?_;refine xP (vs:=[vv,.slice none 0 0,fv]) rfl hw ?_;clear hw;intro pp w hw;refine ab ?_;have bb:Sat w0 w [Aj (Bm t Ls [] []),OS al 149 (.slice none 0 0) [],Ad pp 148 [vv,.slice none 0 0,fv],OS aa 3 vv t.vars,Ab aa 3 fs Cs,OS al 22 fv fs,Ad pt 26 [a,b,c,d]]:=by
   have ct:Sat w0 w [Ad pp 148 [vv,.slice none 0 0,fv],OS aa 3 vv t.vars,Ab aa 3 fs Cs,OS al 22 fv fs,Ad pt 26 [a,b,c,d]]:=hw;have gX:=Sat.nX (φ:=Bm t Ls [] []) (fun w=>⟨rfl,fun i hi=>absurd hi (not_lt_zero _)⟩) (ct.nil (T:=al) (e:=149));exact gX.aT
  clear hw;refine cd [4,5,10,12,30,53] (G:=Nat × Value × List Value × List (List Int)) (fun x=>[(30,.int .i64 x.1)]) (fun x w=>x.1<=Ls.length/\x.2.2.1.length=x.1/\x.2.2.2.length=x.1/\(∀ i,i<x.1->fJ t (Ls.getD i []) []=0/\As (aZ t (Ls.getD i [])) (qY t []) (AG t (Ls.getD i [])) (aL t.vars (Ls.getD i [])).toNat (x.2.2.2.getD i []))/\Sat w0 w [Aj (Bm t Ls x.2.2.1 x.2.2.2),OS al 149 x.2.1 x.2.2.1,Ad pp 148 [vv,x.2.1,fv],OS aa 3 vv t.vars,Ab aa 3 fs Cs,OS al 22 fv fs,Ad pt 26 [a,b,c,d]]) (fun x=>Ls.length-x.1) (0,.slice none 0 0,[],[]) (fun _=>rfl) ⟨rfl,trivial⟩ ⟨zero_le _,rfl,rfl,fun i hi=>absurd hi (not_lt_zero _),bb⟩ ?_;clear bb;rintro σ ⟨k,dv,qs,Ds⟩ w ⟨j7,jY,oO,hD,hw⟩;simp only at j7 jY oO hD hw;refine ab ?_;refine ai ?_ ?_<;>intro h1
  ·have aK:k<Ls.length:=by omega
   have uU:=hl.at_ k aK;refine ab ?_;refine aJ rfl (qfh (kv:=.slice none 0 0) (vp:=cU ss k) (L:=Ls.getD k []) (cs:=[]) (eF.at hw) (uU.at hw) RS.nil) ?_;rintro _ w' (⟨hb,rfl,aj⟩|⟨hb,hp,_,_,q,D,rfl,hDk,aj⟩)
   ·replace hw:=hw.bz aj
    clear aj;refine⟨_,rfl,?_⟩;rw[ep hb];refine ab ?_;exact dz (v:=.pointer none) (v':=.iface 57 (.int .i64 (fJ t (Ls.getD k []) []))) rfl rfl rfl (.inr (.inl ⟨py,⟨k,aK,fun i hi=>(hD i hi).1,hb,by rw[ep hb]⟩,hw.aT⟩))
   ·replace hw:=hw.jC aj
    clear aj;refine⟨_,rfl,?_⟩;have hqb:qs.length<=32:=by omega
    repeat (first|refine bV ?_|(refine nL ?_;clear hw;intro w hw)|(refine cB ?_;clear hw;intro s w hw))
    obtain⟨dv2,yZ⟩:∃ dv2,dv2=s:=⟨s,rfl⟩
    subst yZ;have bb:Sat w0 w [Cj q (kX t (Ls.getD k []) D),Aj (Bm t Ls qs Ds),OS al 149 dv2 (qs++[.pointer (some q)]),Ad pp 148 [vv,dv2,fv],OS aa 3 vv t.vars,Ab aa 3 fs Cs,OS al 22 fv fs,Ad pt 26 [a,b,c,d]]:=hw.tail;have gX:=Sat.rd2 (χ:=Bm t Ls (qs++[.pointer (some q)]) (Ds++[D])) (fun w h1 h2=>h2.snoc (by rw[oO];exact h1)) (Sat.rd (Δ:=[Cj q (kX t (Ls.getD k []) D)]) (φ:=fun w=>CN w q (kX t (Ls.getD k []) D)) (fun _ _ h=>mT h 0 rfl) bb);refine⟨(k+1,dv2,qs++[.pointer (some q)],Ds++[D]),⟨rfl,trivial⟩,aH,⟨by omega,by simp[jY],by simp[oO],fun i hi=>?_,gX.aT⟩,by simp only;omega⟩;by_cases h:i=k
    ·subst h
     refine⟨hb,?_⟩;rw[show (Ds++[D]).getD i []=D by simp[List.getD,getElem?_append,oO]];exact hDk
    ·have:=hD i om
     rw[show (Ds++[D]).getD i []=Ds.getD i [] by simp[List.getD,getElem?_append,show i<Ds.length by omega]];exact this
  ·have cH:k=Ls.length:=by omega
   subst cH;refine ab ?_;have bb:Sat w0 w [Aj (Bm t Ls qs Ds),OS al 149 dv qs,Ad pp 148 [vv,dv,fv],OS aa 3 vv t.vars,Ab aa 3 fs Cs,OS al 22 fv fs]:=hw.aT;have ct:=Sat.rd (Δ:=[Aj (Bm t Ls qs Ds),OS al 149 dv qs,Ad pp 148 [vv,dv,fv],OS aa 3 vv t.vars,Ab aa 3 fs Cs,OS al 22 fv fs]) (Γ:=[]) (φ:=fun w=>BT w pp t Ls Ds Cs) (fun _ w h=>⟨vv,dv,fv,qs,fs,h.mR 2 rfl,h.rs 3 rfl,h.rs 1 rfl,h.dM 0 rfl,h.rs 5 rfl,(h.focus 4 rfl).bw,fun i hi=>(h.focus 4 rfl).row hi⟩) bb;exact dz (v:=.pointer (some pp)) (v':=.nilIface) rfl rfl rfl (.inr (.inr ⟨py,hk,ux,fun i hi=>(hD i hi).1,pp,Ds,Cs,rfl,fun h=>absurd (show Ls.length=0 by rw[h];rfl) om,fun _=>eN,uY,oO,fun i hi=>(hD i hi).2,ct⟩))
end Go.Proofs.YtmapkjoefdgjfaaGreatDoor
