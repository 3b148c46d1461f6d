/- Several texts. -/
import Derived.Test.YtmapkjoefdgjfaaGreatDoorMW16
set_option linter.unusedSimpArgs false
set_option linter.unusedVariables false
set_option maxRecDepth 8000
set_option maxHeartbeats 16000000
open List Nat
namespace Go.Proofs.YtmapkjoefdgjfaaGreatDoor
section
open Go.Sl Go
attribute [local irreducible] vc opsW opsD opV opW PureV ReadV Thn Blk
noncomputable def eG (t:Aa) (Ls:List (List Int)):Int:=if bk t≠0 then bk t else if ∀ i,i<Ls.length->AF t.vars (Ls.getD i []) then 0 else 2
theorem qoX {w0:World}{a b c d s:Value}{vs:List AK}{t:Aa}{ss:List Value}{Ls:List (List Int)}(ht:Am w0 a b c d vs t) (hl:Co w0 s ss Ls) :
  Calls Tryz.prog 106 #[.agg #[a,b,c,d],s] w0 fun e w'=>e=.returned (bE (eG t Ls))/\Sat w0 w' []:=by
 have eF:=ht;obtain⟨ha,hb,hc,hd⟩:=ht;have ir:=ha.bo;have mh:=hl.rs;have l6:=hl.len;have nO:=mh.bo;have hw:=Sat.start w0;refine bn (args:=[.agg #[a,b,c,d],s]) mixed Tryz.func106 ?_;refine db ?_;intro p w hw;obtain⟨pt,dO⟩:∃ pt,pt=p:=⟨p,rfl⟩
 subst dO;refine aJ rfl (sH (eF.at hw)) ?_;rintro _ w' ⟨rfl,aj⟩;refine aC ?_;clear aj hw;intro hw;by_cases hk:bk t=0
 ·rw[iy hk]
  refine ab ?_;refine cd [4,4,7,9,17,52] (G:=Nat) (fun k=>[(17,.int .i64 k)]) (fun k w=>k<=Ls.length/\(∀ i,i<k->AF t.vars (Ls.getD i []))/\Sat w0 w [Ad pt 26 [a,b,c,d]]) (fun k=>Ls.length-k) 0 (fun _=>rfl) ⟨rfl,trivial⟩ ⟨zero_le _,fun i hi=>absurd hi (not_lt_zero _),hw⟩ ?_;clear hw;rintro σ m w ⟨hm,bZ,hw⟩;refine ab ?_;refine ai ?_ ?_<;>intro h0
  ·have eT:m<Ls.length:=by omega
   have hp:=hl.at_ m eT;have zN:=hp.bo;obtain⟨L,hL⟩:∃ L,L=Ls.getD m []:=⟨_,rfl⟩
   rw[<-hL]at hp zN;refine ab ?_;refine cd [4,4,8,9,23,51] (G:=Nat) (fun k=>[(23,.int .i64 k)]) (fun k w=>k<=L.length/\(∀ i,i<k->(0<=L.getD i aa.dflt/\L.getD i aa.dflt<t.vars.length)/\(0<i->L.getD (i-1) aa.dflt<L.getD i aa.dflt))/\Sat w0 w [Ad pt 26 [a,b,c,d]]) (fun k=>L.length-k) 0 (fun _=>rfl) ⟨rfl,trivial⟩ ⟨zero_le _,fun i hi=>absurd hi (not_lt_zero _),hw⟩ ?_;clear hw;rintro σ1 k w ⟨j7,aN,hw⟩;refine ab ?_;refine ai ?_ ?_<;>intro h1
   ·have aK:k<L.length:=by omega
    have e1:((k:Int)-1).toNat=k-1:=by omega
    refine ab ?_;refine ai ?_ ?_<;>intro h2
    ·refine ab ?_
     refine aW (v:=bE 2) rfl (by rw[ep (by decide)];rfl) ⟨?_,hw.tail⟩;rw[eG,if_neg (by simp[hk]),if_neg];intro hpa;have nf:=hpa m eT;rw[<-hL]at nf;have h3:=nf k aK;rw[e1]at h2;rcases h2 with (h2|h2)|⟨h2,h4⟩
     ·omega
     ·omega
     ·have:=h3.2 om;omega
    ·rw[e1]at h2
     refine ab ?_;refine⟨k+1,⟨rfl,trivial⟩,aH,⟨by omega,fun i hi=>?_,hw⟩,by omega⟩;by_cases h:i=k
     ·subst h;exact⟨by omega,fun h0=>by omega⟩
     ·exact aN i om
   ·refine ab ?_
    refine⟨m+1,⟨rfl,trivial⟩,aH,⟨by omega,fun i hi=>?_,hw⟩,by omega⟩;by_cases h:i=m
    ·subst h;rw[<-hL];intro j hj;exact aN j om
    ·exact bZ i om
  ·refine ab ?_
   refine aW (v:=bE 0) rfl (by rw[iy rfl];rfl) ⟨?_,hw.tail⟩;rw[eG,if_neg (by simp[hk]),if_pos];intro i hi;exact bZ i om
 ·rw[ep hk]
  refine ab ?_;refine aW (v:=bE (bk t)) rfl (by rw[ep hk];rfl) ⟨?_,hw.tail⟩;rw[eG,if_pos hk]
theorem orP {P Q:Prop} [Decidable Q] {b:Bool}(h:b=true↔P):(b || decide Q)=true↔P\/Q:=by rw[Bool.or_eq_true,h,decide_eq_true_eq]
theorem yL {n:Nat}{p:Nat->Prop}:(∃ i,i<n+1/\p i)↔(∃ i,i<n/\p i)\/p n:=by
 constructor
 ·rintro⟨i,hi,h⟩
  by_cases e:i=n
  ·subst e;exact .inr h
  ·exact .inl ⟨i,by omega,h⟩
 ·rintro (⟨i,hi,h⟩|h)
  ·exact⟨i,by omega,h⟩
  ·exact⟨n,by omega,h⟩
theorem qut {t:Aa}{op:Nat}{p:List Int}:lY t op p↔∃ i,i<(t.ops.getD op aO).aw.length/\((t.ops.getD op aO).aw.getD i ba).var∈p:=by
 constructor
 ·rintro⟨e,he,hv⟩
  obtain⟨i,hi,rfl⟩:=mem_iff_getElem.1 he;exact⟨i,hi,by rw[getD_at hi];exact hv⟩
 ·rintro⟨i,hi,hv⟩
  exact⟨_,bY ba hi,hv⟩
theorem qjs {w0:World}{a b c d xa xb:Value}{vs:List AK}{t:Aa}{A B:List Int}(ht:Am w0 a b c d vs t) (hA:RS aa w0 xa A) (hB:RS aa w0 xb B) :
  Calls Tryz.prog 107 #[.agg #[a,b,c,d],xa,xb] w0 fun e w'=>(∃ r,e=.returned (.bool r)/\(r=true↔kn t A B))/\Sat w0 w' []:=by
 obtain⟨ha,hb,hc,hd⟩:=ht;have jx:=hd.rs;have jZ:=hd.len;have uE:=jx.bo;have hw:=Sat.start w0;refine bn (args:=[.agg #[a,b,c,d],xa,xb]) mixed Tryz.func107 ?_;refine db ?_;intro p w hw;obtain⟨pt,dO⟩:∃ pt,pt=p:=⟨p,rfl⟩
 subst dO;refine cd [6,6,8,10,12,12,16,46] (G:=Nat) (fun k=>[(16,.int .i64 k)]) (fun k w=>k<=t.ops.length/\(∀ op,op<k->¬(lY t op A/\lY t op B))/\Sat w0 w [Ad pt 26 [a,b,c,d]]) (fun k=>t.ops.length-k) 0 (fun _=>rfl) ⟨rfl,trivial⟩ ⟨zero_le _,fun i hi=>absurd hi (not_lt_zero _),hw⟩ ?_;clear hw;rintro σ k w ⟨hk,bZ,hw⟩;refine ab ?_;refine ai ?_ ?_<;>intro h1
 ·have aK:k<t.ops.length:=by omega
  have bW:=hd.at_ k aK;have hone:=bW.one;obtain⟨es,eE⟩:=bW.aw;have tI:=eE.rs;have tB:=eE.len;have wc:=tI.bo;refine db ?_;intro p w hw;obtain⟨pe,qZ⟩:∃ pe,pe=p:=⟨p,rfl⟩
  subst qZ;refine mB [9,10,12,12,23,41] (G:=Nat) (H:=Bool) (I:=Bool) (fun j x y=>[(23,.int .i64 j),(9,.bool x),(10,.bool y)]) (fun j x y w=>j<=es.length/\(x=true↔∃ i,i<j/\((t.ops.getD k aO).aw.getD i ba).var∈A)/\(y=true↔∃ i,i<j/\((t.ops.getD k aO).aw.getD i ba).var∈B)/\Sat w0 w [Ad pe 44 (bJ.enc (az bJ vs k)),Ad pt 26 [a,b,c,d]]) (fun j _ _=>es.length-j) 0 false false (fun _ _ _=>rfl) ⟨rfl,rfl,rfl,trivial⟩ ⟨zero_le _,dr (fun⟨i,hi,_⟩=>by omega),dr (fun⟨i,hi,_⟩=>by omega),hw⟩ ?_;clear hw;rintro σ1 j x y w ⟨hj,hx,hy,hw⟩;refine ab ?_;refine ai ?_ ?_<;>intro h2
  ·have cJ:j<(t.ops.getD k aO).aw.length:=by omega
   have hee:=eE.at_ j cJ;have heo:=hee.one;have nS:=hee.var;have hE:∀ X:List Int,(∃ i,i<j+1/\((t.ops.getD k aO).aw.getD i ba).var∈X)↔(∃ i,i<j/\((t.ops.getD k aO).aw.getD i ba).var∈X)\/(az aR es j).var∈X:=fun X=>by rw[nS];exact yL
   cases x<;>cases y
   ·refine db ?_;intro p w hw
    refine aJ rfl (su (v:=(az aR es j).var) (hA.at hw)) ?_;rintro _ w' ⟨rfl,aj⟩;refine aC ?_;clear aj hw;intro hw;refine ab ?_;refine aJ rfl (su (v:=(az aR es j).var) (hB.at hw)) ?_;rintro _ w' ⟨rfl,aj⟩;refine aC ?_;clear aj hw;intro hw;refine ab ?_;exact⟨j+1,_,_,⟨rfl,rfl,rfl,trivial⟩,aH,⟨by omega,(orP hx).trans (hE A).symm,(orP hy).trans (hE B).symm,hw.aT⟩,by omega⟩
   ·refine db ?_;intro p w hw
    refine aJ rfl (su (v:=(az aR es j).var) (hA.at hw)) ?_;rintro _ w' ⟨rfl,aj⟩;refine aC ?_;clear aj hw;intro hw;refine ab ?_;exact⟨j+1,_,true,⟨rfl,rfl,rfl,trivial⟩,aH,⟨by omega,(orP hx).trans (hE A).symm,fU ((hE B).2 (.inl (hy.1 rfl))),hw.aT⟩,by omega⟩
   ·refine db ?_;intro p w hw
    refine aJ rfl (su (v:=(az aR es j).var) (hB.at hw)) ?_;rintro _ w' ⟨rfl,aj⟩;refine aC ?_;clear aj hw;intro hw;refine ab ?_;exact⟨j+1,true,_,⟨rfl,rfl,rfl,trivial⟩,aH,⟨by omega,fU ((hE A).2 (.inl (hx.1 rfl))),(orP hy).trans (hE B).symm,hw.aT⟩,by omega⟩
   ·refine db ?_;intro p w hw
    exact⟨j+1,true,true,⟨rfl,rfl,rfl,trivial⟩,aH,⟨by omega,fU ((hE A).2 (.inl (hx.1 rfl))),fU ((hE B).2 (.inl (hy.1 rfl))),hw.aT⟩,by omega⟩
  ·have cJ:j=(t.ops.getD k aO).aw.length:=by omega
   subst cJ;have hxA:=hx.trans qut.symm;have hyB:=hy.trans qut.symm;have fE:¬(lY t k A/\lY t k B)->∀ op,op<k+1->¬(lY t op A/\lY t op B):=fun h op ho=>by
    by_cases e:op=k
    ·subst e;exact h
    ·exact bZ op om
   cases x<;>cases y
   ·refine ab ?_
    exact⟨k+1,⟨rfl,trivial⟩,aH,⟨by omega,fE fun h=>(by have:=hxA.2 h.1;cases this),hw.aT⟩,by omega⟩
   ·refine ab ?_
    exact⟨k+1,⟨rfl,trivial⟩,aH,⟨by omega,fE fun h=>(by have:=hxA.2 h.1;cases this),hw.aT⟩,by omega⟩
   ·refine ab ?_
    exact⟨k+1,⟨rfl,trivial⟩,aH,⟨by omega,fE fun h=>(by have:=hyB.2 h.2;cases this),hw.aT⟩,by omega⟩
   ·refine ab ?_
    exact aW (v:=.bool false) rfl rfl ⟨⟨false,rfl,dr fun h=>h k aK ⟨hxA.1 rfl,hyB.1 rfl⟩⟩,hw.aT⟩
 ·refine ab ?_
  exact aW (v:=.bool true) rfl rfl ⟨⟨true,rfl,fU fun op ho=>bZ op om⟩,hw.aT⟩
end
section
open Go.Sl Go
open Classical in
noncomputable def iA (t:Aa) (Ls:List (List Int)) (i:Nat):Nat->List Bl
 | 0=>[]
 | k+1=>iA t Ls i k++if kn t (Ls.getD i []) (Ls.getD k []) then [⟨(k:Int),(i:Int),1⟩] else []
noncomputable def eB (t:Aa) (Ls:List (List Int)):Nat->List Bl
 | 0=>[]
 | i+1=>eB t Ls i++iA t Ls i i
theorem qqF {t:Aa}{Ls:List (List Int)}{i:Nat}:eB t Ls i++iA t Ls i i=eB t Ls (i+1):=rfl
theorem qlI {t:Aa}{Ls:List (List Int)}{i k:Nat}(h:kn t (Ls.getD i []) (Ls.getD k [])):iA t Ls i (k+1)=iA t Ls i k++[⟨(k:Int),(i:Int),1⟩]:=by rw[iA,if_pos h]
theorem qi3 {t:Aa}{Ls:List (List Int)}{i k:Nat}(h:¬kn t (Ls.getD i []) (Ls.getD k [])):iA t Ls i (k+1)=iA t Ls i k:=by rw[iA,if_neg h,append_nil]
theorem qi4 {t:Aa}{Ls:List (List Int)}{i:Nat}{a:Bl}:∀ {k:Nat},a∈iA t Ls i k↔∃ j,j<k/\kn t (Ls.getD i []) (Ls.getD j [])/\a=⟨(j:Int),(i:Int),1⟩
 | 0=>by simp[iA]
 | k+1=>by
  by_cases h:kn t (Ls.getD i []) (Ls.getD k [])
  ·rw[qlI h,mem_append,qi4,mem_singleton]
   constructor
   ·rintro (⟨j,hj,hh⟩|e)
    ·exact⟨j,by omega,hh⟩
    ·exact⟨k,by omega,h,e⟩
   ·rintro⟨j,hj,hh,e⟩
    by_cases nT:j=k
    ·subst nT;exact .inr e
    ·exact .inl ⟨j,by omega,hh,e⟩
  ·rw[qi3 h,qi4]
   constructor
   ·rintro⟨j,hj,hh⟩
    exact⟨j,by omega,hh⟩
   ·rintro⟨j,hj,hh,e⟩
    by_cases nT:j=k
    ·subst nT;exact absurd hh h
    ·exact⟨j,by omega,hh,e⟩
theorem qi5 {t:Aa}{Ls:List (List Int)}{i:Nat}:∀ k,(iA t Ls i k).length<=k
 | 0=>by simp[iA]
 | k+1=>by
  have:=qi5 (t:=t) (Ls:=Ls) (i:=i) k;by_cases h:kn t (Ls.getD i []) (Ls.getD k [])
  ·rw[qlI h,length_append,length_singleton];omega
  ·rw[qi3 h];omega
theorem qeB {t:Aa}{Ls:List (List Int)}{a:Bl}:∀ {n:Nat},a∈eB t Ls n↔∃ i j,i<n/\j<i/\kn t (Ls.getD i []) (Ls.getD j [])/\a=⟨(j:Int),(i:Int),1⟩
 | 0=>by simp[eB]
 | n+1=>by
  rw[eB,mem_append,qeB,qi4];constructor
  ·rintro (⟨i,j,hi,hh⟩|⟨j,hj,hh⟩)
   ·exact⟨i,j,by omega,hh⟩
   ·exact⟨n,j,by omega,hj,hh⟩
  ·rintro⟨i,j,hi,hj,hh⟩
   by_cases e:i=n
   ·subst e;exact .inr ⟨j,hj,hh⟩
   ·exact .inl ⟨i,j,by omega,hj,hh⟩
theorem qi6 {t:Aa}{Ls:List (List Int)}:∀ n,n<=32->(eB t Ls n).length<=n*32
 | 0,_=>by simp[eB]
 | n+1,hn=>by
  have h1:=qi6 (t:=t) (Ls:=Ls) n om;have h2:=qi5 (t:=t) (Ls:=Ls) (i:=n) n;rw[eB,length_append];omega
theorem qlJ {t:Aa}{Ls:List (List Int)}{n:Nat}:∀ a∈eB t Ls n,dE n a:=fun a ha=>by
 obtain⟨i,j,hi,hj,_,rfl⟩:=qeB.1 ha;unfold dE;simp only;omega
theorem qok {t:Aa}{Ls:List (List Int)}{n:Nat}(hn:n<=32):bu n (eB t Ls n)=0:=by
 have:=qi6 (t:=t) (Ls:=Ls) n hn;exact qfw om om fun i hi=>qlJ _ (bY aU.dflt hi)
theorem qs9 {t:Aa}{Ls:List (List Int)}{n u v:Nat}(hu:u<n) (hv:v<n):BE (eB t Ls n) u v↔u≠v/\kn t (Ls.getD u []) (Ls.getD v []):=by
 constructor
 ·rintro⟨cY,a,ha,hh⟩
  obtain⟨i,j,hi,hj,ga,rfl⟩:=qeB.1 ha;refine⟨cY,?_⟩;simp only at hh;rcases hh with ⟨h1,h2⟩|⟨h1,h2⟩
  ·obtain rfl:j=u:=by omega
   obtain rfl:i=v:=by omega
   exact qkm ga
  ·obtain rfl:j=v:=by omega
   obtain rfl:i=u:=by omega
   exact ga
 ·rintro⟨cY,ga⟩
  refine⟨cY,?_⟩;rcases Nat.lt_or_gt_of_ne cY with h|h
  ·exact⟨⟨(u:Int),(v:Int),1⟩,qeB.2 ⟨v,u,hv,h,qkm ga,rfl⟩,.inl ⟨rfl,rfl⟩⟩
  ·exact⟨⟨(v:Int),(u:Int),1⟩,qeB.2 ⟨u,v,hu,h,ga,rfl⟩,.inr ⟨rfl,rfl⟩⟩
end
section
open Go.Sl Go
attribute [local irreducible] vc opsW opsD opV opW PureV ReadV Thn Blk
theorem qmi {w0:World}{n:Int}{a:Value}{arcs:List Bl}(ha:RS aU w0 a arcs) :
  Calls Tryz.prog 138 #[.int .i64 n,a] w0 fun e w'=>e=.returned (bE (bu n arcs))/\Sat w0 w' []:=by
 have ir:=ha.bo;have hw:=Sat.start w0;refine bn (args:=[.int .i64 n,a]) mixed Tryz.func138 ?_;refine ab ?_;refine ai ?_ ?_<;>intro h0
 ·refine ab ?_
  refine aW (v:=.iface 57 (.int .i64 1)) rfl rfl ⟨?_,hw⟩;rw[qjh h0];rfl
 ·refine ab ?_
  refine ai ?_ ?_<;>intro h1
  ·refine ab ?_
   refine aW (v:=.iface 57 (.int .i64 5)) rfl rfl ⟨?_,hw⟩;rw[qgT h0 om];rfl
  ·refine ab ?_
   refine cd [4,4,6,6,22,57] (G:=Nat) (fun k=>[(22,.int .i64 k)]) (fun k w=>k<=arcs.length/\(∀ i,i<k->dE n (arcs.getD i aU.dflt))/\Sat w0 w []) (fun k=>arcs.length-k) 0 (fun _=>rfl) ⟨rfl,trivial⟩ ⟨zero_le _,fun i hi=>absurd hi (not_lt_zero _),hw⟩ ?_;clear hw;rintro σ k w ⟨hk,aN,hw⟩;refine ab ?_;refine ai ?_ ?_<;>intro h2
   ·refine db ?_;intro p w hw
    refine ai ?_ ?_<;>intro h3
    ·refine ab ?_
     refine aW (v:=.iface 57 (.int .i64 1)) rfl rfl ⟨?_,hw.tail⟩;rw[qji h0 om (k:=k) om (by unfold dE;omega)];rfl
    ·refine ab ?_
     refine⟨k+1,⟨rfl,trivial⟩,aH,⟨by omega,fun i hi=>?_,hw.tail⟩,by omega⟩;by_cases h:i=k
     ·subst h;unfold dE;omega
     ·exact aN i om
   ·refine ab ?_
    refine aW (v:=.nilIface) rfl rfl ⟨?_,hw⟩;rw[qfw h0 om (fun i hi=>aN i om)];rfl
theorem qs5 {R k:Nat}:decide (((R / 2 ^ k &&& 1:Nat):Int)=1)=R.testBit k:=by
 rw[testBit_eq_decide_div_mod_eq,and_one_is_mod];exact decide_eq_decide.2 om
theorem uW {n a:Nat}(hn:n<=32) (h:∀ v,ib a v->v<n):a<18446744073709551616:=by
 have h1:=qfa h;have h2:2 ^ n<=2 ^ 32:=Nat.pow_le_pow_right (by decide) hn;omega
theorem find_spec {w0:World}{pf:Addr}{nv:Value}{near:List Nat}(hn:near.length<=32) (hG:Gr near.length (fun u=>near.getD u bT.dflt)) (hT:Bp w0):∀ (P R X:Nat) {w:World}{fv:Value}{fs:List Value}{Fs:List (List Int)},BI near.length (fun u=>near.getD u bT.dflt) R P X->Fs.length<=4096->Sat w0 w [OS al 22 fv fs,Ab aa 3 fs Fs,Ad pf 230 [nv,fv],OS bT 220 nv near] ->
  Calls Tryz.prog 139 #[.pointer (some pf),u64 R,u64 P,u64 X] w fun e w'=>∃ r M fv' fs',e=.returned (.bool r)/\Bd near.length (fun u=>near.getD u bT.dflt) R P Fs.length r M/\Sat w0 w' [OS al 22 fv' fs',Ab aa 3 fs' (Fs++M.map fun C=>cn C near.length),Ad pf 230 [nv,fv'],OS bT 220 nv near]:=by
 intro P
 induction P using Nat.strongRecOn with
 | _ P ih =>
 intro R X w fv fs Fs hB hl hw;have ot:=(hw.focus 1 rfl).bw;have hRl:=uW hn hB.rb;have zn:=uW hn hB.pb;have hXl:=uW hn hB.xb;have hPX:P ||| X<18446744073709551616:=by have:=or_lt_two_pow (n:=64) zn hXl;omega
 have sa:∀ u,near.getD u bT.dflt<18446744073709551616:=fun u=>uW hn (hG.bd u);refine bn (args:=[.pointer (some pf),u64 R,u64 P,u64 X]) mixed Tryz.func139 ?_;refine me ?_;refine eD rfl (qe0 (a:=P) (b:=X) rfl rfl zn hXl) ?_;refine me ?_;by_cases h0:P ||| X=0
 ·have o9:decide (((P ||| X:Nat):Int)=0)=true:=decide_eq_true om
  simp only[o9];refine ab ?_;have bb:=hw.nil (T:=aa) (e:=3);clear hw;refine dj [9,10,27,39] (G:=Nat) (H:=Value) (fun k lv=>[(27,.int .i64 k),(9,lv)]) (fun k lv w=>k<=near.length/\Sat w0 w [OS aa 3 lv (cn R k),OS al 22 fv fs,Ab aa 3 fs Fs,Ad pf 230 [nv,fv],OS bT 220 nv near]) (fun k _=>near.length-k) 0 (.slice none 0 0) (fun _ _=>rfl) ⟨rfl,rfl,trivial⟩ ⟨zero_le _,bb⟩ ?_;clear bb;rintro σ k lv w ⟨hk,hw⟩;refine ab ?_;refine ai ?_ ?_<;>intro h1
  ·have aK:k<near.length:=by omega
   have iH:=qkM R k;refine ab ?_;refine eD rfl (qiS (a:=R) (b:=k) (k:=.i64) rfl rfl om) ?_;refine eD rfl (vR (a:=R / 2 ^ k) (b:=1) rfl rfl (Nat.lt_of_le_of_lt (div_le_self _ _) hRl) (by decide)) ?_;refine me ?_;simp only[qs5];by_cases hb:ib R k
   ·simp only[show R.testBit k=true from hb]
    repeat (first|refine bV ?_|(refine cB ?_;clear hw;intro s w hw))
    rw[<-qmT hb]at hw;exact⟨k+1,s,⟨rfl,rfl,trivial⟩,aH,⟨by omega,hw.aT⟩,by omega⟩
   ·simp only[Bool.eq_false_iff.2 hb]
    refine ab ?_;rw[<-qj4 hb]at hw;exact⟨k+1,_,⟨rfl,rfl,trivial⟩,aH,⟨by omega,hw⟩,by omega⟩
  have cH:k=near.length:=by omega
  subst cH;have hP0:P=0:=qkP fun v hv=>qC h0 v (qkO.2 (.inl hv));have zQ:X=0:=qkP fun v hv=>qC h0 v (qkO.2 (.inr hv))
  repeat (first|refine bV ?_|(refine nL ?_;clear hw;intro w hw)|(refine cB ?_;clear hw;intro s w hw))
  obtain⟨fv2,nq⟩:∃ fv2,fv2=s:=⟨s,rfl⟩
  subst nq;have ct:Sat w0 w [OS aa 3 lv (cn R near.length),Ab aa 3 fs Fs,OS al 22 fv2 (fs++[lv]),Ad pf 230 [nv,fv2],OS bT 220 nv near]:=by
   have bb:Sat w0 w [OS aa 3 lv (cn R near.length),OS al 22 fv2 (fs++[lv]),Ab aa 3 fs Fs,Ad pf 230 [nv,fv2],OS bT 220 nv near]:=hw.tail;exact bb.aT
  have gX:=ct.gH;have yq:Sat w0 w [OS al 22 fv2 (fs++[lv]),Ab aa 3 (fs++[lv]) (Fs++[cn R near.length]),Ad pf 230 [nv,fv2],OS bT 220 nv near]:=gX.aT;refine aW (v:=.bool (decide (((fs++[lv]).length:Int)<=4096))) rfl rfl ⟨_,[R],fv2,fs++[lv],?_,Bd.base hB hP0 zQ hl,yq⟩;congr 2;exact decide_eq_decide.2 (by simp only[length_append,length_cons,length_nil];omega)
 have o9:decide (((P ||| X:Nat):Int)=0)=false:=decide_eq_false om;simp only[o9];refine ab ?_;refine eD rfl (qe0 (a:=P) (b:=X) rfl rfl zn hXl) ?_;refine me ?_;refine cd [11,15,59,81] (G:=Nat × Nat × Int) (fun y=>[(13,u64 y.1),(11,.int .i64 (y.2.1:Int)),(12,.int .i64 y.2.2)]) (fun y w=>y.1<18446744073709551616/\(∀ v,ib y.1 v->ib P v\/ib X v)/\((y.2.2 = -1/\y.1=P ||| X)\/(0<=y.2.2/\y.2.2<=127/\(ib P y.2.1\/ib X y.2.1)))/\Sat w0 w [OS al 22 fv fs,Ab aa 3 fs Fs,Ad pf 230 [nv,fv],OS bT 220 nv near]) (fun y=>y.1) (P ||| X,0,-1) (fun _=>rfl) ⟨rfl,rfl,rfl,trivial⟩ ⟨hPX,fun v hv=>qkO.1 hv,.inl ⟨rfl,rfl⟩,hw⟩ ?_;clear hw;rintro σ ⟨x,piv,best⟩ w ⟨hx,kM,uI,hw⟩;simp only at hx kM uI hw;refine me ?_;by_cases mC:x=0;rotate_left
 ·have ee:decide ((x:Int)=0)=false:=decide_eq_false om
  simp only[ee,Bool.not_false];obtain⟨v,hv⟩:=qhF mC;have qxf:=kM v hv.1;have hvn:v<near.length:=by
   rcases qxf with h|h
   ·exact hB.pb v h
   ·exact hB.xb v h
  refine ab ?_;refine aJ rfl (ra hw hT hx hv) ?_;rintro _ w' ⟨rfl,rfl⟩;refine⟨_,rfl,?_⟩;refine me ?_;refine eD rfl (vR (a:=P) (b:=near.getD v bT.dflt) rfl rfl zn (sa v)) ?_;refine aJ rfl (qrR (Nat.lt_of_le_of_lt and_le_left zn)) ?_;rintro _ w' ⟨⟨kk,rfl,jb,j7⟩,rfl⟩;refine⟨_,rfl,?_⟩;refine me ?_;have bD:=qmQ mC;have cu:=fun u=>qj1 hv u;refine ai ?_ ?_<;>intro h2
  ·refine ab ?_
   refine eD rfl (qfQ (a:=x) (b:=1) rfl rfl om hx) ?_;refine eD rfl (vR (a:=x) (b:=x-1) rfl rfl hx om) ?_;refine ab ?_;exact⟨(x &&& (x-1),v,kk),⟨rfl,rfl,rfl,trivial⟩,aH,⟨by simp only;omega,fun u hu=>kM u ((cu u).1 hu).1,.inr ⟨jb,j7,qxf⟩,hw⟩,bD⟩
  ·refine ab ?_
   refine eD rfl (qfQ (a:=x) (b:=1) rfl rfl om hx) ?_;refine eD rfl (vR (a:=x) (b:=x-1) rfl rfl hx om) ?_;refine ab ?_;refine⟨(x &&& (x-1),piv,best),⟨rfl,rfl,rfl,trivial⟩,aH,⟨by simp only;omega,fun u hu=>kM u ((cu u).1 hu).1,?_,hw⟩,bD⟩;rcases uI with ⟨e1,_⟩|uI
   ·exfalso;omega
   ·exact .inr uI
 have ee:decide ((x:Int)=0)=true:=decide_eq_true om;have hpv:ib P piv\/ib X piv:=by
  rcases uI with ⟨_,e2⟩|uI
  ·exact absurd (e2.symm.trans mC) h0
  ·exact uI.2.2
 have hpn:piv<near.length:=by
  rcases hpv with h|h
  ·exact hB.pb _ h
  ·exact hB.xb _ h
 simp only[ee,Bool.not_true];refine ab ?_;refine eD rfl (qgA (a:=P) (b:=near.getD piv bT.dflt) rfl rfl zn (sa piv)) ?_;refine ab ?_;have hF0:FI near.length (fun u=>near.getD u bT.dflt) R P Fs.length (P &&& mq (near.getD piv bT.dflt)) P X []:=FI.start hG hB hpv (fun v=>qux zn (sa piv)) hl;have bb:Sat w0 w [OS al 22 fv fs,Ab aa 3 fs (Fs++([]:List Nat).map fun C=>cn C near.length),Ad pf 230 [nv,fv],OS bT 220 nv near]:=by
  rw[map_nil,append_nil];exact hw
 clear hw;refine cd [2,3,8,8,16,17,91,131] (G:=Nat × Nat × Nat × List Nat × Value × List Value) (fun y=>[(16,u64 y.1),(2,u64 y.2.1),(3,u64 y.2.2.1)]) (fun y w=>FI near.length (fun u=>near.getD u bT.dflt) R P Fs.length y.1 y.2.1 y.2.2.1 y.2.2.2.1/\Sat w0 w [OS al 22 y.2.2.2.2.1 y.2.2.2.2.2,Ab aa 3 y.2.2.2.2.2 (Fs++y.2.2.2.1.map fun C=>cn C near.length),Ad pf 230 [nv,y.2.2.2.2.1],OS bT 220 nv near]) (fun y=>y.1) (P &&& mq (near.getD piv bT.dflt),P,X,[],fv,fs) (fun _=>rfl) ⟨rfl,rfl,rfl,trivial⟩ ⟨hF0,bb⟩ ?_;clear bb hx kM uI mC ee;rintro σ1 ⟨q,pp,xx,M,fv,fs⟩ w ⟨hF,hw⟩;simp only at hF hw;have jY:=uW hn fun v hv=>hF.bi.pb v (hF.qp v hv);have iP:=uW hn hF.bi.pb;have ku:=uW hn hF.bi.xb;refine me ?_;by_cases hq0:q=0
 ·have ee:decide ((q:Int)=0)=true:=decide_eq_true om
  simp only[ee,Bool.not_true];refine ab ?_;exact aW (v:=.bool true) rfl rfl ⟨true,M,fv,fs,rfl,hF.done hq0,hw⟩
 have ee:decide ((q:Int)=0)=false:=decide_eq_false om;simp only[ee,Bool.not_false];obtain⟨v,hv⟩:=qhF hq0;have hvp:=hF.qp v hv.1;have hvn:=hF.bi.pb v hvp;refine ab ?_;refine aJ rfl (ra hw hT jY hv) ?_;rintro _ w' ⟨rfl,rfl⟩;refine⟨_,rfl,?_⟩;have h2v:2 ^ v<18446744073709551616:=uW hn fun u hu=>by rw[qnE.1 hu];exact hvn
 have h1v:1*2 ^ v % 18446744073709551616=2 ^ v:=by rw[Nat.one_mul,mod_eq_of_lt h2v]
 have sA:¬ib (near.getD v bT.dflt) v:=hG.irr v;have hR1:∀ u,ib (R ||| 2 ^ v) u↔ib R u\/u=v:=fun u=>by rw[qkO,qnE]
 have hP1:∀ u,ib (pp &&& near.getD v bT.dflt) u↔ib pp u/\ib (near.getD v bT.dflt) u:=fun u=>qnD;have hX1:∀ u,ib (xx &&& near.getD v bT.dflt) u↔ib xx u/\ib (near.getD v bT.dflt) u:=fun u=>qnD;have eT:(Fs++M.map fun C=>cn C near.length).length=Fs.length+M.length:=by simp
 refine ab ?_;refine fP (pl [0,1,2,3,4,5,6,7,8,9,10,11,12,13,14,15,16,17,18,19,20,21,22,23,24] []) hw kr ?_;clear hw;intro w hw;refine ab ?_;refine eD rfl (qdz (a:=1) (b:=v) (k:=.i64) rfl rfl om) ?_;rw[h1v];refine ab ?_;refine eD rfl (qe0 (a:=R) (b:=2 ^ v) rfl rfl hRl h2v) ?_;refine ab ?_;refine eD rfl (vR (a:=pp) (b:=near.getD v bT.dflt) rfl rfl iP (sa v)) ?_;refine ab ?_;refine eD rfl (vR (a:=xx) (b:=near.getD v bT.dflt) rfl rfl ku (sa v)) ?_;refine ab ?_;refine aJ rfl (ih (pp &&& near.getD v bT.dflt) (Nat.lt_of_lt_of_le (qwh hvp sA) hF.ple) (R ||| 2 ^ v) (xx &&& near.getD v bT.dflt) (hF.bi.child hG hvp hR1 hP1 hX1) (by rw[eT];exact hF.le) hw) ?_;clear hw;rintro _ w ⟨r,M1,fv2,fs2,rfl,hf,hw⟩;rw[eT]at hf;rw[append_assoc,<-map_append]at hw;refine⟨_,rfl,?_⟩;cases r
 ·refine ab ?_
  exact aW (v:=.bool false) rfl rfl ⟨false,M++M1,fv2,fs2,rfl,hF.fail hG hv.1 hR1 hP1 hf,hw⟩
 refine ab ?_;refine eD rfl (qdz (a:=1) (b:=v) (k:=.i64) rfl rfl om) ?_;rw[h1v];refine eD rfl (qgA (a:=pp) (b:=2 ^ v) rfl rfl iP h2v) ?_;refine ab ?_;refine eD rfl (qdz (a:=1) (b:=v) (k:=.i64) rfl rfl om) ?_;rw[h1v];refine eD rfl (qe0 (a:=xx) (b:=2 ^ v) rfl rfl ku h2v) ?_;refine ab ?_;refine eD rfl (qfQ (a:=q) (b:=1) rfl rfl om jY) ?_;refine eD rfl (vR (a:=q) (b:=q-1) rfl rfl jY om) ?_;refine ab ?_;exact⟨(q &&& (q-1),pp &&& mq (2 ^ v),xx ||| 2 ^ v,M++M1,fv2,fs2),⟨rfl,rfl,rfl,trivial⟩,aH,⟨hF.step hG hv.1 hR1 hP1 hf (fun u=>by rw[qux iP h2v,qnE]) (fun u=>by rw[qkO,qnE]) (fun u=>qj1 hv u) and_le_left,hw⟩,qmQ hq0⟩
end
section
open Go.Sl Go Go.Shelf Go.Sort
attribute [local irreducible] vc opsW opsD opV opW PureV ReadV Thn Blk
theorem quJ {m:Nat}(F:Nat->List Int):SWO (ltOf fun (i j:Fin m)=>dB (F i.1) (F j.1)) where
 irrefl x:=by simp[ltOf,qkN]
 trans x y z h1 h2:=by
  simp only[ltOf,decide_eq_true_eq]at h1 h2 ⊢;exact qfc h1 h2
 ntrans x y z h1 h2:=by
  simp only[ltOf,decide_eq_false_iff_not]at h1 h2 ⊢;intro h3;by_cases e:dB (F x.1) (F y.1)=0
  ·rw[qgY e]at h3;exact h2 h3
  ·have h4:dB (F y.1) (F x.1)<0:=by have:=qgX (F x.1) (F y.1);omega
   exact h2 (qfc h4 h3)
theorem qpc {α:Type}{L:List α}(h:L.Nodup) {i j:Nat}(hi:i<L.length) (hj:j<L.length) (e:L[i]=L[j]):i=j:=by
 rcases Nat.lt_trichotomy i j with h1|h1|h1
 ·exact absurd e (pairwise_iff_getElem.1 h i j hi hj h1)
 ·exact h1
 ·exact absurd e.symm (pairwise_iff_getElem.1 h j i hj hi h1)
theorem qoG {w0 w:World}{Γ:List HP}{fv:Value}{fs:List Value}{Fs:List (List Int)}(hw:Sat w0 w (OS al 22 fv fs::Ab aa 3 fs Fs::Γ)) (hd:Fs.Nodup) (h0:0<Fs.length) (hn:Fs.length<=8192) :
  Calls Tryz.prog 140 #[fv,.func (.func 141) #[] #[]] w fun e w'=>e=.returned (.tuple #[])/\∃ is:List Nat,is.Perm (List.range Fs.length)/\Di (is.map fun i=>Fs.getD i []) /\
   Sat w0 w' (OS al 22 fv (is.map (cU fs))::Ab aa 3 (is.map (cU fs)) (is.map fun i=>Fs.getD i [])::Γ):=by
 have ot:fs.length=Fs.length:=(hw.focus 1 rfl).bw;obtain⟨m,hm⟩:∃ m,m=Fs.length:=⟨_,rfl⟩
 haveI:Inhabited (Fin m):=⟨⟨0,by omega⟩⟩
 let enc:Fin m->Value:=fun i=>cU fs i.1
 have hone:∀ x:Fin m,(enc x).oneCell'=true:=fun x=>((hw.focus 1 rfl).row (i:=x.1) (by have:=x.2;omega)).one;have hfs:(finRange m).map enc=fs:=by
  apply ext_getElem (by simp;omega);intro i h1 h2;simp only[getElem_map,enc,ng];simp[List.getD,h2]
 have bb:Sat w0 w (OS al 22 fv ((finRange m).map enc)::Ab aa 3 fs Fs::Γ):=by rw[hfs];exact hw
 rcases bb.yd enc with ⟨_,ew⟩|⟨b,off,cap,rfl,hc,hb,hH,cO⟩
 ·have:=congrArg List.length ew
  simp at this;omega
 have eM:(finRange m).toArray.size=m:=by simp
 have yf:CmpLays1 Tryz.prog 141 #[] enc (fun i j=>dB (Fs.getD i.1 []) (Fs.getD j.1 [])) b off (finRange m).toArray.size w:=by
  intro q os dk hs x y;have h1:=(cO dk.toList (by simp at hs ⊢;exact hs) q).grow os;have e1:dk.toList.toArray=dk:=by simp
  rw[e1]at h1;refine(qkY ((h1.focus 1 rfl).row (i:=x.1) (by have:=x.2;omega)) ((h1.focus 1 rfl).row (i:=y.1) (by have:=y.2;omega))).mono ?_;rintro e w' ⟨he,rfl⟩;exact⟨he,0,#[],by rw[World.drewN_zero,grow_empty];rfl⟩
 have hS:=Any.slices_SortFunc qyd enc hone (fun i j=>dB (Fs.getD i.1 []) (Fs.getD j.1 [])) (quJ fun i=>Fs.getD i []) 141 #[] b off cap (finRange m).toArray w (fun args w=>Ae.run inferInstance args w) yf hH hb (by rw[eM];omega);have e0:(finRange m).length=(finRange m).toArray.size:=by simp
 rw[e0];refine hS.mono ?_;rintro e w' ⟨he,d',q,os,hp,hs,rfl⟩;obtain⟨p1,_,p3⟩:=hp;rw[eM]at p1 hs p3;have p4:d'.toList.Perm (finRange m):=by
  have q1:d'.extract 0 m=d':=by
   have:=Array.extract_size (xs:=d')
   rwa[p1]at this
  have q2:(finRange m).toArray.extract 0 m=(finRange m).toArray:=by
   have:=Array.extract_size (xs:=(finRange m).toArray)
   rwa[eM]at this
  rw[q1,q2]at p3
  simpa using p3
 refine⟨he,d'.toList.map (·.1),?_,?_,?_⟩
 ·have h1:=p4.map (fun i:Fin m=>i.1)
  have h2:(finRange m).map (fun i:Fin m=>i.1)=List.range m:=by
   apply ext_getElem (by simp);intro i h1 h2;simp
  rw[h2]at h1;rw[<-hm];exact h1
 ·have fe:d'.toList.Nodup:=p4.nodup_iff.2 (nodup_finRange m)
  rw[map_map];refine pairwise_map.2 ?_;rw[pairwise_iff_getElem];intro i j hi hj ie;simp only[Array.length_toList]at hi hj;have h1:=hs i j (zero_le _) ie om;rw[getElem!_pos d' j hj,getElem!_pos d' i hi]at h1;simp only[ltOf,decide_eq_false_iff_not]at h1;have cY:d'[i]≠d'[j]:=fun e=>by
   have:=pairwise_iff_getElem.1 fe i j (by simpa using hi) (by simpa using hj) ie;simp only[Array.getElem_toList]at this;exact this e
  simp only[Function.comp,Array.getElem_toList];have hsw:=qgX (Fs.getD d'[i].1 []) (Fs.getD d'[j].1 []);have hnz:dB (Fs.getD d'[i].1 []) (Fs.getD d'[j].1 [])≠0:=fun e=>by
   have e2:=qgY e;have b1:=d'[i].2;have b2:=d'[j].2;rw[getD_eq_getElem?_getD,getD_eq_getElem?_getD,getElem?_eq_getElem om,getElem?_eq_getElem om]at e2;simp only[Option.getD_some]at e2;exact cY (Fin.ext (qpc hd om om e2))
  omega
 ·have h1:=(cO d'.toList (by simp[p1]) q).grow os
  have e1:d'.toList.toArray=d':=by simp
  rw[e1]at h1;have h2:Sat w0 (grow (putRow enc (Sort.ahead w q) b off d') os) (Ab aa 3 fs Fs::OS al 22 (.slice (some ⟨b,off,none⟩) (finRange m).toArray.size cap) (d'.toList.map enc)::Γ):=by
   rw[<-e0];exact h1.swap
  have h3:=h2.sM (is:=d'.toList.map (·.1)) (by
   have h1:=p4.map (fun i:Fin m=>i.1);have h2:(finRange m).map (fun i:Fin m=>i.1)=List.range m:=by
    apply ext_getElem (by simp);intro i h1 h2;simp
   rw[h2]at h1;rw[<-hm]
   exact h1)
  have e3:d'.toList.map enc=(d'.toList.map (·.1)).map (cU fs):=by rw[map_map];rfl
  rw[e3]at h3;exact h3.swap
end
section
open Go.Sl Go
attribute [local irreducible] vc opsW opsD opV opW PureV ReadV Thn Blk
theorem qih (n v:Nat):ib (2 ^ n-1) v↔v<n:=by unfold ib;rw[testBit_two_pow_sub_one,decide_eq_true_eq]
theorem qvR {n:Nat}{N:Nat->Nat}:BI n N 0 (2 ^ n-1) 0 where
 rb v hv:=absurd hv (qC rfl v)
 pb v hv:=(qih n v).1 hv
 xb v hv:=absurd hv (qC rfl v)
 o5 u v hu:=absurd hu (qC rfl u)
 sQ u _ r hr:=absurd hr (qC rfl r)
 all u hu _:=.inl ((qih n u).2 hu)
theorem qii {n:Nat}{N:Nat->Nat}{C:Nat}:Bf n N 0 (2 ^ n-1) C↔B8 n N C :=
 ⟨fun h=>h.mx,fun h=>⟨h,fun v hv=>absurd hv (qC rfl v),fun v hv=>.inr ((qih n v).2 (h.bd v hv))⟩⟩
theorem qhu {n:Nat}{N:Nat->Nat}{M:List Nat}(hd:M.Nodup) (hm:∀ C∈M,B8 n N C):(M.map fun C=>cn C n).Nodup:=by
 refine pairwise_map.2 (Pairwise.imp_of_mem (fun ha hb cY e=>?_) hd);exact cY (qrq (hm _ ha).bd (hm _ hb).bd e)
def A7 (n:Nat) (N:Nat->Nat):Prop:=∃ M:List Nat,M.Nodup/\M.length=4097/\∀ C∈M,B8 n N C
theorem qkS {w0:World}{n:Int}{a:Value}{arcs:List Bl}(ha:RS aU w0 a arcs) (hT:Bp w0) :
  Calls Tryz.prog 108 #[.int .i64 n,a] w0 fun e w' =>
   (bu n arcs≠0/\e=.returned (.tuple #[.slice none 0 0,bE (bu n arcs)])/\Sat w0 w' []) \/
   (bu n arcs=0/\32<n/\e=.returned (.tuple #[.slice none 0 0,bE 5])/\Sat w0 w' []) \/
   (bu n arcs=0/\n=0/\e=.returned (.tuple #[.slice none 0 0,.nilIface])/\Sat w0 w' []) \/
   (bu n arcs=0/\0<n/\n<=32/\A7 n.toNat (nN n.toNat arcs)/\e=.returned (.tuple #[.slice none 0 0,bE 10])/\Sat w0 w' []) \/
   (bu n arcs=0/\0<n/\n<=32/\∃ fv fs Cs,e=.returned (.tuple #[fv,.nilIface])/\Di Cs/\Bh n.toNat (nN n.toNat arcs) Cs/\Cs.length<=4096/\Sat w0 w' [Ab aa 3 fs Cs,OS al 22 fv fs]):=by
 have ir:=ha.bo;have hw:=Sat.start w0;refine bn (args:=[.int .i64 n,a]) mixed Tryz.func108 ?_;refine ab ?_;refine aJ rfl (qmi ha) ?_;rintro _ w' ⟨rfl,aj⟩;refine aC ?_;clear aj hw;intro hw;by_cases hc:bu n arcs=0;rotate_left
 ·rw[ep hc]
  refine ab ?_;exact dz (v:=.slice none 0 0) (v':=.iface 57 (.int .i64 (bu n arcs))) rfl rfl rfl (.inl ⟨hc,rfl,hw⟩)
 rw[iy hc];obtain⟨z8,hn1,uw,br⟩:=qkJ hc;have oo:∀ a∈arcs,dE (n.toNat:Int) a:=by rw[Int.toNat_of_nonneg z8];exact br
 refine ab ?_;refine ai ?_ ?_<;>intro h1
 ·refine ab ?_
  exact dz (v:=.slice none 0 0) (v':=.iface 57 (.int .i64 5)) rfl rfl rfl (.inr (.inl ⟨hc,h1,by rw[ep (by decide)],hw⟩))
 refine ab ?_;refine ai ?_ ?_<;>intro h2
 ·refine ab ?_
  exact dz (v:=.slice none 0 0) (v':=.nilIface) rfl rfl rfl (.inr (.inr (.inl ⟨hc,h2,rfl,hw⟩)))
 refine ab ?_;refine zJ bT 0 (n:=n) rfl rfl rfl rfl z8 om om hw ?_;clear hw;intro nv w hw;have onv:=(hw.rs 0 rfl).one;refine qgy (v1:=nv) rfl rfl (by simp only[all_cons,all_nil,onv];rfl) ?_;refine xP (vs:=[nv,.slice none 0 0]) rfl hw ?_;clear hw;intro pf w hw;refine ab ?_;have bb:Sat w0 w [Ad pf 230 [nv,.slice none 0 0],OS bT 220 nv (du n.toNat arcs 0)]:=hw;clear hw;refine cd [9,9,27,62] (G:=Nat) (fun k=>[(27,.int .i64 k)]) (fun k w=>k<=arcs.length/\Sat w0 w [Ad pf 230 [nv,.slice none 0 0],OS bT 220 nv (du n.toNat arcs k)]) (fun k=>arcs.length-k) 0 (fun _=>rfl) ⟨rfl,trivial⟩ ⟨zero_le _,bb⟩ ?_;clear bb;rintro σ k w ⟨hk,hw⟩;refine ab ?_;refine ai ?_ ?_<;>intro h3
 ·have aK:k<arcs.length:=by omega
  have hak:=br _ (bY aU.dflt aK);unfold dE at hak;have sa:=qeG (n:=n.toNat) (arcs:=arcs) k om;have hNb:∀ x,(du n.toNat arcs k).getD x bT.dflt<18446744073709551616:=fun x=>by
   have h1:=qtp (n:=n.toNat) (x:=x) oo (show k<=arcs.length by omega);have h2:2 ^ n.toNat<=2 ^ 32:=Nat.pow_le_pow_right (by decide) om;omega
  have hpw:∀ u:Nat,(u:Int)<n->1*2 ^ u % 18446744073709551616=2 ^ u/\2 ^ u<18446744073709551616:=fun u hu=>by
   have h2:2 ^ u<2 ^ 64:=Nat.pow_lt_pow_right (by decide) om;exact⟨by rw[Nat.one_mul,mod_eq_of_lt h2],h2⟩
  refine gm9 ?_;intro p w hw;by_cases he:(arcs.getD k aU.dflt).src=(arcs.getD k aU.dflt).dst
  ·have o9:decide ((arcs.getD k aU.dflt).src=(arcs.getD k aU.dflt).dst)=true:=decide_eq_true he
   simp only[o9,Bool.not_true];refine ab ?_;have cu:lF (du n.toNat arcs k) (arcs.getD k aU.dflt)=(du n.toNat arcs k):=if_pos he;rw[<-qdH aK]at cu;rw[<-cu]at hw;exact⟨k+1,⟨rfl,trivial⟩,aH,⟨by omega,hw.tail⟩,by omega⟩
  have o9:decide ((arcs.getD k aU.dflt).src=(arcs.getD k aU.dflt).dst)=false:=decide_eq_false he;simp only[o9,Bool.not_false];have cu:lF (du n.toNat arcs k) (arcs.getD k aU.dflt)=jK (jK (du n.toNat arcs k) (arcs.getD k aU.dflt).src.toNat (arcs.getD k aU.dflt).dst.toNat) (arcs.getD k aU.dflt).dst.toNat (arcs.getD k aU.dflt).src.toNat:=if_neg he;rw[<-qdH aK]at cu;obtain⟨e1,e2⟩:=hpw (arcs.getD k aU.dflt).dst.toNat om;obtain⟨e3,e4⟩:=hpw (arcs.getD k aU.dflt).src.toNat om;refine ab ?_;refine fP (pl [0,1,2,3,4,5,6,7,8,9,10,11,12,13] []) hw kr ?_;clear hw;intro w hw;refine ab ?_;refine eD rfl (qdz (a:=1) (b:=(arcs.getD k aU.dflt).dst.toNat) (k:=.i64) rfl (by rw[Int.toNat_of_nonneg hak.2.2.1];rfl) om) ?_;rw[e1];refine ab ?_;refine eD rfl (qe0 (a:=(du n.toNat arcs k).getD (arcs.getD k aU.dflt).src.toNat bT.dflt) (b:=2 ^ (arcs.getD k aU.dflt).dst.toNat) rfl rfl (hNb _) e2) ?_;refine fy ?_;intro w hw;have zR:=qnx (du n.toNat arcs k) (arcs.getD k aU.dflt).src.toNat (arcs.getD k aU.dflt).dst.toNat;have rV:∀ x,(jK (du n.toNat arcs k) (arcs.getD k aU.dflt).src.toNat (arcs.getD k aU.dflt).dst.toNat).getD x bT.dflt<18446744073709551616:=fun x=>uW (n:=n.toNat) om fun v hv=>by
   rcases (qjj om).1 hv with h|⟨_,h⟩
   ·exact(BE.lt (arcs:=arcs.take k) (fun a ha=>oo a (mem_of_mem_take ha)) ((qeH oo k om).1 h)).2
   ·omega
  have hw:Sat w0 w [Ad p 181 (aU.enc (arcs.getD k aU.dflt)),Ad pf 230 [nv,.slice none 0 0],OS bT 220 nv (jK (du n.toNat arcs k) (arcs.getD k aU.dflt).src.toNat (arcs.getD k aU.dflt).dst.toNat)]:=hw;refine fP (pl [0,1,2,3,4,5,6,7,8,9,10,11,12,13] []) hw kr ?_;clear hw;intro w hw;refine ab ?_;refine eD rfl (qdz (a:=1) (b:=(arcs.getD k aU.dflt).src.toNat) (k:=.i64) rfl (by rw[Int.toNat_of_nonneg hak.1];rfl) om) ?_;rw[e3];refine ab ?_;refine eD rfl (qe0 (a:=(jK (du n.toNat arcs k) (arcs.getD k aU.dflt).src.toNat (arcs.getD k aU.dflt).dst.toNat).getD (arcs.getD k aU.dflt).dst.toNat bT.dflt) (b:=2 ^ (arcs.getD k aU.dflt).src.toNat) rfl rfl (rV _) e4) ?_;refine fy ?_;intro w hw;have hw:Sat w0 w [Ad p 181 (aU.enc (arcs.getD k aU.dflt)),Ad pf 230 [nv,.slice none 0 0],OS bT 220 nv (jK (jK (du n.toNat arcs k) (arcs.getD k aU.dflt).src.toNat (arcs.getD k aU.dflt).dst.toNat) (arcs.getD k aU.dflt).dst.toNat (arcs.getD k aU.dflt).src.toNat)]:=hw;rw[<-cu]at hw;exact⟨k+1,⟨rfl,trivial⟩,aH,⟨by omega,hw.tail⟩,by omega⟩
 have cH:k=arcs.length:=by omega
 subst cH;have hG:Gr n.toNat (nN n.toNat arcs):=quu oo;have sa:(qD n.toNat arcs).length=n.toNat:=qeG _ (Nat.le_refl _);have hpn:2 ^ n.toNat<18446744073709551616:=by
  have h2:2 ^ n.toNat<=2 ^ 32:=Nat.pow_le_pow_right (by decide) om;omega
 have xV:1*2 ^ n.toNat % 18446744073709551616=2 ^ n.toNat:=by rw[Nat.one_mul,mod_eq_of_lt hpn]
 have xW:1<=2 ^ n.toNat:=Nat.two_pow_pos _;have bb:Sat w0 w [OS al 22 (.slice none 0 0) [],Ab aa 3 [] [],Ad pf 230 [nv,.slice none 0 0],OS bT 220 nv (qD n.toNat arcs)]:=by
  have h1:=(hw.mF (T:=aa) (e:=3)).nil (T:=al) (e:=22);exact h1
 clear hw;have hw:=bb;clear bb;refine ab ?_;refine eD rfl (qdz (a:=1) (b:=n.toNat) (k:=.i64) rfl (by rw[Int.toNat_of_nonneg z8];rfl) om) ?_;rw[xV];refine eD rfl (qfQ (a:=2 ^ n.toNat) (b:=1) rfl rfl xW hpn) ?_;have hF:=find_spec (w0:=w0) (pf:=pf) (nv:=nv) (near:=qD n.toNat arcs) om (by rw[sa];exact hG) hT (2 ^ n.toNat-1) 0 0 (w:=w) (fv:=.slice none 0 0) (fs:=[]) (Fs:=[]) (by rw[sa];exact qvR) (zero_le _) hw;refine aJ rfl hF ?_;clear hw hF;rintro _ w ⟨r,M,fv,fs,rfl,hf,hw⟩;rw[sa]at hf hw;replace hf:Bd n.toNat (nN n.toNat arcs) 0 (2 ^ n.toNat-1) 0 r M:=hf;rw[nil_append]at hw;have uh:∀ C∈M,B8 n.toNat (nN n.toNat arcs) C:=fun C hC=>qii.1 (hf.mem C hC);refine⟨_,rfl,?_⟩;cases r
 ·refine ab ?_
  exact dz (v:=.slice none 0 0) (v':=.iface 57 (.int .i64 10)) rfl rfl rfl (.inr (.inr (.inr (.inl ⟨hc,by omega,h1,⟨M,hf.nd,by have:=hf.gt rfl;omega,uh⟩,by rw[ep (by decide)],hw.aT⟩))))
 have eT:=hf.le rfl;have hM0:M≠[]:=fun e=>by
  obtain⟨C,hC,_⟩:=qmn hG _ 0 ⟨fun v hv=>absurd hv (qC rfl v),fun u v hu=>absurd hu (qC rfl u)⟩ (Nat.le_refl _);have:=hf.all rfl C (qii.2 hC);rw[e]at this;simp at this
 have wG:0<M.length:=length_pos_iff.2 hM0;have fe:=qhu hf.nd uh;have hlm:(M.map fun C=>cn C n.toNat).length=M.length:=length_map _;refine ab ?_;refine aJ rfl (qoG (fv:=fv) (fs:=fs) (Fs:=M.map fun C=>cn C n.toNat) hw fe om om) ?_;clear hw;rintro _ w ⟨rfl,is,sR,uX,hw⟩;refine⟨_,rfl,?_⟩;refine ab ?_;refine dz (v:=fv) (v':=.nilIface) rfl rfl rfl (.inr (.inr (.inr (.inr ⟨hc,by omega,h1,fv,is.map (cU fs),_,rfl,uX,fun l=>?_,?_,hw.aT⟩))))
 ·rw[mem_map]
  constructor
  ·rintro⟨i,hi,rfl⟩
   have oh:i<(M.map fun C=>cn C n.toNat).length:=mem_range.1 (sR.mem_iff.1 hi);have:=bY [] oh;obtain⟨C,hC,e⟩:=mem_map.1 this;exact⟨C,uh C hC,e.symm⟩
  ·rintro⟨C,hC,rfl⟩
   have h5:cn C n.toNat∈M.map fun C=>cn C n.toNat:=mem_map.2 ⟨C,hf.all rfl C (qii.2 hC),rfl⟩;obtain⟨i,hi,e⟩:=getElem_of_mem h5;refine⟨i,sR.mem_iff.2 (mem_range.2 hi),?_⟩;rw[getD_at hi,e]
 ·rw[length_map,sR.length_eq,length_range];omega
end
end Go.Proofs.YtmapkjoefdgjfaaGreatDoor
