/- Several texts. -/
import Derived.Test.YtmapkjoefdgjfaaGreatDoorMW3
set_option linter.unusedSimpArgs false
set_option linter.unusedVariables false
set_option maxRecDepth 8000
set_option maxHeartbeats 16000000
open List Nat
namespace Go.Proofs.YtmapkjoefdgjfaaGreatDoor
section
open Go.Sl Go
attribute [local irreducible] vc opsW opsD opV opW PureV ReadV Thn Blk
theorem qmE (l:List Int):cA l=((List.range l.length).filter fun j=>decide (j=0\/l.getD j aa.dflt≠l.getD (j-1) aa.dflt)).map fun j=>l.getD j aa.dflt:=by
 have e:∀ j,l.toArray[j]! = l.getD j aa.dflt:=fun j=>by
  simp[getElem!_def,List.getD];cases l[j]?<;>rfl
 unfold cA Lib.compact Lib.compactUpTo Lib.keeps;simp only[e]
theorem qf7 {l:List Int}{x:Int}:x∈cA l↔x∈l:=by
 rw[qmE];simp only[mem_map,mem_filter,mem_range,decide_eq_true_eq];constructor
 ·rintro⟨j,⟨hj,_⟩,rfl⟩;exact bY _ hj
 ·intro hx
  obtain⟨i,hi,he⟩:=mem_iff_getElem.1 hx;have key:∀ i,i<l.length->∃ j,(j<l.length/\(j=0\/l.getD j aa.dflt≠l.getD (j-1) aa.dflt))/\l.getD j aa.dflt=l.getD i aa.dflt:=by
   intro i
   induction i with
   | zero=>intro h;exact⟨0,⟨h,.inl rfl⟩,rfl⟩
   | succ i ih =>
    intro h;by_cases hh:l.getD (i+1) aa.dflt=l.getD i aa.dflt
    ·obtain⟨j,h1,h2⟩:=ih om
     exact⟨j,h1,h2.trans hh.symm⟩
    ·exact⟨i+1,⟨h,.inr hh⟩,rfl⟩
  obtain⟨j,h1,h2⟩:=key i hi;exact⟨j,h1,by rw[h2,getD_at hi,he]⟩
theorem qjP {l:List Int}(h:l.Pairwise (·<=·)):(cA l).Pairwise (·<·):=by
 rw[qmE,pairwise_map];have hle:∀ i j,i<=j->j<l.length->l.getD i aa.dflt<=l.getD j aa.dflt:=fun i j ie hj=>by
  rcases Nat.lt_or_ge i j with h'|h'
  ·rw[getD_at om,getD_at hj];exact pairwise_iff_getElem.1 h _ _ _ _ h'
  ·have:i=j:=by omega
   subst this;exact Int.le_refl _
 refine(pairwise_lt_range.filter _).imp_of_mem fun {i j} hi hj ie=>?_;simp only[mem_filter,mem_range,decide_eq_true_eq]at hi hj;have h1:=hle i (j-1) om om;have h2:=hle (j-1) j om hj.1;have h3:=hj.2.resolve_left om;omega
theorem qsl {vars p s:List Int}{l:List BD}(hs:Ac vars s):(∀ e∈l,AV vars e)->Ac vars (dX p s l):=by
 refine kx (P:=fun l=>(∀ e∈l,AV vars e)->Ac vars (dX p s l)) (fun _=>hs) ?_ l;intro l e ih h;have h1:=ih fun x hx=>h x (by simp[hx]);rw[qbT];split
 ·obtain⟨a,b,c,d⟩:=qB (h e (by simp))
  exact qdP h1 a c d
 ·exact h1
theorem qkW {w0:World}{a b c d vp vf:Value}{vs:List AK}{t:Aa}{L:List Int}{op:Nat}{fro:Int}(ht:Am w0 a b c d vs t) (hp:RS aa w0 vp L) (hf:RS aa w0 vf (gB t L op))
  (hg:Af t) (hL:A5 t.vars L) (ho:op<t.ops.length) (h0:0<=fro) (h1:fro<aL t.vars L) (hB:aL t.vars L<=4096) (hB2:aL t.vars (gB t L op)<=4096) :
  Calls Tryz.prog 105 #[.agg #[a,b,c,d],.int .i64 op,vp,vf,.int .i64 fro] w0 fun e w'=>∃ s,e=.returned s/\Sat w0 w' [OS aa 3 s (mb t L fro op)]:=by
 have eF:=ht;obtain⟨ha,hb,hc,hd⟩:=ht;have jx:=hd.rs;have jZ:=hd.len;have ir:=ha.bo;have jv:=jx.bo;have eW:=hg.vars;have bW:Cm w0 (az bJ vs op) (gy t op):=hd.at_ op ho;have hone:=bW.one;obtain⟨es,eE⟩:=bW.aw;have jP:=eE.rs;have la:=eE.len;have uA:=jP.bo;have o6:=bW.pre;have da:Cz t.vars (gy t op):=hg.op op ho;have qwD:=da.aw;have iP:=qI da.pre;have nq:A5 t.vars (gB t L op):=qda _ _ _;obtain⟨jy,uk⟩:=qkD hg hL h0 h1;have dW:=qun (op:=op) hg hL ho h0 h1;have hw:=Sat.start w0;refine bn (args:=[.agg #[a,b,c,d],.int .i64 op,vp,vf,.int .i64 fro]) mixed Tryz.func105 ?_;refine rU ?_;refine qu ?_;refine wz ?_;clear hw;intro pt w hw
 repeat (first|refine bV ?_|(refine dK ?_;clear hw;intro p w hw)|(refine nL ?_;clear hw;intro w hw)|(refine cB ?_;clear hw;intro s w hw))
 obtain⟨po,nQ⟩:∃ po,po=p:=⟨p,rfl⟩
 subst nQ;obtain⟨sv,mH⟩:∃ sv,sv=s:=⟨s,rfl⟩
 subst mH;refine aJ rfl (qju (s:=sv) (L:=L) (st:=gL t.vars.length) eF hp hw hg.pos hL.mem (qcx _) h0 om) ?_;clear hw;rintro _ w ⟨rfl,hw⟩;refine⟨_,rfl,?_⟩;refine ab ?_;refine cd [10,10,14,14,39,61] (G:=Nat) (fun k=>[(39,.int .i64 k)]) (fun k w=>k<=(gy t op).pre.length/\CV L (st1 t L fro) ((gy t op).pre.take k)/\Sat w0 w [OS aa 3 sv (jq L (st1 t L fro) ((gy t op).pre.take k)),Ad po 44 (bJ.enc (az bJ vs op)),Ad pt 26 [a,b,c,d]]) (fun k=>(gy t op).pre.length-k) 0 (fun _=>rfl) ⟨rfl,trivial⟩ ⟨zero_le _,fun x hx=>by simp at hx,hw⟩ ?_;clear hw;rintro σ k w ⟨hk,pH,hw⟩;refine ab ?_;refine ai ?_ ?_<;>intro h2
 ·have aK:k<(gy t op).pre.length:=by omega
  have ik:=qdf L (st1 t L fro) ((gy t op).pre.take k) ((gy t op).pre.getD k aq.dflt);rw[<-dJ aq.dflt aK]at ik;have r9:=(fk hg ho).1 _ (bY aq.dflt aK);have l6:=qnp L (st1 t L fro) ((gy t op).pre.take k);have qzN:=jy.1;obtain⟨f1,f2,f3,f4⟩:=r9;refine db ?_;intro p w hw;refine aJ rfl (su (hp.at hw)) ?_;rintro _ w' ⟨rfl,aj⟩;replace hw:=hw.bz aj;clear aj;by_cases hm:((gy t op).pre.getD k aq.dflt).var∈L
  ·have jd:(jq L (st1 t L fro) ((gy t op).pre.take k)).getD ((gy t op).pre.getD k aq.dflt).var.toNat aa.dflt=sg (st1 t L fro) ((gy t op).pre.getD k aq.dflt).var :=
    qhZ f1 (fun x hx=>(fk hg ho).1 x (mem_of_mem_take hx)) fun x _ hx e=>hx (e ▸ hm)
   rw[decide_eq_true hm];refine⟨_,rfl,?_⟩;refine fi ?_;intro w hw;refine ai ?_ ?_<;>intro h3
   ·refine ab ?_
    refine aW (v:=.slice none 0 0) rfl rfl ⟨_,rfl,?_⟩;rw[qtg hg hL h0 h1 fun h=>h3 (by rw[jd];exact h _ (bY aq.dflt aK) hm)];exact hw.tail.tail.tail.tail.nil
   ·refine ab ?_
    refine⟨k+1,⟨rfl,trivial⟩,aH,⟨by omega,?_,?_⟩,by omega⟩
    ·rw[dJ aq.dflt aK]
     intro x hx mI;rcases mem_append.1 hx with hx|hx
     ·exact pH x hx mI
     ·rw[mem_singleton.1 hx,<-jd];omega
    ·rw[ik,if_pos hm];exact hw.tail
  ·rw[decide_eq_false hm]
   refine⟨_,rfl,?_⟩;refine fi ?_;intro w hw;refine⟨k+1,⟨rfl,trivial⟩,aH,⟨by omega,?_,?_⟩,by omega⟩
   ·rw[dJ aq.dflt aK]
    intro x hx mI;rcases mem_append.1 hx with hx|hx
    ·exact pH x hx mI
    ·rw[mem_singleton.1 hx]at mI;exact absurd mI hm
   ·rw[ik,if_neg hm];exact hw.tail
 ·rw[take_of_length_le om]at pH hw
  have cZ:=fun b=>qwe (b:=b) hg hL ho h0 h1 pH;refine ab ?_;refine aJ rfl (qfg (eF.at hw) (hf.at hw) hg nq.mem) ?_;rintro _ w' ⟨rfl,aj⟩;replace hw:=hw.bz aj;clear aj;rw[if_pos hB2];refine⟨_,rfl,?_⟩;refine ab ?_;obtain⟨N,hN⟩:∃ N,N=aL t.vars (gB t L op):=⟨_,rfl⟩
  have hN1:=qer hg.pos nq.mem;rw[<-hN]at cZ hN1 hB2 ⊢;refine qiv [17,19,21,21,69,110] (G:=Nat) (H:=Value) (I:=List Int) (M:=List Int) (fun k so _ _=>[(69,.int .i64 k),(17,so)]) (fun k so xs S w=>k<=N/\xs.length=k/\(∀ b,b∈xs↔Cp t L op fro k b)/\Ac t.vars S/\(∀ v,0<=v->v∉gB t L op->sg S v=sg (st2 t L op fro) v)/\Sat w0 w [OS aa 3 so xs,OS aa 3 sv S,Ad po 44 (bJ.enc (az bJ vs op)),Ad pt 26 [a,b,c,d]]) (fun k _ _ _=>N.toNat-k) 0 (.slice none 0 0) [] (st2 t L op fro) (fun _ _ _ _=>rfl) ⟨rfl,rfl,trivial⟩ ⟨by omega,rfl,fun b=>⟨fun h=>by simp at h,fun⟨S,hS,_,bD,_⟩=>absurd (k9 hS nq.mem).1 om⟩,dW,fun _ _ _=>rfl,hw.nil⟩ ?_;clear hw;rintro σ k so xs S w ⟨hk,ku,ed,hS,vg,hw⟩;refine ab ?_;refine ai ?_ ?_<;>intro h3
  ·have jb:(0:Int)<=k:=by omega
   have yp:(k:Int)<aL t.vars (gB t L op):=by omega
   have hq:=qdj (s:=S) hg.pos nq hS.1 jb yp;have qJ:=qiy (s:=S) hg.pos nq jb yp hS.1 fun v hv iD _=>hS.cC hv iD;have oD:∀ v,0<=v->v∉gB t L op->sg (fm t.vars (gB t L op) S k) v=sg (st2 t L op fro) v:=fun v hv hn=>by rw[hq.2.2 v hv hn,vg v hv hn]
   have ui:=fun b=>qth (b:=b) hg hL ho qJ oD hq.1;refine ab ?_;refine aJ rfl (qju (s:=sv) (L:=gB t L op) (st:=S) eF hf hw.swap hg.pos nq.mem hS.1 jb om) ?_;clear hw;rintro _ w ⟨rfl,hw⟩;refine⟨_,rfl,?_⟩;obtain⟨S',vh⟩:∃ S',S'=fm t.vars (gB t L op) S k:=⟨_,rfl⟩
   rw[<-vh]at hw qJ oD ui;have sW:=qJ.1;clear hS vg hq;refine ab ?_;refine aJ rfl (lx (a:=sv) (xs:=S') (aM hw) om) ?_;rintro _ w' ⟨sn,rfl,aj⟩;refine aA ?_;clear aj hw;intro hw;refine ab ?_;refine cd [21,21,82,102] (G:=Nat) (fun j=>[(82,.int .i64 j)]) (fun j w=>j<=(gy t op).aw.length/\Sat w0 w [OS aa 3 sn (dX L S' ((gy t op).aw.take j)),OS aa 3 sv S',OS aa 3 so xs,Ad po 44 (bJ.enc (az bJ vs op)),Ad pt 26 [a,b,c,d]]) (fun j=>(gy t op).aw.length-j) 0 (fun _=>rfl) ⟨rfl,trivial⟩ ⟨zero_le _,hw⟩ ?_;clear hw;rintro σ1 j w ⟨hj,hw⟩;refine ab ?_;refine ai ?_ ?_<;>intro h4
   ·have cJ:j<(gy t op).aw.length:=by omega
    have nr:=eE.at_ j cJ;have nR:=nr.when;have oE:=nr.one;have jA:=nr.var;have pM:=nr.val;obtain⟨r1,r2,r3,r4⟩:=qB (da.dL j cJ);have ik:=qbT L S' ((gy t op).aw.take j) ((gy t op).aw.getD j ba);rw[<-dJ ba cJ]at ik;have l6:=qeu L S' ((gy t op).aw.take j);refine db ?_;intro p w hw;refine aJ rfl (su (hp.at hw)) ?_;rintro _ w' ⟨rfl,aj⟩;replace hw:=hw.bz aj;clear aj;by_cases hm:(az aR es j).var∈L
    ·rw[decide_eq_true hm]
     refine⟨_,rfl,?_⟩;refine ab ?_;refine aJ rfl (qhc (b:=sv) (s:=S') (nR.at hw) (aM hw)) ?_;rintro _ w' ⟨⟨r,rfl,hr⟩,aj⟩;refine aC ?_;clear aj hw;intro hw
     cases r with
     | false =>
      refine ab ?_;refine⟨j+1,⟨rfl,trivial⟩,aH,⟨by omega,?_⟩,by omega⟩;rw[ik,if_neg fun h=>by have:=hr.2 h.2;cases this]
      exact hw.tail
     | true =>
      refine fi ?_;intro w hw;refine⟨j+1,⟨rfl,trivial⟩,aH,⟨by omega,?_⟩,by omega⟩;rw[ik,if_pos ⟨jA ▸ hm,hr.1 rfl⟩,<-jA,<-pM];exact hw.tail
    ·rw[decide_eq_false hm]
     refine⟨_,rfl,?_⟩;refine ab ?_;refine⟨j+1,⟨rfl,trivial⟩,aH,⟨by omega,?_⟩,by omega⟩;rw[ik,if_neg fun h=>hm (jA ▸ h.1)];exact hw.tail
   ·rw[take_of_length_le om]at hw
    have br:=qsl (p:=L) qJ da.mem;refine ab ?_;refine aJ rfl (qg9 (sv:=sn) (s:=dX L S' (gy t op).aw) (eF.at hw) (hp.at hw) (aM hw) hg hL.mem br om) ?_;rintro _ w' ⟨rfl,aj⟩;refine aC ?_;clear aj hw;intro hw
    repeat (first|refine bV ?_|(refine cB ?_;clear hw;intro s w hw))
    refine⟨k+1,_,xs++[bj t.vars L (dX L S' (gy t op).aw)],S',⟨rfl,rfl,trivial⟩,aH,⟨by omega,by simp[ku],fun b=>?_,qJ,oD,?_⟩,by omega⟩
    ·rw[mem_append,mem_singleton,ed b,Int.natCast_add,Int.natCast_one,ui b]
    ·exact hw.tail.tail.swap
  ·have yp:(k:Int)=N:=by omega
   rw[yp]at ed;refine ab ?_;refine aJ rfl (qdk (s:=so) hw om) ?_;clear hw;rintro _ w ⟨rfl,hw⟩;refine⟨_,rfl,?_⟩;refine ab ?_;refine aJ rfl (qdl (s:=so) hw (by rw[qdb];omega)) ?_;clear hw;rintro _ w ⟨s',rfl,hw⟩;refine⟨_,rfl,?_⟩;refine ab ?_;refine aW (v:=s') rfl rfl ⟨s',rfl,?_⟩;have e:cA (dF xs)=mb t L fro op:=by
    refine qiA (qjP (qiC xs)) fun u=>?_;rw[qf7,qev,ed u,cZ u];constructor
    ·intro h
     have h':=(cZ u).2 h;exact⟨qwf hg hL ho h',h⟩
    ·exact fun h=>h.2
   rw[e]at hw;exact hw.only
noncomputable def bM (t:Aa) (p:List Int):Int:=if jg t p≠0 then jg t p else gV t p
theorem qgO {t:Aa}{p:List Int}:jg t p=0↔Af t/\AF t.vars p:=by
 rw[<-nZ];unfold jg;by_cases h:bk t=0
 ·rw[if_neg (by simp[h])]
  by_cases h2:AF t.vars p
  ·rw[if_pos h2];exact⟨fun _=>⟨h,h2⟩,fun _=>rfl⟩
  ·rw[if_neg h2];exact⟨(fun e=>by cases e),fun e=>absurd e.2 h2⟩
 ·rw[if_pos h];exact⟨fun e=>absurd e h,fun e=>absurd e.1 h⟩
theorem qlP {t:Aa}{p:List Int}(h:jg t p=0):bM t p=gV t p:=by rw[bM,if_neg (by simp[h])]
noncomputable def nU (t:Aa) (L:List Int) (i:Nat):List (List Int):=(List.range t.ops.length).map fun op=>if op<i then gB t L op else []
theorem qgP (t:Aa) (L:List Int) (i:Nat):(nU t L i).length=t.ops.length:=by simp[nU]
theorem qti (t:Aa) (L:List Int):nU t L 0=replicate t.ops.length []:=by
 apply ext_getElem (by simp[nU]);intro i h1 h2;simp[nU]
theorem qup {t:Aa}{L:List Int}{i j:Nat}(hj:j<i) (hj2:j<t.ops.length):(nU t L i).getD j []=gB t L j:=by simp[nU,List.getD,hj,hj2]
theorem qtj {t:Aa}{L:List Int}{i:Nat}(hi:i<t.ops.length):(nU t L i).set i (gB t L i)=nU t L (i+1):=by
 apply ext_getElem (by simp[nU]);intro j h1 h2;rw[getElem_set];simp only[nU,getElem_map,getElem_range];split
 ·rename_i e;subst e;rw[if_pos om]
 ·by_cases h:j<i
  ·rw[if_pos h,if_pos om]
  ·rw[if_neg h,if_neg om]
theorem lB {w0 w:World}{Γ:List HP}(hw:Sat w0 w Γ):Sat w0 w []:=⟨hw.below,trivial⟩
theorem qzj {w0 w:World}{A B C:HP}{Γ:List HP}(h:Sat w0 w (A::B::C::Γ)):Sat w0 w [A,B,C]:=h.jQ fun _ h=>Ap.fz (fun _ h=>h) (fun _ h=>Ap.fz (fun _ h=>h) (fun _ _=>trivial) h) h
def Cu (w0 w:World) (cv ev gv:Value) (S:Ak):Prop:=Sat w0 w [OS aa 3 cv S.au,OS ax 190 ev S.ak,OS ah 4 gv S.goals]
theorem uG {w0 w:World}{Γ:List HP}(hw:Sat w0 w Γ):Cu w0 w (.slice none 0 0) (.slice none 0 0) (.slice none 0 0) bH:=(lB hw).nil.nil.nil
def bN (S:Ak) (cv ev gv:Value):Value:=.agg #[.int .i64 S.st,.int .i64 S.aY,cv,ev,gv]
theorem qci {w0:World}{a b c d vp:Value}{vs:List AK}{t:Aa}{L:List Int}(ht:Am w0 a b c d vs t) (hp:RS aa w0 vp L) :
  Calls Tryz.prog 80 #[.agg #[a,b,c,d],vp] w0 fun e w'=>∃ cv ev gv,e=.returned (.tuple #[bN (gD t L (bM t L)) cv ev gv,bE (bM t L)])/\Cu w0 w' cv ev gv (gD t L (bM t L)):=by
 have eF:=ht;obtain⟨ha,hb,hc,hd⟩:=ht;have jx:=hd.rs;have jZ:=hd.len;have ir:=ha.bo;have jv:=jx.bo;have mY:=hc.bo;have hw:=Sat.start w0;refine bn (args:=[.agg #[a,b,c,d],vp]) mixed Tryz.func80 ?_;refine rU ?_;refine qu ?_;refine wz ?_;clear hw;intro pt w hw;refine qfB ?_;clear hw;intro pr w hw;refine ab ?_;refine aJ rfl (qmb (eF.at hw) (hp.at hw)) ?_;rintro _ w' ⟨rfl,aj⟩;refine aC ?_;clear aj hw;intro hw;by_cases hk:jg t L=0
 ·rw[iy hk]
  obtain⟨hg,nQ⟩:=qgO.1 hk;have hL:=nQ.inV;rw[qlP hk];have eW:=hg.vars;have l5:=hg.ops;refine ab ?_;refine aJ rfl (qfg (eF.at hw) (hp.at hw) hg hL.mem) ?_;rintro _ w' ⟨rfl,aj⟩;replace hw:=hw.bz aj;clear aj;by_cases hB:aL t.vars L<=4096
  ·rw[if_pos hB]
   refine⟨_,rfl,?_⟩;refine ab ?_;refine aJ rfl (qg9 (s:=t.init) (eF.at hw) (hp.at hw) (hb.at hw) hg hL.mem hg.init om) ?_;rintro _ w' ⟨rfl,aj⟩;refine aC ?_;clear aj hw;intro hw
   repeat (first|refine bV ?_|(refine dK ?_;clear hw;intro p w hw)|(refine nL ?_;clear hw;intro w hw)|(refine cB ?_;clear hw;intro s w hw))
   obtain⟨px,hpx⟩:∃ px,px=p:=⟨p,rfl⟩
   subst hpx;obtain⟨fv,nq⟩:∃ fv,fv=s:=⟨s,rfl⟩
   subst nq;rw[jZ]at hw;have bb:=(hw.fu (T:=aa) (e:=3) t.ops.length).nil (T:=aa) (e:=3);rw[<-qti t L]at bb;clear hw;refine mB [5,5,11,14,54,85] (G:=Nat) (H:=Value) (I:=List Value) (fun i _ _=>[(54,.int .i64 i)]) (fun i cv fs w=>i<=t.ops.length/\(∀ op,op<i->aL t.vars (gB t L op)<=4096)/\Sat w0 w [OS aa 3 cv ((ar t).take i),Ab aa 3 fs (nU t L i),OS al 22 fv fs,Ad px 142 [.int .i64 (aL t.vars L),.int .i64 (bj t.vars L t.init),cv,.slice none 0 0,.slice none 0 0],Ad pr 142 [.int .i64 0,.int .i64 0,.slice none 0 0,.slice none 0 0,.slice none 0 0],Ad pt 26 [a,b,c,d]]) (fun i _ _=>t.ops.length-i) 0 (.slice none 0 0) (replicate t.ops.length (.slice none 0 0)) (fun _ _ _=>rfl) ⟨rfl,trivial⟩ ⟨zero_le _,fun op h=>absurd h (not_lt_zero _),bb⟩ ?_;clear bb;rintro σ i cv fs w ⟨hi,kA,hw⟩;refine ab ?_;refine ai ?_ ?_<;>intro h1
   ·have cI:i<t.ops.length:=by omega
    have bW:=hd.at_ i cI;have hone:=bW.one;have gg:=bW.cost;have hfs:fs.length=t.ops.length:=by have:=(hw.focus 1 rfl).bw;rw[qgP]at this;exact this
    have rW:((ar t).take i).length<=4096:=by simp[ar];omega
    repeat (first|refine bV ?_|(refine dK ?_;clear hw;intro p w hw)|(refine nL ?_;clear hw;intro w hw)|(refine cB ?_;clear hw;intro s w hw))
    refine aJ rfl (qk6 (vars:=t.vars) (L:=L) (bW.at hw) (hp.at hw) (hg.op i cI) eW) ?_;rintro _ w' ⟨sf,rfl,aj⟩;refine aA ?_;clear aj hw;intro hw;have qzW:(fs.set i sf).length=t.ops.length:=by simp[hfs]
    refine fi ?_;intro w hw;have ct:=(((hw.focus 4 rfl).swap.pT (by rw[qgP];exact cI)).swap.tail.swap.tail).swap;rw[show oT t.vars (t.ops.getD i aO) L=gB t L i from rfl,qtj cI]at ct;have dp:=(ct.swap).row (i:=i) (by rw[qgP];exact cI);rw[qup (lt_succ_self i) cI]at dp;clear hw;have hw:Sat w0 w [OS aa 3 s ((ar t).take i++[(az bJ vs i).cost]),Ab aa 3 (fs.set i sf) (nU t L (i+1)),OS al 22 fv (fs.set i sf),Ad px 142 [.int .i64 (aL t.vars L),.int .i64 (bj t.vars L t.init),s,.slice none 0 0,.slice none 0 0],Ad pr 142 [.int .i64 0,.int .i64 0,.slice none 0 0,.slice none 0 0,.slice none 0 0],Ad pt 26 [a,b,c,d]]:=ct;clear ct;have jM:(ar t).take i++[(az bJ vs i).cost]=(ar t).take (i+1):=by
     rw[dJ aa.dflt (show i<(ar t).length by simp[ar];exact cI),wV cI,gg]
    rw[jM]at hw;refine aJ rfl (qfg (eF.at hw) dp hg (qda _ _ _).mem) ?_;rintro _ w' ⟨rfl,aj⟩;replace hw:=hw.bz aj;clear aj;by_cases hB3:aL t.vars (gB t L i)<=4096
    ·rw[if_pos hB3]
     refine⟨_,rfl,?_⟩;refine ab ?_;refine⟨i+1,_,_,⟨rfl,trivial⟩,aH,⟨by omega,fun op h=>?_,hw⟩,by omega⟩;by_cases e:op=i
     ·subst e;exact hB3
     ·exact kA op om
    ·rw[if_neg hB3]
     refine⟨_,rfl,?_⟩;refine ab ?_;refine iN (parts:=[]) (vs:=[]) rfl rfl rfl ?_;refine fi ?_;intro w hw;have he:gV t L=5:=by rw[gV,if_neg om,if_pos ⟨i,cI,by omega⟩]
     rw[he];exact mg (p:=pr) (vs:=[.int .i64 0,.int .i64 0,.slice none 0 0,.slice none 0 0,.slice none 0 0]) rfl rfl (v':=bE 5) (by rw[ep (by decide)];rfl) rfl (fun j v hv=>jw (i:=4) hw rfl hv) ⟨_,_,_,rfl,uG hw⟩
   ·have iJ:i=t.ops.length:=by omega
    subst iJ;rw[take_of_length_le (by simp[ar])]at hw;have yw:¬B6 t L:=fun⟨op,h,h2⟩=>by have:=kA op h;omega
    have hfs:fs.length=t.ops.length:=by have:=(hw.focus 1 rfl).bw;rw[qgP]at this;exact this
    have hN1:=qer hg.pos hL.mem;obtain⟨N,hN⟩:∃ N,N=aL t.vars L:=⟨_,rfl⟩
    refine kq ?_;intro s w hw;obtain⟨sv,mH⟩:∃ sv,sv=s:=⟨s,rfl⟩
    subst mH;have bb:Sat w0 w [OS aa 3 sv (gL t.vars.length),OS ah 4 (.slice none 0 0) (cP t L 0),OS ax 190 (.slice none 0 0) (fA t L 0),OS aa 3 cv (ar t),Ab aa 3 fs (nU t L t.ops.length),OS al 22 fv fs,Ad px 142 [.int .i64 (aL t.vars L),.int .i64 (bj t.vars L t.init),cv,(.slice none 0 0),(.slice none 0 0)],Ad pr 142 [.int .i64 0,.int .i64 0,.slice none 0 0,.slice none 0 0,.slice none 0 0],Ad pt 26 [a,b,c,d]]:=(hw.nil (T:=ax) (e:=190)).nil (T:=ah) (e:=4) |>.focus 2 rfl;clear hw;refine qiv [5,5,16,17,19,20,22,22,91,168] (G:=Nat) (H:=Value) (I:=Value) (M:=List Int) (fun k _ _ _=>[(91,.int .i64 k)]) (fun k ev gv S w=>(k:Int)<=aL t.vars L/\(fA t L k).length<=65536/\Ac t.vars S/\Sat w0 w [OS aa 3 sv S,OS ah 4 gv (cP t L k),OS ax 190 ev (fA t L k),OS aa 3 cv (ar t),Ab aa 3 fs (nU t L t.ops.length),OS al 22 fv fs,Ad px 142 [.int .i64 (aL t.vars L),.int .i64 (bj t.vars L t.init),cv,ev,gv],Ad pr 142 [.int .i64 0,.int .i64 0,.slice none 0 0,.slice none 0 0,.slice none 0 0],Ad pt 26 [a,b,c,d]]) (fun k _ _ _=>(aL t.vars L).toNat-k) 0 (.slice none 0 0) (.slice none 0 0) (gL t.vars.length) (fun _ _ _ _=>rfl) ⟨rfl,trivial⟩ ⟨by omega,by rw[qqX];exact zero_le _,qnr hg.pos,bb⟩ ?_;clear bb;rintro σ1 k ev gv S w ⟨yp,la,hS,hw⟩;refine ab ?_;refine ai ?_ ?_<;>intro h2
    ·have jb:(0:Int)<=k:=by omega
     have hq:=qdj (s:=S) hg.pos hL hS.1 jb h2;have qJ:=qiy (s:=S) hg.pos hL jb h2 hS.1 fun v hv iD _=>hS.cC hv iD;refine ab ?_;refine aJ rfl (qju (s:=sv) (L:=L) (st:=S) eF hp hw hg.pos hL.mem hS.1 jb om) ?_;clear hw;rintro _ w ⟨rfl,hw⟩;refine⟨_,rfl,?_⟩;obtain⟨S',vh⟩:∃ S',S'=fm t.vars L S k:=⟨_,rfl⟩
     rw[<-vh]at hw qJ hq;have hgp:=qtm hg hL qJ hq.1;have sW:=qJ.1;clear hS hq;refine ab ?_;refine dj [17,17,19,19,102,124] (G:=Nat) (H:=Bool) (fun j g=>[(102,.int .i64 j),(17,.bool g)]) (fun j g w=>j<=t.goal.length/\(g=true↔Cw L S' (t.goal.take j))/\Sat w0 w [OS aa 3 sv S',OS ah 4 gv (cP t L k),OS ax 190 ev (fA t L k),OS aa 3 cv (ar t),Ab aa 3 fs (nU t L t.ops.length),OS al 22 fv fs,Ad px 142 [.int .i64 (aL t.vars L),.int .i64 (bj t.vars L t.init),cv,ev,gv],Ad pr 142 [.int .i64 0,.int .i64 0,.slice none 0 0,.slice none 0 0,.slice none 0 0],Ad pt 26 [a,b,c,d]]) (fun j _=>t.goal.length-j) 0 true (fun _ _=>rfl) ⟨rfl,rfl,trivial⟩ ⟨zero_le _,⟨fun _ x hx=>by simp at hx,fun _=>rfl⟩,hw⟩ ?_;clear hw;rintro σ2 j g w ⟨hj,kL,hw⟩;refine ab ?_;refine ai ?_ ?_<;>intro h3
     ·have cJ:j<t.goal.length:=by omega
      obtain⟨f1,f2,f3,f4⟩:=vF hg.goal _ (bY aq.dflt cJ);have ik:Cw L S' (t.goal.take (j+1))↔Cw L S' (t.goal.take j)/\((t.goal.getD j aq.dflt).var∈L->sg S' (t.goal.getD j aq.dflt).var=(t.goal.getD j aq.dflt).val):=by
       rw[dJ aq.dflt cJ];unfold Cw;constructor
       ·exact fun h=>⟨fun x hx=>h x (by simp[hx]),h _ (by simp)⟩
       ·rintro⟨h,h'⟩ x hx
        rcases mem_append.1 hx with hx|hx
        ·exact h x hx
        ·rw[mem_singleton.1 hx];exact h'
      cases g with
      | false =>
       refine db ?_;intro p w hw
       exact⟨j+1,false,⟨rfl,rfl,trivial⟩,aH,⟨by omega,dr (fun h=>by have:=kL.2 (ik.1 h).1;cases this),hw.tail⟩,by omega⟩
      | true =>
       have wF:=kL.1 rfl;refine db ?_;intro p w hw;refine aJ rfl (su (hp.at hw)) ?_;rintro _ w' ⟨rfl,aj⟩;replace hw:=hw.bz aj;clear aj;by_cases hm:(t.goal.getD j aq.dflt).var∈L
       ·rw[decide_eq_true hm]
        refine⟨_,rfl,?_⟩;refine ab ?_;refine⟨j+1,_,⟨rfl,rfl,trivial⟩,aH,⟨by omega,?_,hw.tail⟩,by omega⟩;rw[decide_eq_true_eq,ik];exact⟨fun h=>⟨wF,fun _=>h⟩,fun h=>h.2 hm⟩
       ·rw[decide_eq_false hm]
        refine⟨_,rfl,?_⟩;refine ab ?_;exact⟨j+1,true,⟨rfl,rfl,trivial⟩,aH,⟨by omega,fU (ik.2 ⟨wF,fun h=>absurd h hm⟩),hw.tail⟩,by omega⟩
     ·rw[take_of_length_le om,hgp,<-qgQ]at kL
      have yI:g=jJ t L k:=Bool.eq_iff_iff.2 kL;have qx8:=qe9 t L k;subst yI
      repeat refine bV ?_
      refine jh ah (x1:=jJ t L k) rfl rfl rfl (le_of_ble_eq_true rfl) (zero_lt_succ _) hw ?_;clear hw;intro s2 w hw;refine kq ?_;intro s w hw;obtain⟨gw,hgw⟩:∃ gw,gw=s:=⟨s,rfl⟩
      subst hgw;rw[<-qlS]at hw;refine dj [5,5,20,20,22,22,134,167] (G:=Nat) (H:=Value) (fun j _=>[(134,.int .i64 j)]) (fun j ev w=>j<=t.ops.length/\(fA t L k++gi t L k j).length<=65536/\Sat w0 w [OS aa 3 sv S',OS ah 4 gw (cP t L (k+1)),OS ax 190 ev (fA t L k++gi t L k j),OS aa 3 cv (ar t),Ab aa 3 fs (nU t L t.ops.length),OS al 22 fv fs,Ad px 142 [.int .i64 (aL t.vars L),.int .i64 (bj t.vars L t.init),cv,ev,gw],Ad pr 142 [.int .i64 0,.int .i64 0,.slice none 0 0,.slice none 0 0,.slice none 0 0],Ad pt 26 [a,b,c,d]]) (fun j _=>t.ops.length-j) 0 ev (fun _ _=>rfl) ⟨rfl,trivial⟩ ⟨zero_le _,by rw[qkG,append_nil];exact la,by rw[qkG,append_nil];exact hw.tail⟩ ?_;clear hw;rintro σ3 j ev w ⟨hj,vJ,hw⟩;refine ab ?_;refine ai ?_ ?_<;>intro h4
      ·have cJ:j<t.ops.length:=by omega
       have qzk:=kA j cJ;refine fi ?_;intro w hw;have dp:=(hw.focus 4 rfl).row (i:=j) (by rw[qgP];exact cJ);rw[qup cJ cJ]at dp;refine aJ rfl (qkW (op:=j) (fro:=k) (eF.at hw) (hp.at hw) dp hg hL cJ jb h2 hB qzk) ?_;rintro _ w' ⟨tv,rfl,aj⟩;replace hw:=hw.jC aj;clear aj;have htl:=qpQ (aL t.vars L) (Du t L k j);have qzl:=qq1 h2 cJ;rw[show kG (aL t.vars L) (Du t L k j)=mb t L k j from rfl]at htl;obtain⟨tg,htg⟩:∃ tg,tg=mb t L k j:=⟨_,rfl⟩
       rw[<-htg]at hw htl qzl;refine⟨_,rfl,?_⟩;refine ab ?_;refine dj [5,5,22,22,147,166] (G:=Nat) (H:=Value) (fun m _=>[(147,.int .i64 m)]) (fun m ev w=>m<=tg.length/\(fA t L k++gi t L k j++iX k j (tg.take m)).length<=65536/\Sat w0 w [OS aa 3 tv tg,OS aa 3 sv S',OS ah 4 gw (cP t L (k+1)),OS ax 190 ev (fA t L k++gi t L k j++iX k j (tg.take m)),OS aa 3 cv (ar t),Ab aa 3 fs (nU t L t.ops.length),OS al 22 fv fs,Ad px 142 [.int .i64 (aL t.vars L),.int .i64 (bj t.vars L t.init),cv,ev,gw],Ad pr 142 [.int .i64 0,.int .i64 0,.slice none 0 0,.slice none 0 0,.slice none 0 0],Ad pt 26 [a,b,c,d]]) (fun m _=>tg.length-m) 0 ev (fun _ _=>rfl) ⟨rfl,trivial⟩ ⟨zero_le _,by simpa [iX] using vJ,by simpa [iX] using hw⟩ ?_;clear hw;rintro σ4 m ev w ⟨hm,qxn,hw⟩;refine ab ?_;refine ai ?_ ?_<;>intro h5
       ·have eT:m<tg.length:=by omega
        have ik:=qqY (a:=k) (op:=j) eT;have tu:(fA t L k++gi t L k j++iX k j (tg.take m)).length=(fA t L k).length+(gi t L k j).length+m:=by simp[qjf];omega
        refine ab ?_;refine ai ?_ ?_<;>intro h6
        ·refine ab ?_
         refine iN (parts:=[]) (vs:=[]) rfl rfl rfl ?_;refine fi ?_;intro w hw;have he:gV t L=5:=by rw[gV,if_neg om,if_neg yw,if_pos om]
         rw[he];exact mg (p:=pr) (vs:=[.int .i64 0,.int .i64 0,.slice none 0 0,.slice none 0 0,.slice none 0 0]) rfl rfl (v':=bE 5) (by rw[ep (by decide)];rfl) rfl (fun j v hv=>jw (i:=8) hw rfl hv) ⟨_,_,_,rfl,uG hw⟩
        ·refine ab ?_
         refine jh ax (x1:=⟨k,j,tg.getD m aa.dflt⟩) rfl rfl rfl (le_of_ble_eq_true rfl) (zero_lt_succ _) hw ?_;clear hw;intro s3 w hw;refine kq ?_;intro s w hw;rw[append_assoc,<-ik]at hw;refine⟨m+1,_,⟨rfl,trivial⟩,aH,⟨by omega,?_,hw.tail⟩,by omega⟩;rw[ik,<-append_assoc,length_append,tu];simp only[length_cons,length_nil];omega
       ·rw[take_of_length_le om,htg,append_assoc,<-qeE]at hw qxn
        refine ab ?_;exact⟨j+1,ev,⟨rfl,trivial⟩,aH,⟨by omega,qxn,hw.tail⟩,by omega⟩
      ·have iR:j=t.ops.length:=by omega
       subst iR;rw[<-qeF]at hw vJ;refine ab ?_;exact⟨k+1,ev,gw,S',⟨rfl,trivial⟩,aH,⟨by omega,vJ,qJ,hw⟩,by omega⟩
    ·have qzm:k=(aL t.vars L).toNat:=by omega
     subst qzm;have he:gV t L=0:=by rw[gV,if_neg om,if_neg yw,if_neg (by unfold aZ;omega)]
     rw[he];have o1:=(hw.rs 3 rfl).one;have o2:=(hw.rs 2 rfl).one;have o3:=(hw.rs 1 rfl).one;refine ab ?_;refine gZ (n:=5) (p:=pr) (vs:=[.int .i64 (aL t.vars L),.int .i64 (bj t.vars L t.init),cv,ev,gv]) rfl rfl hw inferInstance rfl rfl (by simp only[all_cons,all_nil,o1,o2,o3];rfl) ?_;clear hw;intro w hw;refine ab ?_;exact mg (p:=pr) (vs:=[.int .i64 (aL t.vars L),.int .i64 (bj t.vars L t.init),cv,ev,gv]) rfl rfl (v':=bE 0) (by rw[iy rfl];rfl) rfl (fun j v hv=>jw (i:=7) hw rfl hv) ⟨cv,ev,gv,rfl,qzj ((hw.tail.focus 2 rfl).jQ fun _ h=>h.swap)⟩
  ·rw[if_neg hB]
   refine⟨_,rfl,?_⟩;refine ab ?_;refine iN (parts:=[]) (vs:=[]) rfl rfl rfl ?_;refine fi ?_;intro w hw;have he:gV t L=5:=by rw[gV,if_pos om]
   rw[he];refine mg (p:=pr) (vs:=[.int .i64 0,.int .i64 0,.slice none 0 0,.slice none 0 0,.slice none 0 0]) rfl rfl (v':=bE 5) (by rw[ep (by decide)];rfl) rfl (fun j v hv=>jw (i:=0) hw rfl hv) ⟨_,_,_,rfl,uG hw⟩
 ·rw[ep hk]
  refine ab ?_;refine iN (parts:=[]) (vs:=[]) rfl rfl rfl ?_;refine fi ?_;intro w hw;have he:bM t L=jg t L:=by rw[bM,if_pos hk]
  rw[he];have sE:gD t L (jg t L)=bH:=by rw[gD,if_neg hk]
  rw[sE];exact mg (p:=pr) (vs:=[.int .i64 0,.int .i64 0,.slice none 0 0,.slice none 0 0,.slice none 0 0]) rfl rfl (v':=bE (jg t L)) (by rw[ep hk];rfl) rfl (fun j v hv=>jw (i:=0) hw rfl hv) ⟨_,_,_,rfl,uG hw⟩
end
section
open Go.Sl Go
structure Aw (w:World) (cv ev gv:Value) (S:Ak):Prop where
 au:RS aa w cv S.au
 ak:RS ax w ev S.ak
 goals:RS ah w gv S.goals
theorem Aw.at {w0 w:World}{Γ:List HP}{cv ev gv:Value}{S:Ak}(h:Aw w0 cv ev gv S) (hw:Sat w0 w Γ):Aw w cv ev gv S:=⟨h.au.at hw,h.ak.at hw,h.goals.at hw⟩
end
section
open Go.Sl
structure Bb where
 var:Int
 cls:List Int
 lj:List Int
 de:Int
structure Dm where
 cur:Ak
 de:List Bb
 err:Int
theorem qqg (n:Int):∃ k:Nat,n<((k:Int)+1)*(k+1)/\∀ j:Nat,n<((j:Int)+1)*(j+1)->k<=j :=
 qmI (p:=fun r:Nat=>n<((r:Int)+1)*(r+1)) n.toNat (by
  have h:(0:Int)<=(n.toNat:Int)*n.toNat:=Int.mul_nonneg om om;have e:((n.toNat:Int)+1)*(n.toNat+1)=(n.toNat:Int)*n.toNat+n.toNat+n.toNat+1:=by simp only[Int.add_mul,Int.mul_add];omega
  omega)
noncomputable def fQ (n:Int):Nat:=Classical.choose (qqg n)
theorem qia (n:Int):n<((fQ n:Int)+1)*(fQ n+1)/\∀ j:Nat,n<((j:Int)+1)*(j+1)->fQ n<=j:=Classical.choose_spec (qqg n)
noncomputable def ji (most:Int) (a b:Int):Int × Int:=if a*b>most then (if a<=fQ most then (a,most.tdiv a) else if b<=fQ most then (most.tdiv b,b) else (fQ most,fQ most)) else (a,b)
noncomputable def jF (t:Aa) (most:Int) (v:Int):Dm :=
 if bM t [v]≠0 then ⟨bH,[],bM t [v]⟩
 else if bA (cj t [v]) most≠0 then ⟨bH,[],bA (cj t [v]) most⟩
 else ⟨cb (cj t [v]) most,[⟨v,dZ (cj t [v]) most,[],(cb (cj t [v]) most).st⟩],0⟩
noncomputable def jG (t:Aa) (most:Int) (s:Dm) (v:Int):Dm :=
 if s.err≠0 then s
 else if bM t [v]≠0 then ⟨bH,s.de,bM t [v]⟩
 else let A:=cj t [v];let lr:=ji most s.cur.st A.st
  if bA s.cur lr.1≠0 then ⟨bH,s.de,bA s.cur lr.1⟩
  else if bA A lr.2≠0 then ⟨bH,s.de,bA A lr.2⟩
  else if bU (cb s.cur lr.1) (cb A lr.2)≠0 then ⟨bH,s.de++[⟨v,dZ A lr.2,dZ s.cur lr.1,(cb A lr.2).st⟩],bU (cb s.cur lr.1) (cb A lr.2)⟩
  else ⟨eL (cb s.cur lr.1) (cb A lr.2),s.de++[⟨v,dZ A lr.2,dZ s.cur lr.1,(cb A lr.2).st⟩],0⟩
noncomputable def fV (t:Aa) (most:Int):Nat->Dm
 | 0=>⟨gD t [] (bM t []),[],bM t []⟩
 | 1=>jF t most 0
 | k+1=>jG t most (fV t most k) k
noncomputable def iz (most:Int):Int:=max 1 (min most 4096)
open Classical in
noncomputable def dh (t:Aa) (most:Int):Int:=if (fV t (iz most) t.vars.length).err≠0 then (fV t (iz most) t.vars.length).err else if Ar (fV t (iz most) t.vars.length).cur then 0 else 2
noncomputable def na (t:Aa) (most:Int):List Bb:=(fV t (iz most) t.vars.length).de
noncomputable def pF (t:Aa) (most:Int):List Int:=j8 (fV t (iz most) t.vars.length).cur
def lh (s:List Int):List Bb->Int
 | []=>0
 | x::r=>r.foldl (fun a y=>y.lj.getD a.toNat aa.dflt*y.de+y.cls.getD (s.getD y.var.toNat aa.dflt).toNat aa.dflt) (x.cls.getD (s.getD x.var.toNat aa.dflt).toNat aa.dflt)
end
section
open Go.Sl Go
attribute [local irreducible] vc opsW opsD opV opW PureV ReadV Thn Blk
theorem qjn {w0:World}{v:Value}{l:List Int}(hl:RS aa w0 v l) :
  Calls Tryz.prog 177 #[v] w0 fun e w'=>e=.returned (.int .i64 (sb l))/\w'=w0:=by
 have jv:=hl.bo;have hw:=Sat.start w0;refine bn (args:=[v]) mixed Tryz.func177 ?_;refine ab ?_;refine cd [2,2,5,5,8,16] (G:=Nat) (fun k=>[(8,.int .i64 k)]) (fun k w=>k<=l.length/\sb (l.drop k)=sb l/\w=w0) (fun k=>l.length-k) 0 (fun _=>rfl) ⟨rfl,trivial⟩ ⟨zero_le _,rfl,rfl⟩ ?_;clear hw;rintro σ k w ⟨hk,hp,rfl⟩;have hw:=Sat.start w;refine ab ?_;refine ai ?_ ?_<;>intro h1
 ·have aK:k<l.length:=by omega
  have oM:l.drop k=l.getD k aa.dflt::l.drop (k+1):=by rw[drop_eq_getElem_cons aK];simp[List.getD,aK]
  rw[oM]at hp;simp only[sb]at hp;refine ab ?_;refine ai ?_ ?_<;>intro h2
  ·rw[if_pos h2]at hp
   refine ab ?_;exact aW (v:=.int .i64 (l.getD k aa.dflt)) rfl rfl ⟨by rw[hp],rfl⟩
  ·rw[if_neg om]at hp
   refine ab ?_;exact⟨k+1,⟨rfl,trivial⟩,aH,⟨by omega,hp,rfl⟩,by omega⟩
 rw[drop_eq_nil_of_le om]at hp;refine ab ?_;exact aW (v:=.int .i64 0) rfl rfl ⟨by rw[<-hp];rfl,rfl⟩
theorem qoQ {w0:World}{n:Int}(h0:0<=n) (h1:n<=4096) :
  Calls Tryz.prog 114 #[.int .i64 n] w0 fun e w'=>e=.returned (.int .i64 (fQ n))/\Sat w0 w' []:=by
 have hw:=Sat.start w0;obtain⟨wI,lg⟩:=qia n;have pN:fQ n<=64:=lg 64 om;obtain⟨R,hR⟩:∃ R,R=fQ n:=⟨_,rfl⟩
 rw[<-hR]at wI lg pN ⊢;refine bn (args:=[.int .i64 n]) mixed Tryz.func114 ?_;refine ab ?_;refine cd [3,12] (G:=Nat) (fun k=>[(3,.int .i64 k)]) (fun k w=>k<=R/\Sat w0 w []) (fun k=>R-k) 0 (fun _=>rfl) ⟨rfl,trivial⟩ ⟨zero_le _,hw⟩ ?_;clear hw;rintro σ k w ⟨hk,hw⟩;have hb:((k:Int)+1)*(k+1)<=65*65:=Int.mul_le_mul om om om om;have hb0:0<=((k:Int)+1)*(k+1):=Int.mul_nonneg om om;refine ab ?_;refine ai ?_ ?_<;>intro h2
 ·have hkR:k<R:=by
   rcases Nat.lt_or_ge k R with h|h
   ·exact h
   ·have:k=R:=by omega
    subst this;omega
  refine ab ?_;exact⟨k+1,⟨rfl,trivial⟩,aH,⟨by omega,hw.aT⟩,by omega⟩
 have hkR:k=R:=Nat.le_antisymm hk (lg k om);subst hkR;refine ab ?_;exact aW rfl rfl ⟨rfl,hw.aT⟩
theorem qhP (n:Nat):bX (n+1)=bX n++[(n:Int)]:=by simp[bX,range_succ]
theorem zP (n:Nat):(bX n).length=n:=by simp[bX]
theorem qib {w0:World}{n:Nat}(h1:n<=65536) :
  Calls Tryz.prog 89 #[.int .i64 n] w0 fun e w'=>∃ v,e=.returned v/\Sat w0 w' [OS aa 3 v (bX n)]:=by
 have hw:=Sat.start w0;refine bn (args:=[.int .i64 n]) mixed Tryz.func89 ?_;refine kq ?_;intro s w hw;have iI:(replicate ((n:Int)).toNat (0:Int)).length=n:=by simp
 have dA:=hw;rw[show ((n:Int)).toNat=n from by omega]at dA;refine cd [4,4,9,16] (G:=Nat) (fun k=>[(9,.int .i64 k)]) (fun k w=>k<=n/\Sat w0 w [OS aa 3 s (bX k++replicate (n-k) 0)]) (fun k=>n-k) 0 (fun _=>rfl) ⟨rfl,trivial⟩ ⟨zero_le _,dA⟩ ?_;clear hw dA;rintro σ k w ⟨hk,hw⟩;have l6:(bX k++replicate (n-k) 0).length=n:=by rw[length_append,zP,length_replicate];omega
 refine ab ?_;refine ai ?_ ?_<;>intro h2
 ·refine fi ?_;intro w hw
  refine⟨k+1,⟨rfl,trivial⟩,aH,⟨by omega,?_⟩,by omega⟩;have e:(bX k++replicate (n-k) 0).set k (k:Int)=bX (k+1)++replicate (n-(k+1)) 0:=by
   have hr:n-k=(n-(k+1))+1:=by omega
   rw[hr,replicate_succ,qhP,append_assoc,set_append_right _ _ (by rw[zP];omega),zP,Nat.sub_self];rfl
  rw[e]at hw;exact hw.aT
 have fT:k=n:=by omega
 subst fT;rw[Nat.sub_self,replicate_zero,append_nil]at hw;refine ab ?_;exact aW rfl rfl ⟨s,rfl,hw.aT⟩
theorem wX {w:World}{x y:Int}:Calls Tryz.prog 165 #[.int .i64 x,.int .i64 y] w fun e w'=>e=.returned (.int .i64 (eC x y))/\w'=w:=by
 unfold eC;exact qkX
theorem qkV {w0:World}(a b:Au) :
  Calls Tryz.prog 152 #[.agg #[.int .i64 a.src,.int .i64 a.bI,.int .i64 a.dst],.agg #[.int .i64 b.src,.int .i64 b.bI,.int .i64 b.dst]] w0 fun e w'=>e=.returned (.int .i64 (df a b))/\∃ (q:Nat) (os:Array Obj),w'=Sort.grow (w0.drewN q) os:=by
 have hw:=Sat.start w0;have hd:=Dr.refl w0;refine bn (args:=[.agg #[.int .i64 a.src,.int .i64 a.bI,.int .i64 a.dst],.agg #[.int .i64 b.src,.int .i64 b.bI,.int .i64 b.dst]]) mixed Tryz.func152 ?_;refine rU ?_;refine qu ?_;refine qeR (vs:=[.int .i64 a.src,.int .i64 a.bI,.int .i64 a.dst]) rfl hw hd ?_;clear hw hd;intro p w hw hd;refine qeR (vs:=[.int .i64 b.src,.int .i64 b.bI,.int .i64 b.dst]) rfl hw hd ?_;clear hw hd;intro p2 w hw hd;refine ab ?_;refine qio (pl [0,1,2,3,5,6,7,8,10,11,12,13,4] (.chk 6::.chk 8::.chk 11::.chk 13::pl [9] (.chk 11::.chk 13::pl [14,15,16,17] []))) hw hd kr ?_;clear hw hd;intro w hw hd;refine ab ?_;refine aJ rfl wX ?_;rintro _ w' ⟨rfl,rfl⟩;refine⟨_,rfl,?_⟩;refine ab ?_;refine aJ rfl wX ?_;rintro _ w' ⟨rfl,rfl⟩;refine⟨_,rfl,?_⟩;refine ab ?_;refine aJ rfl wX ?_;rintro _ w' ⟨rfl,rfl⟩;refine⟨_,rfl,?_⟩;refine ab ?_;refine qck (T:=aa) (len:=3) (parts:=[(0,.tmp 9),(1,.tmp 14),(2,.tmp 19)]) [(eC a.src b.src),(eC a.bI b.bI),(eC a.dst b.dst)] [.int .i64 (eC a.src b.src),.int .i64 (eC a.bI b.bI),.int .i64 (eC a.dst b.dst)] rfl rfl rfl rfl rfl (le_of_ble_eq_true rfl) (zero_lt_succ _) (le_of_ble_eq_true rfl) hw hd ?_;clear hw hd;intro s w hw hd;refine ab ?_;refine aJ rfl (qjn (Sat.rs hw 0 rfl)) ?_;rintro _ w' ⟨rfl,rfl⟩;refine⟨_,rfl,?_⟩;refine ab ?_;exact aW (v:=.int .i64 (sb [(eC a.src b.src),(eC a.bI b.bI),(eC a.dst b.dst)])) rfl rfl ⟨by unfold df;rfl,sV hw hd⟩
theorem qry {w0:World}(a b:Au) :
  Calls Tryz.prog 195 #[.agg #[.int .i64 a.src,.int .i64 a.bI,.int .i64 a.dst],.agg #[.int .i64 b.src,.int .i64 b.bI,.int .i64 b.dst]] w0 fun e w'=>e=.returned (.int .i64 (df a b))/\∃ (q:Nat) (os:Array Obj),w'=Sort.grow (w0.drewN q) os:=by
 have hw:=Sat.start w0;have hd:=Dr.refl w0;refine bn (args:=[.agg #[.int .i64 a.src,.int .i64 a.bI,.int .i64 a.dst],.agg #[.int .i64 b.src,.int .i64 b.bI,.int .i64 b.dst]]) mixed Tryz.func195 ?_;refine rU ?_;refine qu ?_;refine qeR (vs:=[.int .i64 a.src,.int .i64 a.bI,.int .i64 a.dst]) rfl hw hd ?_;clear hw hd;intro p w hw hd;refine qeR (vs:=[.int .i64 b.src,.int .i64 b.bI,.int .i64 b.dst]) rfl hw hd ?_;clear hw hd;intro p2 w hw hd;refine ab ?_;refine qio (pl [0,1,2,3,5,6,7,8,10,11,12,13,4] (.chk 6::.chk 8::.chk 11::.chk 13::pl [9] (.chk 11::.chk 13::pl [14,15,16,17] []))) hw hd kr ?_;clear hw hd;intro w hw hd;refine ab ?_;refine aJ rfl wX ?_;rintro _ w' ⟨rfl,rfl⟩;refine⟨_,rfl,?_⟩;refine ab ?_;refine aJ rfl wX ?_;rintro _ w' ⟨rfl,rfl⟩;refine⟨_,rfl,?_⟩;refine ab ?_;refine aJ rfl wX ?_;rintro _ w' ⟨rfl,rfl⟩;refine⟨_,rfl,?_⟩;refine ab ?_;refine qck (T:=aa) (len:=3) (parts:=[(0,.tmp 9),(1,.tmp 14),(2,.tmp 19)]) [(eC a.src b.src),(eC a.bI b.bI),(eC a.dst b.dst)] [.int .i64 (eC a.src b.src),.int .i64 (eC a.bI b.bI),.int .i64 (eC a.dst b.dst)] rfl rfl rfl rfl rfl (le_of_ble_eq_true rfl) (zero_lt_succ _) (le_of_ble_eq_true rfl) hw hd ?_;clear hw hd;intro s w hw hd;refine ab ?_;refine aJ rfl (qjn (Sat.rs hw 0 rfl)) ?_;rintro _ w' ⟨rfl,rfl⟩;refine⟨_,rfl,?_⟩;refine ab ?_;exact aW (v:=.int .i64 (sb [(eC a.src b.src),(eC a.bI b.bI),(eC a.dst b.dst)])) rfl rfl ⟨by unfold df;rfl,sV hw hd⟩
end
end Go.Proofs.YtmapkjoefdgjfaaGreatDoor
