/- Several texts. -/
import Derived.Test.YtmapkjoefdgjfaaGreatDoorMW3H
set_option linter.unusedSimpArgs false
set_option linter.unusedVariables false
set_option linter.defProp false
set_option maxRecDepth 8000
set_option maxHeartbeats 16000000
open List Nat
namespace Go.Proofs.YtmapkjoefdgjfaaGreatDoor
open Go.Sl
variable {w0 w:World}{t:aa}{L l p:J}{Γ:List HP}
section
open Go.Sl Go
attribute [local irreducible] vc opsW opsD opV opW PureV ReadV Thn Blk
def Vv (l:J):dZ l=((List.range l.length).filter fun j=>decide (j=0\/l.getD j W.dflt≠l.getD (j-1) W.dflt)).map fun j=>l.getD j W.dflt:=by
 have e:∀ j,l.toArray[j]! = l.getD j W.dflt:=fun j=>by
  simp[getElem!_def,List.getD];cases l[j]?<;>rfl
 unfold dZ Lib.compact Lib.compactUpTo Lib.keeps;simp only[e]
def EU {x:Int}:x∈dZ l↔x∈l:=by
 rw[Vv];simp only[iG,wT,mem_range,jV];constructor
 ·rintro⟨j,⟨a,_⟩,rfl⟩;exact cS _ a
 intro hx;obtain⟨i,b,he⟩:=Bd.1 hx;have key:∀ i,i<l.length->∃ j,(j<l.length/\(j=0\/l.getD j W.dflt≠l.getD (j-1) W.dflt))/\l.getD j W.dflt=l.getD i W.dflt:=by
  intro i
  induction i with
  | zero=>intro h;exact⟨0,⟨h,.inl rfl⟩,rfl⟩
  | succ i d =>
   intro h;by_cases c:l.getD (i+1) W.dflt=l.getD i W.dflt
   ·obtain⟨j,h1,a⟩:=d U
    exact⟨j,h1,a.trans c.symm⟩
   exact⟨i+1,⟨h,.inr c⟩,rfl⟩
 obtain⟨j,h1,a⟩:=key i b;exact⟨j,h1,by rw[a,aq b,he]⟩
def Vr (h:l.Pairwise (·<=·)):(dZ l).Pairwise (·<·):=by
 rw[Vv,zB];have fh:∀ i j,i<=j->j<l.length->l.getD i W.dflt<=l.getD j W.dflt:=fun i j b a=>by
  rcases pB i j with c|c
  ·rw[aq U,aq a];exact u9.1 h _ _ _ _ c
  have:i=j:=U;subst this;exact iq _
 refine(Bj.filter _).imp_of_mem fun {i j} c a b=>?_;simp only[wT,mem_range,jV]at c a;have h1:=fh i (j-1) U U;have d:=fh (j-1) j U a.1;have e:=a.2.resolve_left U;omega
def ϗ {vars s:J}{l:List mr}(f:aj vars s):(∀ e∈l,iQ vars e)->aj vars (gL p s l):=by
 refine pE (P:=fun l=>(∀ e∈l,iQ vars e)->aj vars (gL p s l)) (fun _=>f) ?_ l;intro l e g h;have h1:=g fun x hx=>h x (by simp[hx]);rw[EF];split
 ·obtain⟨a,b,c,d⟩:=uW (h e sm)
  exact NT h1 a c d
 exact h1
def Ϙ {a b c d vp vf:Value}{vs:List kq}{op:Nat}{fro:Int}(ht:bR w0 a b c d vs t)(hp:RS W w0 vp L)(hf:RS W w0 vf (lp t L op))(I:aJ t)(C:jX t.vars L)(D:op<t.M.length)(h0:0<=fro)(h1:fro<bG t.vars L)(hB:bG t.vars L<=4096)(j':bG t.vars (lp t L op)<=4096) :
  Calls ak 105 #[.agg #[a,b,c,d],E op,vp,vf,E fro] w0 fun e w'=>∃ s,e=.returned s/\Z w0 w' [X W 3 s (rS t L fro op)]:=by
 have q:=ht;obtain⟨ha,hb,hc,hd⟩:=ht;have R':=hd.rs;have _k:=hd.len;have _l:=ha.cn;have _m:=R'.cn;have _n:=I.vars;have K:sK w0 (aB cN vs op) (kM t op):=hd.eI op D;have _i:=K.one;obtain⟨es,P⟩:=K.aQ;have H':=P.rs;have _o:=P.len;have _p:=H'.cn;have _q:=K.pre;have hgo:vG t.vars (kM t op):=I.op op D;have _j:=hgo.aQ;have _r:=tR hgo.pre;have g:jX t.vars (lp t L op):=Gh _ _ _;obtain⟨T',_s⟩:=Gq I C h0 h1;have V':=Vw (op:=op) I C D h0 h1;have Y:=Z.start w0;refine bI ar Tryz.func105 ?_;refine w6 ?_;refine ve ?_;refine Bh ?_;clear Y;intro pt w Y
 repeat (first|refine dS ?_|(refine iT ?_;clear Y;intro p w Y)|(refine rG ?_;clear Y;intro w Y)|(refine gA ?_;clear Y;intro s w Y))
 obtain⟨po,rfl⟩:=À p;obtain⟨F,rfl⟩:=À s;refine aR rfl (LV (s:=F) (L:=L) (st:=la t.vars.length) q hp Y I.pos C.mem (Gt _) h0 U) ?_;clear Y;rintro _ w ⟨rfl,Y⟩;refine⟨_,rfl,?_⟩;refine O ?_;refine de [10,10,14,14,39,61] (G:=Nat) (fun k=>[(39,E k)]) (fun k w=>k<=(kM t op).pre.length/\yX L (sh t L fro) ((kM t op).pre.take k)/\Z w0 w [X W 3 F (np L (sh t L fro) ((kM t op).pre.take k)),am po 44 (cN.enc (aB cN vs op)),am pt 26 [a,b,c,d]]) (fun k=>(kM t op).pre.length-k) 0 (fun _=>rfl) ⟨rfl,az⟩ ⟨bC _,fun x hx=>by simp at hx,Y⟩ ?_;clear Y;rintro σ k w ⟨hk,y,Y⟩;refine aC ?_ ?_<;>intro h2
 ·have i:k<(kM t op).pre.length:=U
  have f:=Gu L (sh t L fro) ((kM t op).pre.take k) ((kM t op).pre.getD k aD.dflt);rw[<-eX aD.dflt i]at f;have n:=(jx I D).1 _ (cS aD.dflt i);have _a:=Vx L (sh t L fro) ((kM t op).pre.take k);have o:=T'.1;obtain⟨f1,f2,f3,f4⟩:=n;refine ep ?_;intro p w Y;refine aR rfl (xR (hp.at Y)) ?_;rintro _ w' ⟨rfl,aw⟩;replace Y:=Y.cH aw;clear aw;by_cases hm:((kM t op).pre.getD k aD.dflt).var∈L
  ·have j:(np L (sh t L fro) ((kM t op).pre.take k)).getD ((kM t op).pre.getD k aD.dflt).var.toNat W.dflt=sg (sh t L fro) ((kM t op).pre.getD k aD.dflt).var :=
    Vy f1 (fun x hx=>(jx I D).1 x (rZ hx)) fun x _ hx e=>hx (e ▸ hm)
   rw[dH hm];refine⟨_,rfl,?_⟩;refine sU ?_ ?_<;>intro w Y h3
   ·refine O ?_
    refine bo (v:=nS) rfl rfl ⟨_,rfl,?_⟩;rw[ϙ I C h0 h1 fun h=>h3 (by rw[j];exact h _ (cS aD.dflt i) hm)];exact Y.tail.tail.tail.tail.nil
   refine O ?_;refine⟨k+1,⟨rfl,az⟩,aX,⟨U,?_,?_⟩,U⟩
   ·rw[eX aD.dflt i]
    intro x hx m;rcases kK.1 hx with hx|hx
    ·exact y x hx m
    rw[fU.1 hx,<-j];omega
   rw[f,ba hm];exact Y.tail
  rw[dB hm];refine⟨_,rfl,?_⟩;refine dD ?_;intro w Y;refine⟨k+1,⟨rfl,az⟩,aX,⟨U,?_,?_⟩,U⟩
  ·rw[eX aD.dflt i]
   intro x hx m;rcases kK.1 hx with hx|hx
   ·exact y x hx m
   rw[fU.1 hx]at m;exact absurd m hm
  rw[f,aM hm];exact Y.tail
 rw[io U]at y Y;have i:=fun b=>Ϛ (b:=b) I C D h0 h1 y;refine O ?_;refine aR rfl (LY (q.at Y) (hf.at Y) I g.mem) ?_;rintro _ w' ⟨rfl,aw⟩;replace Y:=Y.cH aw;clear aw;rw[ba j'];refine⟨_,rfl,?_⟩;refine O ?_;obtain⟨N,hN⟩:=À (bG t.vars (lp t L op));have _b:=EZ I.pos g.mem;rw[<-hN]at i _b j' ⊢;refine zw [17,19,21,21,69,110] (G:=Nat) (H:=Value) (I':=J) (M':=J) (fun k so _ _=>[(69,E k),(17,so)]) (fun k so xs S w=>k<=N/\xs.length=k/\(∀ b,b∈xs↔uF t L op fro k b)/\aj t.vars S/\(∀ v,0<=v->v∉lp t L op->sg S v=sg (ua t L op fro) v)/\Z w0 w [X W 3 so xs,X W 3 F S,am po 44 (cN.enc (aB cN vs op)),am pt 26 [a,b,c,d]]) (fun k _ _ _=>N.toNat-k) 0 (nS) [] (ua t L op fro) (fun _ _ _ _=>rfl) ⟨rfl,rfl,az⟩ ⟨U,rfl,fun b=>⟨fun h=>by simp at h,fun⟨S,Q,_,_t,_⟩=>absurd (qF Q g.mem).1 U⟩,V',fun _ _ _=>rfl,Y.nil⟩ ?_;clear Y;rintro σ k so xs S w ⟨hk,_c,m,Q,J',Y⟩;refine aC ?_ ?_<;>intro h3
 ·have R:(0:Int)<=k:=U
  have z:(k:Int)<bG t.vars (lp t L op):=U;have hq:=Gv (s:=S) I.pos g Q.1 R z;have n:=JK (s:=S) I.pos g R z Q.1 fun v hv _d _=>Q.et hv _d;have o:∀ v,0<=v->v∉lp t L op->sg (jp t.vars (lp t L op) S k) v=sg (ua t L op fro) v:=fun v hv hn=>by rw[hq.2.2 v hv hn,J' v hv hn]
  have P':=fun b=>ϛ (b:=b) I C D n o hq.1;refine O ?_;refine aR rfl (LV (s:=F) (L:=lp t L op) (st:=S) q hf Y.swap I.pos g.mem Q.1 R U) ?_;clear Y;rintro _ w ⟨rfl,Y⟩;refine⟨_,rfl,?_⟩;obtain⟨A,_e⟩:=À (jp t.vars (lp t L op) S k);rw[<-_e]at Y n o P';have _u:=n.1;clear Q J' hq;refine O ?_;refine aR rfl (pU (a:=F) (xs:=A) (bB Y) U) ?_;rintro _ w' ⟨sn,rfl,aw⟩;refine aO ?_;clear aw Y;intro Y;refine O ?_;refine de [21,21,82,102] (G:=Nat) (fun j=>[(82,E j)]) (fun j w=>j<=(kM t op).aQ.length/\Z w0 w [X W 3 sn (gL L A ((kM t op).aQ.take j)),X W 3 F A,X W 3 so xs,am po 44 (cN.enc (aB cN vs op)),am pt 26 [a,b,c,d]]) (fun j=>(kM t op).aQ.length-j) 0 (fun _=>rfl) ⟨rfl,az⟩ ⟨bC _,Y⟩ ?_;clear Y;rintro _v j w ⟨hj,Y⟩;refine aC ?_ ?_<;>intro h4
  ·have T:j<(kM t op).aQ.length:=U
   have B:=P.eI j T;have _f:=B.cb;have _g:=B.one;have V:=B.var;have _h:=B.val;obtain⟨r1,r2,r3,r4⟩:=uW (hgo.fS j T);have f:=EF L A ((kM t op).aQ.take j) ((kM t op).aQ.getD j bQ);rw[<-eX bQ T]at f;have _a:=JL L A ((kM t op).aQ.take j);refine ep ?_;intro p w Y;refine aR rfl (xR (hp.at Y)) ?_;rintro _ w' ⟨rfl,aw⟩;replace Y:=Y.cH aw;clear aw;by_cases hm:(aB bm es j).var∈L
   ·rw[dH hm]
    refine⟨_,rfl,?_⟩;refine O ?_;refine aR rfl (T0 (b:=F) (s:=A) (_f.at Y) (bB Y)) ?_;rintro _ w' ⟨⟨r,rfl,hr⟩,aw⟩;refine aL ?_;clear aw Y;intro Y
    cases r with
    | false =>
     refine O ?_;refine⟨j+1,⟨rfl,az⟩,aX,⟨U,?_⟩,U⟩;rw[f,aM fun h=>by have:=hr.2 h.2;cases this]
     exact Y.tail
    | true =>
     refine dD ?_;intro w Y;refine⟨j+1,⟨rfl,az⟩,aX,⟨U,?_⟩,U⟩;rw[f,ba ⟨V ▸ hm,hr.1 rfl⟩,<-V,<-_h];exact Y.tail
   rw[dB hm];refine⟨_,rfl,?_⟩;refine O ?_;refine⟨j+1,⟨rfl,az⟩,aX,⟨U,?_⟩,U⟩;rw[f,aM fun h=>hm (V ▸ h.1)];exact Y.tail
  rw[io U]at Y;have bX:=ϗ (p:=L) n hgo.mem;refine O ?_;refine aR rfl (RR (sv:=sn) (s:=gL L A (kM t op).aQ) (q.at Y) (hp.at Y) (bB Y) I C.mem bX U) ?_;rintro _ w' ⟨rfl,aw⟩;refine aL ?_;clear aw Y;intro Y
  repeat (first|refine dS ?_|(refine gA ?_;clear Y;intro s w Y))
  refine⟨k+1,_,xs++[cy t.vars L (gL L A (kM t op).aQ)],A,⟨rfl,rfl,az⟩,aX,⟨U,by simp[_c],fun b=>?_,n,o,?_⟩,U⟩
  ·rw[kK,fU,m b,DC,Int.natCast_one,P' b]
  exact Y.tail.tail.swap
 have z:(k:Int)=N:=U;rw[z]at m;refine O ?_;refine aR rfl (Fb (s:=so) Y U) ?_;clear Y;rintro _ w ⟨rfl,Y⟩;refine⟨_,rfl,?_⟩;refine O ?_;refine aR rfl (Ig (s:=so) Y (by rw[Fw];omega)) ?_;clear Y;rintro _ w ⟨f,rfl,Y⟩;refine⟨_,rfl,?_⟩;refine O ?_;refine bo (v:=f) rfl rfl ⟨f,rfl,?_⟩;have e:dZ (fW xs)=rS t L fro op:=by
  refine LZ (Vr (LS xs)) fun u=>?_;rw[EU,If,m u,i u];constructor
  ·intro h
   have j:=(i u).2 h;exact⟨Ϝ I C D j,h⟩
  exact fun h=>h.2
 rw[e]at Y;exact Y.only
noncomputable def dh (t:aa)(p:J):Int:=if nb t p≠0 then nb t p else lu t p
def KP:nb t p=0↔aJ t/\fX t.vars p:=by
 rw[<-tE];unfold nb;by_cases h:cC t=0
 ·rw[aM (by simp[h])]
  by_cases a:fX t.vars p
  ·rw[ba a];exact⟨fun _=>⟨h,a⟩,fun _=>rfl⟩
  rw[aM a];exact⟨(fun e=>by cases e),fun e=>absurd e.2 a⟩
 rw[ba h];exact⟨fun e=>absurd e h,fun e=>absurd e.1 h⟩
def KO (h:nb t p=0):dh t p=lu t p:=by rw[dh,aM (by simp[h])]
noncomputable def tO (t:aa)(L:J)(i:Nat):List J:=(List.range t.M.length).map fun op=>if op<i then lp t L op else []
def Gw (t:aa)(L:J)(i:Nat):(tO t L i).length=t.M.length:=by simp[tO]
def ϝ (t:aa)(L:J):tO t L 0=replicate t.M.length []:=by
 apply jB (by simp[tO]);intro i h1 a;simp[tO]
def Vz {i j:Nat}(b:j<i)(a:j<t.M.length):(tO t L i).getD j []=lp t L j:=by simp[tO,List.getD,b,a]
def Ϟ {i:Nat}(hi:i<t.M.length):(tO t L i).set i (lp t L i)=tO t L (i+1):=by
 apply jB (by simp[tO]);intro j h1 a;rw[tS];simp only[tO,getElem_map,tI];split
 ·rename_i e;subst e;rw[ba U]
 by_cases h:j<i
 ·rw[ba h,ba U]
 rw[aM h,aM U]
def iH (Y:Z w0 w Γ):Z w0 w []:=⟨Y.below,az⟩
def Pg {A B C:HP}(h:Z w0 w (A::B::C::Γ)):Z w0 w [A,B,C]:=h.ou fun _ h=>cB.jE (fun _ h=>h) (fun _ h=>cB.jE (fun _ h=>h) (fun _ _=>trivial) h) h
def uA (w0 w:World)(cv ev gv:Value)(S:ct):Prop:=Z w0 w [X W 3 cv S.aN,X aV 190 ev S.aH,X ah 4 gv S.aW]
def zL (Y:Z w0 w Γ):uA w0 w (nS) (nS) (nS) cT:=(iH Y).nil.nil.nil
def df (S:ct)(cv ev gv:Value):Value:=.agg #[E S.st,E S.cj,cv,ev,gv]
def HN {a b c d vp:Value}{vs:List kq}(ht:bR w0 a b c d vs t)(R:RS W w0 vp L) :
  Calls ak 80 #[.agg #[a,b,c,d],vp] w0 fun e w'=>∃ cv ev gv,e=.returned (.tuple #[df (kQ t L (dh t L)) cv ev gv,bS (dh t L)])/\uA w0 w' cv ev gv (kQ t L (dh t L)):=by
 have r:=ht;obtain⟨ha,hb,hc,hd⟩:=ht;have _b:=hd.rs;have _c:=hd.len;have _n:=ha.cn;have _o:=_b.cn;have _p:=hc.cn;have Y:=Z.start w0;refine bI ar Tryz.func80 ?_;refine w6 ?_;refine ve ?_;refine Bh ?_;clear Y;intro V w Y;refine H2 ?_;clear Y;intro u w Y;refine O ?_;refine aR rfl (Ò (r.at Y) (R.at Y)) ?_;rintro _ w' ⟨rfl,aw⟩;refine aL ?_;clear aw Y;intro Y;by_cases hk:nb t L=0
 ·rw[ff hk]
  obtain⟨I,_d⟩:=KP.1 hk;have F:=_d.Qj;rw[KO hk];have _e:=I.vars;have _q:=I.M;refine O ?_;refine aR rfl (LY (r.at Y) (R.at Y) I F.mem) ?_;rintro _ w' ⟨rfl,aw⟩;replace Y:=Y.cH aw;clear aw;by_cases hB:bG t.vars L<=4096
  ·rw[ba hB]
   refine⟨_,rfl,?_⟩;refine O ?_;refine aR rfl (RR (s:=t.dt) (r.at Y) (R.at Y) (hb.at Y) I F.mem I.dt U) ?_;rintro _ w' ⟨rfl,aw⟩;refine aL ?_;clear aw Y;intro Y
   repeat (first|refine dS ?_|(refine iT ?_;clear Y;intro p w Y)|(refine rG ?_;clear Y;intro w Y)|(refine gA ?_;clear Y;intro s w Y))
   obtain⟨px,rfl⟩:=À p;obtain⟨fv,rfl⟩:=À s;rw[_c]at Y;have y:=(Y.iJ (T:=W) (e:=3) t.M.length).nil (T:=W) (e:=3);rw[<-ϝ t L]at y;clear Y;refine pu [5,5,11,14,54,85] (G:=Nat) (H:=Value) (I':=List Value) (fun i _ _=>[(54,E i)]) (fun i cv o w=>i<=t.M.length/\(∀ op,op<i->bG t.vars (lp t L op)<=4096)/\Z w0 w [X W 3 cv ((ao t).take i),ai W 3 o (tO t L i),X aA 22 fv o,am px 142 [E (bG t.vars L),E (cy t.vars L t.dt),cv,nS,nS],am u 142 [E 0,E 0,nS,nS,nS],am V 26 [a,b,c,d]]) (fun i _ _=>t.M.length-i) 0 (nS) (replicate t.M.length (nS)) (fun _ _ _=>rfl) ⟨rfl,az⟩ ⟨bC _,fun op h=>absurd h (eo _),y⟩ ?_;clear y;rintro σ i cv o w ⟨hi,j',Y⟩;refine aC ?_ ?_<;>intro h1
   ·have f:i<t.M.length:=U
    have A:=hd.eI i f;have P:=A.one;have C:=A.aT;have J':o.length=t.M.length:=by have:=(Y.bN 1 rfl).bU;rw[Gw]at this;exact this
    have H':((ao t).take i).length<=4096:=by simp[ao];omega
    repeat (first|refine dS ?_|(refine iT ?_;clear Y;intro p w Y)|(refine rG ?_;clear Y;intro w Y)|(refine gA ?_;clear Y;intro s w Y))
    refine aR rfl (Þ (vars:=t.vars) (L:=L) (A.at Y) (R.at Y) (I.op i f) _e) ?_;rintro _ w' ⟨D,rfl,aw⟩;refine aO ?_;clear aw Y;intro Y;have Q:(o.set i D).length=t.M.length:=by simp[J']
    refine dD ?_;intro w Y;have z:=(((Y.bN 4 rfl).swap.tn (by rw[Gw];exact f)).swap.tail.swap.tail).swap;rw[show ut t.vars (t.M.getD i bz) L=lp t L i from rfl,Ϟ f]at z;have q:=(z.swap).row (i:=i) (by rw[Gw];exact f);rw[Vz (Mp i) f]at q;clear Y;have Y:Z w0 w [X W 3 s ((ao t).take i++[(aB cN vs i).aT]),ai W 3 (o.set i D) (tO t L (i+1)),X aA 22 fv (o.set i D),am px 142 [E (bG t.vars L),E (cy t.vars L t.dt),s,nS,nS],am u 142 [E 0,E 0,nS,nS,nS],am V 26 [a,b,c,d]]:=z;clear z;have K:(ao t).take i++[(aB cN vs i).aT]=(ao t).take (i+1):=by
     rw[eX W.dflt (show i<(ao t).length by simp[ao];exact f),tD f,C]
    rw[K]at Y;refine aR rfl (LY (r.at Y) q I (Gh _ _ _).mem) ?_;rintro _ w' ⟨rfl,aw⟩;replace Y:=Y.cH aw;clear aw;by_cases B:bG t.vars (lp t L i)<=4096
    ·rw[ba B]
     refine⟨_,rfl,?_⟩;refine O ?_;refine⟨i+1,_,_,⟨rfl,az⟩,aX,⟨U,fun op h=>?_,Y⟩,U⟩;by_cases e:op=i
     ·subst e;exact B
     exact j' op U
    rw[aM B];refine⟨_,rfl,?_⟩;refine O ?_;refine mq (parts:=[]) (vs:=[]) rfl rfl rfl ?_;refine dD ?_;intro w Y;have he:lu t L=5:=by rw[lu,aM U,ba ⟨i,f,U⟩]
    rw[he];exact jF (p:=u) (vs:=[E 0,E 0,nS,nS,nS]) rfl rfl (v':=bS 5) (by rw[c9 dc];rfl) rfl (fun j v hv=>nw (i:=4) Y rfl hv) ⟨_,_,_,rfl,zL Y⟩
   have _f:i=t.M.length:=U;subst _f;rw[io (by simp[ao])]at Y;have P':¬tx t L:=fun⟨op,h,h2⟩=>by have:=j' op h;omega
   have J':o.length=t.M.length:=by have:=(Y.bN 1 rfl).bU;rw[Gw]at this;exact this
   have _r:=EZ I.pos F.mem;obtain⟨N,hN⟩:=À (bG t.vars L);refine kO ?_;intro s w Y;obtain⟨sv,rfl⟩:=À s;have y:Z w0 w [X W 3 sv (la t.vars.length),X ah 4 (nS) (eT t L 0),X aV 190 (nS) (jL t L 0),X W 3 cv (ao t),ai W 3 o (tO t L t.M.length),X aA 22 fv o,am px 142 [E (bG t.vars L),E (cy t.vars L t.dt),cv,(nS),(nS)],am u 142 [E 0,E 0,nS,nS,nS],am V 26 [a,b,c,d]]:=(Y.nil (T:=aV) (e:=190)).nil (T:=ah) (e:=4) |>.bN 2 rfl;clear Y;refine zw [5,5,16,17,19,20,22,22,91,168] (G:=Nat) (H:=Value) (I':=Value) (M':=J) (fun k _ _ _=>[(91,E k)]) (fun k ev gv S w=>(k:Int)<=bG t.vars L/\(jL t L k).length<=65536/\aj t.vars S/\Z w0 w [X W 3 sv S,X ah 4 gv (eT t L k),X aV 190 ev (jL t L k),X W 3 cv (ao t),ai W 3 o (tO t L t.M.length),X aA 22 fv o,am px 142 [E (bG t.vars L),E (cy t.vars L t.dt),cv,ev,gv],am u 142 [E 0,E 0,nS,nS,nS],am V 26 [a,b,c,d]]) (fun k _ _ _=>(bG t.vars L).toNat-k) 0 (nS) (nS) (la t.vars.length) (fun _ _ _ _=>rfl) ⟨rfl,az⟩ ⟨U,by rw[ϟ];exact bC _,VA I.pos,y⟩ ?_;clear y;rintro _s k ev gv S w ⟨_t,_g,hS,Y⟩;refine aC ?_ ?_<;>intro h2
   ·have B:(0:Int)<=k:=U
    have hq:=Gv (s:=S) I.pos F hS.1 B h2;have C:=JK (s:=S) I.pos F B h2 hS.1 fun v hv _h _=>hS.et hv _h;refine O ?_;refine aR rfl (LV (s:=sv) (L:=L) (st:=S) r R Y I.pos F.mem hS.1 B U) ?_;clear Y;rintro _ w ⟨rfl,Y⟩;refine⟨_,rfl,?_⟩;obtain⟨K,_i⟩:=À (jp t.vars L S k);rw[<-_i]at Y C hq;have _j:=Ϡ I F C hq.1;have _u:=C.1;clear hS hq;refine O ?_;refine dP [17,17,19,19,102,124] (G:=Nat) (H:=Bool) (fun j g=>[(102,E j),(17,.bool g)]) (fun j g w=>j<=t.aF.length/\(g=true↔uG L K (t.aF.take j))/\Z w0 w [X W 3 sv K,X ah 4 gv (eT t L k),X aV 190 ev (jL t L k),X W 3 cv (ao t),ai W 3 o (tO t L t.M.length),X aA 22 fv o,am px 142 [E (bG t.vars L),E (cy t.vars L t.dt),cv,ev,gv],am u 142 [E 0,E 0,nS,nS,nS],am V 26 [a,b,c,d]]) (fun j _=>t.aF.length-j) 0 true (fun _ _=>rfl) ⟨rfl,rfl,az⟩ ⟨bC _,⟨fun _ x hx=>by simp at hx,fun _=>rfl⟩,Y⟩ ?_;clear Y;rintro _v j g w ⟨hj,D,Y⟩;refine aC ?_ ?_<;>intro h3
    ·have f:j<t.aF.length:=U
     obtain⟨f1,f2,f3,f4⟩:=Ad I.aF _ (cS aD.dflt f);have z:uG L K (t.aF.take (j+1))↔uG L K (t.aF.take j)/\((t.aF.getD j aD.dflt).var∈L->sg K (t.aF.getD j aD.dflt).var=(t.aF.getD j aD.dflt).val):=by
      rw[eX aD.dflt f];unfold uG;constructor
      ·exact fun h=>⟨fun x hx=>h x (by simp[hx]),h _ sm⟩
      rintro⟨h,A⟩ x hx;rcases kK.1 hx with hx|hx
      ·exact h x hx
      rw[fU.1 hx];exact A
     cases g with
     | false =>
      refine ep ?_;intro p w Y
      exact⟨j+1,false,⟨rfl,rfl,az⟩,aX,⟨U,dU (fun h=>by have:=D.2 (z.1 h).1;cases this),Y.tail⟩,U⟩
     | true =>
      have A:=D.1 rfl;refine ep ?_;intro p w Y;refine aR rfl (xR (R.at Y)) ?_;rintro _ w' ⟨rfl,aw⟩;replace Y:=Y.cH aw;clear aw;by_cases hm:(t.aF.getD j aD.dflt).var∈L
      ·rw[dH hm]
       refine⟨_,rfl,?_⟩;refine O ?_;refine⟨j+1,_,⟨rfl,rfl,az⟩,aX,⟨U,?_,Y.tail⟩,U⟩;rw[jV,z];exact⟨fun h=>⟨A,fun _=>h⟩,fun h=>h.2 hm⟩
      rw[dB hm];refine⟨_,rfl,?_⟩;refine O ?_;exact⟨j+1,true,⟨rfl,rfl,az⟩,aX,⟨U,js (z.2 ⟨A,fun h=>absurd h hm⟩),Y.tail⟩,U⟩
    rw[io U,_j,<-Nh]at D;have _k:g=nY t L k:=Bool.eq_iff_iff.2 D;have _m:=KU t L k;subst _k
    repeat refine dS ?_
    refine jA ah (x1:=nY t L k) rfl rfl rfl (fP rfl) (fg _) Y ?_;clear Y;intro s2 w Y;refine kO ?_;intro s w Y;obtain⟨gw,rfl⟩:=À s;rw[<-ϡ]at Y;refine dP [5,5,20,20,22,22,134,167] (G:=Nat) (H:=Value) (fun j _=>[(134,E j)]) (fun j ev w=>j<=t.M.length/\(jL t L k++kB t L k j).length<=65536/\Z w0 w [X W 3 sv K,X ah 4 gw (eT t L (k+1)),X aV 190 ev (jL t L k++kB t L k j),X W 3 cv (ao t),ai W 3 o (tO t L t.M.length),X aA 22 fv o,am px 142 [E (bG t.vars L),E (cy t.vars L t.dt),cv,ev,gw],am u 142 [E 0,E 0,nS,nS,nS],am V 26 [a,b,c,d]]) (fun j _=>t.M.length-j) 0 ev (fun _ _=>rfl) ⟨rfl,az⟩ ⟨bC _,by rw[VB,gj];exact _g,by rw[VB,gj];exact Y.tail⟩ ?_;clear Y;rintro _w j ev w ⟨hj,A,Y⟩;refine aC ?_ ?_<;>intro h4
    ·have f:j<t.M.length:=U
     have R':=j' j f;refine dD ?_;intro w Y;have q:=(Y.bN 4 rfl).row (i:=j) (by rw[Gw];exact f);rw[Vz f f]at q;refine aR rfl (Ϙ (op:=j) (fro:=k) (r.at Y) (R.at Y) q I F f B h2 hB R') ?_;rintro _ w' ⟨tv,rfl,aw⟩;replace Y:=Y.pI aw;clear aw;have T':=Ϣ (bG t.vars L) (Gx t L k j);have V':=ϣ h2 f;rw[show pO (bG t.vars L) (Gx t L k j)=rS t L k j from rfl]at T';obtain⟨P,_a⟩:=À (rS t L k j);rw[<-_a]at Y T' V';refine⟨_,rfl,?_⟩;refine O ?_;refine dP [5,5,22,22,147,166] (G:=Nat) (H:=Value) (fun m _=>[(147,E m)]) (fun m ev w=>m<=P.length/\(jL t L k++kB t L k j++mI k j (P.take m)).length<=65536/\Z w0 w [X W 3 tv P,X W 3 sv K,X ah 4 gw (eT t L (k+1)),X aV 190 ev (jL t L k++kB t L k j++mI k j (P.take m)),X W 3 cv (ao t),ai W 3 o (tO t L t.M.length),X aA 22 fv o,am px 142 [E (bG t.vars L),E (cy t.vars L t.dt),cv,ev,gw],am u 142 [E 0,E 0,nS,nS,nS],am V 26 [a,b,c,d]]) (fun m _=>P.length-m) 0 ev (fun _ _=>rfl) ⟨rfl,az⟩ ⟨bC _,by simpa [mI] using A,by simpa [mI] using Y⟩ ?_;clear Y;rintro _x m ev w ⟨hm,Q,Y⟩;refine aC ?_ ?_<;>intro h5
     ·have _l:m<P.length:=U
      have z:=Ϥ (a:=k) (op:=j) _l;have H':(jL t L k++kB t L k j++mI k j (P.take m)).length=(jL t L k).length+(kB t L k j).length+m:=by simp[Nk];omega
      refine aC ?_ ?_<;>intro h6
      ·refine O ?_
       refine mq (parts:=[]) (vs:=[]) rfl rfl rfl ?_;refine dD ?_;intro w Y;have he:lu t L=5:=by rw[lu,aM U,aM P',ba U]
       rw[he];exact jF (p:=u) (vs:=[E 0,E 0,nS,nS,nS]) rfl rfl (v':=bS 5) (by rw[c9 dc];rfl) rfl (fun j v hv=>nw (i:=8) Y rfl hv) ⟨_,_,_,rfl,zL Y⟩
      refine O ?_;refine jA aV (x1:=⟨k,j,P.getD m W.dflt⟩) rfl rfl rfl (fP rfl) (fg _) Y ?_;clear Y;intro s3 w Y;refine kO ?_;intro s w Y;rw[fk,<-z]at Y;refine⟨m+1,_,⟨rfl,az⟩,aX,⟨U,?_,Y.tail⟩,U⟩;rw[z,<-fk,length_append,H'];simp only[length_cons,length_nil];omega
     rw[io U,_a,fk,<-Jp]at Y Q;refine O ?_;exact⟨j+1,ev,⟨rfl,az⟩,aX,⟨U,Q,Y.tail⟩,U⟩
    have f:j=t.M.length:=U;subst f;rw[<-Jq]at Y A;refine O ?_;exact⟨k+1,ev,gw,K,⟨rfl,az⟩,aX,⟨U,A,C,Y⟩,U⟩
   have f:k=(bG t.vars L).toNat:=U;subst f;have he:lu t L=0:=by rw[lu,aM U,aM P',aM (by unfold cm;omega)]
   rw[he];have q:=(Y.rs 3 rfl).one;have z:=(Y.rs 2 rfl).one;have A:=(Y.rs 1 rfl).one;refine O ?_;refine lm (n:=5) (p:=u) (vs:=[E (bG t.vars L),E (cy t.vars L t.dt),cv,ev,gv]) rfl rfl Y inferInstance rfl rfl (by simp only[fo,fB,q,z,A];rfl) ?_;clear Y;intro w Y;refine O ?_;exact jF (p:=u) (vs:=[E (bG t.vars L),E (cy t.vars L t.dt),cv,ev,gv]) rfl rfl (v':=bS 0) (by rw[ff rfl];rfl) rfl (fun j v hv=>nw (i:=7) Y rfl hv) ⟨cv,ev,gv,rfl,Pg ((Y.tail.bN 2 rfl).ou fun _ h=>h.swap)⟩
  rw[aM hB];refine⟨_,rfl,?_⟩;refine O ?_;refine mq (parts:=[]) (vs:=[]) rfl rfl rfl ?_;refine dD ?_;intro w Y;have he:lu t L=5:=by rw[lu,ba U]
  rw[he];refine jF (p:=u) (vs:=[E 0,E 0,nS,nS,nS]) rfl rfl (v':=bS 5) (by rw[c9 dc];rfl) rfl (fun j v hv=>nw (i:=0) Y rfl hv) ⟨_,_,_,rfl,zL Y⟩
 rw[c9 hk];refine O ?_;refine mq (parts:=[]) (vs:=[]) rfl rfl rfl ?_;refine dD ?_;intro w Y;have he:dh t L=nb t L:=by rw[dh,ba hk]
 rw[he];have f:kQ t L (nb t L)=cT:=by rw[kQ,aM hk]
 rw[f];exact jF (p:=u) (vs:=[E 0,E 0,nS,nS,nS]) rfl rfl (v':=bS (nb t L)) (by rw[c9 hk];rfl) rfl (fun j v hv=>nw (i:=0) Y rfl hv) ⟨_,_,_,rfl,zL Y⟩
end
section
open Go.Sl Go
structure dE (w:World) (cv ev gv:Value) (S:ct):Prop where
 aN:RS W w cv S.aN
 aH:RS aV w ev S.aH
 aW:RS ah w gv S.aW
def dE.at {w0 w:World}{Γ:List HP}{cv ev gv:Value}{S:ct}(h:dE w0 cv ev gv S)(Y:Z w0 w Γ):dE w cv ev gv S:=⟨h.aN.at Y,h.aH.at Y,h.aW.at Y⟩
end
section
open Go.Sl
structure lW where
 var:Int
 eP:J
 qI:J
 fp:Int
structure EG where
 eY:ct
 fp:List lW
 vg:Int
def VC (n:Int):∃ k:Nat,n<((k:Int)+1)*(k+1)/\∀ j:Nat,n<((j:Int)+1)*(j+1)->k<=j :=
 Sh (p:=fun r:Nat=>n<((r:Int)+1)*(r+1)) n.toNat (by
  grind )
noncomputable def j6 (n:Int):Nat:=Classical.choose (VC n)
def VD (n:Int):n<((j6 n:Int)+1)*(j6 n+1)/\∀ j:Nat,n<((j:Int)+1)*(j+1)->j6 n<=j:=FN (VC n)
noncomputable def nq (most:Int)(a b:Int):Int × Int:=if a*b>most then (if a<=j6 most then (a,most.tdiv a) else if b<=j6 most then (most.tdiv b,b) else (j6 most,j6 most)) else (a,b)
noncomputable def nZ (t:aa)(most:Int)(v:Int):EG :=
 if dh t [v]≠0 then ⟨cT,[],dh t [v]⟩
 else if cK (dY t [v]) most≠0 then ⟨cT,[],cK (dY t [v]) most⟩
 else ⟨dV (dY t [v]) most,[⟨v,gP (dY t [v]) most,[],(dV (dY t [v]) most).st⟩],0⟩
noncomputable def n0 (t:aa)(most:Int)(s:EG)(v:Int):EG :=
 if s.vg≠0 then s
 else if dh t [v]≠0 then ⟨cT,s.fp,dh t [v]⟩
 else let A:=dY t [v];let a:=nq most s.eY.st A.st
  if cK s.eY a.1≠0 then ⟨cT,s.fp,cK s.eY a.1⟩
  else if cK A a.2≠0 then ⟨cT,s.fp,cK A a.2⟩
  else if dG (dV s.eY a.1) (dV A a.2)≠0 then ⟨cT,s.fp++[⟨v,gP A a.2,gP s.eY a.1,(dV A a.2).st⟩],dG (dV s.eY a.1) (dV A a.2)⟩
  else ⟨iM (dV s.eY a.1) (dV A a.2),s.fp++[⟨v,gP A a.2,gP s.eY a.1,(dV A a.2).st⟩],0⟩
noncomputable def kb (t:aa)(most:Int):Nat->EG
 | 0=>⟨kQ t [] (dh t []),[],dh t []⟩
 | 1=>nZ t most 0
 | k+1=>n0 t most (kb t most k) k
noncomputable def lX (most:Int):Int:=max 1 (min most 4096)
open Classical in
noncomputable def fa (t:aa)(most:Int):Int:=if (kb t (lX most) t.vars.length).vg≠0 then (kb t (lX most) t.vars.length).vg else if cW (kb t (lX most) t.vars.length).eY then 0 else 2
noncomputable def sX (t:aa)(most:Int):List lW:=(kb t (lX most) t.vars.length).fp
noncomputable def vz (t:aa)(most:Int):J:=oN (kb t (lX most) t.vars.length).eY
def qH (s:J):List lW->Int
 | []=>0
 | x::r=>r.foldl (fun a y=>y.qI.getD a.toNat W.dflt*y.fp+y.eP.getD (s.getD y.var.toNat W.dflt).toNat W.dflt) (x.eP.getD (s.getD x.var.toNat W.dflt).toNat W.dflt)
end
section
open Go.Sl Go
attribute [local irreducible] vc opsW opsD opV opW PureV ReadV Thn Blk
def M6 {v:Value}(d:RS W w0 v l) :
  Calls ak 177 #[v] w0 fun e w'=>e=.returned (E (xX l))/\w'=w0:=by
 have f:=d.cn;have Y:=Z.start w0;refine bI ar Tryz.func177 ?_;refine O ?_;refine de [2,2,5,5,8,16] (G:=Nat) (fun k=>[(8,E k)]) (fun k w=>k<=l.length/\xX (l.drop k)=xX l/\w=w0) (fun k=>l.length-k) 0 (fun _=>rfl) ⟨rfl,az⟩ ⟨bC _,rfl,rfl⟩ ?_;clear Y;rintro h k w ⟨hk,a,rfl⟩;have Y:=Z.start w;refine aC ?_ ?_<;>intro h1
 ·have b:k<l.length:=U
  have c:l.drop k=l.getD k W.dflt::l.drop (k+1):=by rw[xd b];simp[List.getD,b]
  rw[c]at a;simp only[xX]at a;refine aC ?_ ?_<;>intro g
  ·rw[ba g]at a
   refine O ?_;exact bo (v:=E (l.getD k W.dflt)) rfl rfl ⟨by rw[a],rfl⟩
  rw[aM U]at a;refine O ?_;exact⟨k+1,⟨rfl,az⟩,aX,⟨U,a,rfl⟩,U⟩
 rw[oG U]at a;refine O ?_;exact bo (v:=E 0) rfl rfl ⟨by rw[<-a];rfl,rfl⟩
def ϥ {n:Int}(i:0<=n)(h1:n<=4096) :
  Calls ak 114 #[E n] w0 fun e w'=>e=.returned (E (j6 n))/\Z w0 w' []:=by
 have Y:=Z.start w0;obtain⟨c,a⟩:=VD n;have d:j6 n<=64:=a 64 U;obtain⟨R,f⟩:=À (j6 n);rw[<-f]at c a d ⊢;refine bI ar Tryz.func114 ?_;refine O ?_;refine de [3,12] (G:=Nat) (fun k=>[(3,E k)]) (fun k w=>k<=R/\Z w0 w []) (fun k=>R-k) 0 (fun _=>rfl) ⟨rfl,az⟩ ⟨bC _,Y⟩ ?_;clear Y;rintro j k w ⟨hk,Y⟩;have m:((k:Int)+1)*(k+1)<=65*65:=w9 U U U U;have g:0<=((k:Int)+1)*(k+1):=vX U U;refine aC ?_ ?_<;>intro o
 ·have b:k<R:=by
   rcases pB k R with h|h
   ·exact h
   have:k=R:=U;subst this;omega
  refine O ?_;exact⟨k+1,⟨rfl,az⟩,aX,⟨U,Y.bj⟩,U⟩
 have b:k=R:=Nat.le_antisymm hk (a k U);subst b;refine O ?_;exact bo rfl rfl ⟨rfl,Y.bj⟩
def Ur (n:Nat):dI (n+1)=dI n++[(n:Int)]:=by simp[dI,lN]
def DO (n:Nat):(dI n).length=n:=by simp[dI]
def Q7 {n:Nat}(h1:n<=65536) :
  Calls ak 89 #[E n] w0 fun e w'=>∃ v,e=.returned v/\Z w0 w' [X W 3 v (dI n)]:=by
 have Y:=Z.start w0;refine bI ar Tryz.func89 ?_;refine kO ?_;intro s w Y;have c:(replicate ((n:Int)).toNat (0:Int)).length=n:=sm;have a:=Y;rw[show ((n:Int)).toNat=n from by omega]at a;refine de [4,4,9,16] (G:=Nat) (fun k=>[(9,E k)]) (fun k w=>k<=n/\Z w0 w [X W 3 s (dI k++replicate (n-k) 0)]) (fun k=>n-k) 0 (fun _=>rfl) ⟨rfl,az⟩ ⟨bC _,a⟩ ?_;clear Y a;rintro f k w ⟨hk,Y⟩;have d:(dI k++replicate (n-k) 0).length=n:=by rw[length_append,DO,mp];omega
 refine aC ?_ ?_<;>intro g
 ·refine dD ?_;intro w Y
  refine⟨k+1,⟨rfl,az⟩,aX,⟨U,?_⟩,U⟩;have e:(dI k++replicate (n-k) 0).set k (k:Int)=dI (k+1)++replicate (n-(k+1)) 0:=by
   have b:n-k=(n-(k+1))+1:=U;rw[b,Cz,Ur,fk,xQ _ _ (by rw[DO];omega),DO,pW];rfl
  rw[e]at Y;exact Y.bj
 have b:k=n:=U;subst b;rw[pW,Bk,gj]at Y;refine O ?_;exact bo rfl rfl ⟨s,rfl,Y.bj⟩
def BJ {x y:Int}:Calls ak 165 #[E x,E y] w fun e w'=>e=.returned (E (ia x y))/\w'=w:=by
 unfold ia;exact TY
def Ud (a b:dr) :
  Calls ak 152 #[.agg #[E a.br,E a.cU,E a.dst],.agg #[E b.br,E b.cU,E b.dst]] w0 fun e w'=>e=.returned (E (fE a b))/\∃ (q:Nat) (os:Array Obj),w'=Sort.grow (w0.drewN q) os:=by
 have Y:=Z.start w0;have c:=Dr.refl w0;refine bI ar Tryz.func152 ?_;refine w6 ?_;refine ve ?_;refine Ey (vs:=[E a.br,E a.cU,E a.dst]) rfl Y c ?_;clear Y c;intro p w Y c;refine Ey (vs:=[E b.br,E b.cU,E b.dst]) rfl Y c ?_;clear Y c;intro d w Y c;refine O ?_;refine M4 (pl [0,1,2,3,5,6,7,8,10,11,12,13,4] (.cY 6::.cY 8::.cY 11::.cY 13::pl [9] (.cY 11::.cY 13::pl [14,15,16,17] []))) Y c kr ?_;clear Y c;intro w Y c;refine O ?_;refine aR rfl BJ ?_;rintro _ w' ⟨rfl,rfl⟩;refine⟨_,rfl,?_⟩;refine O ?_;refine aR rfl BJ ?_;rintro _ w' ⟨rfl,rfl⟩;refine⟨_,rfl,?_⟩;refine O ?_;refine aR rfl BJ ?_;rintro _ w' ⟨rfl,rfl⟩;refine⟨_,rfl,?_⟩;refine O ?_;refine M5 (T:=W) (len:=3) (parts:=[(0,.tmp 9),(1,.tmp 14),(2,.tmp 19)]) [(ia a.br b.br),(ia a.cU b.cU),(ia a.dst b.dst)] [E (ia a.br b.br),E (ia a.cU b.cU),E (ia a.dst b.dst)] rfl rfl rfl rfl rfl (fP rfl) (fg _) (fP rfl) Y c ?_;clear Y c;intro s w Y c;refine O ?_;refine aR rfl (M6 (Z.rs Y 0 rfl)) ?_;rintro _ w' ⟨rfl,rfl⟩;refine⟨_,rfl,?_⟩;refine O ?_;exact bo (v:=E (xX [(ia a.br b.br),(ia a.cU b.cU),(ia a.dst b.dst)])) rfl rfl ⟨by unfold fE;rfl,yT Y c⟩
def Ϧ (a b:dr) :
  Calls ak 195 #[.agg #[E a.br,E a.cU,E a.dst],.agg #[E b.br,E b.cU,E b.dst]] w0 fun e w'=>e=.returned (E (fE a b))/\∃ (q:Nat) (os:Array Obj),w'=Sort.grow (w0.drewN q) os:=by
 have Y:=Z.start w0;have c:=Dr.refl w0;refine bI ar Tryz.func195 ?_;refine w6 ?_;refine ve ?_;refine Ey (vs:=[E a.br,E a.cU,E a.dst]) rfl Y c ?_;clear Y c;intro p w Y c;refine Ey (vs:=[E b.br,E b.cU,E b.dst]) rfl Y c ?_;clear Y c;intro d w Y c;refine O ?_;refine M4 (pl [0,1,2,3,5,6,7,8,10,11,12,13,4] (.cY 6::.cY 8::.cY 11::.cY 13::pl [9] (.cY 11::.cY 13::pl [14,15,16,17] []))) Y c kr ?_;clear Y c;intro w Y c;refine O ?_;refine aR rfl BJ ?_;rintro _ w' ⟨rfl,rfl⟩;refine⟨_,rfl,?_⟩;refine O ?_;refine aR rfl BJ ?_;rintro _ w' ⟨rfl,rfl⟩;refine⟨_,rfl,?_⟩;refine O ?_;refine aR rfl BJ ?_;rintro _ w' ⟨rfl,rfl⟩;refine⟨_,rfl,?_⟩;refine O ?_;refine M5 (T:=W) (len:=3) (parts:=[(0,.tmp 9),(1,.tmp 14),(2,.tmp 19)]) [(ia a.br b.br),(ia a.cU b.cU),(ia a.dst b.dst)] [E (ia a.br b.br),E (ia a.cU b.cU),E (ia a.dst b.dst)] rfl rfl rfl rfl rfl (fP rfl) (fg _) (fP rfl) Y c ?_;clear Y c;intro s w Y c;refine O ?_;refine aR rfl (M6 (Z.rs Y 0 rfl)) ?_;rintro _ w' ⟨rfl,rfl⟩;refine⟨_,rfl,?_⟩;refine O ?_;exact bo (v:=E (xX [(ia a.br b.br),(ia a.cU b.cU),(ia a.dst b.dst)])) rfl rfl ⟨by unfold fE;rfl,yT Y c⟩
end
end Go.Proofs.YtmapkjoefdgjfaaGreatDoor
