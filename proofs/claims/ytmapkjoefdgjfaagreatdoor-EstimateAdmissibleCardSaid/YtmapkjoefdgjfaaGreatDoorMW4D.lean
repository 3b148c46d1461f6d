/- Several texts. -/
import Derived.Test.YtmapkjoefdgjfaaGreatDoorMW3D
set_option linter.unusedSimpArgs false
set_option linter.unusedVariables false
set_option linter.defProp false
set_option maxRecDepth 8000
set_option maxHeartbeats 16000000
open List Nat
namespace Go.Proofs.YtmapkjoefdgjfaaGreatDoor
open Go.Sl
variable {w0 w:World}{t:aa}{L l p:J}{Γ:List HP}
section
open Go.Sl Go
attribute [local irreducible] vc opsW opsD opV opW PureV ReadV Thn Blk
def SJ (l:J):dt l=((List.range l.length).filter fun j=>decide (j=0\/l.getD j O.dflt≠l.getD (j-1) O.dflt)).map fun j=>l.getD j O.dflt:=by
 have e:∀ j,l.toArray[j]! = l.getD j O.dflt:=fun j=>by
  simp[getElem!_def,List.getD];cases l[j]?<;>rfl
 unfold dt Lib.compact Lib.compactUpTo Lib.keeps;simp only[e]
def Dd {x:Int}:x∈dt l↔x∈l:=by
 rw[SJ];simp only[iQ,rP,mem_range,gR];constructor
 ·rintro⟨j,⟨a,_⟩,rfl⟩;exact cD _ a
 intro hx;obtain⟨i,b,he⟩:=AU.1 hx;have key:∀ i,i<l.length->∃ j,(j<l.length/\(j=0\/l.getD j O.dflt≠l.getD (j-1) O.dflt))/\l.getD j O.dflt=l.getD i O.dflt:=by
  intro i
  induction i with
  | zero=>intro h;exact⟨0,⟨h,.inl rfl⟩,rfl⟩
  | succ i d =>
   intro h;by_cases c:l.getD (i+1) O.dflt=l.getD i O.dflt
   ·obtain⟨j,h1,a⟩:=d U
    exact⟨j,h1,a.trans c.symm⟩
   exact⟨i+1,⟨h,.inr c⟩,rfl⟩
 obtain⟨j,h1,a⟩:=key i b;exact⟨j,h1,by rw[a,al b,he]⟩
def SE (h:l.Pairwise (·<=·)):(dt l).Pairwise (·<·):=by
 rw[SJ,A5];have eH:∀ i j,i<=j->j<l.length->l.getD i O.dflt<=l.getD j O.dflt:=fun i j b a=>by
  rcases ns i j with c|c
  ·rw[al U,al a];exact v7.1 h _ _ _ _ c
  have:i=j:=U;subst this;exact du _
 refine(Dl.filter _).imp_of_mem fun {i j} c a b=>?_;simp only[rP,mem_range,gR]at c a;have h1:=eH i (j-1) U U;have d:=eH (j-1) j U a.1;have e:=a.2.resolve_left U;omega
def ċ {vars s:J}{l:List kU}(f:ab vars s):(∀ e∈l,gQ vars e)->ab vars (fP p s l):=by
 refine nu (P:=fun l=>(∀ e∈l,gQ vars e)->ab vars (fP p s l)) (fun _=>f) ?_ l;intro l e g h;have h1:=g fun x hx=>h x (by simp[hx]);rw[CX];split
 ·obtain⟨a,b,c,d⟩:=tz (h e sm)
  exact LN h1 a c d
 exact h1
def Č {a b c d vp vf:Value}{vs:List iX}{op:Nat}{fro:Int}(ht:bz w0 a b c d vs t)(hp:RS O w0 vp L)(hf:RS O w0 vf (jN t L op))(I:aC t)(C:jr t.vars L)(D:op<t.Z.length)(h0:0<=fro)(h1:fro<bp t.vars L)(hB:bp t.vars L<=4096)(j':bp t.vars (jN t L op)<=4096) :
  Calls aj 105 #[.agg #[a,b,c,d],E op,vp,vf,E fro] w0 fun e w'=>∃ s,e=.returned s/\M w0 w' [X O 3 s (qd t L fro op)]:=by
 have q:=ht;obtain⟨ha,hb,hc,hd⟩:=ht;have R':=hd.rs;have _k:=hd.len;have _l:=ha.bT;have _m:=R'.bT;have _n:=I.vars;have K:oC w0 (az cp vs op) (jJ t op):=hd.dK op D;have _i:=K.one;obtain⟨es,P⟩:=K.aJ;have H':=P.rs;have _o:=P.len;have _p:=H'.bT;have _q:=K.pre;have hgo:tY t.vars (jJ t op):=I.op op D;have _j:=hgo.aJ;have _r:=sa hgo.pre;have g:jr t.vars (jN t L op):=Ej _ _ _;obtain⟨T',_s⟩:=Ep I C h0 h1;have V':=SK (op:=op) I C D h0 h1;have Y:=M.start w0;refine bB ao Tryz.func105 ?_;refine vt ?_;refine tF ?_;refine zK ?_;clear Y;intro pt w Y
 repeat (first|refine dB ?_|(refine iy ?_;clear Y;intro p w Y)|(refine qx ?_;clear Y;intro w Y)|(refine fR ?_;clear Y;intro s w Y))
 obtain⟨po,rfl⟩:=À p;obtain⟨F,rfl⟩:=À s;refine aU rfl (JL (s:=F) (L:=L) (st:=jZ t.vars.length) q hp Y I.pos C.mem (Er _) h0 U) ?_;clear Y;rintro _ w ⟨rfl,Y⟩;refine⟨_,rfl,?_⟩;refine W ?_;refine cN [10,10,14,14,39,61] (G:=Nat) (fun k=>[(39,E k)]) (fun k w=>k<=(jJ t op).pre.length/\xl L (qE t L fro) ((jJ t op).pre.take k)/\M w0 w [X O 3 F (lY L (qE t L fro) ((jJ t op).pre.take k)),ak po 44 (cp.enc (az cp vs op)),ak pt 26 [a,b,c,d]]) (fun k=>(jJ t op).pre.length-k) 0 (fun _=>rfl) ⟨rfl,au⟩ ⟨br _,fun x hx=>by simp at hx,Y⟩ ?_;clear Y;rintro σ k w ⟨hk,y,Y⟩;refine aA ?_ ?_<;>intro h2
 ·have i:k<(jJ t op).pre.length:=U
  have f:=Es L (qE t L fro) ((jJ t op).pre.take k) ((jJ t op).pre.getD k aq.dflt);rw[<-eD aq.dflt i]at f;have n:=(ix I D).1 _ (cD aq.dflt i);have _a:=SL L (qE t L fro) ((jJ t op).pre.take k);have o:=T'.1;obtain⟨f1,f2,f3,f4⟩:=n;refine eB ?_;intro p w Y;refine aU rfl (wC (hp.at Y)) ?_;rintro _ w' ⟨rfl,an⟩;replace Y:=Y.cr an;clear an;by_cases hm:((jJ t op).pre.getD k aq.dflt).var∈L
  ·have j:(lY L (qE t L fro) ((jJ t op).pre.take k)).getD ((jJ t op).pre.getD k aq.dflt).var.toNat O.dflt=sg (qE t L fro) ((jJ t op).pre.getD k aq.dflt).var :=
    SM f1 (fun x hx=>(ix I D).1 x (pU hx)) fun x _ hx e=>hx (e ▸ hm)
   rw[dY hm];refine⟨_,rfl,?_⟩;refine sC ?_ ?_<;>intro w Y h3
   ·refine W ?_
    refine bk (v:=nS) rfl rfl ⟨_,rfl,?_⟩;rw[č I C h0 h1 fun h=>h3 (by rw[j];exact h _ (cD aq.dflt i) hm)];exact Y.tail.tail.tail.tail.nil
   refine W ?_;refine⟨k+1,⟨rfl,au⟩,aV,⟨U,?_,?_⟩,U⟩
   ·rw[eD aq.dflt i]
    intro x hx m;rcases gK.1 hx with hx|hx
    ·exact y x hx m
    rw[dp.1 hx,<-j];omega
   rw[f,aP hm];exact Y.tail
  rw[eA hm];refine⟨_,rfl,?_⟩;refine eQ ?_;intro w Y;refine⟨k+1,⟨rfl,au⟩,aV,⟨U,?_,?_⟩,U⟩
  ·rw[eD aq.dflt i]
   intro x hx m;rcases gK.1 hx with hx|hx
   ·exact y x hx m
   rw[dp.1 hx]at m;exact absurd m hm
  rw[f,aH hm];exact Y.tail
 rw[gH U]at y Y;have i:=fun b=>Ď (b:=b) I C D h0 h1 y;refine W ?_;refine aU rfl (JO (q.at Y) (hf.at Y) I g.mem) ?_;rintro _ w' ⟨rfl,an⟩;replace Y:=Y.cr an;clear an;rw[aP j'];refine⟨_,rfl,?_⟩;refine W ?_;obtain⟨N,hN⟩:=À (bp t.vars (jN t L op));have _b:=FQ I.pos g.mem;rw[<-hN]at i _b j' ⊢;refine zF [17,19,21,21,69,110] (G:=Nat) (H:=Value) (I':=J) (M':=J) (fun k so _ _=>[(69,E k),(17,so)]) (fun k so xs S w=>k<=N/\xs.length=k/\(∀ b,b∈xs↔tb t L op fro k b)/\ab t.vars S/\(∀ v,0<=v->v∉jN t L op->sg S v=sg (sA t L op fro) v)/\M w0 w [X O 3 so xs,X O 3 F S,ak po 44 (cp.enc (az cp vs op)),ak pt 26 [a,b,c,d]]) (fun k _ _ _=>N.toNat-k) 0 (nS) [] (sA t L op fro) (fun _ _ _ _=>rfl) ⟨rfl,rfl,au⟩ ⟨U,rfl,fun b=>⟨fun h=>by simp at h,fun⟨S,Q,_,_t,_⟩=>absurd (oz Q g.mem).1 U⟩,V',fun _ _ _=>rfl,Y.nil⟩ ?_;clear Y;rintro σ k so xs S w ⟨hk,_c,m,Q,J',Y⟩;refine aA ?_ ?_<;>intro h3
 ·have R:(0:Int)<=k:=U
  have z:(k:Int)<bp t.vars (jN t L op):=U;have hq:=Et (s:=S) I.pos g Q.1 R z;have n:=HW (s:=S) I.pos g R z Q.1 fun v hv _d _=>Q.dC hv _d;have o:∀ v,0<=v->v∉jN t L op->sg (im t.vars (jN t L op) S k) v=sg (sA t L op fro) v:=fun v hv hn=>by rw[hq.2.2 v hv hn,J' v hv hn]
  have P':=fun b=>ď (b:=b) I C D n o hq.1;refine W ?_;refine aU rfl (JL (s:=F) (L:=jN t L op) (st:=S) q hf Y.swap I.pos g.mem Q.1 R U) ?_;clear Y;rintro _ w ⟨rfl,Y⟩;refine⟨_,rfl,?_⟩;obtain⟨A,_e⟩:=À (im t.vars (jN t L op) S k);rw[<-_e]at Y n o P';have _u:=n.1;clear Q J' hq;refine W ?_;refine aU rfl (nH (a:=F) (xs:=A) (bm Y) U) ?_;rintro _ w' ⟨sn,rfl,an⟩;refine aL ?_;clear an Y;intro Y;refine W ?_;refine cN [21,21,82,102] (G:=Nat) (fun j=>[(82,E j)]) (fun j w=>j<=(jJ t op).aJ.length/\M w0 w [X O 3 sn (fP L A ((jJ t op).aJ.take j)),X O 3 F A,X O 3 so xs,ak po 44 (cp.enc (az cp vs op)),ak pt 26 [a,b,c,d]]) (fun j=>(jJ t op).aJ.length-j) 0 (fun _=>rfl) ⟨rfl,au⟩ ⟨br _,Y⟩ ?_;clear Y;rintro _v j w ⟨hj,Y⟩;refine aA ?_ ?_<;>intro h4
  ·have T:j<(jJ t op).aJ.length:=U
   have B:=P.dK j T;have _f:=B.bK;have _g:=B.one;have V:=B.var;have _h:=B.val;obtain⟨r1,r2,r3,r4⟩:=tz (hgo.fc j T);have f:=CX L A ((jJ t op).aJ.take j) ((jJ t op).aJ.getD j bE);rw[<-eD bE T]at f;have _a:=HX L A ((jJ t op).aJ.take j);refine eB ?_;intro p w Y;refine aU rfl (wC (hp.at Y)) ?_;rintro _ w' ⟨rfl,an⟩;replace Y:=Y.cr an;clear an;by_cases hm:(az aY es j).var∈L
   ·rw[dY hm]
    refine⟨_,rfl,?_⟩;refine W ?_;refine aU rfl (Q8 (b:=F) (s:=A) (_f.at Y) (bm Y)) ?_;rintro _ w' ⟨⟨r,rfl,hr⟩,an⟩;refine aI ?_;clear an Y;intro Y
    cases r with
    | false =>
     refine W ?_;refine⟨j+1,⟨rfl,au⟩,aV,⟨U,?_⟩,U⟩;rw[f,aH fun h=>by have:=hr.2 h.2;cases this]
     exact Y.tail
    | true =>
     refine eQ ?_;intro w Y;refine⟨j+1,⟨rfl,au⟩,aV,⟨U,?_⟩,U⟩;rw[f,aP ⟨V ▸ hm,hr.1 rfl⟩,<-V,<-_h];exact Y.tail
   rw[eA hm];refine⟨_,rfl,?_⟩;refine W ?_;refine⟨j+1,⟨rfl,au⟩,aV,⟨U,?_⟩,U⟩;rw[f,aH fun h=>hm (V ▸ h.1)];exact Y.tail
  rw[gH U]at Y;have bI:=ċ (p:=L) n hgo.mem;refine W ?_;refine aU rfl (O6 (sv:=sn) (s:=fP L A (jJ t op).aJ) (q.at Y) (hp.at Y) (bm Y) I C.mem bI U) ?_;rintro _ w' ⟨rfl,an⟩;refine aI ?_;clear an Y;intro Y
  repeat (first|refine dB ?_|(refine fR ?_;clear Y;intro s w Y))
  refine⟨k+1,_,xs++[bU t.vars L (fP L A (jJ t op).aJ)],A,⟨rfl,rfl,au⟩,aV,⟨U,by simp[_c],fun b=>?_,n,o,?_⟩,U⟩
  ·rw[gK,dp,m b,B7,I2,P' b]
  exact Y.tail.tail.swap
 have z:(k:Int)=N:=U;rw[z]at m;refine W ?_;refine aU rfl (Dm (s:=so) Y U) ?_;clear Y;rintro _ w ⟨rfl,Y⟩;refine⟨_,rfl,?_⟩;refine W ?_;refine aU rfl (Gj (s:=so) Y (by rw[Dz];omega)) ?_;clear Y;rintro _ w ⟨f,rfl,Y⟩;refine⟨_,rfl,?_⟩;refine W ?_;refine bk (v:=f) rfl rfl ⟨f,rfl,?_⟩;have e:dt (fk xs)=qd t L fro op:=by
  refine JP (SE (JJ xs)) fun u=>?_;rw[Dd,Gi,m u,i u];constructor
  ·intro h
   have j:=(i u).2 h;exact⟨Đ I C D j,h⟩
  exact fun h=>h.2
 rw[e]at Y;exact Y.only
noncomputable def cO (t:aa)(p:J):Int:=if lS t p≠0 then lS t p else j8 t p
def IX:lS t p=0↔aC t/\fm t.vars p:=by
 rw[<-rQ];unfold lS;by_cases h:bX t=0
 ·rw[aH (by simp[h])]
  by_cases a:fm t.vars p
  ·rw[aP a];exact⟨fun _=>⟨h,a⟩,fun _=>rfl⟩
  rw[aH a];exact⟨(fun e=>by cases e),fun e=>absurd e.2 a⟩
 rw[aP h];exact⟨fun e=>absurd e h,fun e=>absurd e.1 h⟩
def IW (h:lS t p=0):cO t p=j8 t p:=by rw[cO,aH (by simp[h])]
noncomputable def r7 (t:aa)(L:J)(i:Nat):List J:=(List.range t.Z.length).map fun op=>if op<i then jN t L op else []
def Eu (t:aa)(L:J)(i:Nat):(r7 t L i).length=t.Z.length:=by simp[r7]
def đ (t:aa)(L:J):r7 t L 0=replicate t.Z.length []:=by
 apply iA (by simp[r7]);intro i h1 a;simp[r7]
def SN {i j:Nat}(b:j<i)(a:j<t.Z.length):(r7 t L i).getD j []=jN t L j:=by simp[r7,List.getD,b,a]
def Ē {i:Nat}(hi:i<t.Z.length):(r7 t L i).set i (jN t L i)=r7 t L (i+1):=by
 apply iA (by simp[r7]);intro j h1 a;rw[sb];simp only[r7,mL,qW];split
 ·rename_i e;subst e;rw[aP U]
 by_cases h:j<i
 ·rw[aP h,aP U]
 rw[aH h,aH U]
def iY (Y:M w0 w Γ):M w0 w []:=⟨Y.below,au⟩
def MR {A B C:HP}(h:M w0 w (A::B::C::Γ)):M w0 w [A,B,C]:=h.mI fun _ h=>ca.iz (fun _ h=>h) (fun _ h=>ca.iz (fun _ h=>h) (fun _ _=>trivial) h) h
def s5 (w0 w:World)(cv ev gv:Value)(S:bV):Prop:=M w0 w [X O 3 cv S.aT,X aM 190 ev S.aB,X ah 4 gv S.aR]
def x6 (Y:M w0 w Γ):s5 w0 w (nS) (nS) (nS) cA:=(iY Y).nil.nil.nil
def cK (S:bV)(cv ev gv:Value):Value:=.agg #[E S.st,E S.bL,cv,ev,gv]
def FO {a b c d vp:Value}{vs:List iX}(ht:bz w0 a b c d vs t)(R:RS O w0 vp L) :
  Calls aj 80 #[.agg #[a,b,c,d],vp] w0 fun e w'=>∃ cv ev gv,e=.returned (.tuple #[cK (kw t L (cO t L)) cv ev gv,bO (cO t L)])/\s5 w0 w' cv ev gv (kw t L (cO t L)):=by
 have r:=ht;obtain⟨ha,hb,hc,hd⟩:=ht;have _b:=hd.rs;have _c:=hd.len;have _n:=ha.bT;have _o:=_b.bT;have _p:=hc.bT;have Y:=M.start w0;refine bB ao Tryz.func80 ?_;refine vt ?_;refine tF ?_;refine zK ?_;clear Y;intro V w Y;refine F8 ?_;clear Y;intro u w Y;refine W ?_;refine aU rfl (WM (r.at Y) (R.at Y)) ?_;rintro _ w' ⟨rfl,an⟩;refine aI ?_;clear an Y;intro Y;by_cases hk:lS t L=0
 ·rw[gy hk]
  obtain⟨I,_d⟩:=IX.1 hk;have F:=_d.NR;rw[IW hk];have _e:=I.vars;have _q:=I.Z;refine W ?_;refine aU rfl (JO (r.at Y) (R.at Y) I F.mem) ?_;rintro _ w' ⟨rfl,an⟩;replace Y:=Y.cr an;clear an;by_cases hB:bp t.vars L<=4096
  ·rw[aP hB]
   refine⟨_,rfl,?_⟩;refine W ?_;refine aU rfl (O6 (s:=t.cE) (r.at Y) (R.at Y) (hb.at Y) I F.mem I.cE U) ?_;rintro _ w' ⟨rfl,an⟩;refine aI ?_;clear an Y;intro Y
   repeat (first|refine dB ?_|(refine iy ?_;clear Y;intro p w Y)|(refine qx ?_;clear Y;intro w Y)|(refine fR ?_;clear Y;intro s w Y))
   obtain⟨px,rfl⟩:=À p;obtain⟨fv,rfl⟩:=À s;rw[_c]at Y;have y:=(Y.gJ (T:=O) (e:=3) t.Z.length).nil (T:=O) (e:=3);rw[<-đ t L]at y;clear Y;refine nE [5,5,11,14,54,85] (G:=Nat) (H:=Value) (I':=List Value) (fun i _ _=>[(54,E i)]) (fun i cv o w=>i<=t.Z.length/\(∀ op,op<i->bp t.vars (jN t L op)<=4096)/\M w0 w [X O 3 cv ((am t).take i),ai O 3 o (r7 t L i),X ar 22 fv o,ak px 142 [E (bp t.vars L),E (bU t.vars L t.cE),cv,nS,nS],ak u 142 [E 0,E 0,nS,nS,nS],ak V 26 [a,b,c,d]]) (fun i _ _=>t.Z.length-i) 0 (nS) (replicate t.Z.length (nS)) (fun _ _ _=>rfl) ⟨rfl,au⟩ ⟨br _,fun op h=>absurd h (dx _),y⟩ ?_;clear y;rintro σ i cv o w ⟨hi,j',Y⟩;refine aA ?_ ?_<;>intro h1
   ·have f:i<t.Z.length:=U
    have A:=hd.dK i f;have P:=A.one;have C:=A.aO;have J':o.length=t.Z.length:=by have:=(Y.bJ 1 rfl).bP;rw[Eu]at this;exact this
    have H':((am t).take i).length<=4096:=by simp[am];omega
    repeat (first|refine dB ?_|(refine iy ?_;clear Y;intro p w Y)|(refine qx ?_;clear Y;intro w Y)|(refine fR ?_;clear Y;intro s w Y))
    refine aU rfl (WX (vars:=t.vars) (L:=L) (A.at Y) (R.at Y) (I.op i f) _e) ?_;rintro _ w' ⟨D,rfl,an⟩;refine aL ?_;clear an Y;intro Y;have Q:(o.set i D).length=t.Z.length:=by simp[J']
    refine eQ ?_;intro w Y;have z:=(((Y.bJ 4 rfl).swap.rG (by rw[Eu];exact f)).swap.tail.swap.tail).swap;rw[show sU t.vars (t.Z.getD i bf) L=jN t L i from rfl,Ē f]at z;have q:=(z.swap).row (i:=i) (by rw[Eu];exact f);rw[SN (DR i) f]at q;clear Y;have Y:M w0 w [X O 3 s ((am t).take i++[(az cp vs i).aO]),ai O 3 (o.set i D) (r7 t L (i+1)),X ar 22 fv (o.set i D),ak px 142 [E (bp t.vars L),E (bU t.vars L t.cE),s,nS,nS],ak u 142 [E 0,E 0,nS,nS,nS],ak V 26 [a,b,c,d]]:=z;clear z;have K:(am t).take i++[(az cp vs i).aO]=(am t).take (i+1):=by
     rw[eD O.dflt (show i<(am t).length by simp[am];exact f),tC f,C]
    rw[K]at Y;refine aU rfl (JO (r.at Y) q I (Ej _ _ _).mem) ?_;rintro _ w' ⟨rfl,an⟩;replace Y:=Y.cr an;clear an;by_cases B:bp t.vars (jN t L i)<=4096
    ·rw[aP B]
     refine⟨_,rfl,?_⟩;refine W ?_;refine⟨i+1,_,_,⟨rfl,au⟩,aV,⟨U,fun op h=>?_,Y⟩,U⟩;by_cases e:op=i
     ·subst e;exact B
     exact j' op U
    rw[aH B];refine⟨_,rfl,?_⟩;refine W ?_;refine lA (parts:=[]) (vs:=[]) rfl rfl rfl ?_;refine eQ ?_;intro w Y;have he:j8 t L=5:=by rw[j8,aH U,aP ⟨i,f,U⟩]
    rw[he];exact lO (p:=u) (vs:=[E 0,E 0,nS,nS,nS]) rfl rfl (v':=bO 5) (by rw[dq dc];rfl) rfl (fun j v hv=>lM (i:=4) Y rfl hv) ⟨_,_,_,rfl,x6 Y⟩
   have _f:i=t.Z.length:=U;subst _f;rw[gH (by simp[am])]at Y;have P':¬rL t L:=fun⟨op,h,h2⟩=>by have:=j' op h;omega
   have J':o.length=t.Z.length:=by have:=(Y.bJ 1 rfl).bP;rw[Eu]at this;exact this
   have _r:=FQ I.pos F.mem;obtain⟨N,hN⟩:=À (bp t.vars L);refine lw ?_;intro s w Y;obtain⟨sv,rfl⟩:=À s;have y:M w0 w [X O 3 sv (jZ t.vars.length),X ah 4 (nS) (ep t L 0),X aM 190 (nS) (jl t L 0),X O 3 cv (am t),ai O 3 o (r7 t L t.Z.length),X ar 22 fv o,ak px 142 [E (bp t.vars L),E (bU t.vars L t.cE),cv,(nS),(nS)],ak u 142 [E 0,E 0,nS,nS,nS],ak V 26 [a,b,c,d]]:=(Y.nil (T:=aM) (e:=190)).nil (T:=ah) (e:=4) |>.bJ 2 rfl;clear Y;refine zF [5,5,16,17,19,20,22,22,91,168] (G:=Nat) (H:=Value) (I':=Value) (M':=J) (fun k _ _ _=>[(91,E k)]) (fun k ev gv S w=>(k:Int)<=bp t.vars L/\(jl t L k).length<=65536/\ab t.vars S/\M w0 w [X O 3 sv S,X ah 4 gv (ep t L k),X aM 190 ev (jl t L k),X O 3 cv (am t),ai O 3 o (r7 t L t.Z.length),X ar 22 fv o,ak px 142 [E (bp t.vars L),E (bU t.vars L t.cE),cv,ev,gv],ak u 142 [E 0,E 0,nS,nS,nS],ak V 26 [a,b,c,d]]) (fun k _ _ _=>(bp t.vars L).toNat-k) 0 (nS) (nS) (jZ t.vars.length) (fun _ _ _ _=>rfl) ⟨rfl,au⟩ ⟨U,by rw[ē];exact br _,SO I.pos,y⟩ ?_;clear y;rintro _s k ev gv S w ⟨_t,_g,hS,Y⟩;refine aA ?_ ?_<;>intro h2
   ·have B:(0:Int)<=k:=U
    have hq:=Et (s:=S) I.pos F hS.1 B h2;have C:=HW (s:=S) I.pos F B h2 hS.1 fun v hv _h _=>hS.dC hv _h;refine W ?_;refine aU rfl (JL (s:=sv) (L:=L) (st:=S) r R Y I.pos F.mem hS.1 B U) ?_;clear Y;rintro _ w ⟨rfl,Y⟩;refine⟨_,rfl,?_⟩;obtain⟨K,_i⟩:=À (im t.vars L S k);rw[<-_i]at Y C hq;have _j:=Ĕ I F C hq.1;have _u:=C.1;clear hS hq;refine W ?_;refine dN [17,17,19,19,102,124] (G:=Nat) (H:=Bool) (fun j g=>[(102,E j),(17,.bool g)]) (fun j g w=>j<=t.aG.length/\(g=true↔tc L K (t.aG.take j))/\M w0 w [X O 3 sv K,X ah 4 gv (ep t L k),X aM 190 ev (jl t L k),X O 3 cv (am t),ai O 3 o (r7 t L t.Z.length),X ar 22 fv o,ak px 142 [E (bp t.vars L),E (bU t.vars L t.cE),cv,ev,gv],ak u 142 [E 0,E 0,nS,nS,nS],ak V 26 [a,b,c,d]]) (fun j _=>t.aG.length-j) 0 true (fun _ _=>rfl) ⟨rfl,rfl,au⟩ ⟨br _,⟨fun _ x hx=>by simp at hx,fun _=>rfl⟩,Y⟩ ?_;clear Y;rintro _v j g w ⟨hj,D,Y⟩;refine aA ?_ ?_<;>intro h3
    ·have f:j<t.aG.length:=U
     obtain⟨f1,f2,f3,f4⟩:=yr I.aG _ (cD aq.dflt f);have z:tc L K (t.aG.take (j+1))↔tc L K (t.aG.take j)/\((t.aG.getD j aq.dflt).var∈L->sg K (t.aG.getD j aq.dflt).var=(t.aG.getD j aq.dflt).val):=by
      rw[eD aq.dflt f];unfold tc;constructor
      ·exact fun h=>⟨fun x hx=>h x (by simp[hx]),h _ sm⟩
      rintro⟨h,A⟩ x hx;rcases gK.1 hx with hx|hx
      ·exact h x hx
      rw[dp.1 hx];exact A
     cases g with
     | false =>
      refine eB ?_;intro p w Y
      exact⟨j+1,false,⟨rfl,rfl,au⟩,aV,⟨U,dr (fun h=>by have:=D.2 (z.1 h).1;cases this),Y.tail⟩,U⟩
     | true =>
      have A:=D.1 rfl;refine eB ?_;intro p w Y;refine aU rfl (wC (R.at Y)) ?_;rintro _ w' ⟨rfl,an⟩;replace Y:=Y.cr an;clear an;by_cases hm:(t.aG.getD j aq.dflt).var∈L
      ·rw[dY hm]
       refine⟨_,rfl,?_⟩;refine W ?_;refine⟨j+1,_,⟨rfl,rfl,au⟩,aV,⟨U,?_,Y.tail⟩,U⟩;rw[gR,z];exact⟨fun h=>⟨A,fun _=>h⟩,fun h=>h.2 hm⟩
      rw[eA hm];refine⟨_,rfl,?_⟩;refine W ?_;exact⟨j+1,true,⟨rfl,rfl,au⟩,aV,⟨U,iH (z.2 ⟨A,fun h=>absurd h hm⟩),Y.tail⟩,U⟩
    rw[gH U,_j,<-K1]at D;have _k:g=mD t L k:=Kf.2 D;have _m:=NU t L k;subst _k
    repeat refine dB ?_
    refine jG ah (x1:=mD t L k) rfl rfl rfl (fX rfl) (fb _) Y ?_;clear Y;intro s2 w Y;refine lw ?_;intro s w Y;obtain⟨gw,rfl⟩:=À s;rw[<-ĕ]at Y;refine dN [5,5,20,20,22,22,134,167] (G:=Nat) (H:=Value) (fun j _=>[(134,E j)]) (fun j ev w=>j<=t.Z.length/\(jl t L k++kh t L k j).length<=65536/\M w0 w [X O 3 sv K,X ah 4 gw (ep t L (k+1)),X aM 190 ev (jl t L k++kh t L k j),X O 3 cv (am t),ai O 3 o (r7 t L t.Z.length),X ar 22 fv o,ak px 142 [E (bp t.vars L),E (bU t.vars L t.cE),cv,ev,gw],ak u 142 [E 0,E 0,nS,nS,nS],ak V 26 [a,b,c,d]]) (fun j _=>t.Z.length-j) 0 ev (fun _ _=>rfl) ⟨rfl,au⟩ ⟨br _,by rw[SP,fI];exact _g,by rw[SP,fI];exact Y.tail⟩ ?_;clear Y;rintro _w j ev w ⟨hj,A,Y⟩;refine aA ?_ ?_<;>intro h4
    ·have f:j<t.Z.length:=U
     have R':=j' j f;refine eQ ?_;intro w Y;have q:=(Y.bJ 4 rfl).row (i:=j) (by rw[Eu];exact f);rw[SN f f]at q;refine aU rfl (Č (op:=j) (fro:=k) (r.at Y) (R.at Y) q I F f B h2 hB R') ?_;rintro _ w' ⟨tv,rfl,an⟩;replace Y:=Y.mu an;clear an;have T':=Ė (bp t.vars L) (Ev t L k j);have V':=ė h2 f;rw[show nC (bp t.vars L) (Ev t L k j)=qd t L k j from rfl]at T';obtain⟨P,_a⟩:=À (qd t L k j);rw[<-_a]at Y T' V';refine⟨_,rfl,?_⟩;refine W ?_;refine dN [5,5,22,22,147,166] (G:=Nat) (H:=Value) (fun m _=>[(147,E m)]) (fun m ev w=>m<=P.length/\(jl t L k++kh t L k j++mZ k j (P.take m)).length<=65536/\M w0 w [X O 3 tv P,X O 3 sv K,X ah 4 gw (ep t L (k+1)),X aM 190 ev (jl t L k++kh t L k j++mZ k j (P.take m)),X O 3 cv (am t),ai O 3 o (r7 t L t.Z.length),X ar 22 fv o,ak px 142 [E (bp t.vars L),E (bU t.vars L t.cE),cv,ev,gw],ak u 142 [E 0,E 0,nS,nS,nS],ak V 26 [a,b,c,d]]) (fun m _=>P.length-m) 0 ev (fun _ _=>rfl) ⟨rfl,au⟩ ⟨br _,by simpa [mZ] using A,by simpa [mZ] using Y⟩ ?_;clear Y;rintro _x m ev w ⟨hm,Q,Y⟩;refine aA ?_ ?_<;>intro h5
     ·have _l:m<P.length:=U
      have z:=Ę (a:=k) (op:=j) _l;have H':(jl t L k++kh t L k j++mZ k j (P.take m)).length=(jl t L k).length+(kh t L k j).length+m:=by simp[K4];omega
      refine aA ?_ ?_<;>intro h6
      ·refine W ?_
       refine lA (parts:=[]) (vs:=[]) rfl rfl rfl ?_;refine eQ ?_;intro w Y;have he:j8 t L=5:=by rw[j8,aH U,aH P',aP U]
       rw[he];exact lO (p:=u) (vs:=[E 0,E 0,nS,nS,nS]) rfl rfl (v':=bO 5) (by rw[dq dc];rfl) rfl (fun j v hv=>lM (i:=8) Y rfl hv) ⟨_,_,_,rfl,x6 Y⟩
      refine W ?_;refine jG aM (x1:=⟨k,j,P.getD m O.dflt⟩) rfl rfl rfl (fX rfl) (fb _) Y ?_;clear Y;intro s3 w Y;refine lw ?_;intro s w Y;rw[fG,<-z]at Y;refine⟨m+1,_,⟨rfl,au⟩,aV,⟨U,?_,Y.tail⟩,U⟩;rw[z,<-fG,length_append,H'];simp only[length_cons,length_nil];omega
     rw[gH U,_a,fG,<-HB]at Y Q;refine W ?_;exact⟨j+1,ev,⟨rfl,au⟩,aV,⟨U,Q,Y.tail⟩,U⟩
    have f:j=t.Z.length:=U;subst f;rw[<-HC]at Y A;refine W ?_;exact⟨k+1,ev,gw,K,⟨rfl,au⟩,aV,⟨U,A,C,Y⟩,U⟩
   have f:k=(bp t.vars L).toNat:=U;subst f;have he:j8 t L=0:=by rw[j8,aH U,aH P',aH (by unfold bM;omega)]
   rw[he];have q:=(Y.rs 3 rfl).one;have z:=(Y.rs 2 rfl).one;have A:=(Y.rs 1 rfl).one;refine W ?_;refine jH (n:=5) (p:=u) (vs:=[E (bp t.vars L),E (bU t.vars L t.cE),cv,ev,gv]) rfl rfl Y inferInstance rfl rfl (by simp only[ew,eN,q,z,A];rfl) ?_;clear Y;intro w Y;refine W ?_;exact lO (p:=u) (vs:=[E (bp t.vars L),E (bU t.vars L t.cE),cv,ev,gv]) rfl rfl (v':=bO 0) (by rw[gy rfl];rfl) rfl (fun j v hv=>lM (i:=7) Y rfl hv) ⟨cv,ev,gv,rfl,MR ((Y.tail.bJ 2 rfl).mI fun _ h=>h.swap)⟩
  rw[aH hB];refine⟨_,rfl,?_⟩;refine W ?_;refine lA (parts:=[]) (vs:=[]) rfl rfl rfl ?_;refine eQ ?_;intro w Y;have he:j8 t L=5:=by rw[j8,aP U]
  rw[he];refine lO (p:=u) (vs:=[E 0,E 0,nS,nS,nS]) rfl rfl (v':=bO 5) (by rw[dq dc];rfl) rfl (fun j v hv=>lM (i:=0) Y rfl hv) ⟨_,_,_,rfl,x6 Y⟩
 rw[dq hk];refine W ?_;refine lA (parts:=[]) (vs:=[]) rfl rfl rfl ?_;refine eQ ?_;intro w Y;have he:cO t L=lS t L:=by rw[cO,aP hk]
 rw[he];have f:kw t L (lS t L)=cA:=by rw[kw,aH hk]
 rw[f];exact lO (p:=u) (vs:=[E 0,E 0,nS,nS,nS]) rfl rfl (v':=bO (lS t L)) (by rw[dq hk];rfl) rfl (fun j v hv=>lM (i:=0) Y rfl hv) ⟨_,_,_,rfl,x6 Y⟩
end
section
open Go.Sl Go
structure cV (w:World) (cv ev gv:Value) (S:bV):Prop where
 aT:RS O w cv S.aT
 aB:RS aM w ev S.aB
 aR:RS ah w gv S.aR
def cV.at {w0 w:World}{Γ:List HP}{cv ev gv:Value}{S:bV}(h:cV w0 cv ev gv S)(Y:M w0 w Γ):cV w cv ev gv S:=⟨h.aT.at Y,h.aB.at Y,h.aR.at Y⟩
end
section
open Go.Sl
structure kA where
 var:Int
 dQ:J
 oh:J
 eI:Int
structure CY where
 eE:bV
 eI:List kA
 vr:Int
def SQ (n:Int):∃ k:Nat,n<((k:Int)+1)*(k+1)/\∀ j:Nat,n<((j:Int)+1)*(j+1)->k<=j :=
 Px (p:=fun r:Nat=>n<((r:Int)+1)*(r+1)) n.toNat (by
  have h:(0:Int)<=(n.toNat:Int)*n.toNat:=tj U U;have e:((n.toNat:Int)+1)*(n.toNat+1)=(n.toNat:Int)*n.toNat+n.toNat+n.toNat+1:=by simp only[zH,Int.mul_add];omega
  omega)
noncomputable def ka (n:Int):Nat:=Classical.choose (SQ n)
def ę (n:Int):n<((ka n:Int)+1)*(ka n+1)/\∀ j:Nat,n<((j:Int)+1)*(j+1)->ka n<=j:=wh (SQ n)
noncomputable def um (most:Int)(a b:Int):Int × Int:=if a*b>most then (if a<=ka most then (a,most.tdiv a) else if b<=ka most then (most.tdiv b,b) else (ka most,ka most)) else (a,b)
noncomputable def pC (t:aa)(most:Int)(v:Int):CY :=
 if cO t [v]≠0 then ⟨cA,[],cO t [v]⟩
 else if cI (dV t [v]) most≠0 then ⟨cA,[],cI (dV t [v]) most⟩
 else ⟨dU (dV t [v]) most,[⟨v,fU (dV t [v]) most,[],(dU (dV t [v]) most).st⟩],0⟩
noncomputable def pD (t:aa)(most:Int)(s:CY)(v:Int):CY :=
 if s.vr≠0 then s
 else if cO t [v]≠0 then ⟨cA,s.eI,cO t [v]⟩
 else let A:=dV t [v];let a:=um most s.eE.st A.st
  if cI s.eE a.1≠0 then ⟨cA,s.eI,cI s.eE a.1⟩
  else if cI A a.2≠0 then ⟨cA,s.eI,cI A a.2⟩
  else if dA (dU s.eE a.1) (dU A a.2)≠0 then ⟨cA,s.eI++[⟨v,fU A a.2,fU s.eE a.1,(dU A a.2).st⟩],dA (dU s.eE a.1) (dU A a.2)⟩
  else ⟨jk (dU s.eE a.1) (dU A a.2),s.eI++[⟨v,fU A a.2,fU s.eE a.1,(dU A a.2).st⟩],0⟩
noncomputable def lB (t:aa)(most:Int):Nat->CY
 | 0=>⟨kw t [] (cO t []),[],cO t []⟩
 | 1=>pC t most 0
 | k+1=>pD t most (lB t most k) k
noncomputable def lg (most:Int):Int:=max 1 (min most 4096)
open Classical in
noncomputable def eL (t:aa)(most:Int):Int:=if (lB t (lg most) t.vars.length).vr≠0 then (lB t (lg most) t.vars.length).vr else if dP (lB t (lg most) t.vars.length).eE then 0 else 2
noncomputable def re (t:aa)(most:Int):List kA:=(lB t (lg most) t.vars.length).eI
noncomputable def tU (t:aa)(most:Int):J:=mT (lB t (lg most) t.vars.length).eE
def nZ (s:J):List kA->Int
 | []=>0
 | x::r=>r.foldl (fun a y=>y.oh.getD a.toNat O.dflt*y.eI+y.dQ.getD (s.getD y.var.toNat O.dflt).toNat O.dflt) (x.dQ.getD (s.getD x.var.toNat O.dflt).toNat O.dflt)
end
section
open Go.Sl Go
attribute [local irreducible] vc opsW opsD opV opW PureV ReadV Thn Blk
def KR {v:Value}(d:RS O w0 v l) :
  Calls aj 177 #[v] w0 fun e w'=>e=.returned (E (wn l))/\w'=w0:=by
 have f:=d.bT;have Y:=M.start w0;refine bB ao Tryz.func177 ?_;refine W ?_;refine cN [2,2,5,5,8,16] (G:=Nat) (fun k=>[(8,E k)]) (fun k w=>k<=l.length/\wn (l.drop k)=wn l/\w=w0) (fun k=>l.length-k) 0 (fun _=>rfl) ⟨rfl,au⟩ ⟨br _,rfl,rfl⟩ ?_;clear Y;rintro h k w ⟨hk,a,rfl⟩;have Y:=M.start w;refine aA ?_ ?_<;>intro h1
 ·have b:k<l.length:=U
  have c:l.drop k=l.getD k O.dflt::l.drop (k+1):=by rw[wG b];simp[List.getD,b]
  rw[c]at a;simp only[wn]at a;refine aA ?_ ?_<;>intro g
  ·rw[aP g]at a
   refine W ?_;exact bk (v:=E (l.getD k O.dflt)) rfl rfl ⟨by rw[a],rfl⟩
  rw[aH U]at a;refine W ?_;exact⟨k+1,⟨rfl,au⟩,aV,⟨U,a,rfl⟩,U⟩
 rw[qz U]at a;refine W ?_;exact bk (v:=E 0) rfl rfl ⟨by rw[<-a];rfl,rfl⟩
def Ě {n:Int}(i:0<=n)(h1:n<=4096) :
  Calls aj 114 #[E n] w0 fun e w'=>e=.returned (E (ka n))/\M w0 w' []:=by
 have Y:=M.start w0;obtain⟨c,a⟩:=ę n;have d:ka n<=64:=a 64 U;obtain⟨R,f⟩:=À (ka n);rw[<-f]at c a d ⊢;refine bB ao Tryz.func114 ?_;refine W ?_;refine cN [3,12] (G:=Nat) (fun k=>[(3,E k)]) (fun k w=>k<=R/\M w0 w []) (fun k=>R-k) 0 (fun _=>rfl) ⟨rfl,au⟩ ⟨br _,Y⟩ ?_;clear Y;rintro j k w ⟨hk,Y⟩;have m:((k:Int)+1)*(k+1)<=65*65:=zP U U U U;have g:0<=((k:Int)+1)*(k+1):=tj U U;refine aA ?_ ?_<;>intro o
 ·have b:k<R:=by
   rcases ns k R with h|h
   ·exact h
   have:k=R:=U;subst this;omega
  refine W ?_;exact⟨k+1,⟨rfl,au⟩,aV,⟨U,Y.bb⟩,U⟩
 have b:k=R:=Nat.le_antisymm hk (a k U);subst b;refine W ?_;exact bk rfl rfl ⟨rfl,Y.bb⟩
def Rx (n:Nat):cY (n+1)=cY n++[(n:Int)]:=by simp[cY,lz]
def Ci (n:Nat):(cY n).length=n:=by simp[cY]
def OH {n:Nat}(h1:n<=65536) :
  Calls aj 89 #[E n] w0 fun e w'=>∃ v,e=.returned v/\M w0 w' [X O 3 v (cY n)]:=by
 have Y:=M.start w0;refine bB ao Tryz.func89 ?_;refine lw ?_;intro s w Y;have c:(replicate ((n:Int)).toNat (0:Int)).length=n:=sm;have a:=Y;rw[show ((n:Int)).toNat=n from by omega]at a;refine cN [4,4,9,16] (G:=Nat) (fun k=>[(9,E k)]) (fun k w=>k<=n/\M w0 w [X O 3 s (cY k++replicate (n-k) 0)]) (fun k=>n-k) 0 (fun _=>rfl) ⟨rfl,au⟩ ⟨br _,a⟩ ?_;clear Y a;rintro f k w ⟨hk,Y⟩;have d:(cY k++replicate (n-k) 0).length=n:=by rw[length_append,Ci,np];omega
 refine aA ?_ ?_<;>intro g
 ·refine eQ ?_;intro w Y
  refine⟨k+1,⟨rfl,au⟩,aV,⟨U,?_⟩,U⟩;have e:(cY k++replicate (n-k) 0).set k (k:Int)=cY (k+1)++replicate (n-(k+1)) 0:=by
   have b:n-k=(n-(k+1))+1:=U;rw[b,DE,Rx,fG,yB _ _ (by rw[Ci];omega),Ci,rZ];rfl
  rw[e]at Y;exact Y.bb
 have b:k=n:=U;subst b;rw[rZ,Cq,fI]at Y;refine W ?_;exact bk rfl rfl ⟨s,rfl,Y.bb⟩
def Ai {x y:Int}:Calls aj 165 #[E x,E y] w fun e w'=>e=.returned (E (gh x y))/\w'=w:=by
 unfold gh;exact Q4
def Rp (a b:cS) :
  Calls aj 152 #[.agg #[E a.ba,E a.cG,E a.dst],.agg #[E b.ba,E b.cG,E b.dst]] w0 fun e w'=>e=.returned (E (ji a b))/\∃ (q:Nat) (os:Array Obj),w'=Sort.grow (w0.drewN q) os:=by
 have Y:=M.start w0;have c:=Dr.refl w0;refine bB ao Tryz.func152 ?_;refine vt ?_;refine tF ?_;refine CN (vs:=[E a.ba,E a.cG,E a.dst]) rfl Y c ?_;clear Y c;intro p w Y c;refine CN (vs:=[E b.ba,E b.cG,E b.dst]) rfl Y c ?_;clear Y c;intro d w Y c;refine W ?_;refine KP (pl [0,1,2,3,5,6,7,8,10,11,12,13,4] (.cJ 6::.cJ 8::.cJ 11::.cJ 13::pl [9] (.cJ 11::.cJ 13::pl [14,15,16,17] []))) Y c kr ?_;clear Y c;intro w Y c;refine W ?_;refine aU rfl Ai ?_;rintro _ w' ⟨rfl,rfl⟩;refine⟨_,rfl,?_⟩;refine W ?_;refine aU rfl Ai ?_;rintro _ w' ⟨rfl,rfl⟩;refine⟨_,rfl,?_⟩;refine W ?_;refine aU rfl Ai ?_;rintro _ w' ⟨rfl,rfl⟩;refine⟨_,rfl,?_⟩;refine W ?_;refine KQ (T:=O) (len:=3) (parts:=[(0,.tmp 9),(1,.tmp 14),(2,.tmp 19)]) [(gh a.ba b.ba),(gh a.cG b.cG),(gh a.dst b.dst)] [E (gh a.ba b.ba),E (gh a.cG b.cG),E (gh a.dst b.dst)] rfl rfl rfl rfl rfl (fX rfl) (fb _) (fX rfl) Y c ?_;clear Y c;intro s w Y c;refine W ?_;refine aU rfl (KR (M.rs Y 0 rfl)) ?_;rintro _ w' ⟨rfl,rfl⟩;refine⟨_,rfl,?_⟩;refine W ?_;exact bk (v:=E (wn [(gh a.ba b.ba),(gh a.cG b.cG),(gh a.dst b.dst)])) rfl rfl ⟨by unfold ji;rfl,xg Y c⟩
def ě (a b:cS) :
  Calls aj 195 #[.agg #[E a.ba,E a.cG,E a.dst],.agg #[E b.ba,E b.cG,E b.dst]] w0 fun e w'=>e=.returned (E (ji a b))/\∃ (q:Nat) (os:Array Obj),w'=Sort.grow (w0.drewN q) os:=by
 have Y:=M.start w0;have c:=Dr.refl w0;refine bB ao Tryz.func195 ?_;refine vt ?_;refine tF ?_;refine CN (vs:=[E a.ba,E a.cG,E a.dst]) rfl Y c ?_;clear Y c;intro p w Y c;refine CN (vs:=[E b.ba,E b.cG,E b.dst]) rfl Y c ?_;clear Y c;intro d w Y c;refine W ?_;refine KP (pl [0,1,2,3,5,6,7,8,10,11,12,13,4] (.cJ 6::.cJ 8::.cJ 11::.cJ 13::pl [9] (.cJ 11::.cJ 13::pl [14,15,16,17] []))) Y c kr ?_;clear Y c;intro w Y c;refine W ?_;refine aU rfl Ai ?_;rintro _ w' ⟨rfl,rfl⟩;refine⟨_,rfl,?_⟩;refine W ?_;refine aU rfl Ai ?_;rintro _ w' ⟨rfl,rfl⟩;refine⟨_,rfl,?_⟩;refine W ?_;refine aU rfl Ai ?_;rintro _ w' ⟨rfl,rfl⟩;refine⟨_,rfl,?_⟩;refine W ?_;refine KQ (T:=O) (len:=3) (parts:=[(0,.tmp 9),(1,.tmp 14),(2,.tmp 19)]) [(gh a.ba b.ba),(gh a.cG b.cG),(gh a.dst b.dst)] [E (gh a.ba b.ba),E (gh a.cG b.cG),E (gh a.dst b.dst)] rfl rfl rfl rfl rfl (fX rfl) (fb _) (fX rfl) Y c ?_;clear Y c;intro s w Y c;refine W ?_;refine aU rfl (KR (M.rs Y 0 rfl)) ?_;rintro _ w' ⟨rfl,rfl⟩;refine⟨_,rfl,?_⟩;refine W ?_;exact bk (v:=E (wn [(gh a.ba b.ba),(gh a.cG b.cG),(gh a.dst b.dst)])) rfl rfl ⟨by unfold ji;rfl,xg Y c⟩
end
end Go.Proofs.YtmapkjoefdgjfaaGreatDoor
