/- Several texts. -/
import Derived.Test.YtmapkjoefdgjfaaGreatDoorMW3E
set_option linter.unusedSimpArgs false
set_option linter.unusedVariables false
set_option linter.defProp false
set_option maxRecDepth 8000
set_option maxHeartbeats 16000000
open List Nat
namespace Go.Proofs.YtmapkjoefdgjfaaGreatDoor
open Go.Sl
variable {w0 w:World}{t:aa}{L l p:J}{Γ:List HP}
section
open Go.Sl Go
attribute [local irreducible] vc opsW opsD opV opW PureV ReadV Thn Blk
def SY (l:J):dw l=((List.range l.length).filter fun j=>decide (j=0\/l.getD j W.dflt≠l.getD (j-1) W.dflt)).map fun j=>l.getD j W.dflt:=by
 have e:∀ j,l.toArray[j]! = l.getD j W.dflt:=fun j=>by
  simp[getElem!_def,List.getD];cases l[j]?<;>rfl
 unfold dw Lib.compact Lib.compactUpTo Lib.keeps;simp only[e]
def Dk {x:Int}:x∈dw l↔x∈l:=by
 rw[SY];simp only[iS,rV,mem_range,gQ];constructor
 ·rintro⟨j,⟨a,_⟩,rfl⟩;exact cH _ a
 intro hx;obtain⟨i,b,he⟩:=A0.1 hx;have key:∀ i,i<l.length->∃ j,(j<l.length/\(j=0\/l.getD j W.dflt≠l.getD (j-1) W.dflt))/\l.getD j W.dflt=l.getD i W.dflt:=by
  intro i
  induction i with
  | zero=>intro h;exact⟨0,⟨h,.inl rfl⟩,rfl⟩
  | succ i d =>
   intro h;by_cases c:l.getD (i+1) W.dflt=l.getD i W.dflt
   ·obtain⟨j,h1,a⟩:=d U
    exact⟨j,h1,a.trans c.symm⟩
   exact⟨i+1,⟨h,.inr c⟩,rfl⟩
 obtain⟨j,h1,a⟩:=key i b;exact⟨j,h1,by rw[a,am b,he]⟩
def SS (h:l.Pairwise (·<=·)):(dw l).Pairwise (·<·):=by
 rw[SY,Bc];have eI:∀ i j,i<=j->j<l.length->l.getD i W.dflt<=l.getD j W.dflt:=fun i j b a=>by
  rcases nu i j with c|c
  ·rw[am U,am a];exact v8.1 h _ _ _ _ c
  have:i=j:=U;subst this;exact dt _
 refine(Dw.filter _).imp_of_mem fun {i j} c a b=>?_;simp only[rV,mem_range,gQ]at c a;have h1:=eI i (j-1) U U;have d:=eI (j-1) j U a.1;have e:=a.2.resolve_left U;omega
def Ġ {vars s:J}{l:List kP}(f:ab vars s):(∀ e∈l,gP vars e)->ab vars (fR p s l):=by
 refine mP (P:=fun l=>(∀ e∈l,gP vars e)->ab vars (fR p s l)) (fun _=>f) ?_ l;intro l e g h;have h1:=g fun x hx=>h x (by simp[hx]);rw[C6];split
 ·obtain⟨a,b,c,d⟩:=tO (h e sm)
  exact L4 h1 a c d
 exact h1
def ġ {a b c d vp vf:Value}{vs:List iW}{op:Nat}{fro:Int}(ht:bn w0 a b c d vs t)(hp:RS W w0 vp L)(hf:RS W w0 vf (jM t L op))(I:aG t)(C:jp t.vars L)(D:op<t.M.length)(h0:0<=fro)(h1:fro<br t.vars L)(hB:br t.vars L<=4096)(j':br t.vars (jM t L op)<=4096) :
  Calls ai 105 #[.agg #[a,b,c,d],E op,vp,vf,E fro] w0 fun e w'=>∃ s,e=.returned s/\Z w0 w' [X W 3 s (qj t L fro op)]:=by
 have q:=ht;obtain⟨ha,hb,hc,hd⟩:=ht;have R':=hd.rs;have _k:=hd.len;have _l:=ha.bU;have _m:=R'.bU;have _n:=I.vars;have K:oG w0 (au cd vs op) (jH t op):=hd.dJ op D;have _i:=K.one;obtain⟨es,P⟩:=K.aJ;have H':=P.rs;have _o:=P.len;have _p:=H'.bU;have _q:=K.pre;have hgo:ua t.vars (jH t op):=I.op op D;have _j:=hgo.aJ;have _r:=sd hgo.pre;have g:jp t.vars (jM t L op):=Es _ _ _;obtain⟨T',_s⟩:=EB I C h0 h1;have V':=SZ (op:=op) I C D h0 h1;have Y:=Z.start w0;refine bA an Tryz.func105 ?_;refine uI ?_;refine tm ?_;refine xU ?_;clear Y;intro pt w Y
 repeat (first|refine du ?_|(refine gX ?_;clear Y;intro p w Y)|(refine qB ?_;clear Y;intro w Y)|(refine fA ?_;clear Y;intro s w Y))
 obtain⟨po,rfl⟩:=À p;obtain⟨F,rfl⟩:=À s;refine aL rfl (J8 (s:=F) (L:=L) (st:=j0 t.vars.length) q hp Y I.pos C.mem (EC _) h0 U) ?_;clear Y;rintro _ w ⟨rfl,Y⟩;refine⟨_,rfl,?_⟩;refine O ?_;refine cP [10,10,14,14,39,61] (G:=Nat) (fun k=>[(39,E k)]) (fun k w=>k<=(jH t op).pre.length/\xp L (qG t L fro) ((jH t op).pre.take k)/\Z w0 w [X W 3 F (lW L (qG t L fro) ((jH t op).pre.take k)),ak po 44 (cd.enc (au cd vs op)),ak pt 26 [a,b,c,d]]) (fun k=>(jH t op).pre.length-k) 0 (fun _=>rfl) ⟨rfl,az⟩ ⟨bu _,fun x hx=>by simp at hx,Y⟩ ?_;clear Y;rintro σ k w ⟨hk,y,Y⟩;refine aB ?_ ?_<;>intro h2
 ·have i:k<(jH t op).pre.length:=U
  have f:=ED L (qG t L fro) ((jH t op).pre.take k) ((jH t op).pre.getD k aq.dflt);rw[<-eC aq.dflt i]at f;have n:=(iy I D).1 _ (cH aq.dflt i);have _a:=S0 L (qG t L fro) ((jH t op).pre.take k);have o:=T'.1;obtain⟨f1,f2,f3,f4⟩:=n;refine eE ?_;intro p w Y;refine aL rfl (wE (hp.at Y)) ?_;rintro _ w' ⟨rfl,al⟩;replace Y:=Y.cy al;clear al;by_cases hm:((jH t op).pre.getD k aq.dflt).var∈L
  ·have j:(lW L (qG t L fro) ((jH t op).pre.take k)).getD ((jH t op).pre.getD k aq.dflt).var.toNat W.dflt=sg (qG t L fro) ((jH t op).pre.getD k aq.dflt).var :=
    S4 f1 (fun x hx=>(iy I D).1 x (pO hx)) fun x _ hx e=>hx (e ▸ hm)
   rw[dy hm];refine⟨_,rfl,?_⟩;refine vJ ?_ ?_<;>intro w Y h3
   ·refine O ?_
    refine bf (v:=nS) rfl rfl ⟨_,rfl,?_⟩;rw[Ģ I C h0 h1 fun h=>h3 (by rw[j];exact h _ (cH aq.dflt i) hm)];exact Y.tail.tail.tail.tail.nil
   refine O ?_;refine⟨k+1,⟨rfl,az⟩,aU,⟨U,?_,?_⟩,U⟩
   ·rw[eC aq.dflt i]
    intro x hx m;rcases gG.1 hx with hx|hx
    ·exact y x hx m
    rw[dp.1 hx,<-j];omega
   rw[f,aM hm];exact Y.tail
  rw[dU hm];refine⟨_,rfl,?_⟩;refine fm ?_;intro w Y;refine⟨k+1,⟨rfl,az⟩,aU,⟨U,?_,?_⟩,U⟩
  ·rw[eC aq.dflt i]
   intro x hx m;rcases gG.1 hx with hx|hx
   ·exact y x hx m
   rw[dp.1 hx]at m;exact absurd m hm
  rw[f,aC hm];exact Y.tail
 rw[gH U]at y Y;have i:=fun b=>ģ (b:=b) I C D h0 h1 y;refine O ?_;refine aL rfl (Kb (q.at Y) (hf.at Y) I g.mem) ?_;rintro _ w' ⟨rfl,al⟩;replace Y:=Y.cy al;clear al;rw[aM j'];refine⟨_,rfl,?_⟩;refine O ?_;obtain⟨N,hN⟩:=À (br t.vars (jM t L op));have _b:=F3 I.pos g.mem;rw[<-hN]at i _b j' ⊢;refine zK [17,19,21,21,69,110] (G:=Nat) (H:=Value) (I':=J) (M':=J) (fun k so _ _=>[(69,E k),(17,so)]) (fun k so xs S w=>k<=N/\xs.length=k/\(∀ b,b∈xs↔td t L op fro k b)/\ab t.vars S/\(∀ v,0<=v->v∉jM t L op->sg S v=sg (sC t L op fro) v)/\Z w0 w [X W 3 so xs,X W 3 F S,ak po 44 (cd.enc (au cd vs op)),ak pt 26 [a,b,c,d]]) (fun k _ _ _=>N.toNat-k) 0 (nS) [] (sC t L op fro) (fun _ _ _ _=>rfl) ⟨rfl,rfl,az⟩ ⟨U,rfl,fun b=>⟨fun h=>by simp at h,fun⟨S,Q,_,_t,_⟩=>absurd (oF Q g.mem).1 U⟩,V',fun _ _ _=>rfl,Y.nil⟩ ?_;clear Y;rintro σ k so xs S w ⟨hk,_c,m,Q,J',Y⟩;refine aB ?_ ?_<;>intro h3
 ·have R:(0:Int)<=k:=U
  have z:(k:Int)<br t.vars (jM t L op):=U;have hq:=EE (s:=S) I.pos g Q.1 R z;have n:=Ii (s:=S) I.pos g R z Q.1 fun v hv _d _=>Q.dK hv _d;have o:∀ v,0<=v->v∉jM t L op->sg (io t.vars (jM t L op) S k) v=sg (sC t L op fro) v:=fun v hv hn=>by rw[hq.2.2 v hv hn,J' v hv hn]
  have P':=fun b=>Ĥ (b:=b) I C D n o hq.1;refine O ?_;refine aL rfl (J8 (s:=F) (L:=jM t L op) (st:=S) q hf Y.swap I.pos g.mem Q.1 R U) ?_;clear Y;rintro _ w ⟨rfl,Y⟩;refine⟨_,rfl,?_⟩;obtain⟨A,_e⟩:=À (io t.vars (jM t L op) S k);rw[<-_e]at Y n o P';have _u:=n.1;clear Q J' hq;refine O ?_;refine aL rfl (ns (a:=F) (xs:=A) (bk Y) U) ?_;rintro _ w' ⟨sn,rfl,al⟩;refine aI ?_;clear al Y;intro Y;refine O ?_;refine cP [21,21,82,102] (G:=Nat) (fun j=>[(82,E j)]) (fun j w=>j<=(jH t op).aJ.length/\Z w0 w [X W 3 sn (fR L A ((jH t op).aJ.take j)),X W 3 F A,X W 3 so xs,ak po 44 (cd.enc (au cd vs op)),ak pt 26 [a,b,c,d]]) (fun j=>(jH t op).aJ.length-j) 0 (fun _=>rfl) ⟨rfl,az⟩ ⟨bu _,Y⟩ ?_;clear Y;rintro _v j w ⟨hj,Y⟩;refine aB ?_ ?_<;>intro h4
  ·have T:j<(jH t op).aJ.length:=U
   have B:=P.dJ j T;have _f:=B.bO;have _g:=B.one;have V:=B.var;have _h:=B.val;obtain⟨r1,r2,r3,r4⟩:=tO (hgo.ff j T);have f:=C6 L A ((jH t op).aJ.take j) ((jH t op).aJ.getD j bE);rw[<-eC bE T]at f;have _a:=Ij L A ((jH t op).aJ.take j);refine eE ?_;intro p w Y;refine aL rfl (wE (hp.at Y)) ?_;rintro _ w' ⟨rfl,al⟩;replace Y:=Y.cy al;clear al;by_cases hm:(au aV es j).var∈L
   ·rw[dy hm]
    refine⟨_,rfl,?_⟩;refine O ?_;refine aL rfl (Rr (b:=F) (s:=A) (_f.at Y) (bk Y)) ?_;rintro _ w' ⟨⟨r,rfl,hr⟩,al⟩;refine aA ?_;clear al Y;intro Y
    cases r with
    | false =>
     refine O ?_;refine⟨j+1,⟨rfl,az⟩,aU,⟨U,?_⟩,U⟩;rw[f,aC fun h=>by have:=hr.2 h.2;cases this]
     exact Y.tail
    | true =>
     refine fm ?_;intro w Y;refine⟨j+1,⟨rfl,az⟩,aU,⟨U,?_⟩,U⟩;rw[f,aM ⟨V ▸ hm,hr.1 rfl⟩,<-V,<-_h];exact Y.tail
   rw[dU hm];refine⟨_,rfl,?_⟩;refine O ?_;refine⟨j+1,⟨rfl,az⟩,aU,⟨U,?_⟩,U⟩;rw[f,aC fun h=>hm (V ▸ h.1)];exact Y.tail
  rw[gH U]at Y;have bL:=Ġ (p:=L) n hgo.mem;refine O ?_;refine aL rfl (Po (sv:=sn) (s:=fR L A (jH t op).aJ) (q.at Y) (hp.at Y) (bk Y) I C.mem bL U) ?_;rintro _ w' ⟨rfl,al⟩;refine aA ?_;clear al Y;intro Y
  repeat (first|refine du ?_|(refine fA ?_;clear Y;intro s w Y))
  refine⟨k+1,_,xs++[bX t.vars L (fR L A (jH t op).aJ)],A,⟨rfl,rfl,az⟩,aU,⟨U,by simp[_c],fun b=>?_,n,o,?_⟩,U⟩
  ·rw[gG,dp,m b,Ci,Jl,P' b]
  exact Y.tail.tail.swap
 have z:(k:Int)=N:=U;rw[z]at m;refine O ?_;refine aL rfl (Dx (s:=so) Y U) ?_;clear Y;rintro _ w ⟨rfl,Y⟩;refine⟨_,rfl,?_⟩;refine O ?_;refine aL rfl (Gz (s:=so) Y (by rw[DH];omega)) ?_;clear Y;rintro _ w ⟨f,rfl,Y⟩;refine⟨_,rfl,?_⟩;refine O ?_;refine bf (v:=f) rfl rfl ⟨f,rfl,?_⟩;have e:dw (fh xs)=qj t L fro op:=by
  refine Kc (SS (J5 xs)) fun u=>?_;rw[Dk,Gy,m u,i u];constructor
  ·intro h
   have j:=(i u).2 h;exact⟨ĥ I C D j,h⟩
  exact fun h=>h.2
 rw[e]at Y;exact Y.only
noncomputable def cT (t:aa)(p:J):Int:=if lQ t p≠0 then lQ t p else j7 t p
def Jg:lQ t p=0↔aG t/\fi t.vars p:=by
 rw[<-oz];unfold lQ;by_cases h:bM t=0
 ·rw[aC (by simp[h])]
  by_cases a:fi t.vars p
  ·rw[aM a];exact⟨fun _=>⟨h,a⟩,fun _=>rfl⟩
  rw[aC a];exact⟨(fun e=>by cases e),fun e=>absurd e.2 a⟩
 rw[aM h];exact⟨fun e=>absurd e h,fun e=>absurd e.1 h⟩
def Jf (h:lQ t p=0):cT t p=j7 t p:=by rw[cT,aC (by simp[h])]
noncomputable def r9 (t:aa)(L:J)(i:Nat):List J:=(List.range t.M.length).map fun op=>if op<i then jM t L op else []
def EF (t:aa)(L:J)(i:Nat):(r9 t L i).length=t.M.length:=by simp[r9]
def Ħ (t:aa)(L:J):r9 t L 0=replicate t.M.length []:=by
 apply iB (by simp[r9]);intro i h1 a;simp[r9]
def S5 {i j:Nat}(b:j<i)(a:j<t.M.length):(r9 t L i).getD j []=jM t L j:=by simp[r9,List.getD,b,a]
def ħ {i:Nat}(hi:i<t.M.length):(r9 t L i).set i (jM t L i)=r9 t L (i+1):=by
 apply iB (by simp[r9]);intro j h1 a;rw[si];simp only[r9,mK,qZ];split
 ·rename_i e;subst e;rw[aM U]
 by_cases h:j<i
 ·rw[aM h,aM U]
 rw[aC h,aC U]
def gm (Y:Z w0 w Γ):Z w0 w []:=⟨Y.below,az⟩
def M7 {A B C:HP}(h:Z w0 w (A::B::C::Γ)):Z w0 w [A,B,C]:=h.mH fun _ h=>cm.iA (fun _ h=>h) (fun _ h=>cm.iA (fun _ h=>h) (fun _ _=>trivial) h) h
def s8 (w0 w:World)(cv ev gv:Value)(S:bZ):Prop:=Z w0 w [X W 3 cv S.aS,X aT 190 ev S.aD,X ah 4 gv S.aQ]
def yd (Y:Z w0 w Γ):s8 w0 w (nS) (nS) (nS) cE:=(gm Y).nil.nil.nil
def cM (S:bZ)(cv ev gv:Value):Value:=.agg #[E S.st,E S.bR,cv,ev,gv]
def F0 {a b c d vp:Value}{vs:List iW}(ht:bn w0 a b c d vs t)(R:RS W w0 vp L) :
  Calls ai 80 #[.agg #[a,b,c,d],vp] w0 fun e w'=>∃ cv ev gv,e=.returned (.tuple #[cM (kt t L (cT t L)) cv ev gv,bI (cT t L)])/\s8 w0 w' cv ev gv (kt t L (cT t L)):=by
 have r:=ht;obtain⟨ha,hb,hc,hd⟩:=ht;have _b:=hd.rs;have _c:=hd.len;have _n:=ha.bU;have _o:=_b.bU;have _p:=hc.bU;have Y:=Z.start w0;refine bA an Tryz.func80 ?_;refine uI ?_;refine tm ?_;refine xU ?_;clear Y;intro V w Y;refine Gk ?_;clear Y;intro u w Y;refine O ?_;refine aL rfl (Xk (r.at Y) (R.at Y)) ?_;rintro _ w' ⟨rfl,al⟩;refine aA ?_;clear al Y;intro Y;by_cases hk:lQ t L=0
 ·rw[fK hk]
  obtain⟨I,_d⟩:=Jg.1 hk;have F:=_d.N2;rw[Jf hk];have _e:=I.vars;have _q:=I.M;refine O ?_;refine aL rfl (Kb (r.at Y) (R.at Y) I F.mem) ?_;rintro _ w' ⟨rfl,al⟩;replace Y:=Y.cy al;clear al;by_cases hB:br t.vars L<=4096
  ·rw[aM hB]
   refine⟨_,rfl,?_⟩;refine O ?_;refine aL rfl (Po (s:=t.cC) (r.at Y) (R.at Y) (hb.at Y) I F.mem I.cC U) ?_;rintro _ w' ⟨rfl,al⟩;refine aA ?_;clear al Y;intro Y
   repeat (first|refine du ?_|(refine gX ?_;clear Y;intro p w Y)|(refine qB ?_;clear Y;intro w Y)|(refine fA ?_;clear Y;intro s w Y))
   obtain⟨px,rfl⟩:=À p;obtain⟨fv,rfl⟩:=À s;rw[_c]at Y;have y:=(Y.gI (T:=W) (e:=3) t.M.length).nil (T:=W) (e:=3);rw[<-Ħ t L]at y;clear Y;refine nZ [5,5,11,14,54,85] (G:=Nat) (H:=Value) (I':=List Value) (fun i _ _=>[(54,E i)]) (fun i cv o w=>i<=t.M.length/\(∀ op,op<i->br t.vars (jM t L op)<=4096)/\Z w0 w [X W 3 cv ((ar t).take i),aj W 3 o (r9 t L i),X ap 22 fv o,ak px 142 [E (br t.vars L),E (bX t.vars L t.cC),cv,nS,nS],ak u 142 [E 0,E 0,nS,nS,nS],ak V 26 [a,b,c,d]]) (fun i _ _=>t.M.length-i) 0 (nS) (replicate t.M.length (nS)) (fun _ _ _=>rfl) ⟨rfl,az⟩ ⟨bu _,fun op h=>absurd h (dr _),y⟩ ?_;clear y;rintro σ i cv o w ⟨hi,j',Y⟩;refine aB ?_ ?_<;>intro h1
   ·have f:i<t.M.length:=U
    have A:=hd.dJ i f;have P:=A.one;have C:=A.aN;have J':o.length=t.M.length:=by have:=(Y.bQ 1 rfl).cb;rw[EF]at this;exact this
    have H':((ar t).take i).length<=4096:=by simp[ar];omega
    repeat (first|refine du ?_|(refine gX ?_;clear Y;intro p w Y)|(refine qB ?_;clear Y;intro w Y)|(refine fA ?_;clear Y;intro s w Y))
    refine aL rfl (Xv (vars:=t.vars) (L:=L) (A.at Y) (R.at Y) (I.op i f) _e) ?_;rintro _ w' ⟨D,rfl,al⟩;refine aI ?_;clear al Y;intro Y;have Q:(o.set i D).length=t.M.length:=by simp[J']
    refine fm ?_;intro w Y;have z:=(((Y.bQ 4 rfl).swap.rL (by rw[EF];exact f)).swap.tail.swap.tail).swap;rw[show sW t.vars (t.M.getD i bj) L=jM t L i from rfl,ħ f]at z;have q:=(z.swap).row (i:=i) (by rw[EF];exact f);rw[S5 (D0 i) f]at q;clear Y;have Y:Z w0 w [X W 3 s ((ar t).take i++[(au cd vs i).aN]),aj W 3 (o.set i D) (r9 t L (i+1)),X ap 22 fv (o.set i D),ak px 142 [E (br t.vars L),E (bX t.vars L t.cC),s,nS,nS],ak u 142 [E 0,E 0,nS,nS,nS],ak V 26 [a,b,c,d]]:=z;clear z;have K:(ar t).take i++[(au cd vs i).aN]=(ar t).take (i+1):=by
     rw[eC W.dflt (show i<(ar t).length by simp[ar];exact f),vZ f,C]
    rw[K]at Y;refine aL rfl (Kb (r.at Y) q I (Es _ _ _).mem) ?_;rintro _ w' ⟨rfl,al⟩;replace Y:=Y.cy al;clear al;by_cases B:br t.vars (jM t L i)<=4096
    ·rw[aM B]
     refine⟨_,rfl,?_⟩;refine O ?_;refine⟨i+1,_,_,⟨rfl,az⟩,aU,⟨U,fun op h=>?_,Y⟩,U⟩;by_cases e:op=i
     ·subst e;exact B
     exact j' op U
    rw[aC B];refine⟨_,rfl,?_⟩;refine O ?_;refine lw (parts:=[]) (vs:=[]) rfl rfl rfl ?_;refine fm ?_;intro w Y;have he:j7 t L=5:=by rw[j7,aC U,aM ⟨i,f,U⟩]
    rw[he];exact lM (p:=u) (vs:=[E 0,E 0,nS,nS,nS]) rfl rfl (v':=bI 5) (by rw[cS dc];rfl) rfl (fun j v hv=>lK (i:=4) Y rfl hv) ⟨_,_,_,rfl,yd Y⟩
   have _f:i=t.M.length:=U;subst _f;rw[gH (by simp[ar])]at Y;have P':¬rR t L:=fun⟨op,h,h2⟩=>by have:=j' op h;omega
   have J':o.length=t.M.length:=by have:=(Y.bQ 1 rfl).cb;rw[EF]at this;exact this
   have _r:=F3 I.pos F.mem;obtain⟨N,hN⟩:=À (br t.vars L);refine l7 ?_;intro s w Y;obtain⟨sv,rfl⟩:=À s;have y:Z w0 w [X W 3 sv (j0 t.vars.length),X ah 4 (nS) (eu t L 0),X aT 190 (nS) (ji t L 0),X W 3 cv (ar t),aj W 3 o (r9 t L t.M.length),X ap 22 fv o,ak px 142 [E (br t.vars L),E (bX t.vars L t.cC),cv,(nS),(nS)],ak u 142 [E 0,E 0,nS,nS,nS],ak V 26 [a,b,c,d]]:=(Y.nil (T:=aT) (e:=190)).nil (T:=ah) (e:=4) |>.bQ 2 rfl;clear Y;refine zK [5,5,16,17,19,20,22,22,91,168] (G:=Nat) (H:=Value) (I':=Value) (M':=J) (fun k _ _ _=>[(91,E k)]) (fun k ev gv S w=>(k:Int)<=br t.vars L/\(ji t L k).length<=65536/\ab t.vars S/\Z w0 w [X W 3 sv S,X ah 4 gv (eu t L k),X aT 190 ev (ji t L k),X W 3 cv (ar t),aj W 3 o (r9 t L t.M.length),X ap 22 fv o,ak px 142 [E (br t.vars L),E (bX t.vars L t.cC),cv,ev,gv],ak u 142 [E 0,E 0,nS,nS,nS],ak V 26 [a,b,c,d]]) (fun k _ _ _=>(br t.vars L).toNat-k) 0 (nS) (nS) (j0 t.vars.length) (fun _ _ _ _=>rfl) ⟨rfl,az⟩ ⟨U,by rw[Ĩ];exact bu _,S6 I.pos,y⟩ ?_;clear y;rintro _s k ev gv S w ⟨_t,_g,hS,Y⟩;refine aB ?_ ?_<;>intro h2
   ·have B:(0:Int)<=k:=U
    have hq:=EE (s:=S) I.pos F hS.1 B h2;have C:=Ii (s:=S) I.pos F B h2 hS.1 fun v hv _h _=>hS.dK hv _h;refine O ?_;refine aL rfl (J8 (s:=sv) (L:=L) (st:=S) r R Y I.pos F.mem hS.1 B U) ?_;clear Y;rintro _ w ⟨rfl,Y⟩;refine⟨_,rfl,?_⟩;obtain⟨K,_i⟩:=À (io t.vars L S k);rw[<-_i]at Y C hq;have _j:=ĩ I F C hq.1;have _u:=C.1;clear hS hq;refine O ?_;refine dQ [17,17,19,19,102,124] (G:=Nat) (H:=Bool) (fun j g=>[(102,E j),(17,.bool g)]) (fun j g w=>j<=t.aH.length/\(g=true↔te L K (t.aH.take j))/\Z w0 w [X W 3 sv K,X ah 4 gv (eu t L k),X aT 190 ev (ji t L k),X W 3 cv (ar t),aj W 3 o (r9 t L t.M.length),X ap 22 fv o,ak px 142 [E (br t.vars L),E (bX t.vars L t.cC),cv,ev,gv],ak u 142 [E 0,E 0,nS,nS,nS],ak V 26 [a,b,c,d]]) (fun j _=>t.aH.length-j) 0 true (fun _ _=>rfl) ⟨rfl,rfl,az⟩ ⟨bu _,⟨fun _ x hx=>by simp at hx,fun _=>rfl⟩,Y⟩ ?_;clear Y;rintro _v j g w ⟨hj,D,Y⟩;refine aB ?_ ?_<;>intro h3
    ·have f:j<t.aH.length:=U
     obtain⟨f1,f2,f3,f4⟩:=yB I.aH _ (cH aq.dflt f);have z:te L K (t.aH.take (j+1))↔te L K (t.aH.take j)/\((t.aH.getD j aq.dflt).var∈L->sg K (t.aH.getD j aq.dflt).var=(t.aH.getD j aq.dflt).val):=by
      rw[eC aq.dflt f];unfold te;constructor
      ·exact fun h=>⟨fun x hx=>h x (by simp[hx]),h _ sm⟩
      rintro⟨h,A⟩ x hx;rcases gG.1 hx with hx|hx
      ·exact h x hx
      rw[dp.1 hx];exact A
     cases g with
     | false =>
      refine eE ?_;intro p w Y
      exact⟨j+1,false,⟨rfl,rfl,az⟩,aU,⟨U,cL (fun h=>by have:=D.2 (z.1 h).1;cases this),Y.tail⟩,U⟩
     | true =>
      have A:=D.1 rfl;refine eE ?_;intro p w Y;refine aL rfl (wE (R.at Y)) ?_;rintro _ w' ⟨rfl,al⟩;replace Y:=Y.cy al;clear al;by_cases hm:(t.aH.getD j aq.dflt).var∈L
      ·rw[dy hm]
       refine⟨_,rfl,?_⟩;refine O ?_;refine⟨j+1,_,⟨rfl,rfl,az⟩,aU,⟨U,?_,Y.tail⟩,U⟩;rw[gQ,z];exact⟨fun h=>⟨A,fun _=>h⟩,fun h=>h.2 hm⟩
      rw[dU hm];refine⟨_,rfl,?_⟩;refine O ?_;exact⟨j+1,true,⟨rfl,rfl,az⟩,aU,⟨U,im (z.2 ⟨A,fun h=>absurd h hm⟩),Y.tail⟩,U⟩
    rw[gH U,_j,<-Lj]at D;have _k:g=mD t L k:=KC.2 D;have _m:=N5 t L k;subst _k
    repeat refine du ?_
    refine jK ah (x1:=mD t L k) rfl rfl rfl (fY rfl) (fe _) Y ?_;clear Y;intro s2 w Y;refine l7 ?_;intro s w Y;obtain⟨gw,rfl⟩:=À s;rw[<-Ī]at Y;refine dQ [5,5,20,20,22,22,134,167] (G:=Nat) (H:=Value) (fun j _=>[(134,E j)]) (fun j ev w=>j<=t.M.length/\(ji t L k++kg t L k j).length<=65536/\Z w0 w [X W 3 sv K,X ah 4 gw (eu t L (k+1)),X aT 190 ev (ji t L k++kg t L k j),X W 3 cv (ar t),aj W 3 o (r9 t L t.M.length),X ap 22 fv o,ak px 142 [E (br t.vars L),E (bX t.vars L t.cC),cv,ev,gw],ak u 142 [E 0,E 0,nS,nS,nS],ak V 26 [a,b,c,d]]) (fun j _=>t.M.length-j) 0 ev (fun _ _=>rfl) ⟨rfl,az⟩ ⟨bu _,by rw[S7,fS];exact _g,by rw[S7,fS];exact Y.tail⟩ ?_;clear Y;rintro _w j ev w ⟨hj,A,Y⟩;refine aB ?_ ?_<;>intro h4
    ·have f:j<t.M.length:=U
     have R':=j' j f;refine fm ?_;intro w Y;have q:=(Y.bQ 4 rfl).row (i:=j) (by rw[EF];exact f);rw[S5 f f]at q;refine aL rfl (ġ (op:=j) (fro:=k) (r.at Y) (R.at Y) q I F f B h2 hB R') ?_;rintro _ w' ⟨tv,rfl,al⟩;replace Y:=Y.mu al;clear al;have T':=ī (br t.vars L) (EG t L k j);have V':=Ĭ h2 f;rw[show nC (br t.vars L) (EG t L k j)=qj t L k j from rfl]at T';obtain⟨P,_a⟩:=À (qj t L k j);rw[<-_a]at Y T' V';refine⟨_,rfl,?_⟩;refine O ?_;refine dQ [5,5,22,22,147,166] (G:=Nat) (H:=Value) (fun m _=>[(147,E m)]) (fun m ev w=>m<=P.length/\(ji t L k++kg t L k j++nc k j (P.take m)).length<=65536/\Z w0 w [X W 3 tv P,X W 3 sv K,X ah 4 gw (eu t L (k+1)),X aT 190 ev (ji t L k++kg t L k j++nc k j (P.take m)),X W 3 cv (ar t),aj W 3 o (r9 t L t.M.length),X ap 22 fv o,ak px 142 [E (br t.vars L),E (bX t.vars L t.cC),cv,ev,gw],ak u 142 [E 0,E 0,nS,nS,nS],ak V 26 [a,b,c,d]]) (fun m _=>P.length-m) 0 ev (fun _ _=>rfl) ⟨rfl,az⟩ ⟨bu _,by simpa [nc] using A,by simpa [nc] using Y⟩ ?_;clear Y;rintro _x m ev w ⟨hm,Q,Y⟩;refine aB ?_ ?_<;>intro h5
     ·have _l:m<P.length:=U
      have z:=ĭ (a:=k) (op:=j) _l;have H':(ji t L k++kg t L k j++nc k j (P.take m)).length=(ji t L k).length+(kg t L k j).length+m:=by simp[Lm];omega
      refine aB ?_ ?_<;>intro h6
      ·refine O ?_
       refine lw (parts:=[]) (vs:=[]) rfl rfl rfl ?_;refine fm ?_;intro w Y;have he:j7 t L=5:=by rw[j7,aC U,aC P',aM U]
       rw[he];exact lM (p:=u) (vs:=[E 0,E 0,nS,nS,nS]) rfl rfl (v':=bI 5) (by rw[cS dc];rfl) rfl (fun j v hv=>lK (i:=8) Y rfl hv) ⟨_,_,_,rfl,yd Y⟩
      refine O ?_;refine jK aT (x1:=⟨k,j,P.getD m W.dflt⟩) rfl rfl rfl (fY rfl) (fe _) Y ?_;clear Y;intro s3 w Y;refine l7 ?_;intro s w Y;rw[fL,<-z]at Y;refine⟨m+1,_,⟨rfl,az⟩,aU,⟨U,?_,Y.tail⟩,U⟩;rw[z,<-fL,length_append,H'];simp only[length_cons,length_nil];omega
     rw[gH U,_a,fL,<-HR]at Y Q;refine O ?_;exact⟨j+1,ev,⟨rfl,az⟩,aU,⟨U,Q,Y.tail⟩,U⟩
    have f:j=t.M.length:=U;subst f;rw[<-HS]at Y A;refine O ?_;exact⟨k+1,ev,gw,K,⟨rfl,az⟩,aU,⟨U,A,C,Y⟩,U⟩
   have f:k=(br t.vars L).toNat:=U;subst f;have he:j7 t L=0:=by rw[j7,aC U,aC P',aC (by unfold bS;omega)]
   rw[he];have q:=(Y.rs 3 rfl).one;have z:=(Y.rs 2 rfl).one;have A:=(Y.rs 1 rfl).one;refine O ?_;refine jF (n:=5) (p:=u) (vs:=[E (br t.vars L),E (bX t.vars L t.cC),cv,ev,gv]) rfl rfl Y inferInstance rfl rfl (by simp only[eD,eN,q,z,A];rfl) ?_;clear Y;intro w Y;refine O ?_;exact lM (p:=u) (vs:=[E (br t.vars L),E (bX t.vars L t.cC),cv,ev,gv]) rfl rfl (v':=bI 0) (by rw[fK rfl];rfl) rfl (fun j v hv=>lK (i:=7) Y rfl hv) ⟨cv,ev,gv,rfl,M7 ((Y.tail.bQ 2 rfl).mH fun _ h=>h.swap)⟩
  rw[aC hB];refine⟨_,rfl,?_⟩;refine O ?_;refine lw (parts:=[]) (vs:=[]) rfl rfl rfl ?_;refine fm ?_;intro w Y;have he:j7 t L=5:=by rw[j7,aM U]
  rw[he];refine lM (p:=u) (vs:=[E 0,E 0,nS,nS,nS]) rfl rfl (v':=bI 5) (by rw[cS dc];rfl) rfl (fun j v hv=>lK (i:=0) Y rfl hv) ⟨_,_,_,rfl,yd Y⟩
 rw[cS hk];refine O ?_;refine lw (parts:=[]) (vs:=[]) rfl rfl rfl ?_;refine fm ?_;intro w Y;have he:cT t L=lQ t L:=by rw[cT,aM hk]
 rw[he];have f:kt t L (lQ t L)=cE:=by rw[kt,aC hk]
 rw[f];exact lM (p:=u) (vs:=[E 0,E 0,nS,nS,nS]) rfl rfl (v':=bI (lQ t L)) (by rw[cS hk];rfl) rfl (fun j v hv=>lK (i:=0) Y rfl hv) ⟨_,_,_,rfl,yd Y⟩
end
section
open Go.Sl Go
structure cX (w:World) (cv ev gv:Value) (S:bZ):Prop where
 aS:RS W w cv S.aS
 aD:RS aT w ev S.aD
 aQ:RS ah w gv S.aQ
def cX.at {w0 w:World}{Γ:List HP}{cv ev gv:Value}{S:bZ}(h:cX w0 cv ev gv S)(Y:Z w0 w Γ):cX w cv ev gv S:=⟨h.aS.at Y,h.aD.at Y,h.aQ.at Y⟩
end
section
open Go.Sl
structure kw where
 var:Int
 dS:J
 ou:J
 eJ:Int
structure C7 where
 eG:bZ
 eJ:List kw
 vC:Int
def S8 (n:Int):∃ k:Nat,n<((k:Int)+1)*(k+1)/\∀ j:Nat,n<((j:Int)+1)*(j+1)->k<=j :=
 PQ (p:=fun r:Nat=>n<((r:Int)+1)*(r+1)) n.toNat (by
  have h:(0:Int)<=(n.toNat:Int)*n.toNat:=sj U U;have e:((n.toNat:Int)+1)*(n.toNat+1)=(n.toNat:Int)*n.toNat+n.toNat+n.toNat+1:=by simp only[zM,Int.mul_add];omega
  omega)
noncomputable def ka (n:Int):Nat:=Classical.choose (S8 n)
def Į (n:Int):n<((ka n:Int)+1)*(ka n+1)/\∀ j:Nat,n<((j:Int)+1)*(j+1)->ka n<=j:=wh (S8 n)
noncomputable def up (most:Int)(a b:Int):Int × Int:=if a*b>most then (if a<=ka most then (a,most.tdiv a) else if b<=ka most then (most.tdiv b,b) else (ka most,ka most)) else (a,b)
noncomputable def pF (t:aa)(most:Int)(v:Int):C7 :=
 if cT t [v]≠0 then ⟨cE,[],cT t [v]⟩
 else if cJ (dY t [v]) most≠0 then ⟨cE,[],cJ (dY t [v]) most⟩
 else ⟨dX (dY t [v]) most,[⟨v,fU (dY t [v]) most,[],(dX (dY t [v]) most).st⟩],0⟩
noncomputable def pG (t:aa)(most:Int)(s:C7)(v:Int):C7 :=
 if s.vC≠0 then s
 else if cT t [v]≠0 then ⟨cE,s.eJ,cT t [v]⟩
 else let A:=dY t [v];let a:=up most s.eG.st A.st
  if cJ s.eG a.1≠0 then ⟨cE,s.eJ,cJ s.eG a.1⟩
  else if cJ A a.2≠0 then ⟨cE,s.eJ,cJ A a.2⟩
  else if dB (dX s.eG a.1) (dX A a.2)≠0 then ⟨cE,s.eJ++[⟨v,fU A a.2,fU s.eG a.1,(dX A a.2).st⟩],dB (dX s.eG a.1) (dX A a.2)⟩
  else ⟨jh (dX s.eG a.1) (dX A a.2),s.eJ++[⟨v,fU A a.2,fU s.eG a.1,(dX A a.2).st⟩],0⟩
noncomputable def lz (t:aa)(most:Int):Nat->C7
 | 0=>⟨kt t [] (cT t []),[],cT t []⟩
 | 1=>pF t most 0
 | k+1=>pG t most (lz t most k) k
noncomputable def lh (most:Int):Int:=max 1 (min most 4096)
open Classical in
noncomputable def eM (t:aa)(most:Int):Int:=if (lz t (lh most) t.vars.length).vC≠0 then (lz t (lh most) t.vars.length).vC else if dR (lz t (lh most) t.vars.length).eG then 0 else 2
noncomputable def rk (t:aa)(most:Int):List kw:=(lz t (lh most) t.vars.length).eJ
noncomputable def tW (t:aa)(most:Int):J:=mW (lz t (lh most) t.vars.length).eG
def oo (s:J):List kw->Int
 | []=>0
 | x::r=>r.foldl (fun a y=>y.ou.getD a.toNat W.dflt*y.eJ+y.dS.getD (s.getD y.var.toNat W.dflt).toNat W.dflt) (x.dS.getD (s.getD x.var.toNat W.dflt).toNat W.dflt)
end
section
open Go.Sl Go
attribute [local irreducible] vc opsW opsD opV opW PureV ReadV Thn Blk
def Ld {v:Value}(d:RS W w0 v l) :
  Calls ai 177 #[v] w0 fun e w'=>e=.returned (E (wn l))/\w'=w0:=by
 have f:=d.bU;have Y:=Z.start w0;refine bA an Tryz.func177 ?_;refine O ?_;refine cP [2,2,5,5,8,16] (G:=Nat) (fun k=>[(8,E k)]) (fun k w=>k<=l.length/\wn (l.drop k)=wn l/\w=w0) (fun k=>l.length-k) 0 (fun _=>rfl) ⟨rfl,az⟩ ⟨bu _,rfl,rfl⟩ ?_;clear Y;rintro h k w ⟨hk,a,rfl⟩;have Y:=Z.start w;refine aB ?_ ?_<;>intro h1
 ·have b:k<l.length:=U
  have c:l.drop k=l.getD k W.dflt::l.drop (k+1):=by rw[wI b];simp[List.getD,b]
  rw[c]at a;simp only[wn]at a;refine aB ?_ ?_<;>intro g
  ·rw[aM g]at a
   refine O ?_;exact bf (v:=E (l.getD k W.dflt)) rfl rfl ⟨by rw[a],rfl⟩
  rw[aC U]at a;refine O ?_;exact⟨k+1,⟨rfl,az⟩,aU,⟨U,a,rfl⟩,U⟩
 rw[pS U]at a;refine O ?_;exact bf (v:=E 0) rfl rfl ⟨by rw[<-a];rfl,rfl⟩
def į {n:Int}(i:0<=n)(h1:n<=4096) :
  Calls ai 114 #[E n] w0 fun e w'=>e=.returned (E (ka n))/\Z w0 w' []:=by
 have Y:=Z.start w0;obtain⟨c,a⟩:=Į n;have d:ka n<=64:=a 64 U;obtain⟨R,f⟩:=À (ka n);rw[<-f]at c a d ⊢;refine bA an Tryz.func114 ?_;refine O ?_;refine cP [3,12] (G:=Nat) (fun k=>[(3,E k)]) (fun k w=>k<=R/\Z w0 w []) (fun k=>R-k) 0 (fun _=>rfl) ⟨rfl,az⟩ ⟨bu _,Y⟩ ?_;clear Y;rintro j k w ⟨hk,Y⟩;have m:((k:Int)+1)*(k+1)<=65*65:=yx U U U U;have g:0<=((k:Int)+1)*(k+1):=sj U U;refine aB ?_ ?_<;>intro o
 ·have b:k<R:=by
   rcases nu k R with h|h
   ·exact h
   have:k=R:=U;subst this;omega
  refine O ?_;exact⟨k+1,⟨rfl,az⟩,aU,⟨U,Y.aY⟩,U⟩
 have b:k=R:=Nat.le_antisymm hk (a k U);subst b;refine O ?_;exact bf rfl rfl ⟨rfl,Y.aY⟩
def RM (n:Nat):c9 (n+1)=c9 n++[(n:Int)]:=by simp[c9,l5]
def Ct (n:Nat):(c9 n).length=n:=by simp[c9]
def OU {n:Nat}(h1:n<=65536) :
  Calls ai 89 #[E n] w0 fun e w'=>∃ v,e=.returned v/\Z w0 w' [X W 3 v (c9 n)]:=by
 have Y:=Z.start w0;refine bA an Tryz.func89 ?_;refine l7 ?_;intro s w Y;have c:(replicate ((n:Int)).toNat (0:Int)).length=n:=sm;have a:=Y;rw[show ((n:Int)).toNat=n from by omega]at a;refine cP [4,4,9,16] (G:=Nat) (fun k=>[(9,E k)]) (fun k w=>k<=n/\Z w0 w [X W 3 s (c9 k++replicate (n-k) 0)]) (fun k=>n-k) 0 (fun _=>rfl) ⟨rfl,az⟩ ⟨bu _,a⟩ ?_;clear Y a;rintro f k w ⟨hk,Y⟩;have d:(c9 k++replicate (n-k) 0).length=n:=by rw[length_append,Ct,nD];omega
 refine aB ?_ ?_<;>intro g
 ·refine fm ?_;intro w Y
  refine⟨k+1,⟨rfl,az⟩,aU,⟨U,?_⟩,U⟩;have e:(c9 k++replicate (n-k) 0).set k (k:Int)=c9 (k+1)++replicate (n-(k+1)) 0:=by
   have b:n-k=(n-(k+1))+1:=U;rw[b,DP,RM,fL,yE _ _ (by rw[Ct];omega),Ct,r7];rfl
  rw[e]at Y;exact Y.aY
 have b:k=n:=U;subst b;rw[r7,CB,fS]at Y;refine O ?_;exact bf rfl rfl ⟨s,rfl,Y.aY⟩
def Ao {x y:Int}:Calls ai 165 #[E x,E y] w fun e w'=>e=.returned (E (gd x y))/\w'=w:=by
 unfold gd;exact Rp
def RE (a b:de) :
  Calls ai 152 #[.agg #[E a.bh,E a.cK,E a.dst],.agg #[E b.bh,E b.cK,E b.dst]] w0 fun e w'=>e=.returned (E (jg a b))/\∃ (q:Nat) (os:Array Obj),w'=Sort.grow (w0.drewN q) os:=by
 have Y:=Z.start w0;have c:=Dr.refl w0;refine bA an Tryz.func152 ?_;refine uI ?_;refine tm ?_;refine CX (vs:=[E a.bh,E a.cK,E a.dst]) rfl Y c ?_;clear Y c;intro p w Y c;refine CX (vs:=[E b.bh,E b.cK,E b.dst]) rfl Y c ?_;clear Y c;intro d w Y c;refine O ?_;refine Lb (pl [0,1,2,3,5,6,7,8,10,11,12,13,4] (.cI 6::.cI 8::.cI 11::.cI 13::pl [9] (.cI 11::.cI 13::pl [14,15,16,17] []))) Y c kr ?_;clear Y c;intro w Y c;refine O ?_;refine aL rfl Ao ?_;rintro _ w' ⟨rfl,rfl⟩;refine⟨_,rfl,?_⟩;refine O ?_;refine aL rfl Ao ?_;rintro _ w' ⟨rfl,rfl⟩;refine⟨_,rfl,?_⟩;refine O ?_;refine aL rfl Ao ?_;rintro _ w' ⟨rfl,rfl⟩;refine⟨_,rfl,?_⟩;refine O ?_;refine Lc (T:=W) (len:=3) (parts:=[(0,.tmp 9),(1,.tmp 14),(2,.tmp 19)]) [(gd a.bh b.bh),(gd a.cK b.cK),(gd a.dst b.dst)] [E (gd a.bh b.bh),E (gd a.cK b.cK),E (gd a.dst b.dst)] rfl rfl rfl rfl rfl (fY rfl) (fe _) (fY rfl) Y c ?_;clear Y c;intro s w Y c;refine O ?_;refine aL rfl (Ld (Z.rs Y 0 rfl)) ?_;rintro _ w' ⟨rfl,rfl⟩;refine⟨_,rfl,?_⟩;refine O ?_;exact bf (v:=E (wn [(gd a.bh b.bh),(gd a.cK b.cK),(gd a.dst b.dst)])) rfl rfl ⟨by unfold jg;rfl,xk Y c⟩
def İ (a b:de) :
  Calls ai 195 #[.agg #[E a.bh,E a.cK,E a.dst],.agg #[E b.bh,E b.cK,E b.dst]] w0 fun e w'=>e=.returned (E (jg a b))/\∃ (q:Nat) (os:Array Obj),w'=Sort.grow (w0.drewN q) os:=by
 have Y:=Z.start w0;have c:=Dr.refl w0;refine bA an Tryz.func195 ?_;refine uI ?_;refine tm ?_;refine CX (vs:=[E a.bh,E a.cK,E a.dst]) rfl Y c ?_;clear Y c;intro p w Y c;refine CX (vs:=[E b.bh,E b.cK,E b.dst]) rfl Y c ?_;clear Y c;intro d w Y c;refine O ?_;refine Lb (pl [0,1,2,3,5,6,7,8,10,11,12,13,4] (.cI 6::.cI 8::.cI 11::.cI 13::pl [9] (.cI 11::.cI 13::pl [14,15,16,17] []))) Y c kr ?_;clear Y c;intro w Y c;refine O ?_;refine aL rfl Ao ?_;rintro _ w' ⟨rfl,rfl⟩;refine⟨_,rfl,?_⟩;refine O ?_;refine aL rfl Ao ?_;rintro _ w' ⟨rfl,rfl⟩;refine⟨_,rfl,?_⟩;refine O ?_;refine aL rfl Ao ?_;rintro _ w' ⟨rfl,rfl⟩;refine⟨_,rfl,?_⟩;refine O ?_;refine Lc (T:=W) (len:=3) (parts:=[(0,.tmp 9),(1,.tmp 14),(2,.tmp 19)]) [(gd a.bh b.bh),(gd a.cK b.cK),(gd a.dst b.dst)] [E (gd a.bh b.bh),E (gd a.cK b.cK),E (gd a.dst b.dst)] rfl rfl rfl rfl rfl (fY rfl) (fe _) (fY rfl) Y c ?_;clear Y c;intro s w Y c;refine O ?_;refine aL rfl (Ld (Z.rs Y 0 rfl)) ?_;rintro _ w' ⟨rfl,rfl⟩;refine⟨_,rfl,?_⟩;refine O ?_;exact bf (v:=E (wn [(gd a.bh b.bh),(gd a.cK b.cK),(gd a.dst b.dst)])) rfl rfl ⟨by unfold jg;rfl,xk Y c⟩
end
end Go.Proofs.YtmapkjoefdgjfaaGreatDoor
