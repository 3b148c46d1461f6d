/- Several texts. -/
import Derived.Test.YtmapkjoefdgjfaaGreatDoorMW24H
set_option linter.unusedSimpArgs false
set_option linter.unusedVariables false
set_option linter.defProp false
set_option maxRecDepth 8000
set_option maxHeartbeats 16000000
open List Nat
namespace Go.Proofs.YtmapkjoefdgjfaaGreatDoor
open Go.Sl Go
variable {t:aa}{w0:World}{z cs V:J}{C:List J}{k:Nat}{A pc:Addr}{a fv gv q lv sv cv kv F b:Value}{K:List Nat}
attribute [local irreducible] vc opsW opsD opV opW PureV ReadV Thn Blk
structure yp where
 op:Int
 aU:Int
 aG:Value
variable {us:List yp}
def kL:Ty yp:=⟨3,fun x=>[E x.op,E x.aU,x.aG],fun _=>rfl,⟨0,0,nS⟩⟩
instance Ko:nR kL:=⟨az⟩
def GU (w:World)(v:yp)(u:Un):Prop:=v.op=u.op/\v.aU=u.aU/\∃ L,RS W w v.aG L/\nW L u.aG
def tX (us:List yp)(U':List Un)(w:World):Prop:=∀ i:Nat,i<U'.length->GU w (aB kL us i) (un U' i)
structure wu (w:World) (A:Addr) (t:aa) (a fv gv cv lv:Value) (us:List yp):Prop where
 box:eJ w A [a,fv,E (aZ t:Int),gv,cv,lv]
 vars:RS W w a t.vars
 fst:RS W w fv (ew t.vars t.vars.length)
 aF:RS W w gv (eh t)
 aN:RS W w cv (ao t)
 C9:RS kL w lv us
 len:us.length=(cz t).length
 un:tX us (cz t) w
def tX.at {w0 w:World}{Γ:List HP}{us:List yp}{U':List Un}(h:tX us U' w0)(Y:Z w0 w Γ):tX us U' w:=fun i c=>by
 obtain⟨h1,d,L,e,f⟩:=h i c;exact⟨h1,d,L,e.at Y,f⟩
def Vq {i:Nat}(hi:i<(cz t).length):∃ op:Nat,(un (cz t) i).op=(op:Int)/\op<t.M.length:=by
 obtain⟨op,j,h1,_,c⟩:=EC.1 (AE hi);have d:un (cz t) (i:Int)=Ay t.vars op (t.M.getD op bz) j:=c;exact⟨op,by rw[d];rfl,h1⟩
def P_ {m:Nat}:(replicate k bZ++replicate (m+1) (0:Int)).set k bZ=replicate (k+1) bZ++replicate m 0:=by
 rw[xQ _ _ sm,mp,pW,Cz (n:=m),lO,CI (n:=k),fk];rfl
structure SI (t:aa) (z D:J) (k:Nat):Prop where
 len:D.length=aZ t
 val:∀ g:Int,0<=g->g<aZ t->dg D g=bZ\/(dg D g=0/\oH t.vars z g)
 st:∀ v:Nat,v<k->dg D (bP t.vars v+z.getD v W.dflt)=0
def SI.zero:SI t z (replicate (aZ t) bZ) 0:=⟨sm,fun g d h1=>.inl (by
 have c:g.toNat<aZ t:=U
 simp[dg,List.getD,c]),fun v hv=>absurd hv (eo _)⟩
def SI.step {t:aa}{z D:J}{k:Nat}(h:SI t z D k)(I:aJ t)(l:aj t.vars z)(hk:k<t.vars.length):SI t z (D.set (bP t.vars k+z.getD k W.dflt).toNat 0) (k+1):=by
 have m:=AI I l (f:=bP t.vars k+z.getD k W.dflt) ⟨k,hk,rfl⟩;have n:=h.len;have c:∀ g:Int,0<=g->dg (D.set (bP t.vars k+z.getD k W.dflt).toNat 0) g=if g=bP t.vars k+z.getD k W.dflt then 0 else dg D g:=fun g d=>DB d m.1 U
 refine⟨by rw[iU];exact n,fun g d h1=>?_,fun v hv=>?_⟩
 ·rw[c g d]
  split
  ·rename_i e;exact .inr ⟨rfl,⟨k,hk,e⟩⟩
  exact h.val g d h1
 have i:v<t.vars.length:=U;have j:=AI I l (f:=bP t.vars v+z.getD v W.dflt) ⟨v,i,rfl⟩;rw[c _ j.1];split
 ·rfl
 rename_i e
 exact h.st v (by
  have:v≠k:=fun o=>e (by rw[o])
  omega)
def SI.vi {D:J}(h:SI t z D t.vars.length):zQ (bk t cs) z D:=by
 refine⟨h.len,fun g c h1=>?_,fun g c h1 d=>?_,fun g I=>?_⟩
 ·rcases h.val g c h1 with e|⟨e,_⟩
  ·rw[e];exact⟨dc,iq _⟩
  rw[e];exact⟨iq _,dc⟩
 ·rcases h.val g c h1 with e|⟨e,f⟩
  ·omega
  rw[e];exact .start f
 obtain⟨v,hv,rfl⟩:=I;have:=h.st v hv;exact Int.le_of_eq this
def Q_:(cz (bk t cs)).length=(cz t).length:=by
 have key:∀ k,k<=t.M.length->(iK (bk t cs) k).length=(iK t k).length:=by
  intro k
  induction k with
  | zero=>intro _;simp[iK]
  | succ k c =>
   intro hk;rw[Ax,Ax,length_append,length_append,c U,BN U,CO,CO]
 unfold cz;rw[Az];exact key _ (cP _)
def R_ (hr:wu w0 A t a fv gv q lv us)(I:aJ t)(hc:fe t cs)(hs:RS W w0 sv z)(bX:aj t.vars z)(_n:RS W w0 cv cs) :
  Calls ak 268 #[.pointer (some A),sv,cv] w0 fun e w'=>∃ b V,e=.returned b/\iL (bk t cs) z V/\Z w0 w' [X W 3 b V]:=by
 obtain⟨hb,_o,_p,_q,_r,_s,_t,hF⟩:=hr;have o:=AA I hc;have hN:=BG I;have _u:=hc.1;have _v:=bX.1;have _d:=I.vars;have _w:=BF t.vars t.vars.length;have _x:=I.M;have _y:(cz t).length<=64*t.M.length:=CN I (k:=t.M.length) (cP _);have Y:=Z.start w0;refine bI ar Tryz.func268 ?_;refine kO ?_;intro s w Y;obtain⟨b,rfl⟩:=À s;rw[jU]at Y;have T:∀ k,k<=aZ t->(replicate k bZ++replicate (aZ t-k) (0:Int)).length=aZ t:=fun k hk=>by simp;omega
 have j':(replicate ((aZ t:Int)).toNat (0:Int)).length=aZ t:=sm;have H':Z w0 w [X W 3 b (replicate 0 bZ++replicate (aZ t-0) (0:Int))]:=Y;refine O ?_;refine de [8,8,22,28] (G:=Nat) (fun k=>[(22,E k)]) (fun k w=>k<=aZ t/\Z w0 w [X W 3 b (replicate k bZ++replicate (aZ t-k) (0:Int))]) (fun k=>aZ t-k) 0 (fun _=>rfl) ⟨rfl,az⟩ ⟨bC _,H'⟩ ?_;clear Y H';rintro σ k w ⟨_e,Y⟩;have _f:=T k _e;refine aC ?_ ?_<;>intro h1
 ·have c:k<aZ t:=U
  refine dD ?_;intro w Y;rw[show aZ t-k=(aZ t-(k+1))+1 by omega,show (1125899906842624:Int)=bZ from rfl,P_]at Y;exact⟨k+1,⟨rfl,az⟩,aX,⟨U,Y⟩,U⟩
 have _g:k=aZ t:=U;rw[_g,pW,Bk,gj]at Y;clear _f j' T;refine O ?_;refine dP [9,10,31,47] (G:=Nat) (H:=J) (fun k _=>[(31,E k)]) (fun k D w=>k<=t.vars.length/\SI t z D k/\Z w0 w [X W 3 b D]) (fun k _=>t.vars.length-k) 0 _ (fun _ _=>rfl) ⟨rfl,az⟩ ⟨bC _,SI.zero,Y⟩ ?_;clear Y;rintro _z k D w ⟨_A,r,Y⟩;have J':=r.len;refine aC ?_ ?_<;>intro h2
 ·have c:k<t.vars.length:=U
  have g:=AI I bX (f:=bP t.vars k+z.getD k W.dflt) ⟨k,c,rfl⟩;obtain⟨g0,g1,g2⟩:=Eu I.pos (fun i B=>(I.pC i B).2) _d c;have j:=bX.2 k U;have l:=I.pC k c;have d:=r.step I bX c;rw[<-g0]at d g g1 g2;refine dD ?_;intro w Y;exact⟨k+1,_,⟨rfl,az⟩,aX,⟨U,d,Y⟩,U⟩
 have P':k=t.vars.length:=U;subst P';have R':=r.vi (cs:=cs);clear r J';refine O ?_;refine dP [11,11,13,14,48,90] (G:=Bool) (H:=J) (fun g _=>[(11,.bool g)]) (fun g D w=>zQ (bk t cs) z D/\(g=false->∀ i:Nat,i<(cz t).length->(fun i D=>lq D (un (cz (bk t cs)) i).aG<bZ->dg D (un (cz (bk t cs)) i).aU<=lq D (un (cz (bk t cs)) i).aG+(un (cz (bk t cs)) i).aT) i D)/\Z w0 w [X W 3 b D]) (fun g D=>2*gO D+(bif g then 1 else 0)) true _ (fun _ _=>rfl) ⟨rfl,az⟩ ⟨R',(fun h=>by cases h),Y⟩ ?_;clear Y R';rintro _B g D w ⟨hV,T',Y⟩;cases g
 ·refine O ?_
  exact bo (v:=b) rfl rfl ⟨b,D,rfl,hV.qE o fun i B=>T' rfl i (by
   by_cases h:i<(cz t).length
   ·exact h
   exfalso;have:(cz (bk t cs)).length=(cz t).length:=Q_
   omega),Y⟩
 clear T';refine O ?_;refine pu [11,11,13,14,54,90] (G:=Nat) (H:=Bool) (I':=J) (fun k g _=>[(54,E k),(11,.bool g)]) (fun k g d w=>k<=(cz t).length/\zQ (bk t cs) z d/\gO d<=gO D/\(g=true->gO d<gO D)/\(g=false->∀ i:Nat,i<k->(fun i D=>lq D (un (cz (bk t cs)) i).aG<bZ->dg D (un (cz (bk t cs)) i).aU<=lq D (un (cz (bk t cs)) i).aG+(un (cz (bk t cs)) i).aT) i d)/\Z w0 w [X W 3 b d]) (fun k _ _=>(cz t).length-k) 0 false D (fun _ _ _=>rfl) ⟨rfl,rfl,az⟩ ⟨bC _,hV,cP _,(fun h=>by cases h),fun _ i B=>absurd B (eo _),Y⟩ ?_;clear Y;rintro _C k g d w ⟨_D,j,V',N,P,Y⟩;refine aC ?_ ?_<;>intro h3
 ·have c:k<(cz t).length:=U
  obtain⟨c1,c2,L,c3,c4⟩:=hF k c;obtain⟨op,_a,_k⟩:=Vq c;obtain⟨u1,u2,u3,u4,u5⟩:=NC (cs:=cs) c;rw[_a,jU]at u5;have l:k<(cz (bk t cs)).length:=by rw[u1];exact c
  have Q:nW L (un (cz (bk t cs)) k).aG:=by rw[u4];exact c4
  have u:=j.xC o l Q;have x:=(wk o).aU k l;have J':=j.len;have _E:aZ (bk t cs)=aZ t:=rfl;have _l:=hc.2 _ (cS W.dflt (show op<cs.length by omega));have m:=Ve Q fun f S=>(u f S).1;have _F:=BT (V:=d) fun f S=>(u f S).1;have _b:=j.et _ x.1 x.2;rw[u3]at x _b;obtain⟨mk,_c⟩:=À ((un (cz t) k).aU);rw[<-_c]at x _b c2 u3;have _h:=c3.one;have _m:(kL.enc (aB kL us k)).all Value.oneCell'=true:=by
   show ((Value.int .i64 (aB kL us k).op).oneCell' && ((Value.int .i64 (aB kL us k).aU).oneCell' && ((aB kL us k).aG.oneCell' && true)))=true;rw[_h];rfl
  have _i:kL.enc (aB kL us k)=[E (op:Int),E mk,(aB kL us k).aG]:=by
   show [Value.int .i64 (aB kL us k).op,Value.int .i64 (aB kL us k).aU,(aB kL us k).aG]=_;rw[c1,c2,_a]
  refine ep ?_;intro p w Y;refine aR rfl (NP (lv:=(aB kL us k).aG) (c3.at Y) (bB (s:=b) Y) fun f S=>⟨(u f S).1.1,by have:=(u f S).2;omega⟩) ?_;rintro _ w' ⟨rfl,aw⟩;refine aL ?_;clear aw Y;intro Y;obtain⟨_j,rfl⟩:=À p;replace Y:Z w0 w' [am _j 138 [E (op:Int),E mk,(aB kL us k).aG],X W 3 b d]:=by rw[<-_i];exact Y
  by_cases q1:lq d L<bZ
  ·have _G:lq d L<1125899906842624:=q1
   have y:decide (lq d L<1125899906842624)=true:=dH q1;by_cases q2:lq d L+cs.getD op W.dflt<dg d mk
   ·have R:decide (lq d L+cs.getD op W.dflt<d.getD mk.toNat W.dflt)=true:=dH q2
    have n:=j.rf o l Q q1 (by rw[u5,u3];exact q2);rw[u5,u3]at n;refine O ?_;refine qM ?_;clear Y;intro w Y;refine O ?_
    try simp only[y];refine eW ?_
    refine O ?_
    try simp only[R];refine eW ?_
    refine O ?_;refine qM ?_;clear Y;intro w Y;refine jD ?_;intro w Y;exact⟨k+1,true,_,⟨rfl,rfl,az⟩,aX,⟨U,n.1,U,fun _=>U,(fun h=>by cases h),Y.tail⟩,U⟩
   have R:decide (lq d L+cs.getD op W.dflt<d.getD mk.toNat W.dflt)=false:=dB q2;refine O ?_;refine qM ?_;clear Y;intro w Y;refine O ?_
   try simp only[y];refine eW ?_
   refine O ?_
   try simp only[R];refine eW ?_
   refine O ?_;refine⟨k+1,g,d,⟨rfl,rfl,az⟩,aX,⟨U,j,V',N,fun n i B=>?_,Y.tail⟩,U⟩;by_cases e:i=k
   ·subst e
    intro _;rw[u5,u3,<-m];omega
   exact P n i U
  have y:decide (lq d L<1125899906842624)=false:=dB q1;refine O ?_;refine qM ?_;clear Y;intro w Y;refine O ?_
  try simp only[y];refine eW ?_
  refine O ?_;refine⟨k+1,g,d,⟨rfl,rfl,az⟩,aX,⟨U,j,V',N,fun n i B=>?_,Y.tail⟩,U⟩;by_cases e:i=k
  ·subst e
   intro R;rw[<-m]at R;exact absurd R q1
  exact P n i U
 refine O ?_;refine⟨g,d,⟨rfl,az⟩,aX,⟨j,fun n i B=>P n i U,Y⟩,?_⟩;cases g
 ·simp only[cond_true,cond_false];omega
 have:=N rfl;simp only[cond_true];omega
def S_ {vv:Value}(S:wu w0 A t a fv gv q lv us)(I:aJ t)(hv:RS W w0 vv V)(j':V.length=aZ t)(hV:∀ g:Int,0<=g->g<aZ t->0<=dg V g) :
  Calls ak 272 #[.pointer (some A),vv] w0 fun e w'=>∃ h,e=.returned h/\Z w0 w' [X bu 367 h (bf t V)]:=by
 obtain⟨hb,H',J',P',R',T',V',hF⟩:=S;have hN:=BG I;have _a:=I.M;have _b:(cz t).length<=64*t.M.length:=CN I (k:=t.M.length) (cP _);have Y:=Z.start w0;refine bI ar Tryz.func272 ?_;replace Y:=Y.nil (T:=bu) (e:=367);rw[<-t_ t V]at Y;refine O ?_;refine dP [5,5,7,7,13,34] (G:=Nat) (H:=Value) (fun k h=>[(13,E k),(5,h)]) (fun k h w=>k<=(cz t).length/\Z w0 w [X bu 367 h (qt t V k)]) (fun k _=>(cz t).length-k) 0 (nS) (fun _ _=>rfl) ⟨rfl,rfl,az⟩ ⟨bC _,Y⟩ ?_;clear Y;rintro σ k h w ⟨hk,Y⟩;have _c:=ND t V k;refine aC ?_ ?_<;>intro h1
 ·have m:k<(cz t).length:=U
  obtain⟨c1,c2,L,r,u⟩:=hF k m;obtain⟨op,o,P⟩:=Vq m;have hU:=wk I;have j:∀ f∈L,0<=f/\f<aZ t:=fun f d=>hU.aG k m f ((u f).1 d);have x:∀ f∈L,0<=f/\0<=dg V f:=fun f d=>⟨(j f d).1,hV f (j f d).1 (j f d).2⟩
  have i:=Ve u x;have y:=u_ (V:=V) u fun f d=>(j f d).1;have c:=Vf t V k;obtain⟨mk,l⟩:=À ((un (cz t) k).aU);rw[<-l]at c2;have B:=r.one;have Q:(kL.enc (aB kL us k)).all Value.oneCell'=true:=by
   show ((Value.int .i64 (aB kL us k).op).oneCell' && ((Value.int .i64 (aB kL us k).aU).oneCell' && ((aB kL us k).aG.oneCell' && true)))=true;rw[B];rfl
  have D:kL.enc (aB kL us k)=[E (op:Int),E mk,(aB kL us k).aG]:=by
   show [Value.int .i64 (aB kL us k).op,Value.int .i64 (aB kL us k).aU,(aB kL us k).aG]=_;rw[c1,c2,o]
  refine ep ?_;intro p w Y;refine aR rfl (NP (lv:=(aB kL us k).aG) (r.at Y) (hv.at Y) fun f d=>⟨(j f d).1,by have:=(j f d).2;omega⟩) ?_;rintro _ w' ⟨rfl,aw⟩;refine aL ?_;clear aw Y;intro Y;obtain⟨p7,rfl⟩:=À p;replace Y:Z w0 w' [am p7 138 [E (op:Int),E mk,(aB kL us k).aG],X bu 367 h (qt t V k)]:=by rw[<-D];exact Y
  refine aC ?_ ?_<;>intro R
  ·have n:lq V (un (cz t) k).aG<bZ:=by rw[<-i];exact R
   rw[uh,ba n]at c;refine O ?_;refine gi (pl [0,1,2,3,5,6,7,8,4] (.cY 6::.cY 8::pl [9,10,11,12] [])) Y kr ?_;clear Y;intro w Y;refine O ?_;refine aR rfl (NO (lv:=(aB kL us k).aG) (r.at Y) (hv.at Y) fun f d=>⟨(j f d).1,by have:=(j f d).2;omega⟩) ?_;rintro _ w' ⟨rfl,aw⟩;refine aL ?_;clear aw Y;intro Y;refine O ?_;refine jA bu (x1:=⟨jM V L,mk,op⟩) rfl rfl rfl (fP rfl) (fg _) Y ?_;clear Y;intro sl w Y;refine qJ ?_;intro s w Y;obtain⟨N,rfl⟩:=À s;rw[y,l,<-o,<-c]at Y;exact⟨k+1,N,⟨rfl,rfl,az⟩,aX,⟨U,Y.tail.tail⟩,U⟩
  have n:¬lq V (un (cz t) k).aG<bZ:=by rw[<-i];exact tM.2 R
  rw[uh,aM n,gj]at c;refine O ?_;exact⟨k+1,h,⟨rfl,rfl,az⟩,aX,⟨U,by rw[c];exact Y.tail⟩,U⟩
 have c:k=(cz t).length:=U;subst c;refine O ?_;exact bo (v:=h) rfl rfl ⟨h,rfl,Y⟩
structure TI (t:aa) (cs V:J) (g0:Int) (B:List Bool):Prop where
 len:B.length=aZ t
 ok:∀ f:Int,0<=f->f<aZ t->mz B f=true->ZT (bk t cs) V g0 f
 g:mz B g0=true
def EE (cs:J)(B:List Bool)(a:vQ):Prop:=0<=a.br->cs.getD a.op.toNat W.dflt=0->mz B a.dst=true->mz B a.br=true
structure Gn (t:aa) (cs z V:J) (g0:Int) (S:List Bool):Prop where
 len:S.length=aZ t
 ok:∀ f:Int,0<=f->f<aZ t->mz S f=true->ZS (bk t cs) z V g0 f
 st:∀ f,oH t.vars z f->mz S f=true
def CV (B S:List Bool)(a:vQ):Prop:=(a.br<0\/mz S a.br=true)->mz B a.dst=false->mz S a.dst=true
def T_ {vv:Value}{g0:Int}(hr:wu w0 A t a fv gv q lv us)(I:aJ t)(hc:fe t cs)(hs:RS W w0 sv z)(bX:aj t.vars z)(_A:RS W w0 cv cs)(hv:RS W w0 vv V)(X':iE (bk t cs) z V g0) :
  Calls ak 270 #[.pointer (some A),sv,cv,vv] w0 fun e w'=>∃ (kv:Value) (K:List Nat),e=.returned kv/\K.Pairwise (·<·)/\(∀ i:Nat,i∈K↔i<t.M.length/\j5 (bk t cs) z V g0 i)/\Z w0 w' [X W 3 kv (K.map fun i:Nat=>(i:Int))]:=by
 have _B:=hr;obtain⟨hb,_s,_t,_m,_u,_v,_w,hF⟩:=hr;have hN:=BG I;have _C:=I.M;have _D:=hc.1;have _E:=bX.1;have _x:=I.vars;have _F:=BF t.vars t.vars.length;have _G:(cz t).length<=64*t.M.length:=CN I (k:=t.M.length) (cP _);have _y:V.length=aZ t:=X'.hm.len;have hV:∀ g:Int,0<=g->g<aZ t->0<=dg V g:=fun g D h1=>(X'.hm.et g D h1).1;have _H:(bf t V).length<=(cz t).length:=ND t V _;have _h:∀ f∈eh t,0<=f/\f<V.length:=fun f hf=>by
  obtain⟨x,hx,rfl⟩:=iG.1 hf;obtain⟨i,L,e⟩:=ga hx;have ho:=(I.aF i L).1;rw[aq L,e]at ho;have h1:=xh I.pos ho;have m:=uV I;omega
 have _z:jM V (eh t)=g0:=by
  rcases AD (V:=V) (l:=eh t) fun f hf=>(_h f hf).1 with ⟨e,_⟩|⟨_,h⟩
  ·have:=X'.g.1
   have e2:eh (bk t cs)=eh t:=rfl;rw[e2,e]at this;exact absurd this jd
  exact EB h X'.g
 have _a:=_h g0 X'.g.1;have j':∀ a∈(bf t V),(0<=a.dst/\a.dst<aZ t)/\a.br<aZ t/\∃ op:Nat,a.op=(op:Int)/\op<t.M.length:=fun a ha=>by
  obtain⟨_,_,_,_,_,_,_,h1,m,h3⟩:=JC (cs:=cs) I hV ha;exact⟨h1,m,h3⟩
 have Y:=Z.start w0;refine bI ar Tryz.func270 ?_;refine O ?_;refine aR rfl (S_ (⟨hb.at Y,_s.at Y,_t.at Y,_m.at Y,_u.at Y,_v.at Y,_w,hF.at Y⟩) I (hv.at Y) _y hV) ?_;rintro _ w' ⟨av,rfl,aw⟩;replace Y:Z w0 w' [X bu 367 av (bf t V)]:=Y.pI aw;clear aw;refine⟨_,rfl,?_⟩;refine kO ?_;clear Y;intro s w Y;obtain⟨tv,rfl⟩:=À s;rw[jU]at Y;have _g:(replicate (aZ t) false).length=aZ t:=mp;refine O ?_;refine aR rfl (NO (_m.at Y) (hv.at Y) _h) ?_;rintro _ w' ⟨rfl,aw⟩;refine aL ?_;clear aw Y;intro Y;rw[_z];have _n:TI t cs V g0 ((replicate (aZ t) false).set g0.toNat true):=by
  refine⟨by rw[iU];exact _g,fun f D h1 hb=>?_,by rw[AF _a.1 U _a.1,ba rfl]⟩;rw[AF _a.1 U D]at hb;by_cases e:f=g0
  ·rw[e];exact .aF
  rw[aM e,Vj]at hb;cases hb
 refine dD ?_;clear Y;intro w Y;refine dP [11,11,13,13,39,76] (G:=Bool) (H:=List Bool) (fun u _=>[(11,.bool u)]) (fun u B w=>TI t cs V g0 B/\(u=false->∀ i:Nat,i<(bf t V).length->EE cs B ((bf t V).getD i bu.dflt))/\Z w0 w [X ah 4 tv B,X bu 367 av (bf t V)]) (fun u B=>2*nM B+(bif u then 1 else 0)) true _ (fun _ _=>rfl) ⟨rfl,az⟩ ⟨_n,(fun h=>by cases h),Y⟩ ?_;clear Y _n _g;rintro _I u B w ⟨hT,T',Y⟩;cases u;rotate_left
 ·clear T'
  refine O ?_;refine pu [11,11,13,13,42,76] (G:=Nat) (H:=Bool) (I':=List Bool) (fun k u _=>[(42,E k),(11,.bool u)]) (fun k u R w=>k<=(bf t V).length/\TI t cs V g0 R/\nM R<=nM B/\(u=true->nM R<nM B)/\(u=false->∀ i:Nat,i<k->EE cs R ((bf t V).getD i bu.dflt))/\Z w0 w [X ah 4 tv R,X bu 367 av (bf t V)]) (fun k _ _=>(bf t V).length-k) 0 false B (fun _ _ _=>rfl) ⟨rfl,rfl,az⟩ ⟨bC _,hT,cP _,(fun h=>by cases h),fun _ i L=>absurd L (eo _),Y⟩ ?_;clear Y;rintro _i k u R w ⟨hk,n,P',P,Q,Y⟩;have _o:=n.len;refine aC ?_ ?_<;>intro h3
  ·have R':k<(bf t V).length:=U
   have H':=cS bu.dflt R';obtain⟨d,J',op,_c,_b⟩:=j' _ H';by_cases p1:0<=((bf t V).getD k bu.dflt).br;rotate_left
   ·have j:EE cs R ((bf t V).getD k bu.dflt):=fun h=>absurd h p1
    have o:decide (0<=((bf t V).getD k bu.dflt).br)=false:=dB p1;refine dj ?_;clear Y;intro p w Y
    try simp only[o];refine eW ?_
    refine O ?_;refine⟨k+1,u,R,⟨rfl,rfl,az⟩,aX,⟨U,n,P',P,fun r i L=>?_,Y.tail⟩,U⟩;by_cases e:i=k
    ·subst e;exact j
    exact Q r i U
   have o:decide (0<=((bf t V).getD k bu.dflt).br)=true:=dH p1;by_cases N:cs.getD ((bf t V).getD k bu.dflt).op.toNat W.dflt=0;rotate_left
   ·have j:EE cs R ((bf t V).getD k bu.dflt):=fun _ h=>absurd h N
    have V':decide (cs.getD ((bf t V).getD k bu.dflt).op.toNat W.dflt=0)=false:=dB N;refine dj ?_;clear Y;intro p w Y
    try simp only[o];refine eW ?_
    refine O ?_
    try simp only[V'];refine eW ?_
    refine O ?_;refine⟨k+1,u,R,⟨rfl,rfl,az⟩,aX,⟨U,n,P',P,fun r i L=>?_,Y.tail⟩,U⟩;by_cases e:i=k
    ·subst e;exact j
    exact Q r i U
   have V':decide (cs.getD ((bf t V).getD k bu.dflt).op.toNat W.dflt=0)=true:=dH N;cases p3:R.getD ((bf t V).getD k bu.dflt).dst.toNat ah.dflt
   ·have j:EE cs R ((bf t V).getD k bu.dflt):=fun _ _ h=>by
     have m:R.getD ((bf t V).getD k bu.dflt).dst.toNat ah.dflt=true:=h;rw[p3]at m;cases m
    refine dj ?_;clear Y;intro p w Y
    try simp only[o];refine eW ?_
    refine O ?_
    try simp only[V'];refine eW ?_
    refine O ?_
    try simp only[p3];refine eW ?_
    refine O ?_;refine⟨k+1,u,R,⟨rfl,rfl,az⟩,aX,⟨U,n,P',P,fun r i L=>?_,Y.tail⟩,U⟩;by_cases e:i=k
    ·subst e;exact j
    exact Q r i U
   cases p4:R.getD ((bf t V).getD k bu.dflt).br.toNat ah.dflt;rotate_left
   ·have j:EE cs R ((bf t V).getD k bu.dflt):=fun _ _ _=>p4
    refine dj ?_;clear Y;intro p w Y
    try simp only[o];refine eW ?_
    refine O ?_
    try simp only[V'];refine eW ?_
    refine O ?_
    try simp only[p3];refine eW ?_
    refine O ?_
    try simp only[p4];refine eW ?_
    refine O ?_;refine⟨k+1,u,R,⟨rfl,rfl,az⟩,aX,⟨U,n,P',P,fun r i L=>?_,Y.tail⟩,U⟩;by_cases e:i=k
    ·subst e;exact j
    exact Q r i U
   have _f:=n.ok _ d.1 d.2 p3;have _d:=v_ I hV H' p1 N _f;have _e:TI t cs V g0 (R.set ((bf t V).getD k bu.dflt).br.toNat true):=by
    refine⟨by rw[iU];exact _o,fun f D h1 hb=>?_,?_⟩
    ·rw[AF p1 U D]at hb
     by_cases e:f=((bf t V).getD k bu.dflt).br
     ·rw[e];exact _d
     rw[aM e]at hb;exact n.ok f D h1 hb
    rw[AF p1 U _a.1];split
    ·rfl
    exact n.g
   have _p:=JE (B:=R) (i:=((bf t V).getD k bu.dflt).br.toNat) U p4;refine dj ?_;clear Y;intro p w Y
   try simp only[o];refine eW ?_
   refine O ?_
   try simp only[V'];refine eW ?_
   refine O ?_
   try simp only[p3];refine eW ?_
   refine O ?_
   try simp only[p4];refine eW ?_
   refine jD ?_;clear Y;intro w Y;exact⟨k+1,true,_,⟨rfl,rfl,az⟩,aX,⟨U,_e,U,fun _=>U,(fun h=>by cases h),Y.tail⟩,U⟩
  refine O ?_;refine⟨u,R,⟨rfl,az⟩,aX,⟨n,fun r i L=>Q r i U,Y⟩,?_⟩;cases u
  ·simp only[cond_true,cond_false];omega
  have:=P rfl;simp only[cond_true];omega
 have _q:=T' rfl;clear T'
 have _f:∀ f:Int,0<=f->f<aZ t->(mz B f=true↔ZT (bk t cs) V g0 f):=fun f D h1=>⟨hT.ok f D h1,fun h=>by
  refine He (B:=fun f=>mz B f=true) I hV hT.g (fun a ha m h3 h4=>?_) h;obtain⟨i,L,e⟩:=ga ha;have h5:=_q i L;rw[aq L,e]at h5
  exact h5 m h3 h4⟩
 refine kO ?_;clear Y;intro s w Y;obtain⟨uv,rfl⟩:=À s;rw[jU]at Y;have _o:=hT.len;refine dP [15,16,84,100] (G:=Nat) (H:=List Bool) (fun k _=>[(84,E k)]) (fun k S w=>k<=t.vars.length/\S.length=aZ t/\(∀ f:Int,0<=f->f<aZ t->mz S f=true->oH t.vars z f)/\(∀ v:Nat,v<k->mz S (bP t.vars v+z.getD v W.dflt)=true)/\Z w0 w [X ah 4 uv S,X ah 4 tv B,X bu 367 av (bf t V)]) (fun k _=>t.vars.length-k) 0 _ (fun _ _=>rfl) ⟨rfl,az⟩ ⟨bC _,mp,(fun f _ _ h=>by rw[Vj]at h;cases h),fun v hv=>absurd hv (eo _),Y⟩ ?_;clear Y;rintro _J k S w ⟨hk,V',_i,_j,Y⟩;refine aC ?_ ?_<;>intro h4
 ·have R':k<t.vars.length:=U
  have _k:=AI I bX (f:=bP t.vars k+z.getD k W.dflt) ⟨k,R',rfl⟩;obtain⟨q0,q1,q2⟩:=Eu I.pos (fun i L=>(I.pC i L).2) _x R';have hz:=bX.2 k U;have hd:=I.pC k R';have R:=fun f (D:0<=f)=>AF (B:=S) (g:=f) _k.1 U D;have n1:∀ f:Int,0<=f->f<aZ t->mz (S.set (bP t.vars k+z.getD k W.dflt).toNat true) f=true->oH t.vars z f:=fun f D h1 hb=>by
   rw[R f D]at hb;by_cases e:f=bP t.vars k+z.getD k W.dflt
   ·exact⟨k,R',e⟩
   rw[aM e]at hb;exact _i f D h1 hb
  have n2:∀ v:Nat,v<k+1->mz (S.set (bP t.vars k+z.getD k W.dflt).toNat true) (bP t.vars v+z.getD v W.dflt)=true:=fun v hv=>by
   have _l:v<t.vars.length:=U;rw[R _ (AI I bX (f:=bP t.vars v+z.getD v W.dflt) ⟨v,_l,rfl⟩).1];split
   ·rfl
   rename_i e
   exact _j v (by
    have:v≠k:=fun e2=>e (by rw[e2])
    omega)
  rw[<-q0]at n1 n2 _k q1 q2;refine dD ?_;clear Y;intro w Y;refine⟨k+1,_,⟨rfl,az⟩,aX,⟨U,by rw[iU];exact V',n1,fun v hv=>?_,Y⟩,U⟩;exact n2 v hv
 have _k:k=t.vars.length:=U;subst _k
 have _r:Gn t cs z V g0 S:=⟨V',fun f D h1 hb=>.st (_i f D h1 hb),fun f hf=>by
  obtain⟨v,hv,rfl⟩:=hf
  exact _j v hv⟩
 clear _i _j V';refine O ?_;refine dP [17,17,19,19,101,138] (G:=Bool) (H:=List Bool) (fun u _=>[(17,.bool u)]) (fun u S w=>Gn t cs z V g0 S/\(u=false->∀ i:Nat,i<(bf t V).length->CV B S ((bf t V).getD i bu.dflt))/\Z w0 w [X ah 4 uv S,X ah 4 tv B,X bu 367 av (bf t V)]) (fun u S=>2*nM S+(bif u then 1 else 0)) true _ (fun _ _=>rfl) ⟨rfl,az⟩ ⟨_r,(fun h=>by cases h),Y⟩ ?_;clear Y _r S;rintro _K u S w ⟨hS,T',Y⟩;cases u;rotate_left
 ·clear T'
  refine O ?_;refine pu [17,17,19,19,104,138] (G:=Nat) (H:=Bool) (I':=List Bool) (fun k u _=>[(104,E k),(17,.bool u)]) (fun k u R w=>k<=(bf t V).length/\Gn t cs z V g0 R/\nM R<=nM S/\(u=true->nM R<nM S)/\(u=false->∀ i:Nat,i<k->CV B R ((bf t V).getD i bu.dflt))/\Z w0 w [X ah 4 uv R,X ah 4 tv B,X bu 367 av (bf t V)]) (fun k _ _=>(bf t V).length-k) 0 false S (fun _ _ _=>rfl) ⟨rfl,rfl,az⟩ ⟨bC _,hS,cP _,(fun h=>by cases h),fun _ i L=>absurd L (eo _),Y⟩ ?_;clear Y;rintro _L k u R w ⟨hk,n,P',P,Q,Y⟩;have V':=n.len;refine aC ?_ ?_<;>intro h3
  ·have R':k<(bf t V).length:=U
   have H':=cS bu.dflt R';obtain⟨d,J',op,_c,_b⟩:=j' _ H';by_cases p1:((bf t V).getD k bu.dflt).br<0
   ·have o:decide (((bf t V).getD k bu.dflt).br<0)=true:=dH p1
    cases N:B.getD ((bf t V).getD k bu.dflt).dst.toNat ah.dflt;rotate_left
    ·have j:CV B R ((bf t V).getD k bu.dflt):=fun _ h=>by
      have m:B.getD ((bf t V).getD k bu.dflt).dst.toNat ah.dflt=false:=h;rw[N]at m;cases m
     refine dj ?_;clear Y;intro p w Y
     try simp only[o];refine eW ?_
     refine O ?_
     try simp only[N];refine eW ?_
     refine O ?_;refine⟨k+1,u,R,⟨rfl,rfl,az⟩,aX,⟨U,n,P',P,fun r i L=>?_,Y.tail⟩,U⟩;by_cases e:i=k
     ·subst e;exact j
     exact Q r i U
    cases p3:R.getD ((bf t V).getD k bu.dflt).dst.toNat ah.dflt;rotate_left
    ·have j:CV B R ((bf t V).getD k bu.dflt):=fun _ _=>p3
     refine dj ?_;clear Y;intro p w Y
     try simp only[o];refine eW ?_
     refine O ?_
     try simp only[N];refine eW ?_
     refine O ?_
     try simp only[p3];refine eW ?_
     refine O ?_;refine⟨k+1,u,R,⟨rfl,rfl,az⟩,aX,⟨U,n,P',P,fun r i L=>?_,Y.tail⟩,U⟩;by_cases e:i=k
     ·subst e;exact j
     exact Q r i U
    have _l:¬ZT (bk t cs) V g0 ((bf t V).getD k bu.dflt).dst:=fun h=>by
     have m:B.getD ((bf t V).getD k bu.dflt).dst.toNat ah.dflt=true:=(_f _ d.1 d.2).2 h;rw[N]at m;cases m
    have _d:ZS (bk t cs) z V g0 ((bf t V).getD k bu.dflt).dst:=Vh I hV H' (.inl p1) _l;have _e:Gn t cs z V g0 (R.set ((bf t V).getD k bu.dflt).dst.toNat true):=by
     refine⟨by rw[iU];exact V',fun f D h1 hb=>?_,fun f hf=>?_⟩
     ·rw[AF d.1 U D]at hb
      by_cases e:f=((bf t V).getD k bu.dflt).dst
      ·rw[e];exact _d
      rw[aM e]at hb;exact n.ok f D h1 hb
     rw[AF d.1 U (AI I bX hf).1];split
     ·rfl
     exact n.st f hf
    have _p:=JE (B:=R) (i:=((bf t V).getD k bu.dflt).dst.toNat) U p3;refine dj ?_;clear Y;intro p w Y
    try simp only[o];refine eW ?_
    refine O ?_
    try simp only[N];refine eW ?_
    refine O ?_
    try simp only[p3];refine eW ?_
    refine jD ?_;clear Y;intro w Y;exact⟨k+1,true,_,⟨rfl,rfl,az⟩,aX,⟨U,_e,U,fun _=>U,(fun h=>by cases h),Y.tail⟩,U⟩
   have o:decide (((bf t V).getD k bu.dflt).br<0)=false:=dB p1;cases p1b:R.getD ((bf t V).getD k bu.dflt).br.toNat ah.dflt
   ·have j:CV B R ((bf t V).getD k bu.dflt):=fun h=>by
     rcases h with h|h
     ·exact absurd h p1
     have m:R.getD ((bf t V).getD k bu.dflt).br.toNat ah.dflt=true:=h;rw[p1b]at m;cases m
    refine dj ?_;clear Y;intro p w Y
    try simp only[o];refine eW ?_
    refine O ?_
    try simp only[p1b];refine eW ?_
    refine O ?_;refine⟨k+1,u,R,⟨rfl,rfl,az⟩,aX,⟨U,n,P',P,fun r i L=>?_,Y.tail⟩,U⟩;by_cases e:i=k
    ·subst e;exact j
    exact Q r i U
   cases N:B.getD ((bf t V).getD k bu.dflt).dst.toNat ah.dflt;rotate_left
   ·have j:CV B R ((bf t V).getD k bu.dflt):=fun _ h=>by
     have m:B.getD ((bf t V).getD k bu.dflt).dst.toNat ah.dflt=false:=h;rw[N]at m;cases m
    refine dj ?_;clear Y;intro p w Y
    try simp only[o];refine eW ?_
    refine O ?_
    try simp only[p1b];refine eW ?_
    refine O ?_
    try simp only[N];refine eW ?_
    refine O ?_;refine⟨k+1,u,R,⟨rfl,rfl,az⟩,aX,⟨U,n,P',P,fun r i L=>?_,Y.tail⟩,U⟩;by_cases e:i=k
    ·subst e;exact j
    exact Q r i U
   cases p3:R.getD ((bf t V).getD k bu.dflt).dst.toNat ah.dflt;rotate_left
   ·have j:CV B R ((bf t V).getD k bu.dflt):=fun _ _=>p3
    refine dj ?_;clear Y;intro p w Y
    try simp only[o];refine eW ?_
    refine O ?_
    try simp only[p1b];refine eW ?_
    refine O ?_
    try simp only[N];refine eW ?_
    refine O ?_
    try simp only[p3];refine eW ?_
    refine O ?_;refine⟨k+1,u,R,⟨rfl,rfl,az⟩,aX,⟨U,n,P',P,fun r i L=>?_,Y.tail⟩,U⟩;by_cases e:i=k
    ·subst e;exact j
    exact Q r i U
   have _l:¬ZT (bk t cs) V g0 ((bf t V).getD k bu.dflt).dst:=fun h=>by
    have m:B.getD ((bf t V).getD k bu.dflt).dst.toNat ah.dflt=true:=(_f _ d.1 d.2).2 h;rw[N]at m;cases m
   have _d:ZS (bk t cs) z V g0 ((bf t V).getD k bu.dflt).dst:=Vh I hV H' (.inr (n.ok _ U J' p1b)) _l;have _e:Gn t cs z V g0 (R.set ((bf t V).getD k bu.dflt).dst.toNat true):=by
    refine⟨by rw[iU];exact V',fun f D h1 hb=>?_,fun f hf=>?_⟩
    ·rw[AF d.1 U D]at hb
     by_cases e:f=((bf t V).getD k bu.dflt).dst
     ·rw[e];exact _d
     rw[aM e]at hb;exact n.ok f D h1 hb
    rw[AF d.1 U (AI I bX hf).1];split
    ·rfl
    exact n.st f hf
   have _p:=JE (B:=R) (i:=((bf t V).getD k bu.dflt).dst.toNat) U p3;refine dj ?_;clear Y;intro p w Y
   try simp only[o];refine eW ?_
   refine O ?_
   try simp only[p1b];refine eW ?_
   refine O ?_
   try simp only[N];refine eW ?_
   refine O ?_
   try simp only[p3];refine eW ?_
   refine jD ?_;clear Y;intro w Y;exact⟨k+1,true,_,⟨rfl,rfl,az⟩,aX,⟨U,_e,U,fun _=>U,(fun h=>by cases h),Y.tail⟩,U⟩
  refine O ?_;refine⟨u,R,⟨rfl,az⟩,aX,⟨n,fun r i L=>Q r i U,Y⟩,?_⟩;cases u
  ·simp only[cond_true,cond_false];omega
  have:=P rfl;simp only[cond_true];omega
 have R:=T' rfl;clear T'
 have P':∀ f:Int,0<=f->f<aZ t->(mz S f=true↔ZS (bk t cs) z V g0 f):=fun f D h1=>⟨hS.ok f D h1,fun h=>by
  refine Hf (S:=fun f=>mz S f=true) I hV hS.st (fun a ha m h3=>?_) h;obtain⟨i,L,e⟩:=ga ha;have h5:=R i L;rw[aq L,e]at h5;refine h5 m ?_;cases j:mz B a.dst
  ·rfl
  exact absurd ((_f _ (j' a ha).1.1 (j' a ha).1.2).1 j) h3⟩
 have V':=hS.len;replace Y:=Y.nil (T:=W) (e:=3);refine O ?_;refine pu [20,20,22,22,141,167] (G:=Nat) (H:=Value) (I':=J) (fun k b _=>[(141,E k),(20,b)]) (fun k b xs w=>k<=(bf t V).length/\xs.length<=k/\(∀ x:Int,x∈xs↔∃ i:Nat,i<k/\((bf t V).getD i bu.dflt).op=x/\(((bf t V).getD i bu.dflt).br<0\/mz S ((bf t V).getD i bu.dflt).br=true)/\mz B ((bf t V).getD i bu.dflt).dst=true)/\Z w0 w [X W 3 b xs,X ah 4 uv S,X ah 4 tv B,X bu 367 av (bf t V)]) (fun k _ _=>(bf t V).length-k) 0 (nS) [] (fun _ _ _=>rfl) ⟨rfl,rfl,az⟩ ⟨bC _,cP _,(fun x=>⟨fun h=>absurd h jd,fun⟨i,L,_⟩=>absurd L (eo _)⟩),Y⟩ ?_;clear Y;rintro _d k b xs w ⟨hk,_e,n,Y⟩;refine aC ?_ ?_<;>intro h3
 ·have R':k<(bf t V).length:=U
  have H':=cS bu.dflt R';obtain⟨d,J',op,_c,_b⟩:=j' _ H';have r:¬((((bf t V).getD k bu.dflt).br<0\/mz S ((bf t V).getD k bu.dflt).br=true)/\mz B ((bf t V).getD k bu.dflt).dst=true)->∀ x:Int,x∈xs↔∃ i:Nat,i<k+1/\((bf t V).getD i bu.dflt).op=x/\(((bf t V).getD i bu.dflt).br<0\/mz S ((bf t V).getD i bu.dflt).br=true)/\mz B ((bf t V).getD i bu.dflt).dst=true:=fun j x=>by
   rw[n x];constructor
   ·rintro⟨i,h1,m⟩;exact⟨i,U,m⟩
   rintro⟨i,h1,m⟩;by_cases e:i=k
   ·subst e;exact absurd m.2 j
   exact⟨i,U,m⟩
  have P:((((bf t V).getD k bu.dflt).br<0\/mz S ((bf t V).getD k bu.dflt).br=true)/\mz B ((bf t V).getD k bu.dflt).dst=true)->∀ x:Int,x∈xs++[((bf t V).getD k bu.dflt).op]↔∃ i:Nat,i<k+1/\((bf t V).getD i bu.dflt).op=x/\(((bf t V).getD i bu.dflt).br<0\/mz S ((bf t V).getD i bu.dflt).br=true)/\mz B ((bf t V).getD i bu.dflt).dst=true:=fun j x=>by
   rw[kK,n x,fU];constructor
   ·rintro (⟨i,h1,m⟩|h)
    ·exact⟨i,U,m⟩
    exact⟨k,U,h.symm,j⟩
   rintro⟨i,h1,m⟩;by_cases e:i=k
   ·subst e;exact .inr m.1.symm
   exact .inl ⟨i,U,m⟩
  by_cases p1:((bf t V).getD k bu.dflt).br<0
  ·have o:decide (((bf t V).getD k bu.dflt).br<0)=true:=dH p1
   cases N:B.getD ((bf t V).getD k bu.dflt).dst.toNat ah.dflt
   ·have j:=r fun h=>by
     have m:B.getD ((bf t V).getD k bu.dflt).dst.toNat ah.dflt=true:=h.2;rw[N]at m;cases m
    refine dj ?_;clear Y;intro p w Y
    try simp only[o];refine eW ?_
    refine O ?_
    try simp only[N];refine eW ?_
    refine O ?_;exact⟨k+1,b,xs,⟨rfl,rfl,az⟩,aX,⟨U,U,j,Y.tail⟩,U⟩
   have j:=P ⟨.inl p1,N⟩;refine dj ?_;clear Y;intro p w Y
   try simp only[o];refine eW ?_
   refine O ?_
   try simp only[N];refine eW ?_
   repeat (first|refine dS ?_|(refine gA ?_;clear Y;intro s w Y))
   obtain⟨Q,rfl⟩:=À s;exact⟨k+1,Q,_,⟨rfl,rfl,az⟩,aX,⟨U,by rw[length_append,w7];omega,j,Y.tail.tail⟩,U⟩
  have o:decide (((bf t V).getD k bu.dflt).br<0)=false:=dB p1;cases p1b:S.getD ((bf t V).getD k bu.dflt).br.toNat ah.dflt
  ·have j:=r fun h=>by
    rcases h.1 with h|h
    ·exact p1 h
    have m:S.getD ((bf t V).getD k bu.dflt).br.toNat ah.dflt=true:=h;rw[p1b]at m;cases m
   refine dj ?_;clear Y;intro p w Y
   try simp only[o];refine eW ?_
   refine O ?_
   try simp only[p1b];refine eW ?_
   refine O ?_;exact⟨k+1,b,xs,⟨rfl,rfl,az⟩,aX,⟨U,U,j,Y.tail⟩,U⟩
  cases N:B.getD ((bf t V).getD k bu.dflt).dst.toNat ah.dflt
  ·have j:=r fun h=>by
    have m:B.getD ((bf t V).getD k bu.dflt).dst.toNat ah.dflt=true:=h.2;rw[N]at m;cases m
   refine dj ?_;clear Y;intro p w Y
   try simp only[o];refine eW ?_
   refine O ?_
   try simp only[p1b];refine eW ?_
   refine O ?_
   try simp only[N];refine eW ?_
   refine O ?_;exact⟨k+1,b,xs,⟨rfl,rfl,az⟩,aX,⟨U,U,j,Y.tail⟩,U⟩
  have j:=P ⟨.inr p1b,N⟩;refine dj ?_;clear Y;intro p w Y
  try simp only[o];refine eW ?_
  refine O ?_
  try simp only[p1b];refine eW ?_
  refine O ?_
  try simp only[N];refine eW ?_
  repeat (first|refine dS ?_|(refine gA ?_;clear Y;intro s w Y))
  obtain⟨Q,rfl⟩:=À s;exact⟨k+1,Q,_,⟨rfl,rfl,az⟩,aX,⟨U,by rw[length_append,w7];omega,j,Y.tail.tail⟩,U⟩
 have _k:k=(bf t V).length:=U;subst _k;refine O ?_;refine aR rfl (Fb (s:=b) Y U) ?_;clear Y;rintro _ w ⟨rfl,Y⟩;refine⟨_,rfl,?_⟩;refine O ?_;refine aR rfl (Ig (s:=b) Y (by rw[Fw];omega)) ?_;clear Y;rintro _ w ⟨kv,rfl,Y⟩;refine⟨_,rfl,?_⟩;have o:∀ x:Int,x∈dZ (fW xs)↔∃ i:Nat,x=(i:Int)/\i<t.M.length/\j5 (bk t cs) z V g0 i:=fun x=>by
  rw[EU,If,n x];constructor
  ·rintro⟨j,h1,m,h3,h4⟩
   have H':=cS bu.dflt h1;obtain⟨d,J',op,_c,_b⟩:=j' _ H';refine⟨op,by rw[<-m,_c],_b,(Vi I hV).2 ⟨_,H',_c,?_,(_f _ d.1 d.2).1 h4⟩⟩;by_cases D:((bf t V).getD j bu.dflt).br<0
   ·exact .inl D
   rcases h3 with h|h
   ·exact .inl h
   exact .inr ((P' _ U J').1 h)
  rintro⟨i,rfl,Q,r⟩;obtain⟨a,ha,ho,N,hz⟩:=(Vi I hV).1 r;obtain⟨d,J',_⟩:=j' a ha;obtain⟨j,P,e⟩:=ga ha;refine⟨j,P,?_⟩;rw[aq P,e];refine⟨ho,?_,(_f _ d.1 d.2).2 hz⟩;by_cases D:a.br<0
  ·exact .inl D
  rcases N with h|h
  ·exact .inl h
  exact .inr ((P' _ U J').2 h)
 have d:∀ x∈dZ (fW xs),((x.toNat:Nat):Int)=x:=fun x hx=>by
  obtain⟨i,e,_⟩:=(o x).1 hx;rw[e];rfl
 have j:((dZ (fW xs)).map Int.toNat).map (fun i:Nat=>(i:Int))=dZ (fW xs):=by
  rw[Bb]
  conv=>rhs;rw[<-map_id (dZ (fW xs))]
  exact Bc fun x hx=>d x hx
 have r:=Vr (LS xs);refine O ?_;refine bo (v:=kv) rfl rfl ⟨kv,(dZ (fW xs)).map Int.toNat,rfl,?_,fun i=>?_,?_⟩
 ·refine zB.2 (DG (fun {x y} hx N P=>?_) r)
  have h1:=d x hx;have m:=d y N;omega
 ·rw[iG]
  constructor
  ·rintro⟨x,hx,rfl⟩
   obtain⟨i,e,h1,m⟩:=(o x).1 hx;rw[e,jU];exact⟨h1,m⟩
  rintro⟨h1,m⟩;exact⟨(i:Int),(o _).2 ⟨i,rfl,h1,m⟩,rfl⟩
 rw[j];exact Y.only
structure jo where
 M:Value
 aT:Int
def cq:Ty jo:=⟨2,fun x=>[x.M,E x.aT],fun _=>rfl,⟨nS,0⟩⟩
instance Kp:nR cq:=⟨az⟩
def CW (t:aa)(z cs:J)(L:List (List Nat × Int)):Prop:=∀ r,sO t z cs r->sO t z (ao t) (r.map (L++·))
def CW.zero:CW t z (ao t) []:=fun r h=>by
 have e:r.map (([]:List (List Nat × Int))++·)=r:=by cases r<;>rfl
 rw[e];exact h
def CW.step {t:aa}{z cs V:J}{L:List (List Nat × Int)}{g0:Int}{K:List Nat}{c:Int}(h:CW t z cs L)(h1:iL (bk t cs) z V)(h2:0<dy t.vars t.aF V)(d:dy t.vars t.aF V<bZ)(f:kD V (eh t) g0)(g:∀ i,i∈K↔i<t.M.length/\j5 (bk t cs) z V g0 i)(j:K.Pairwise (·<·))(l:rT cs K c):CW t z (kC cs K c) (L++[(K,c)]):=fun r m=>by
 have:=h _ (.step h1 h2 d f g j l m);have e:(r.map ((K,c)::·)).map (L++·)=r.map ((L++[(K,c)])++·):=by cases r<;>simp
 rw[e]at this;exact this
def tf (m x:Int):Int:=if x<m then x else m
def nl (cs:J)(m:Int)(K:List Nat):Int:=K.foldl (fun m i=>tf m (cs.getD i W.dflt)) m
def Vs {cs:J}:∀ {K:List Nat}{m:Int},nl cs m K<=m/\(∀ i∈K,nl cs m K<=cs.getD i W.dflt)/\(nl cs m K=m\/∃ i∈K,cs.getD i W.dflt=nl cs m K)
 | [],m=>⟨iq _,fun i c=>absurd c jd,.inl rfl⟩
 | x::K,m=>by
  obtain⟨h1,f,d⟩:=Vs (cs:=cs) (K:=K) (m:=tf m (cs.getD x W.dflt));have e:nl cs m (x::K)=nl cs (tf m (cs.getD x W.dflt)) K:=rfl;have g:tf m (cs.getD x W.dflt)<=m/\tf m (cs.getD x W.dflt)<=cs.getD x W.dflt/\(tf m (cs.getD x W.dflt)=m\/tf m (cs.getD x W.dflt)=cs.getD x W.dflt):=by unfold tf;split<;>omega
  rw[e];refine⟨U,fun i c=>?_,?_⟩
  ·rcases gT.1 c with e|c
   ·rw[e];omega
   exact f i c
  rcases d with d|⟨i,c,d⟩
  ·rcases g.2.2 with h|h
   ·exact .inl U
   exact .inr ⟨x,ku,U⟩
  exact .inr ⟨i,nt _ c,d⟩
def U_ (h:fe t cs)(e:K≠[])(c:∀ i∈K,i<cs.length):rT cs K (nl cs 1048576 K):=by
 obtain⟨h1,f,d⟩:=Vs (cs:=cs) (K:=K) (m:=1048576);refine⟨?_,f⟩;rcases d with d|⟨i,g,d⟩
 ·cases K with
  | nil=>exact absurd rfl e
  | cons x K =>
   have hx:=c x ku;have j:=h.2 _ (cS W.dflt hx);have l:=f x ku;exact⟨x,ku,hx,U⟩
 exact⟨i,g,c i g,d⟩
def Vt (h:k<K.length):K.take (k+1)=K.take k++[K[k]]:=by rw[IF,mL h];rfl
def V_ (cs:J)(c:Int):kC cs [] c=cs:=by
 unfold kC;refine jB sm fun i h1 d=>?_;rw[getElem_map,tI,aM jd,aq d]
def X_ {c:Int}(hk:k<K.length)(m:K.Pairwise (·<·))(l:K[k]<cs.length):(kC cs (K.take k) c).set K[k] ((kC cs (K.take k) c).getD K[k] W.dflt-c)=kC cs (K.take (k+1)) c:=by
 have g:K[k]∉K.take k:=fun h=>by
  obtain⟨j,f,e⟩:=ga h;rw[jC]at f;rw[Fm]at e;have:=u9.1 m j k U hk U;omega
 rw[AB l,aM g];refine jB (by rw[iU,BO,BO]) fun i h1 f=>?_;have j:i<cs.length:=by rw[BO]at f;exact f
 rw[<-aq (d:=W.dflt) h1,<-aq (d:=W.dflt) f,AB j,Vt hk];rw[Y_ (by rw[BO];exact l)];by_cases e:i=K[k]
 ·rw[ba e,ba (kK.2 (.inr (fU.2 e))),e]
 rw[aM e,AB j];by_cases h:i∈K.take k
 ·rw[ba h,ba (kK.2 (.inl h))]
 rw[aM h,aM fun f=>by
  rcases kK.1 f with f|f
  ·exact h f
  exact e (fU.1 f)]
def Z_ (c:∀ f∈eh t,0<=f/\0<=dg V f):lq V (eh t)=dy t.vars t.aF V:=by
 rw[Vc c];unfold eh dy;rw[foldl_map]
def ı (hr:wu w0 A t a fv gv q lv us)(I:aJ t)(hs:RS W w0 sv z)(bX:aj t.vars z) :
  Calls ak 267 #[.pointer (some A),sv] w0 fun e w'=>(sO t z (ao t) none/\e=.returned (.tuple #[nS,bS 3])/\Z w0 w' [])\/∃ b L cl,sO t z (ao t) (some L)/\e=.returned (.tuple #[b,.nilIface])/\cl.map jo.aT=L.map Prod.snd/\(∀ x∈cl,x.M.oneCell'=true)/\Z w0 w' [X cq 361 b cl]:=by
 have _y:=hr;obtain⟨hb,V',_j,_a,J',_k,_l,hF⟩:=hr;have _z:=I.M;have _b:∀ {w:World}{Γ:List HP},Z w0 w Γ->wu w A t a fv gv q lv us:=fun Y=>⟨hb.at Y,V'.at Y,_j.at Y,_a.at Y,J'.at Y,_k.at Y,_l,hF.at Y⟩
 have D:∀ f∈eh t,0<=f/\f<aZ t:=fun f hf=>by
  obtain⟨x,hx,rfl⟩:=iG.1 hf;obtain⟨i,hi,e⟩:=ga hx;have d:=(I.aF i hi).1;rw[aq hi,e]at d;have h1:=xh I.pos d;have h2:=uV I;omega
 have Y:=Z.start w0;refine bI ar Tryz.func267 ?_;refine O ?_;refine aR rfl (zW (V'.at Y) (hs.at Y)) ?_;rintro _ w' ⟨⟨r,rfl,_m⟩,aw⟩;refine aL ?_;clear aw Y;intro Y;obtain rfl:r=true:=_m.2 bX;refine O ?_;refine aR rfl (pU (J'.at Y) (by rw[tC];omega)) ?_;rintro _ w' ⟨cv,rfl,aw⟩;replace Y:Z w0 w' [X W 3 cv (ao t)]:=Y.pI aw;clear aw;refine⟨_,rfl,?_⟩;replace Y:=Y.nil (T:=cq) (e:=361);refine O ?_;refine de [4,5,7,10,12,12,14,14,31,88] (G:=Value × J × List (List Nat × Int) × List jo) (fun x=>[(7,x.1)]) (fun x w=>fe t x.2.1/\CW t z x.2.1 x.2.2.1/\x.2.2.2.map jo.aT=x.2.2.1.map Prod.snd/\(∀ y∈x.2.2.2,y.M.oneCell'=true)/\x.2.2.2.length+gO x.2.1<=4294967296/\Z w0 w [X cq 361 x.1 x.2.2.2,X W 3 cv x.2.1]) (fun x=>gO x.2.1) (nS,ao t,[],[]) (fun _=>rfl) ⟨rfl,az⟩ ⟨D4 I,CW.zero,rfl,(fun x hx=>absurd hx jd),?_,Y⟩ ?_
 ·have h3:=U8 (cs:=ao t) (B:=1048576) fun x hx=>(zp I x hx).2
  have h4:(ao t).length*1048576<=4096*1048576:=wm _ (by rw[tC];exact I.M);show 0+gO (ao t)<=4294967296;omega
 clear Y;rintro σ ⟨b,cs,L,cl⟩ w ⟨H,o,P',N,hlen,Y⟩;simp only at H o P' N hlen Y;have _c:=H.1;refine O ?_;refine aR rfl (R_ (_b Y) I H (hs.at Y) bX (bB (s:=cv) Y)) ?_;rintro _ w' ⟨vv,V,rfl,g,aw⟩;refine aO ?_;clear aw Y;intro Y;have _A:V.length=aZ t:=g.len;have _n:∀ f∈eh t,0<=f/\0<=dg V f:=fun f hf=>⟨(D f hf).1,(g.et f (D f hf).1 (D f hf).2).1⟩
 have _o:=Z_ _n;have _B:=BQ t.vars t.aF V;have _C:dy t.vars t.aF V<=bZ:=wH (AA I H) g;have _u:bZ=1125899906842624:=rfl;refine O ?_;refine aR rfl (NP (_a.at Y) (bB (s:=vv) Y) fun f hf=>⟨(D f hf).1,by have:=(D f hf).2;omega⟩) ?_;rintro _ w' ⟨rfl,aw⟩;refine aL ?_;clear aw Y;intro Y;rw[_o];refine aC ?_ ?_<;>intro h1
 ·have d:=o _ (.qR g U)
  refine O ?_;exact dw (v:=nS) (v':=.iface 57 (E 3)) rfl rfl rfl (.inl ⟨d,by rw[c9 dc],iH Y⟩)
 refine aC ?_ ?_<;>intro h2
 ·have d:=o _ (.done g h2)
  refine O ?_;exact dw (v:=b) (v':=.nilIface) rfl rfl rfl (.inr ⟨b,L,cl,by simpa using d,rfl,P',N,(Y.tail).only⟩)
 have Q:0<dy t.vars t.aF V:=U;have _d:dy t.vars t.aF V<bZ:=U;have _e:eh t≠[]:=fun e=>by
  have:t.aF=[]:=by simpa [eh] using e
  rw[this]at Q;exact absurd Q (by simp[dy])
 obtain⟨g0,j'⟩:=ED (V:=V) _e;have X':=Fv I bX H g Q _d j';refine O ?_;refine aR rfl (T_ (_b Y) I H (hs.at Y) bX (bB (s:=cv) Y) (bB (s:=vv) Y) X') ?_;rintro _ w' ⟨kv,K,rfl,u,hK,aw⟩;refine aO ?_;clear aw Y;intro Y;have P:∀ i∈K,i<cs.length:=fun i hi=>by rw[_c];exact((hK i).1 hi).1
 have _f:K≠[]:=fun e=>by
  obtain⟨i,h3,h4⟩:=Nx X';have:=(hK i).2 ⟨h3,h4⟩;rw[e]at this;exact absurd this jd
 have d:=U_ H _f P;have R':=Va I H X' hK u d;have R:=(bB (s:=kv) Y).one;have _g:(K.map fun i:Nat=>(i:Int)).length=K.length:=lA _;refine O ?_;refine zr (v1:=kv) (v2:=E 1048576) rfl rfl rfl (by simp only[fo,fB,R];rfl) ?_;refine GS ?_;intro pc w Y;refine lm (n:=2) (p:=pc) (vs:=[kv,E 1048576]) rfl rfl Y inferInstance rfl rfl (by simp only[fo,fB,R];rfl) ?_;clear Y;intro w Y;obtain⟨KI,_h⟩:=À (K.map fun i:Nat=>(i:Int));rw[<-_h]at Y _g;have _D:K.length<=t.M.length:=by
  have h1:=Vu (l:=K) (m:=List.range t.M.length) (u.imp fun h=>ne_of_lt h) fun i hi=>mem_range.2 ((hK i).1 hi).1;rw[E8]at h1;exact h1
 have H':∀ k (h:k<K.length),KI.getD k W.dflt=(K[k]:Int):=fun k h=>by
  rw[_h,aq (by rw[lA];exact h),getElem_map]
 refine O ?_;refine de [12,12,56,68] (G:=Nat) (fun k=>[(56,E k)]) (fun k w=>k<=K.length/\Z w0 w [am pc 361 [kv,E (nl cs 1048576 (K.take k))],X W 3 kv KI,X W 3 vv V,X cq 361 b cl,X W 3 cv cs]) (fun k=>K.length-k) 0 (fun _=>rfl) ⟨rfl,az⟩ ⟨bC _,Y⟩ ?_;clear Y;rintro _E k w ⟨hk,Y⟩;refine aC ?_ ?_<;>intro h3
 ·have j:k<K.length:=U
  have T':=H' k j;have S:=P _ (zq j);have _i:nl cs 1048576 (K.take (k+1))=tf (nl cs 1048576 (K.take k)) (cs.getD K[k] W.dflt):=by rw[Vt j];unfold nl;rw[u0];rfl
  refine O ?_;refine qM ?_;clear Y;intro w Y;refine jD ?_;intro w Y;simp only[mY,lO]at Y;rw[T',jU,show (if cs.getD K[k] W.dflt<nl cs 1048576 (K.take k) then cs.getD K[k] W.dflt else nl cs 1048576 (K.take k))=nl cs 1048576 (K.take (k+1)) from _i.symm]at Y;exact⟨k+1,⟨rfl,az⟩,aX,⟨U,Y⟩,U⟩
 have _p:k=K.length:=U;rw[_p,io (cP _)]at Y;obtain⟨c,_q⟩:=À (nl cs 1048576 K);rw[<-_q]at Y d R';rw[<-V_ cs c]at Y;have _v:=R'.pos;have _w:=R'.le;refine O ?_;refine de [14,14,72,84] (G:=Nat) (fun k=>[(72,E k)]) (fun k w=>k<=K.length/\Z w0 w [am pc 361 [kv,E c],X W 3 kv KI,X W 3 vv V,X cq 361 b cl,X W 3 cv (kC cs (K.take k) c)]) (fun k=>K.length-k) 0 (fun _=>rfl) ⟨rfl,az⟩ ⟨bC _,Y⟩ ?_;clear Y;rintro _F k w ⟨hk,Y⟩;refine aC ?_ ?_<;>intro h4
 ·have j:k<K.length:=U
  have T':=H' k j;have S:=P _ (zq j);have _G:=BO cs (K.take k) c;have _r:=X_ (c:=c) j u S;have J':=H.2 _ (cS W.dflt S);have _s:=AB (cs:=cs) (K:=K.take k) (c:=c) S;have _t : -1048576<=(kC cs (K.take k) c).getD K[k] W.dflt/\(kC cs (K.take k) c).getD K[k] W.dflt<=1048576:=by
   rw[_s];split<;>omega
  have _i:(KI.getD k W.dflt).toNat=K[k]:=by rw[T'];rfl
  have _x : -1048576<=(kC cs (K.take k) c).getD (KI.getD k W.dflt).toNat W.dflt/\(kC cs (K.take k) c).getD (KI.getD k W.dflt).toNat W.dflt<=1048576:=by rw[_i];exact _t
  refine O ?_;refine qM ?_;clear Y;intro w Y;refine jD ?_;intro w Y;rw[_i,_r]at Y;exact⟨k+1,⟨rfl,az⟩,aX,⟨U,Y⟩,U⟩
 have j:k=K.length:=U;rw[j,io (cP _)]at Y;have T':=Nz (fun x hx=>(H.2 x hx).1) U d;refine O ?_;refine jA cq (x1:=⟨kv,c⟩) rfl rfl rfl (fP rfl) (fg _) Y ?_;clear Y;intro so w Y;refine sF (s:=b) (s2:=so) inferInstance rfl rfl (bB Y) rfl rfl (fun x hx v hv=>?_) (by simp only[length_cons,length_nil];omega) (by unfold cn;simp only[length_cons,length_nil];omega) Y ?_
 ·rw[fU.1 hx]at hv
  simp only[cq,gT,jd,pQ]at hv;rcases hv with rfl|rfl
  ·exact R
  rfl
 clear Y;intro S w Y;refine O ?_
 exact⟨(S,kC cs K c,L++[(K,c)],cl++[⟨kv,c⟩]),⟨rfl,az⟩,aX,⟨D5 H d,o.step g Q _d j' hK u d,by simp[P'],fun x hx=>(by
  rcases kK.1 hx with hx|hx
  ·exact N x hx
  rw[fU.1 hx];exact R),by simp only[length_append,w7];omega,Y.bj⟩,by simp only;omega⟩
def l8 (cs:List jo)(C:List J)(w:World):Prop:=∀ i:Nat,i<C.length->RS W w (aB cq cs i).M (C.getD i [])
structure iX (w:World) (v:Value) (cs:List jo) (C:List J):Prop where
 rs:RS cq w v cs
 len:cs.length=C.length
 M:l8 cs C w
def l8.at {w0 w:World}{Γ:List HP}{cs:List jo}{C:List J}(h:l8 cs C w0)(Y:Z w0 w Γ):l8 cs C w:=fun i c=>(h i c).at Y
def iX.at {w0 w:World}{Γ:List HP}{v:Value}{cs:List jo}{C:List J}(h:iX w0 v cs C)(Y:Z w0 w Γ):iX w v cs C:=⟨h.rs.at Y,h.len,h.M.at Y⟩
def l8.gD {w:World}{cs:List jo}{v:jo}{c:J}(h:l8 cs C w)(g:cs.length=C.length)(h2:RS W w v.M c):l8 (cs++[v]) (C++[c]) w:=fun i j=>by
 rw[length_append,w7]at j;by_cases e:i=C.length
 ·subst e
  have d:aB cq (cs++[v]) C.length=v:=by rw[oz,List.getD,<-g,lP (cP _),pW];rfl
  have f:(C++[c]).getD C.length []=c:=by rw[List.getD,lP (cP _),pW];rfl
  rw[d,f];exact h2
 have d:aB cq (cs++[v]) i=aB cq cs i:=by rw[oz,oz,List.getD,mu U];rfl
 have f:(C++[c]).getD i []=C.getD i []:=by rw[List.getD,mu U];rfl
 rw[d,f];exact h i U
def ϒ {c:Value}{n:Int}{X' K:J}(hx:RS W w0 c X')(f:eJ w0 pc [kv,F])(hk:RS W w0 kv K) :
  Calls ak 282 #[.agg #[c,E n],.pointer (some pc)] w0 fun e w'=>(∃ r,e=.returned (.bool r)/\(r=true↔X'=K))/\Z w0 w' []:=by
 have Y:=Z.start w0;have g:=hx.one;refine bI ar Tryz.func282 ?_;refine w6 ?_;refine ve ?_;refine zx (vs:=[c,E n]) rfl Y ?_;clear Y;intro h w Y;refine O ?_;refine aR rfl (Fe (hx.at Y) (hk.at Y)) ?_;rintro _ w' ⟨⟨r,rfl,d⟩,aw⟩;refine aL ?_;clear aw Y;intro Y;refine O ?_;exact bo (v:=.bool r) rfl rfl ⟨⟨r,rfl,d⟩,iH Y⟩
def ϓ {cs:List jo}{K:J}(i:iX w0 b cs C)(n:eJ w0 pc [kv,F])(hk:RS W w0 kv K) :
  Calls ak 293 #[b,.func (.func 282) #[] #[.pointer (some pc)]] w0 fun e w'=>(∃ r:Int,e=.returned (E r)/\(0<=r↔K∈C))/\Z w0 w' []:=by
 obtain⟨j,o,l⟩:=i;have u:=j.cn;have Y:=Z.start w0;refine bI ar Tryz.func293 ?_;refine O ?_;refine de [4,5,8,18] (G:=Nat) (fun k=>[(8,E k)]) (fun k w=>k<=cs.length/\K∉C.take k/\Z w0 w []) (fun k=>cs.length-k) 0 (fun _=>rfl) ⟨rfl,az⟩ ⟨bC _,sm,Y⟩ ?_;clear Y;rintro B k w ⟨x,c,Y⟩;refine aC ?_ ?_<;>intro h1
 ·have d:k<C.length:=U
  have f:=l k d;have g:=f.one;have m:(cq.enc (aB cq cs k)).all Value.oneCell'=true:=by
   show ((aB cq cs k).M.oneCell' && ((Value.int .i64 (aB cq cs k).aT).oneCell' && true))=true;rw[g];rfl
  refine O ?_;refine xK (cs:=[.pointer (some pc)]) rfl rfl (ϒ (X':=C.getD k []) (f.at Y) (n.at Y) (hk.at Y)) ?_;rintro _ w' ⟨⟨r,rfl,i⟩,aw⟩;refine aL ?_;clear aw Y;intro Y;cases r
  ·have y:¬C.getD k []=K:=fun h=>by cases i.2 h
   refine O ?_;refine⟨k+1,⟨rfl,az⟩,aX,⟨U,fun hm=>?_,Y⟩,U⟩;rw[eX [] d]at hm;rcases kK.1 hm with hm|hm
   ·exact c hm
   exact y (fU.1 hm).symm
  refine O ?_;exact bo (v:=E k) rfl rfl ⟨⟨k,rfl,⟨fun _=>by rw[<-i.1 rfl];exact cS [] d,fun _=>U⟩⟩,Y⟩
 rw[io U]at c;refine O ?_;exact bo (v:=E (-1)) rfl rfl ⟨⟨-1,rfl,⟨fun h=>U,fun h=>absurd h c⟩⟩,Y⟩
def ϔ {cs:List jo}{K:J}(c:iX w0 b cs C)(d:eJ w0 pc [kv,F])(hk:RS W w0 kv K) :
  Calls ak 281 #[b,.func (.func 282) #[] #[.pointer (some pc)]] w0 fun e w'=>(∃ r,e=.returned (.bool r)/\(r=true↔K∈C))/\Z w0 w' []:=by
 have Y:=Z.start w0;refine bI ar Tryz.func281 ?_;refine O ?_;refine aR rfl (ϓ (c.at Y) (d.at Y) (hk.at Y)) ?_;rintro _ w' ⟨⟨r,rfl,c⟩,aw⟩;refine aL ?_;clear aw Y;intro Y;refine O ?_;exact bo (v:=.bool (decide (0<=r))) rfl rfl ⟨⟨_,rfl,by rw[jV];exact c⟩,Y⟩
def Gp (x:Int) :
  Calls ak 295 #[E x] w0 fun e w'=>e=.returned (dW (xJ x))/\Z w0 w' []:=by
 have Y:=Z.start w0;refine bI ar Tryz.func295 ?_;refine ep ?_;intro p w Y;exact DR (p:=p) (vs:=[E x,E 1]) rfl rfl rfl (Y.dA 0 rfl) ⟨rfl,Y.bj⟩
def ϕ (x:Int) :
  Calls ak 302 #[E x] w0 fun e w'=>(∃ r,e=.returned (.bool r)/\(r=true↔x<0\/1048576<x))/\Z w0 w' []:=by
 have Y:=Z.start w0;refine bI ar Tryz.func302 ?_;refine O ?_;exact bo (v:=.bool (decide (x<0) || decide (1048576<x))) rfl rfl ⟨⟨_,rfl,by rw[sL,jV,jV]⟩,Y⟩
def ϖ {n:Nat}(hk:k<C.length):th n (C.drop k)=if C.getD k []=[] then 3 else if lw n (C.getD k []) then th n (C.drop (k+1)) else 2:=by
 rw[tK [] hk]
 conv=>lhs;unfold th
def LC {d:J}{cs:List jo}(hc:RS W w0 cv d)(T:∀ x∈d,0<=x/\x<=1048576)(hC:iX w0 b cs C) :
  Calls ak 294 #[cv,b] w0 fun e w'=>e=.returned (bS (na d.length C))/\Z w0 w' []:=by
 obtain⟨T',V',j'⟩:=hC;have _a:=hc.cn;obtain⟨R,g⟩:=À (na d.length C);rw[<-g];have Y:=Z.start w0;refine bI ar Tryz.func294 ?_;refine O ?_;refine aR rfl (XB (f:=302) (cs:=[]) (P:=fun x=>x<0\/1048576<x) (hc.at Y) fun w Γ Y x hx=>ϕ x) ?_;rintro _ w' ⟨⟨r,rfl,hr⟩,aw⟩;refine aL ?_;clear aw Y;intro Y;obtain rfl:r=false:=vZ.2 fun h=>by
  obtain⟨x,hx,L⟩:=hr.1 h;have:=T x hx;omega
 refine O ?_;unfold na at g;refine j2 ?_ ?_<;>intro h5
 ·rw[ba U]at g
  refine O ?_;exact bo (v:=.iface 57 (E 5)) rfl rfl ⟨by rw[g,c9 dc],iH Y⟩
 rw[aM U]at g;refine O ?_;refine de [4,4,6,8,18,59] (G:=Nat) (fun k=>[(18,E k)]) (fun k w=>k<=cs.length/\R=th d.length (C.drop k)/\Z w0 w []) (fun k=>cs.length-k) 0 (fun _=>rfl) ⟨rfl,az⟩ ⟨bC _,g,Y⟩ ?_;clear Y g;rintro σ k w ⟨hk,g,Y⟩;refine aC ?_ ?_<;>intro h1
 ·have _b:k<cs.length:=U
  have N:k<C.length:=U;have D:=j' k N;have Q:=D.one;have R':(cq.enc (aB cq cs k)).all Value.oneCell'=true:=by
   show ((aB cq cs k).M.oneCell' && ((Value.int .i64 (aB cq cs k).aT).oneCell' && true))=true;rw[Q];rfl
  have H':cq.enc (aB cq cs k)=[(aB cq cs k).M,E (aB cq cs k).aT]:=rfl;rw[ϖ N]at g;obtain⟨c,J'⟩:=À (C.getD k []);rw[<-J']at g D;have _c:=D.cn;refine lE ?_ ?_<;>intro p w Y L
  ·have j:c=[]:=length_eq_zero_iff.1 U
   rw[ba j]at g;refine O ?_;exact bo (v:=.iface 57 (E 3)) rfl rfl ⟨by rw[g,c9 dc],iH Y⟩
  have y:c≠[]:=fun h=>by rw[h]at L;simp at L
  refine O ?_;rw[H']at Y;obtain⟨p6,rfl⟩:=À p;refine de [4,4,7,8,30,58] (G:=Nat) (fun i=>[(30,E i)]) (fun i w=>i<=c.length/\(∀ j,j<i->vR d.length c j)/\Z w0 w [am p6 361 [(aB cq cs k).M,E (aB cq cs k).aT]]) (fun i=>c.length-i) 0 (fun _=>rfl) ⟨rfl,az⟩ ⟨bC _,fun j S=>absurd S (eo _),Y⟩ ?_;clear Y;rintro _d i w ⟨hi,n,Y⟩;refine aC ?_ ?_<;>intro h3
  ·have P':i<c.length:=U
   have _e:∀ o,vR d.length c i↔(0<=c.getD i W.dflt/\c.getD i W.dflt<d.length/\(0<i->c.getD (i-1) W.dflt<c.getD i W.dflt)):=fun o:Unit=>zI;have l:¬vR d.length c i->¬lw d.length c:=fun h L=>h (L i P');by_cases q1:c.getD i W.dflt<0
   ·have l:=l fun h=>by have:=h.1;omega
    have m:decide (c.getD i W.dflt<0)=true:=dH q1;refine O ?_
    try simp only[m];refine kt ?_
    have g:R=2:=by rw[g,aM y,aM l]
    refine O ?_;exact bo (v:=.iface 57 (E 2)) rfl rfl ⟨by rw[g,c9 dc],iH Y⟩
   have m:decide (c.getD i W.dflt<0)=false:=dB q1;by_cases q2:(d.length:Int)<=c.getD i W.dflt
   ·have l:=l fun h=>by have:=h.2.1;omega
    have u:decide ((d.length:Int)<=c.getD i W.dflt)=true:=dH q2;refine O ?_
    try simp only[m,u];refine kt ?_
    have g:R=2:=by rw[g,aM y,aM l]
    refine O ?_;exact bo (v:=.iface 57 (E 2)) rfl rfl ⟨by rw[g,c9 dc],iH Y⟩
   have u:decide ((d.length:Int)<=c.getD i W.dflt)=false:=dB q2;by_cases q3:0<i
   ·have B:decide ((0:Int)<(i:Int))=true:=dH U
    have ei:((i:Int)-1).toNat=i-1:=U;by_cases q4:c.getD i W.dflt<=c.getD (i-1) W.dflt
    ·have l:=l fun h=>by have:=h.2.2 q3;omega
     have H:decide (c.getD i W.dflt<=c.getD (i-1) W.dflt)=true:=dH q4;refine O ?_
     try simp only[m,u,B];refine kt ?_
     refine O ?_
     try simp only[ei,H];refine kt ?_
     have g:R=2:=by rw[g,aM y,aM l]
     refine O ?_;exact bo (v:=.iface 57 (E 2)) rfl rfl ⟨by rw[g,c9 dc],iH Y⟩
    have H:decide (c.getD i W.dflt<=c.getD (i-1) W.dflt)=false:=dB q4;refine O ?_
    try simp only[m,u,B];refine kt ?_
    refine O ?_
    try simp only[ei,H];refine kt ?_
    refine O ?_;refine⟨i+1,⟨rfl,az⟩,aX,⟨U,fun j S=>?_,Y⟩,U⟩;by_cases e:j=i
    ·rw[e];exact⟨U,U,fun _=>U⟩
    exact n j U
   have B:decide ((0:Int)<(i:Int))=false:=dB U;refine O ?_
   try simp only[m,u,B];refine kt ?_
   refine O ?_;refine⟨i+1,⟨rfl,az⟩,aX,⟨U,fun j S=>?_,Y⟩,U⟩;by_cases e:j=i
   ·rw[e];exact⟨U,U,fun h=>absurd h q3⟩
   exact n j U
  have bX:lw d.length c:=fun j S=>n j U;rw[aM y,ba bX]at g;refine O ?_;exact⟨k+1,⟨rfl,az⟩,aX,⟨U,g,iH Y⟩,U⟩
 rw[oG U]at g;refine O ?_;exact bo (v:=.nilIface) rfl rfl ⟨by rw[g,th,ff rfl],Y⟩
end Go.Proofs.YtmapkjoefdgjfaaGreatDoor
