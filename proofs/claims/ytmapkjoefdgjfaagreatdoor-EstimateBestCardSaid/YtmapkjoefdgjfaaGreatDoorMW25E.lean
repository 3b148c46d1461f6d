/- Several texts. -/
import Derived.Test.YtmapkjoefdgjfaaGreatDoorMW24E
set_option linter.unusedSimpArgs false
set_option linter.unusedVariables false
set_option linter.defProp false
set_option maxRecDepth 8000
set_option maxHeartbeats 16000000
open List Nat
namespace Go.Proofs.YtmapkjoefdgjfaaGreatDoor
open Go.Sl Go
variable {t:aa}{w0:World}{z cs V:J}{C:List J}{k:Nat}{A pc:Addr}{a fv gv q lv sv cv kv F b:Value}{K:List Nat}
attribute [local irreducible] vc opsW opsD opV opW PureV ReadV Thn Blk
structure wL where
 op:Int
 aK:Int
 aw:Value
variable {us:List wL}
def jG:Ty wL:=⟨3,fun x=>[E x.op,E x.aK,x.aw],fun _=>rfl,⟨0,0,nS⟩⟩
instance IS:nA jG:=⟨az⟩
def E3 (w:World)(v:wL)(u:Un):Prop:=v.op=u.op/\v.aK=u.aK/\∃ L,RS W w v.aw L/\mB L u.aw
def sA (us:List wL)(U':List Un)(w:World):Prop:=∀ i:Nat,i<U'.length->E3 w (au jG us i) (un U' i)
structure uQ (w:World) (A:Addr) (t:aa) (a fv gv cv lv:Value) (us:List wL):Prop where
 box:dL w A [a,fv,E (aR t:Int),gv,cv,lv]
 vars:RS W w a t.vars
 fst:RS W w fv (dD t.vars t.vars.length)
 aH:RS W w gv (dA t)
 aS:RS W w cv (ar t)
 BQ:RS jG w lv us
 len:us.length=(bW t).length
 un:sA us (bW t) w
def sA.at {w0 w:World}{Γ:List HP}{us:List wL}{U':List Un}(h:sA us U' w0)(Y:Z w0 w Γ):sA us U' w:=fun i c=>by
 obtain⟨h1,d,L,e,f⟩:=h i c;exact⟨h1,d,L,e.at Y,f⟩
def SR {i:Nat}(hi:i<(bW t).length):∃ op:Nat,(un (bW t) i).op=(op:Int)/\op<t.M.length:=by
 obtain⟨op,j,h1,_,c⟩:=C1.1 (yZ hi);have d:un (bW t) (i:Int)=yO t.vars op (t.M.getD op bj) j:=c;exact⟨op,by rw[d];rfl,h1⟩
def đ {m:Nat}:(replicate k bH++replicate (m+1) (0:Int)).set k bH=replicate (k+1) bH++replicate m 0:=by
 rw[yE _ _ sm,nD,r7,DP (n:=m),mI,GW (n:=k),fL];rfl
structure SI (t:aa) (z D:J) (k:Nat):Prop where
 len:D.length=aR t
 val:∀ g:Int,0<=g->g<aR t->dg D g=bH\/(dg D g=0/\mb t.vars z g)
 st:∀ v:Nat,v<k->dg D (bD t.vars v+z.getD v W.dflt)=0
def SI.zero:SI t z (replicate (aR t) bH) 0:=⟨sm,fun g d h1=>.inl (by
 have c:g.toNat<aR t:=U
 simp[dg,List.getD,c]),fun v hv=>absurd hv (dr _)⟩
def SI.step {t:aa}{z D:J}{k:Nat}(h:SI t z D k)(I:aG t)(l:ab t.vars z)(hk:k<t.vars.length):SI t z (D.set (bD t.vars k+z.getD k W.dflt).toNat 0) (k+1):=by
 have m:=y7 I l (f:=bD t.vars k+z.getD k W.dflt) ⟨k,hk,rfl⟩;have n:=h.len;have c:∀ g:Int,0<=g->dg (D.set (bD t.vars k+z.getD k W.dflt).toNat 0) g=if g=bD t.vars k+z.getD k W.dflt then 0 else dg D g:=fun g d=>Cg d m.1 U
 refine⟨by rw[gY];exact n,fun g d h1=>?_,fun v hv=>?_⟩
 ·rw[c g d]
  split
  ·rename_i e;exact .inr ⟨rfl,⟨k,hk,e⟩⟩
  exact h.val g d h1
 have i:v<t.vars.length:=U;have j:=y7 I l (f:=bD t.vars v+z.getD v W.dflt) ⟨v,i,rfl⟩;rw[c _ j.1];split
 ·rfl
 rename_i e
 exact h.st v (by
  have:v≠k:=fun o=>e (by rw[o])
  omega)
def SI.vi {D:J}(h:SI t z D t.vars.length):yj (a8 t cs) z D:=by
 refine⟨h.len,fun g c h1=>?_,fun g c h1 d=>?_,fun g I=>?_⟩
 ·rcases h.val g c h1 with e|⟨e,_⟩
  ·rw[e];exact⟨dc,dt _⟩
  rw[e];exact⟨dt _,dc⟩
 ·rcases h.val g c h1 with e|⟨e,f⟩
  ·omega
  rw[e];exact .start f
 obtain⟨v,hv,rfl⟩:=I;have:=h.st v hv;exact Int.le_of_eq this
def Ē:(bW (a8 t cs)).length=(bW t).length:=by
 have key:∀ k,k<=t.M.length->(gK (a8 t cs) k).length=(gK t k).length:=by
  intro k
  induction k with
  | zero=>intro _;simp[gK]
  | succ k c =>
   intro hk;rw[yN,yN,length_append,length_append,c U,As U,Bz,Bz]
 unfold bW;rw[yT];exact key _ (cD _)
def ē (hr:uQ w0 A t a fv gv q lv us)(I:aG t)(hc:eB t cs)(hs:RS W w0 sv z)(bL:ab t.vars z)(_n:RS W w0 cv cs) :
  Calls ai 268 #[.pointer (some A),sv,cv] w0 fun e w'=>∃ b V,e=.returned b/\gT (a8 t cs) z V/\Z w0 w' [X W 3 b V]:=by
 obtain⟨hb,_o,_p,_q,_r,_s,_t,hF⟩:=hr;have o:=yU I hc;have hN:=An I;have _u:=hc.1;have _v:=bL.1;have _d:=I.vars;have _w:=Am t.vars t.vars.length;have _x:=I.M;have _y:(bW t).length<=64*t.M.length:=By I (k:=t.M.length) (cD _);have Y:=Z.start w0;refine bA an Tryz.func268 ?_;refine l7 ?_;intro s w Y;obtain⟨b,rfl⟩:=À s;rw[jo]at Y;have T:∀ k,k<=aR t->(replicate k bH++replicate (aR t-k) (0:Int)).length=aR t:=fun k hk=>by simp;omega
 have j':(replicate ((aR t:Int)).toNat (0:Int)).length=aR t:=sm;have H':Z w0 w [X W 3 b (replicate 0 bH++replicate (aR t-0) (0:Int))]:=Y;refine O ?_;refine cP [8,8,22,28] (G:=Nat) (fun k=>[(22,E k)]) (fun k w=>k<=aR t/\Z w0 w [X W 3 b (replicate k bH++replicate (aR t-k) (0:Int))]) (fun k=>aR t-k) 0 (fun _=>rfl) ⟨rfl,az⟩ ⟨bu _,H'⟩ ?_;clear Y H';rintro σ k w ⟨_e,Y⟩;have _f:=T k _e;refine aB ?_ ?_<;>intro h1
 ·have c:k<aR t:=U
  refine fm ?_;intro w Y;rw[show aR t-k=(aR t-(k+1))+1 by omega,show (1125899906842624:Int)=bH from rfl,đ]at Y;exact⟨k+1,⟨rfl,az⟩,aU,⟨U,Y⟩,U⟩
 have _g:k=aR t:=U;rw[_g,r7,CB,fS]at Y;clear _f j' T;refine O ?_;refine dQ [9,10,31,47] (G:=Nat) (H:=J) (fun k _=>[(31,E k)]) (fun k D w=>k<=t.vars.length/\SI t z D k/\Z w0 w [X W 3 b D]) (fun k _=>t.vars.length-k) 0 _ (fun _ _=>rfl) ⟨rfl,az⟩ ⟨bu _,SI.zero,Y⟩ ?_;clear Y;rintro _z k D w ⟨_A,r,Y⟩;have J':=r.len;refine aB ?_ ?_<;>intro h2
 ·have c:k<t.vars.length:=U
  have g:=y7 I bL (f:=bD t.vars k+z.getD k W.dflt) ⟨k,c,rfl⟩;obtain⟨g0,g1,g2⟩:=CU I.pos (fun i B=>(I.mN i B).2) _d c;have j:=bL.2 k U;have l:=I.mN k c;have d:=r.step I bL c;rw[<-g0]at d g g1 g2;refine fm ?_;intro w Y;exact⟨k+1,_,⟨rfl,az⟩,aU,⟨U,d,Y⟩,U⟩
 have P':k=t.vars.length:=U;subst P';have R':=r.vi (cs:=cs);clear r J';refine O ?_;refine dQ [11,11,13,14,48,90] (G:=Bool) (H:=J) (fun g _=>[(11,.bool g)]) (fun g D w=>yj (a8 t cs) z D/\(g=false->∀ i:Nat,i<(bW t).length->(fun i D=>jN D (un (bW (a8 t cs)) i).aw<bH->dg D (un (bW (a8 t cs)) i).aK<=jN D (un (bW (a8 t cs)) i).aw+(un (bW (a8 t cs)) i).aN) i D)/\Z w0 w [X W 3 b D]) (fun g D=>2*gU D+(bif g then 1 else 0)) true _ (fun _ _=>rfl) ⟨rfl,az⟩ ⟨R',(fun h=>by cases h),Y⟩ ?_;clear Y R';rintro _B g D w ⟨hV,T',Y⟩;cases g
 ·refine O ?_
  exact bf (v:=b) rfl rfl ⟨b,D,rfl,hV.pQ o fun i B=>T' rfl i (by
   by_cases h:i<(bW t).length
   ·exact h
   exfalso;have:(bW (a8 t cs)).length=(bW t).length:=Ē
   omega),Y⟩
 clear T';refine O ?_;refine nZ [11,11,13,14,54,90] (G:=Nat) (H:=Bool) (I':=J) (fun k g _=>[(54,E k),(11,.bool g)]) (fun k g d w=>k<=(bW t).length/\yj (a8 t cs) z d/\gU d<=gU D/\(g=true->gU d<gU D)/\(g=false->∀ i:Nat,i<k->(fun i D=>jN D (un (bW (a8 t cs)) i).aw<bH->dg D (un (bW (a8 t cs)) i).aK<=jN D (un (bW (a8 t cs)) i).aw+(un (bW (a8 t cs)) i).aN) i d)/\Z w0 w [X W 3 b d]) (fun k _ _=>(bW t).length-k) 0 false D (fun _ _ _=>rfl) ⟨rfl,rfl,az⟩ ⟨bu _,hV,cD _,(fun h=>by cases h),fun _ i B=>absurd B (dr _),Y⟩ ?_;clear Y;rintro _C k g d w ⟨_D,j,V',N,P,Y⟩;refine aB ?_ ?_<;>intro h3
 ·have c:k<(bW t).length:=U
  obtain⟨c1,c2,L,c3,c4⟩:=hF k c;obtain⟨op,_a,_k⟩:=SR c;obtain⟨u1,u2,u3,u4,u5⟩:=LJ (cs:=cs) c;rw[_a,jo]at u5;have l:k<(bW (a8 t cs)).length:=by rw[u1];exact c
  have Q:mB L (un (bW (a8 t cs)) k).aw:=by rw[u4];exact c4
  have u:=j.vR o l Q;have x:=(uS o).aK k l;have J':=j.len;have _E:aR (a8 t cs)=aR t:=rfl;have _l:=hc.2 _ (cH W.dflt (show op<cs.length by omega));have m:=SA Q fun f S=>(u f S).1;have _F:=Az (V:=d) fun f S=>(u f S).1;have _b:=j.dK _ x.1 x.2;rw[u3]at x _b;obtain⟨mk,_c⟩:=À ((un (bW t) k).aK);rw[<-_c]at x _b c2 u3;have _h:=c3.one;have _m:(jG.enc (au jG us k)).all Value.oneCell'=true:=by
   show ((Value.int .i64 (au jG us k).op).oneCell' && ((Value.int .i64 (au jG us k).aK).oneCell' && ((au jG us k).aw.oneCell' && true)))=true;rw[_h];rfl
  have _i:jG.enc (au jG us k)=[E (op:Int),E mk,(au jG us k).aw]:=by
   show [Value.int .i64 (au jG us k).op,Value.int .i64 (au jG us k).aK,(au jG us k).aw]=_;rw[c1,c2,_a]
  refine eE ?_;intro p w Y;refine aL rfl (LZ (lv:=(au jG us k).aw) (c3.at Y) (bk (s:=b) Y) fun f S=>⟨(u f S).1.1,by have:=(u f S).2;omega⟩) ?_;rintro _ w' ⟨rfl,al⟩;refine aA ?_;clear al Y;intro Y;obtain⟨_j,rfl⟩:=À p;replace Y:Z w0 w' [ak _j 138 [E (op:Int),E mk,(au jG us k).aw],X W 3 b d]:=by rw[<-_i];exact Y
  by_cases q1:jN d L<bH
  ·have _G:jN d L<1125899906842624:=q1
   have y:decide (jN d L<1125899906842624)=true:=dy q1;by_cases q2:jN d L+cs.getD op W.dflt<dg d mk
   ·have R:decide (jN d L+cs.getD op W.dflt<d.getD mk.toNat W.dflt)=true:=dy q2
    have n:=j.sU o l Q q1 (by rw[u5,u3];exact q2);rw[u5,u3]at n;refine O ?_;refine r8 ?_;clear Y;intro w Y;refine O ?_
    try simp only[y];refine dI ?_
    refine O ?_
    try simp only[R];refine dI ?_
    refine O ?_;refine r8 ?_;clear Y;intro w Y;refine iE ?_;intro w Y;exact⟨k+1,true,_,⟨rfl,rfl,az⟩,aU,⟨U,n.1,U,fun _=>U,(fun h=>by cases h),Y.tail⟩,U⟩
   have R:decide (jN d L+cs.getD op W.dflt<d.getD mk.toNat W.dflt)=false:=dU q2;refine O ?_;refine r8 ?_;clear Y;intro w Y;refine O ?_
   try simp only[y];refine dI ?_
   refine O ?_
   try simp only[R];refine dI ?_
   refine O ?_;refine⟨k+1,g,d,⟨rfl,rfl,az⟩,aU,⟨U,j,V',N,fun n i B=>?_,Y.tail⟩,U⟩;by_cases e:i=k
   ·subst e
    intro _;rw[u5,u3,<-m];omega
   exact P n i U
  have y:decide (jN d L<1125899906842624)=false:=dU q1;refine O ?_;refine r8 ?_;clear Y;intro w Y;refine O ?_
  try simp only[y];refine dI ?_
  refine O ?_;refine⟨k+1,g,d,⟨rfl,rfl,az⟩,aU,⟨U,j,V',N,fun n i B=>?_,Y.tail⟩,U⟩;by_cases e:i=k
  ·subst e
   intro R;rw[<-m]at R;exact absurd R q1
  exact P n i U
 refine O ?_;refine⟨g,d,⟨rfl,az⟩,aU,⟨j,fun n i B=>P n i U,Y⟩,?_⟩;cases g
 ·simp only[cond_true,cond_false];omega
 have:=N rfl;simp only[cond_true];omega
def Ĕ {vv:Value}(S:uQ w0 A t a fv gv q lv us)(I:aG t)(hv:RS W w0 vv V)(j':V.length=aR t)(hV:∀ g:Int,0<=g->g<aR t->0<=dg V g) :
  Calls ai 272 #[.pointer (some A),vv] w0 fun e w'=>∃ h,e=.returned h/\Z w0 w' [X bb 367 h (aW t V)]:=by
 obtain⟨hb,H',J',P',R',T',V',hF⟩:=S;have hN:=An I;have _a:=I.M;have _b:(bW t).length<=64*t.M.length:=By I (k:=t.M.length) (cD _);have Y:=Z.start w0;refine bA an Tryz.func272 ?_;replace Y:=Y.nil (T:=bb) (e:=367);rw[<-û t V]at Y;refine O ?_;refine dQ [5,5,7,7,13,34] (G:=Nat) (H:=Value) (fun k h=>[(13,E k),(5,h)]) (fun k h w=>k<=(bW t).length/\Z w0 w [X bb 367 h (nQ t V k)]) (fun k _=>(bW t).length-k) 0 (nS) (fun _ _=>rfl) ⟨rfl,rfl,az⟩ ⟨bu _,Y⟩ ?_;clear Y;rintro σ k h w ⟨hk,Y⟩;have _c:=LK t V k;refine aB ?_ ?_<;>intro h1
 ·have m:k<(bW t).length:=U
  obtain⟨c1,c2,L,r,u⟩:=hF k m;obtain⟨op,o,P⟩:=SR m;have hU:=uS I;have j:∀ f∈L,0<=f/\f<aR t:=fun f d=>hU.aw k m f ((u f).1 d);have x:∀ f∈L,0<=f/\0<=dg V f:=fun f d=>⟨(j f d).1,hV f (j f d).1 (j f d).2⟩
  have i:=SA u x;have y:=ü (V:=V) u fun f d=>(j f d).1;have c:=SB t V k;obtain⟨mk,l⟩:=À ((un (bW t) k).aK);rw[<-l]at c2;have B:=r.one;have Q:(jG.enc (au jG us k)).all Value.oneCell'=true:=by
   show ((Value.int .i64 (au jG us k).op).oneCell' && ((Value.int .i64 (au jG us k).aK).oneCell' && ((au jG us k).aw.oneCell' && true)))=true;rw[B];rfl
  have D:jG.enc (au jG us k)=[E (op:Int),E mk,(au jG us k).aw]:=by
   show [Value.int .i64 (au jG us k).op,Value.int .i64 (au jG us k).aK,(au jG us k).aw]=_;rw[c1,c2,o]
  refine eE ?_;intro p w Y;refine aL rfl (LZ (lv:=(au jG us k).aw) (r.at Y) (hv.at Y) fun f d=>⟨(j f d).1,by have:=(j f d).2;omega⟩) ?_;rintro _ w' ⟨rfl,al⟩;refine aA ?_;clear al Y;intro Y;obtain⟨p7,rfl⟩:=À p;replace Y:Z w0 w' [ak p7 138 [E (op:Int),E mk,(au jG us k).aw],X bb 367 h (nQ t V k)]:=by rw[<-D];exact Y
  refine aB ?_ ?_<;>intro R
  ·have n:jN V (un (bW t) k).aw<bH:=by rw[<-i];exact R
   rw[sL,aM n]at c;refine O ?_;refine fz (pl [0,1,2,3,5,6,7,8,4] (.cI 6::.cI 8::pl [9,10,11,12] [])) Y kr ?_;clear Y;intro w Y;refine O ?_;refine aL rfl (LY (lv:=(au jG us k).aw) (r.at Y) (hv.at Y) fun f d=>⟨(j f d).1,by have:=(j f d).2;omega⟩) ?_;rintro _ w' ⟨rfl,al⟩;refine aA ?_;clear al Y;intro Y;refine O ?_;refine jK bb (x1:=⟨iv V L,mk,op⟩) rfl rfl rfl (fY rfl) (fe _) Y ?_;clear Y;intro sl w Y;refine nX ?_;intro s w Y;obtain⟨N,rfl⟩:=À s;rw[y,l,<-o,<-c]at Y;exact⟨k+1,N,⟨rfl,rfl,az⟩,aU,⟨U,Y.tail.tail⟩,U⟩
  have n:¬jN V (un (bW t) k).aw<bH:=by rw[<-i];exact tu.2 R
  rw[sL,aC n,fS]at c;refine O ?_;exact⟨k+1,h,⟨rfl,rfl,az⟩,aU,⟨U,by rw[c];exact Y.tail⟩,U⟩
 have c:k=(bW t).length:=U;subst c;refine O ?_;exact bf (v:=h) rfl rfl ⟨h,rfl,Y⟩
structure TI (t:aa) (cs V:J) (g0:Int) (B:List Bool):Prop where
 len:B.length=aR t
 ok:∀ f:Int,0<=f->f<aR t->k9 B f=true->ZT (a8 t cs) V g0 f
 g:k9 B g0=true
def C5 (cs:J)(B:List Bool)(a:um):Prop:=0<=a.bh->cs.getD a.op.toNat W.dflt=0->k9 B a.dst=true->k9 B a.bh=true
structure EA (t:aa) (cs z V:J) (g0:Int) (S:List Bool):Prop where
 len:S.length=aR t
 ok:∀ f:Int,0<=f->f<aR t->k9 S f=true->ZS (a8 t cs) z V g0 f
 st:∀ f,mb t.vars z f->k9 S f=true
def BE (B S:List Bool)(a:um):Prop:=(a.bh<0\/k9 S a.bh=true)->k9 B a.dst=false->k9 S a.dst=true
def ĕ {vv:Value}{g0:Int}(hr:uQ w0 A t a fv gv q lv us)(I:aG t)(hc:eB t cs)(hs:RS W w0 sv z)(bL:ab t.vars z)(_A:RS W w0 cv cs)(hv:RS W w0 vv V)(X':gE (a8 t cs) z V g0) :
  Calls ai 270 #[.pointer (some A),sv,cv,vv] w0 fun e w'=>∃ (kv:Value) (K:List Nat),e=.returned kv/\K.Pairwise (·<·)/\(∀ i:Nat,i∈K↔i<t.M.length/\ja (a8 t cs) z V g0 i)/\Z w0 w' [X W 3 kv (K.map fun i:Nat=>(i:Int))]:=by
 have _B:=hr;obtain⟨hb,_s,_t,_m,_u,_v,_w,hF⟩:=hr;have hN:=An I;have _C:=I.M;have _D:=hc.1;have _E:=bL.1;have _x:=I.vars;have _F:=Am t.vars t.vars.length;have _G:(bW t).length<=64*t.M.length:=By I (k:=t.M.length) (cD _);have _y:V.length=aR t:=X'.hm.len;have hV:∀ g:Int,0<=g->g<aR t->0<=dg V g:=fun g D h1=>(X'.hm.dK g D h1).1;have _H:(aW t V).length<=(bW t).length:=LK t V _;have _h:∀ f∈dA t,0<=f/\f<V.length:=fun f hf=>by
  obtain⟨x,hx,rfl⟩:=iS.1 hf;obtain⟨i,L,e⟩:=fJ hx;have ho:=(I.aH i L).1;rw[am L,e]at ho;have h1:=vG I.pos ho;have m:=tA I;omega
 have _z:iv V (dA t)=g0:=by
  rcases yY (V:=V) (l:=dA t) fun f hf=>(_h f hf).1 with ⟨e,_⟩|⟨_,h⟩
  ·have:=X'.g.1
   have e2:dA (a8 t cs)=dA t:=rfl;rw[e2,e]at this;exact absurd this fI
  exact CZ h X'.g
 have _a:=_h g0 X'.g.1;have j':∀ a∈(aW t V),(0<=a.dst/\a.dst<aR t)/\a.bh<aR t/\∃ op:Nat,a.op=(op:Int)/\op<t.M.length:=fun a ha=>by
  obtain⟨_,_,_,_,_,_,_,h1,m,h3⟩:=H8 (cs:=cs) I hV ha;exact⟨h1,m,h3⟩
 have Y:=Z.start w0;refine bA an Tryz.func270 ?_;refine O ?_;refine aL rfl (Ĕ (⟨hb.at Y,_s.at Y,_t.at Y,_m.at Y,_u.at Y,_v.at Y,_w,hF.at Y⟩) I (hv.at Y) _y hV) ?_;rintro _ w' ⟨av,rfl,al⟩;replace Y:Z w0 w' [X bb 367 av (aW t V)]:=Y.mu al;clear al;refine⟨_,rfl,?_⟩;refine l7 ?_;clear Y;intro s w Y;obtain⟨tv,rfl⟩:=À s;rw[jo]at Y;have _g:(replicate (aR t) false).length=aR t:=nD;refine O ?_;refine aL rfl (LY (_m.at Y) (hv.at Y) _h) ?_;rintro _ w' ⟨rfl,al⟩;refine aA ?_;clear al Y;intro Y;rw[_z];have _n:TI t cs V g0 ((replicate (aR t) false).set g0.toNat true):=by
  refine⟨by rw[gY];exact _g,fun f D h1 hb=>?_,by rw[y6 _a.1 U _a.1,aM rfl]⟩;rw[y6 _a.1 U D]at hb;by_cases e:f=g0
  ·rw[e];exact .aH
  rw[aC e,SG]at hb;cases hb
 refine fm ?_;clear Y;intro w Y;refine dQ [11,11,13,13,39,76] (G:=Bool) (H:=List Bool) (fun u _=>[(11,.bool u)]) (fun u B w=>TI t cs V g0 B/\(u=false->∀ i:Nat,i<(aW t V).length->C5 cs B ((aW t V).getD i bb.dflt))/\Z w0 w [X ah 4 tv B,X bb 367 av (aW t V)]) (fun u B=>2*mo B+(bif u then 1 else 0)) true _ (fun _ _=>rfl) ⟨rfl,az⟩ ⟨_n,(fun h=>by cases h),Y⟩ ?_;clear Y _n _g;rintro _I u B w ⟨hT,T',Y⟩;cases u;rotate_left
 ·clear T'
  refine O ?_;refine nZ [11,11,13,13,42,76] (G:=Nat) (H:=Bool) (I':=List Bool) (fun k u _=>[(42,E k),(11,.bool u)]) (fun k u R w=>k<=(aW t V).length/\TI t cs V g0 R/\mo R<=mo B/\(u=true->mo R<mo B)/\(u=false->∀ i:Nat,i<k->C5 cs R ((aW t V).getD i bb.dflt))/\Z w0 w [X ah 4 tv R,X bb 367 av (aW t V)]) (fun k _ _=>(aW t V).length-k) 0 false B (fun _ _ _=>rfl) ⟨rfl,rfl,az⟩ ⟨bu _,hT,cD _,(fun h=>by cases h),fun _ i L=>absurd L (dr _),Y⟩ ?_;clear Y;rintro _i k u R w ⟨hk,n,P',P,Q,Y⟩;have _o:=n.len;refine aB ?_ ?_<;>intro h3
  ·have R':k<(aW t V).length:=U
   have H':=cH bb.dflt R';obtain⟨d,J',op,_c,_b⟩:=j' _ H';by_cases p1:0<=((aW t V).getD k bb.dflt).bh;rotate_left
   ·have j:C5 cs R ((aW t V).getD k bb.dflt):=fun h=>absurd h p1
    have o:decide (0<=((aW t V).getD k bb.dflt).bh)=false:=dU p1;refine db ?_;clear Y;intro p w Y
    try simp only[o];refine dI ?_
    refine O ?_;refine⟨k+1,u,R,⟨rfl,rfl,az⟩,aU,⟨U,n,P',P,fun r i L=>?_,Y.tail⟩,U⟩;by_cases e:i=k
    ·subst e;exact j
    exact Q r i U
   have o:decide (0<=((aW t V).getD k bb.dflt).bh)=true:=dy p1;by_cases N:cs.getD ((aW t V).getD k bb.dflt).op.toNat W.dflt=0;rotate_left
   ·have j:C5 cs R ((aW t V).getD k bb.dflt):=fun _ h=>absurd h N
    have V':decide (cs.getD ((aW t V).getD k bb.dflt).op.toNat W.dflt=0)=false:=dU N;refine db ?_;clear Y;intro p w Y
    try simp only[o];refine dI ?_
    refine O ?_
    try simp only[V'];refine dI ?_
    refine O ?_;refine⟨k+1,u,R,⟨rfl,rfl,az⟩,aU,⟨U,n,P',P,fun r i L=>?_,Y.tail⟩,U⟩;by_cases e:i=k
    ·subst e;exact j
    exact Q r i U
   have V':decide (cs.getD ((aW t V).getD k bb.dflt).op.toNat W.dflt=0)=true:=dy N;cases p3:R.getD ((aW t V).getD k bb.dflt).dst.toNat ah.dflt
   ·have j:C5 cs R ((aW t V).getD k bb.dflt):=fun _ _ h=>by
     have m:R.getD ((aW t V).getD k bb.dflt).dst.toNat ah.dflt=true:=h;rw[p3]at m;cases m
    refine db ?_;clear Y;intro p w Y
    try simp only[o];refine dI ?_
    refine O ?_
    try simp only[V'];refine dI ?_
    refine O ?_
    try simp only[p3];refine dI ?_
    refine O ?_;refine⟨k+1,u,R,⟨rfl,rfl,az⟩,aU,⟨U,n,P',P,fun r i L=>?_,Y.tail⟩,U⟩;by_cases e:i=k
    ·subst e;exact j
    exact Q r i U
   cases p4:R.getD ((aW t V).getD k bb.dflt).bh.toNat ah.dflt;rotate_left
   ·have j:C5 cs R ((aW t V).getD k bb.dflt):=fun _ _ _=>p4
    refine db ?_;clear Y;intro p w Y
    try simp only[o];refine dI ?_
    refine O ?_
    try simp only[V'];refine dI ?_
    refine O ?_
    try simp only[p3];refine dI ?_
    refine O ?_
    try simp only[p4];refine dI ?_
    refine O ?_;refine⟨k+1,u,R,⟨rfl,rfl,az⟩,aU,⟨U,n,P',P,fun r i L=>?_,Y.tail⟩,U⟩;by_cases e:i=k
    ·subst e;exact j
    exact Q r i U
   have _f:=n.ok _ d.1 d.2 p3;have _d:=ý I hV H' p1 N _f;have _e:TI t cs V g0 (R.set ((aW t V).getD k bb.dflt).bh.toNat true):=by
    refine⟨by rw[gY];exact _o,fun f D h1 hb=>?_,?_⟩
    ·rw[y6 p1 U D]at hb
     by_cases e:f=((aW t V).getD k bb.dflt).bh
     ·rw[e];exact _d
     rw[aC e]at hb;exact n.ok f D h1 hb
    rw[y6 p1 U _a.1];split
    ·rfl
    exact n.g
   have _p:=Ia (B:=R) (i:=((aW t V).getD k bb.dflt).bh.toNat) U p4;refine db ?_;clear Y;intro p w Y
   try simp only[o];refine dI ?_
   refine O ?_
   try simp only[V'];refine dI ?_
   refine O ?_
   try simp only[p3];refine dI ?_
   refine O ?_
   try simp only[p4];refine dI ?_
   refine iE ?_;clear Y;intro w Y;exact⟨k+1,true,_,⟨rfl,rfl,az⟩,aU,⟨U,_e,U,fun _=>U,(fun h=>by cases h),Y.tail⟩,U⟩
  refine O ?_;refine⟨u,R,⟨rfl,az⟩,aU,⟨n,fun r i L=>Q r i U,Y⟩,?_⟩;cases u
  ·simp only[cond_true,cond_false];omega
  have:=P rfl;simp only[cond_true];omega
 have _q:=T' rfl;clear T'
 have _f:∀ f:Int,0<=f->f<aR t->(k9 B f=true↔ZT (a8 t cs) V g0 f):=fun f D h1=>⟨hT.ok f D h1,fun h=>by
  refine Fq (B:=fun f=>k9 B f=true) I hV hT.g (fun a ha m h3 h4=>?_) h;obtain⟨i,L,e⟩:=fJ ha;have h5:=_q i L;rw[am L,e]at h5
  exact h5 m h3 h4⟩
 refine l7 ?_;clear Y;intro s w Y;obtain⟨uv,rfl⟩:=À s;rw[jo]at Y;have _o:=hT.len;refine dQ [15,16,84,100] (G:=Nat) (H:=List Bool) (fun k _=>[(84,E k)]) (fun k S w=>k<=t.vars.length/\S.length=aR t/\(∀ f:Int,0<=f->f<aR t->k9 S f=true->mb t.vars z f)/\(∀ v:Nat,v<k->k9 S (bD t.vars v+z.getD v W.dflt)=true)/\Z w0 w [X ah 4 uv S,X ah 4 tv B,X bb 367 av (aW t V)]) (fun k _=>t.vars.length-k) 0 _ (fun _ _=>rfl) ⟨rfl,az⟩ ⟨bu _,nD,(fun f _ _ h=>by rw[SG]at h;cases h),fun v hv=>absurd hv (dr _),Y⟩ ?_;clear Y;rintro _J k S w ⟨hk,V',_i,_j,Y⟩;refine aB ?_ ?_<;>intro h4
 ·have R':k<t.vars.length:=U
  have _k:=y7 I bL (f:=bD t.vars k+z.getD k W.dflt) ⟨k,R',rfl⟩;obtain⟨q0,q1,q2⟩:=CU I.pos (fun i L=>(I.mN i L).2) _x R';have hz:=bL.2 k U;have hd:=I.mN k R';have R:=fun f (D:0<=f)=>y6 (B:=S) (g:=f) _k.1 U D;have n1:∀ f:Int,0<=f->f<aR t->k9 (S.set (bD t.vars k+z.getD k W.dflt).toNat true) f=true->mb t.vars z f:=fun f D h1 hb=>by
   rw[R f D]at hb;by_cases e:f=bD t.vars k+z.getD k W.dflt
   ·exact⟨k,R',e⟩
   rw[aC e]at hb;exact _i f D h1 hb
  have n2:∀ v:Nat,v<k+1->k9 (S.set (bD t.vars k+z.getD k W.dflt).toNat true) (bD t.vars v+z.getD v W.dflt)=true:=fun v hv=>by
   have _l:v<t.vars.length:=U;rw[R _ (y7 I bL (f:=bD t.vars v+z.getD v W.dflt) ⟨v,_l,rfl⟩).1];split
   ·rfl
   rename_i e
   exact _j v (by
    have:v≠k:=fun e2=>e (by rw[e2])
    omega)
  rw[<-q0]at n1 n2 _k q1 q2;refine fm ?_;clear Y;intro w Y;refine⟨k+1,_,⟨rfl,az⟩,aU,⟨U,by rw[gY];exact V',n1,fun v hv=>?_,Y⟩,U⟩;exact n2 v hv
 have _k:k=t.vars.length:=U;subst _k
 have _r:EA t cs z V g0 S:=⟨V',fun f D h1 hb=>.st (_i f D h1 hb),fun f hf=>by
  obtain⟨v,hv,rfl⟩:=hf
  exact _j v hv⟩
 clear _i _j V';refine O ?_;refine dQ [17,17,19,19,101,138] (G:=Bool) (H:=List Bool) (fun u _=>[(17,.bool u)]) (fun u S w=>EA t cs z V g0 S/\(u=false->∀ i:Nat,i<(aW t V).length->BE B S ((aW t V).getD i bb.dflt))/\Z w0 w [X ah 4 uv S,X ah 4 tv B,X bb 367 av (aW t V)]) (fun u S=>2*mo S+(bif u then 1 else 0)) true _ (fun _ _=>rfl) ⟨rfl,az⟩ ⟨_r,(fun h=>by cases h),Y⟩ ?_;clear Y _r S;rintro _K u S w ⟨hS,T',Y⟩;cases u;rotate_left
 ·clear T'
  refine O ?_;refine nZ [17,17,19,19,104,138] (G:=Nat) (H:=Bool) (I':=List Bool) (fun k u _=>[(104,E k),(17,.bool u)]) (fun k u R w=>k<=(aW t V).length/\EA t cs z V g0 R/\mo R<=mo S/\(u=true->mo R<mo S)/\(u=false->∀ i:Nat,i<k->BE B R ((aW t V).getD i bb.dflt))/\Z w0 w [X ah 4 uv R,X ah 4 tv B,X bb 367 av (aW t V)]) (fun k _ _=>(aW t V).length-k) 0 false S (fun _ _ _=>rfl) ⟨rfl,rfl,az⟩ ⟨bu _,hS,cD _,(fun h=>by cases h),fun _ i L=>absurd L (dr _),Y⟩ ?_;clear Y;rintro _L k u R w ⟨hk,n,P',P,Q,Y⟩;have V':=n.len;refine aB ?_ ?_<;>intro h3
  ·have R':k<(aW t V).length:=U
   have H':=cH bb.dflt R';obtain⟨d,J',op,_c,_b⟩:=j' _ H';by_cases p1:((aW t V).getD k bb.dflt).bh<0
   ·have o:decide (((aW t V).getD k bb.dflt).bh<0)=true:=dy p1
    cases N:B.getD ((aW t V).getD k bb.dflt).dst.toNat ah.dflt;rotate_left
    ·have j:BE B R ((aW t V).getD k bb.dflt):=fun _ h=>by
      have m:B.getD ((aW t V).getD k bb.dflt).dst.toNat ah.dflt=false:=h;rw[N]at m;cases m
     refine db ?_;clear Y;intro p w Y
     try simp only[o];refine dI ?_
     refine O ?_
     try simp only[N];refine dI ?_
     refine O ?_;refine⟨k+1,u,R,⟨rfl,rfl,az⟩,aU,⟨U,n,P',P,fun r i L=>?_,Y.tail⟩,U⟩;by_cases e:i=k
     ·subst e;exact j
     exact Q r i U
    cases p3:R.getD ((aW t V).getD k bb.dflt).dst.toNat ah.dflt;rotate_left
    ·have j:BE B R ((aW t V).getD k bb.dflt):=fun _ _=>p3
     refine db ?_;clear Y;intro p w Y
     try simp only[o];refine dI ?_
     refine O ?_
     try simp only[N];refine dI ?_
     refine O ?_
     try simp only[p3];refine dI ?_
     refine O ?_;refine⟨k+1,u,R,⟨rfl,rfl,az⟩,aU,⟨U,n,P',P,fun r i L=>?_,Y.tail⟩,U⟩;by_cases e:i=k
     ·subst e;exact j
     exact Q r i U
    have _l:¬ZT (a8 t cs) V g0 ((aW t V).getD k bb.dflt).dst:=fun h=>by
     have m:B.getD ((aW t V).getD k bb.dflt).dst.toNat ah.dflt=true:=(_f _ d.1 d.2).2 h;rw[N]at m;cases m
    have _d:ZS (a8 t cs) z V g0 ((aW t V).getD k bb.dflt).dst:=SD I hV H' (.inl p1) _l;have _e:EA t cs z V g0 (R.set ((aW t V).getD k bb.dflt).dst.toNat true):=by
     refine⟨by rw[gY];exact V',fun f D h1 hb=>?_,fun f hf=>?_⟩
     ·rw[y6 d.1 U D]at hb
      by_cases e:f=((aW t V).getD k bb.dflt).dst
      ·rw[e];exact _d
      rw[aC e]at hb;exact n.ok f D h1 hb
     rw[y6 d.1 U (y7 I bL hf).1];split
     ·rfl
     exact n.st f hf
    have _p:=Ia (B:=R) (i:=((aW t V).getD k bb.dflt).dst.toNat) U p3;refine db ?_;clear Y;intro p w Y
    try simp only[o];refine dI ?_
    refine O ?_
    try simp only[N];refine dI ?_
    refine O ?_
    try simp only[p3];refine dI ?_
    refine iE ?_;clear Y;intro w Y;exact⟨k+1,true,_,⟨rfl,rfl,az⟩,aU,⟨U,_e,U,fun _=>U,(fun h=>by cases h),Y.tail⟩,U⟩
   have o:decide (((aW t V).getD k bb.dflt).bh<0)=false:=dU p1;cases p1b:R.getD ((aW t V).getD k bb.dflt).bh.toNat ah.dflt
   ·have j:BE B R ((aW t V).getD k bb.dflt):=fun h=>by
     rcases h with h|h
     ·exact absurd h p1
     have m:R.getD ((aW t V).getD k bb.dflt).bh.toNat ah.dflt=true:=h;rw[p1b]at m;cases m
    refine db ?_;clear Y;intro p w Y
    try simp only[o];refine dI ?_
    refine O ?_
    try simp only[p1b];refine dI ?_
    refine O ?_;refine⟨k+1,u,R,⟨rfl,rfl,az⟩,aU,⟨U,n,P',P,fun r i L=>?_,Y.tail⟩,U⟩;by_cases e:i=k
    ·subst e;exact j
    exact Q r i U
   cases N:B.getD ((aW t V).getD k bb.dflt).dst.toNat ah.dflt;rotate_left
   ·have j:BE B R ((aW t V).getD k bb.dflt):=fun _ h=>by
     have m:B.getD ((aW t V).getD k bb.dflt).dst.toNat ah.dflt=false:=h;rw[N]at m;cases m
    refine db ?_;clear Y;intro p w Y
    try simp only[o];refine dI ?_
    refine O ?_
    try simp only[p1b];refine dI ?_
    refine O ?_
    try simp only[N];refine dI ?_
    refine O ?_;refine⟨k+1,u,R,⟨rfl,rfl,az⟩,aU,⟨U,n,P',P,fun r i L=>?_,Y.tail⟩,U⟩;by_cases e:i=k
    ·subst e;exact j
    exact Q r i U
   cases p3:R.getD ((aW t V).getD k bb.dflt).dst.toNat ah.dflt;rotate_left
   ·have j:BE B R ((aW t V).getD k bb.dflt):=fun _ _=>p3
    refine db ?_;clear Y;intro p w Y
    try simp only[o];refine dI ?_
    refine O ?_
    try simp only[p1b];refine dI ?_
    refine O ?_
    try simp only[N];refine dI ?_
    refine O ?_
    try simp only[p3];refine dI ?_
    refine O ?_;refine⟨k+1,u,R,⟨rfl,rfl,az⟩,aU,⟨U,n,P',P,fun r i L=>?_,Y.tail⟩,U⟩;by_cases e:i=k
    ·subst e;exact j
    exact Q r i U
   have _l:¬ZT (a8 t cs) V g0 ((aW t V).getD k bb.dflt).dst:=fun h=>by
    have m:B.getD ((aW t V).getD k bb.dflt).dst.toNat ah.dflt=true:=(_f _ d.1 d.2).2 h;rw[N]at m;cases m
   have _d:ZS (a8 t cs) z V g0 ((aW t V).getD k bb.dflt).dst:=SD I hV H' (.inr (n.ok _ U J' p1b)) _l;have _e:EA t cs z V g0 (R.set ((aW t V).getD k bb.dflt).dst.toNat true):=by
    refine⟨by rw[gY];exact V',fun f D h1 hb=>?_,fun f hf=>?_⟩
    ·rw[y6 d.1 U D]at hb
     by_cases e:f=((aW t V).getD k bb.dflt).dst
     ·rw[e];exact _d
     rw[aC e]at hb;exact n.ok f D h1 hb
    rw[y6 d.1 U (y7 I bL hf).1];split
    ·rfl
    exact n.st f hf
   have _p:=Ia (B:=R) (i:=((aW t V).getD k bb.dflt).dst.toNat) U p3;refine db ?_;clear Y;intro p w Y
   try simp only[o];refine dI ?_
   refine O ?_
   try simp only[p1b];refine dI ?_
   refine O ?_
   try simp only[N];refine dI ?_
   refine O ?_
   try simp only[p3];refine dI ?_
   refine iE ?_;clear Y;intro w Y;exact⟨k+1,true,_,⟨rfl,rfl,az⟩,aU,⟨U,_e,U,fun _=>U,(fun h=>by cases h),Y.tail⟩,U⟩
  refine O ?_;refine⟨u,R,⟨rfl,az⟩,aU,⟨n,fun r i L=>Q r i U,Y⟩,?_⟩;cases u
  ·simp only[cond_true,cond_false];omega
  have:=P rfl;simp only[cond_true];omega
 have R:=T' rfl;clear T'
 have P':∀ f:Int,0<=f->f<aR t->(k9 S f=true↔ZS (a8 t cs) z V g0 f):=fun f D h1=>⟨hS.ok f D h1,fun h=>by
  refine Ft (S:=fun f=>k9 S f=true) I hV hS.st (fun a ha m h3=>?_) h;obtain⟨i,L,e⟩:=fJ ha;have h5:=R i L;rw[am L,e]at h5;refine h5 m ?_;cases j:k9 B a.dst
  ·rfl
  exact absurd ((_f _ (j' a ha).1.1 (j' a ha).1.2).1 j) h3⟩
 have V':=hS.len;replace Y:=Y.nil (T:=W) (e:=3);refine O ?_;refine nZ [20,20,22,22,141,167] (G:=Nat) (H:=Value) (I':=J) (fun k b _=>[(141,E k),(20,b)]) (fun k b xs w=>k<=(aW t V).length/\xs.length<=k/\(∀ x:Int,x∈xs↔∃ i:Nat,i<k/\((aW t V).getD i bb.dflt).op=x/\(((aW t V).getD i bb.dflt).bh<0\/k9 S ((aW t V).getD i bb.dflt).bh=true)/\k9 B ((aW t V).getD i bb.dflt).dst=true)/\Z w0 w [X W 3 b xs,X ah 4 uv S,X ah 4 tv B,X bb 367 av (aW t V)]) (fun k _ _=>(aW t V).length-k) 0 (nS) [] (fun _ _ _=>rfl) ⟨rfl,rfl,az⟩ ⟨bu _,cD _,(fun x=>⟨fun h=>absurd h fI,fun⟨i,L,_⟩=>absurd L (dr _)⟩),Y⟩ ?_;clear Y;rintro _d k b xs w ⟨hk,_e,n,Y⟩;refine aB ?_ ?_<;>intro h3
 ·have R':k<(aW t V).length:=U
  have H':=cH bb.dflt R';obtain⟨d,J',op,_c,_b⟩:=j' _ H';have r:¬((((aW t V).getD k bb.dflt).bh<0\/k9 S ((aW t V).getD k bb.dflt).bh=true)/\k9 B ((aW t V).getD k bb.dflt).dst=true)->∀ x:Int,x∈xs↔∃ i:Nat,i<k+1/\((aW t V).getD i bb.dflt).op=x/\(((aW t V).getD i bb.dflt).bh<0\/k9 S ((aW t V).getD i bb.dflt).bh=true)/\k9 B ((aW t V).getD i bb.dflt).dst=true:=fun j x=>by
   rw[n x];constructor
   ·rintro⟨i,h1,m⟩;exact⟨i,U,m⟩
   rintro⟨i,h1,m⟩;by_cases e:i=k
   ·subst e;exact absurd m.2 j
   exact⟨i,U,m⟩
  have P:((((aW t V).getD k bb.dflt).bh<0\/k9 S ((aW t V).getD k bb.dflt).bh=true)/\k9 B ((aW t V).getD k bb.dflt).dst=true)->∀ x:Int,x∈xs++[((aW t V).getD k bb.dflt).op]↔∃ i:Nat,i<k+1/\((aW t V).getD i bb.dflt).op=x/\(((aW t V).getD i bb.dflt).bh<0\/k9 S ((aW t V).getD i bb.dflt).bh=true)/\k9 B ((aW t V).getD i bb.dflt).dst=true:=fun j x=>by
   rw[gG,n x,dp];constructor
   ·rintro (⟨i,h1,m⟩|h)
    ·exact⟨i,U,m⟩
    exact⟨k,U,h.symm,j⟩
   rintro⟨i,h1,m⟩;by_cases e:i=k
   ·subst e;exact .inr m.1.symm
   exact .inl ⟨i,U,m⟩
  by_cases p1:((aW t V).getD k bb.dflt).bh<0
  ·have o:decide (((aW t V).getD k bb.dflt).bh<0)=true:=dy p1
   cases N:B.getD ((aW t V).getD k bb.dflt).dst.toNat ah.dflt
   ·have j:=r fun h=>by
     have m:B.getD ((aW t V).getD k bb.dflt).dst.toNat ah.dflt=true:=h.2;rw[N]at m;cases m
    refine db ?_;clear Y;intro p w Y
    try simp only[o];refine dI ?_
    refine O ?_
    try simp only[N];refine dI ?_
    refine O ?_;exact⟨k+1,b,xs,⟨rfl,rfl,az⟩,aU,⟨U,U,j,Y.tail⟩,U⟩
   have j:=P ⟨.inl p1,N⟩;refine db ?_;clear Y;intro p w Y
   try simp only[o];refine dI ?_
   refine O ?_
   try simp only[N];refine dI ?_
   repeat (first|refine du ?_|(refine fA ?_;clear Y;intro s w Y))
   obtain⟨Q,rfl⟩:=À s;exact⟨k+1,Q,_,⟨rfl,rfl,az⟩,aU,⟨U,by rw[length_append,r6];omega,j,Y.tail.tail⟩,U⟩
  have o:decide (((aW t V).getD k bb.dflt).bh<0)=false:=dU p1;cases p1b:S.getD ((aW t V).getD k bb.dflt).bh.toNat ah.dflt
  ·have j:=r fun h=>by
    rcases h.1 with h|h
    ·exact p1 h
    have m:S.getD ((aW t V).getD k bb.dflt).bh.toNat ah.dflt=true:=h;rw[p1b]at m;cases m
   refine db ?_;clear Y;intro p w Y
   try simp only[o];refine dI ?_
   refine O ?_
   try simp only[p1b];refine dI ?_
   refine O ?_;exact⟨k+1,b,xs,⟨rfl,rfl,az⟩,aU,⟨U,U,j,Y.tail⟩,U⟩
  cases N:B.getD ((aW t V).getD k bb.dflt).dst.toNat ah.dflt
  ·have j:=r fun h=>by
    have m:B.getD ((aW t V).getD k bb.dflt).dst.toNat ah.dflt=true:=h.2;rw[N]at m;cases m
   refine db ?_;clear Y;intro p w Y
   try simp only[o];refine dI ?_
   refine O ?_
   try simp only[p1b];refine dI ?_
   refine O ?_
   try simp only[N];refine dI ?_
   refine O ?_;exact⟨k+1,b,xs,⟨rfl,rfl,az⟩,aU,⟨U,U,j,Y.tail⟩,U⟩
  have j:=P ⟨.inr p1b,N⟩;refine db ?_;clear Y;intro p w Y
  try simp only[o];refine dI ?_
  refine O ?_
  try simp only[p1b];refine dI ?_
  refine O ?_
  try simp only[N];refine dI ?_
  repeat (first|refine du ?_|(refine fA ?_;clear Y;intro s w Y))
  obtain⟨Q,rfl⟩:=À s;exact⟨k+1,Q,_,⟨rfl,rfl,az⟩,aU,⟨U,by rw[length_append,r6];omega,j,Y.tail.tail⟩,U⟩
 have _k:k=(aW t V).length:=U;subst _k;refine O ?_;refine aL rfl (Dx (s:=b) Y U) ?_;clear Y;rintro _ w ⟨rfl,Y⟩;refine⟨_,rfl,?_⟩;refine O ?_;refine aL rfl (Gz (s:=b) Y (by rw[DH];omega)) ?_;clear Y;rintro _ w ⟨kv,rfl,Y⟩;refine⟨_,rfl,?_⟩;have o:∀ x:Int,x∈dw (fh xs)↔∃ i:Nat,x=(i:Int)/\i<t.M.length/\ja (a8 t cs) z V g0 i:=fun x=>by
  rw[Dk,Gy,n x];constructor
  ·rintro⟨j,h1,m,h3,h4⟩
   have H':=cH bb.dflt h1;obtain⟨d,J',op,_c,_b⟩:=j' _ H';refine⟨op,by rw[<-m,_c],_b,(SE I hV).2 ⟨_,H',_c,?_,(_f _ d.1 d.2).1 h4⟩⟩;by_cases D:((aW t V).getD j bb.dflt).bh<0
   ·exact .inl D
   rcases h3 with h|h
   ·exact .inl h
   exact .inr ((P' _ U J').1 h)
  rintro⟨i,rfl,Q,r⟩;obtain⟨a,ha,ho,N,hz⟩:=(SE I hV).1 r;obtain⟨d,J',_⟩:=j' a ha;obtain⟨j,P,e⟩:=fJ ha;refine⟨j,P,?_⟩;rw[am P,e];refine⟨ho,?_,(_f _ d.1 d.2).2 hz⟩;by_cases D:a.bh<0
  ·exact .inl D
  rcases N with h|h
  ·exact .inl h
  exact .inr ((P' _ U J').2 h)
 have d:∀ x∈dw (fh xs),((x.toNat:Nat):Int)=x:=fun x hx=>by
  obtain⟨i,e,_⟩:=(o x).1 hx;rw[e];rfl
 have j:((dw (fh xs)).map Int.toNat).map (fun i:Nat=>(i:Int))=dw (fh xs):=by
  rw[zG]
  conv=>rhs;rw[<-map_id (dw (fh xs))]
  exact xN fun x hx=>d x hx
 have r:=SS (J5 xs);refine O ?_;refine bf (v:=kv) rfl rfl ⟨kv,(dw (fh xs)).map Int.toNat,rfl,?_,fun i=>?_,?_⟩
 ·refine Bc.2 (Ju (fun {x y} hx N P=>?_) r)
  have h1:=d x hx;have m:=d y N;omega
 ·rw[iS]
  constructor
  ·rintro⟨x,hx,rfl⟩
   obtain⟨i,e,h1,m⟩:=(o x).1 hx;rw[e,jo];exact⟨h1,m⟩
  rintro⟨h1,m⟩;exact⟨(i:Int),(o _).2 ⟨i,rfl,h1,m⟩,rfl⟩
 rw[j];exact Y.only
structure il where
 M:Value
 aN:Int
def ca:Ty il:=⟨2,fun x=>[x.M,E x.aN],fun _=>rfl,⟨nS,0⟩⟩
instance IT:nA ca:=⟨az⟩
def BF (t:aa)(z cs:J)(L:List (List Nat × Int)):Prop:=∀ r,rc t z cs r->rc t z (ar t) (r.map (L++·))
def BF.zero:BF t z (ar t) []:=fun r h=>by
 have e:r.map (([]:List (List Nat × Int))++·)=r:=by cases r<;>rfl
 rw[e];exact h
def BF.step {t:aa}{z cs V:J}{L:List (List Nat × Int)}{g0:Int}{K:List Nat}{c:Int}(h:BF t z cs L)(h1:gT (a8 t cs) z V)(h2:0<cY t.vars t.aH V)(d:cY t.vars t.aH V<bH)(f:jv V (dA t) g0)(g:∀ i,i∈K↔i<t.M.length/\ja (a8 t cs) z V g0 i)(j:K.Pairwise (·<·))(l:qk cs K c):BF t z (ju cs K c) (L++[(K,c)]):=fun r m=>by
 have:=h _ (.step h1 h2 d f g j l m);have e:(r.map ((K,c)::·)).map (L++·)=r.map ((L++[(K,c)])++·):=by cases r<;>simp
 rw[e]at this;exact this
def rD (m x:Int):Int:=if x<m then x else m
def lV (cs:J)(m:Int)(K:List Nat):Int:=K.foldl (fun m i=>rD m (cs.getD i W.dflt)) m
def SU {cs:J}:∀ {K:List Nat}{m:Int},lV cs m K<=m/\(∀ i∈K,lV cs m K<=cs.getD i W.dflt)/\(lV cs m K=m\/∃ i∈K,cs.getD i W.dflt=lV cs m K)
 | [],m=>⟨dt _,fun i c=>absurd c fI,.inl rfl⟩
 | x::K,m=>by
  obtain⟨h1,f,d⟩:=SU (cs:=cs) (K:=K) (m:=rD m (cs.getD x W.dflt));have e:lV cs m (x::K)=lV cs (rD m (cs.getD x W.dflt)) K:=rfl;have g:rD m (cs.getD x W.dflt)<=m/\rD m (cs.getD x W.dflt)<=cs.getD x W.dflt/\(rD m (cs.getD x W.dflt)=m\/rD m (cs.getD x W.dflt)=cs.getD x W.dflt):=by unfold rD;split<;>omega
  rw[e];refine⟨U,fun i c=>?_,?_⟩
  ·rcases ee.1 c with e|c
   ·rw[e];omega
   exact f i c
  rcases d with d|⟨i,c,d⟩
  ·rcases g.2.2 with h|h
   ·exact .inl U
   exact .inr ⟨x,gz,U⟩
  exact .inr ⟨i,iR _ c,d⟩
def Ė (h:eB t cs)(e:K≠[])(c:∀ i∈K,i<cs.length):qk cs K (lV cs 1048576 K):=by
 obtain⟨h1,f,d⟩:=SU (cs:=cs) (K:=K) (m:=1048576);refine⟨?_,f⟩;rcases d with d|⟨i,g,d⟩
 ·cases K with
  | nil=>exact absurd rfl e
  | cons x K =>
   have hx:=c x gz;have j:=h.2 _ (cH W.dflt hx);have l:=f x gz;exact⟨x,gz,hx,U⟩
 exact⟨i,g,c i g,d⟩
def SV (h:k<K.length):K.take (k+1)=K.take k++[K[k]]:=by rw[G4,kN h];rfl
def ė (cs:J)(c:Int):ju cs [] c=cs:=by
 unfold ju;refine iB sm fun i h1 d=>?_;rw[mK,qZ,aC fI,am d]
def Ę {c:Int}(hk:k<K.length)(m:K.Pairwise (·<·))(l:K[k]<cs.length):(ju cs (K.take k) c).set K[k] ((ju cs (K.take k) c).getD K[k] W.dflt-c)=ju cs (K.take (k+1)) c:=by
 have g:K[k]∉K.take k:=fun h=>by
  obtain⟨j,f,e⟩:=fJ h;rw[jd]at f;rw[DG]at e;have:=v8.1 m j k U hk U;omega
 rw[yV l,aC g];refine iB (by rw[gY,Au,Au]) fun i h1 f=>?_;have j:i<cs.length:=by rw[Au]at f;exact f
 rw[<-am (d:=W.dflt) h1,<-am (d:=W.dflt) f,yV j,SV hk];rw[SF (by rw[Au];exact l)];by_cases e:i=K[k]
 ·rw[aM e,aM (gG.2 (.inr (dp.2 e))),e]
 rw[aC e,yV j];by_cases h:i∈K.take k
 ·rw[aM h,aM (gG.2 (.inl h))]
 rw[aC h,aC fun f=>by
  rcases gG.1 f with f|f
  ·exact h f
  exact e (dp.1 f)]
def ę (c:∀ f∈dA t,0<=f/\0<=dg V f):jN V (dA t)=cY t.vars t.aH V:=by
 rw[Sx c];unfold dA cY;rw[foldl_map]
def YZ (hr:uQ w0 A t a fv gv q lv us)(I:aG t)(hs:RS W w0 sv z)(bL:ab t.vars z) :
  Calls ai 267 #[.pointer (some A),sv] w0 fun e w'=>(rc t z (ar t) none/\e=.returned (.tuple #[nS,bI 3])/\Z w0 w' [])\/∃ b L cl,rc t z (ar t) (some L)/\e=.returned (.tuple #[b,.nilIface])/\cl.map il.aN=L.map Prod.snd/\(∀ x∈cl,x.M.oneCell'=true)/\Z w0 w' [X ca 361 b cl]:=by
 have _y:=hr;obtain⟨hb,V',_j,_a,J',_k,_l,hF⟩:=hr;have _z:=I.M;have _b:∀ {w:World}{Γ:List HP},Z w0 w Γ->uQ w A t a fv gv q lv us:=fun Y=>⟨hb.at Y,V'.at Y,_j.at Y,_a.at Y,J'.at Y,_k.at Y,_l,hF.at Y⟩
 have D:∀ f∈dA t,0<=f/\f<aR t:=fun f hf=>by
  obtain⟨x,hx,rfl⟩:=iS.1 hf;obtain⟨i,hi,e⟩:=fJ hx;have d:=(I.aH i hi).1;rw[am hi,e]at d;have h1:=vG I.pos d;have h2:=tA I;omega
 have Y:=Z.start w0;refine bA an Tryz.func267 ?_;refine O ?_;refine aL rfl (xR (V'.at Y) (hs.at Y)) ?_;rintro _ w' ⟨⟨r,rfl,_m⟩,al⟩;refine aA ?_;clear al Y;intro Y;obtain rfl:r=true:=_m.2 bL;refine O ?_;refine aL rfl (ns (J'.at Y) (by rw[uA];omega)) ?_;rintro _ w' ⟨cv,rfl,al⟩;replace Y:Z w0 w' [X W 3 cv (ar t)]:=Y.mu al;clear al;refine⟨_,rfl,?_⟩;replace Y:=Y.nil (T:=ca) (e:=361);refine O ?_;refine cP [4,5,7,10,12,12,14,14,31,88] (G:=Value × J × List (List Nat × Int) × List il) (fun x=>[(7,x.1)]) (fun x w=>eB t x.2.1/\BF t z x.2.1 x.2.2.1/\x.2.2.2.map il.aN=x.2.2.1.map Prod.snd/\(∀ y∈x.2.2.2,y.M.oneCell'=true)/\x.2.2.2.length+gU x.2.1<=4294967296/\Z w0 w [X ca 361 x.1 x.2.2.2,X W 3 cv x.2.1]) (fun x=>gU x.2.1) (nS,ar t,[],[]) (fun _=>rfl) ⟨rfl,az⟩ ⟨Eo I,BF.zero,rfl,(fun x hx=>absurd hx fI),?_,Y⟩ ?_
 ·have h3:=Ss (cs:=ar t) (B:=1048576) fun x hx=>(Cc I x hx).2
  have h4:(ar t).length*1048576<=4096*1048576:=uL _ (by rw[uA];exact I.M);show 0+gU (ar t)<=4294967296;omega
 clear Y;rintro σ ⟨b,cs,L,cl⟩ w ⟨H,o,P',N,hlen,Y⟩;simp only at H o P' N hlen Y;have _c:=H.1;refine O ?_;refine aL rfl (ē (_b Y) I H (hs.at Y) bL (bk (s:=cv) Y)) ?_;rintro _ w' ⟨vv,V,rfl,g,al⟩;refine aI ?_;clear al Y;intro Y;have _A:V.length=aR t:=g.len;have _n:∀ f∈dA t,0<=f/\0<=dg V f:=fun f hf=>⟨(D f hf).1,(g.dK f (D f hf).1 (D f hf).2).1⟩
 have _o:=ę _n;have _B:=Aw t.vars t.aH V;have _C:cY t.vars t.aH V<=bH:=vd (yU I H) g;have _u:bH=1125899906842624:=rfl;refine O ?_;refine aL rfl (LZ (_a.at Y) (bk (s:=vv) Y) fun f hf=>⟨(D f hf).1,by have:=(D f hf).2;omega⟩) ?_;rintro _ w' ⟨rfl,al⟩;refine aA ?_;clear al Y;intro Y;rw[_o];refine aB ?_ ?_<;>intro h1
 ·have d:=o _ (.qi g U)
  refine O ?_;exact cR (v:=nS) (v':=.iface 57 (E 3)) rfl rfl rfl (.inl ⟨d,by rw[cS dc],gm Y⟩)
 refine aB ?_ ?_<;>intro h2
 ·have d:=o _ (.done g h2)
  refine O ?_;exact cR (v:=b) (v':=.nilIface) rfl rfl rfl (.inr ⟨b,L,cl,by simpa using d,rfl,P',N,(Y.tail).only⟩)
 have Q:0<cY t.vars t.aH V:=U;have _d:cY t.vars t.aH V<bH:=U;have _e:dA t≠[]:=fun e=>by
  have:t.aH=[]:=by simpa [dA] using e
  rw[this]at Q;exact absurd Q (by simp[cY])
 obtain⟨g0,j'⟩:=C3 (V:=V) _e;have X':=H3 I bL H g Q _d j';refine O ?_;refine aL rfl (ĕ (_b Y) I H (hs.at Y) bL (bk (s:=cv) Y) (bk (s:=vv) Y) X') ?_;rintro _ w' ⟨kv,K,rfl,u,hK,al⟩;refine aI ?_;clear al Y;intro Y;have P:∀ i∈K,i<cs.length:=fun i hi=>by rw[_c];exact((hK i).1 hi).1
 have _f:K≠[]:=fun e=>by
  obtain⟨i,h3,h4⟩:=LC X';have:=(hK i).2 ⟨h3,h4⟩;rw[e]at this;exact absurd this fI
 have d:=Ė H _f P;have R':=Su I H X' hK u d;have R:=(bk (s:=kv) Y).one;have _g:(K.map fun i:Nat=>(i:Int)).length=K.length:=iz _;refine O ?_;refine zH (v1:=kv) (v2:=E 1048576) rfl rfl rfl (by simp only[eD,eN,R];rfl) ?_;refine E0 ?_;intro pc w Y;refine jF (n:=2) (p:=pc) (vs:=[kv,E 1048576]) rfl rfl Y inferInstance rfl rfl (by simp only[eD,eN,R];rfl) ?_;clear Y;intro w Y;obtain⟨KI,_h⟩:=À (K.map fun i:Nat=>(i:Int));rw[<-_h]at Y _g;have _D:K.length<=t.M.length:=by
  have h1:=SX (l:=K) (m:=List.range t.M.length) (u.imp fun h=>ne_of_lt h) fun i hi=>mem_range.2 ((hK i).1 hi).1;rw[length_range]at h1;exact h1
 have H':∀ k (h:k<K.length),KI.getD k W.dflt=(K[k]:Int):=fun k h=>by
  rw[_h,am (by rw[iz];exact h),mK]
 refine O ?_;refine cP [12,12,56,68] (G:=Nat) (fun k=>[(56,E k)]) (fun k w=>k<=K.length/\Z w0 w [ak pc 361 [kv,E (lV cs 1048576 (K.take k))],X W 3 kv KI,X W 3 vv V,X ca 361 b cl,X W 3 cv cs]) (fun k=>K.length-k) 0 (fun _=>rfl) ⟨rfl,az⟩ ⟨bu _,Y⟩ ?_;clear Y;rintro _E k w ⟨hk,Y⟩;refine aB ?_ ?_<;>intro h3
 ·have j:k<K.length:=U
  have T':=H' k j;have S:=P _ (wq j);have _i:lV cs 1048576 (K.take (k+1))=rD (lV cs 1048576 (K.take k)) (cs.getD K[k] W.dflt):=by rw[SV j];unfold lV;rw[ti];rfl
  refine O ?_;refine r8 ?_;clear Y;intro w Y;refine iE ?_;intro w Y;simp only[mM,mI]at Y;rw[T',jo,show (if cs.getD K[k] W.dflt<lV cs 1048576 (K.take k) then cs.getD K[k] W.dflt else lV cs 1048576 (K.take k))=lV cs 1048576 (K.take (k+1)) from _i.symm]at Y;exact⟨k+1,⟨rfl,az⟩,aU,⟨U,Y⟩,U⟩
 have _p:k=K.length:=U;rw[_p,gH (cD _)]at Y;obtain⟨c,_q⟩:=À (lV cs 1048576 K);rw[<-_q]at Y d R';rw[<-ė cs c]at Y;have _v:=R'.pos;have _w:=R'.le;refine O ?_;refine cP [14,14,72,84] (G:=Nat) (fun k=>[(72,E k)]) (fun k w=>k<=K.length/\Z w0 w [ak pc 361 [kv,E c],X W 3 kv KI,X W 3 vv V,X ca 361 b cl,X W 3 cv (ju cs (K.take k) c)]) (fun k=>K.length-k) 0 (fun _=>rfl) ⟨rfl,az⟩ ⟨bu _,Y⟩ ?_;clear Y;rintro _F k w ⟨hk,Y⟩;refine aB ?_ ?_<;>intro h4
 ·have j:k<K.length:=U
  have T':=H' k j;have S:=P _ (wq j);have _G:=Au cs (K.take k) c;have _r:=Ę (c:=c) j u S;have J':=H.2 _ (cH W.dflt S);have _s:=yV (cs:=cs) (K:=K.take k) (c:=c) S;have _t : -1048576<=(ju cs (K.take k) c).getD K[k] W.dflt/\(ju cs (K.take k) c).getD K[k] W.dflt<=1048576:=by
   rw[_s];split<;>omega
  have _i:(KI.getD k W.dflt).toNat=K[k]:=by rw[T'];rfl
  have _x : -1048576<=(ju cs (K.take k) c).getD (KI.getD k W.dflt).toNat W.dflt/\(ju cs (K.take k) c).getD (KI.getD k W.dflt).toNat W.dflt<=1048576:=by rw[_i];exact _t
  refine O ?_;refine r8 ?_;clear Y;intro w Y;refine iE ?_;intro w Y;rw[_i,_r]at Y;exact⟨k+1,⟨rfl,az⟩,aU,⟨U,Y⟩,U⟩
 have j:k=K.length:=U;rw[j,gH (cD _)]at Y;have T':=LF (fun x hx=>(H.2 x hx).1) U d;refine O ?_;refine jK ca (x1:=⟨kv,c⟩) rfl rfl rfl (fY rfl) (fe _) Y ?_;clear Y;intro so w Y;refine q7 (s:=b) (s2:=so) inferInstance rfl rfl (bk Y) rfl rfl (fun x hx v hv=>?_) (by simp only[length_cons,length_nil];omega) (by unfold bU;simp only[length_cons,length_nil];omega) Y ?_
 ·rw[dp.1 hx]at hv
  simp only[ca,ee,fI,pP]at hv;rcases hv with rfl|rfl
  ·exact R
  rfl
 clear Y;intro S w Y;refine O ?_
 exact⟨(S,ju cs K c,L++[(K,c)],cl++[⟨kv,c⟩]),⟨rfl,az⟩,aU,⟨En H d,o.step g Q _d j' hK u d,by simp[P'],fun x hx=>(by
  rcases gG.1 hx with hx|hx
  ·exact N x hx
  rw[dp.1 hx];exact R),by simp only[length_append,r6];omega,Y.aY⟩,by simp only;omega⟩
def kE (cs:List il)(C:List J)(w:World):Prop:=∀ i:Nat,i<C.length->RS W w (au ca cs i).M (C.getD i [])
structure iI (w:World) (v:Value) (cs:List il) (C:List J):Prop where
 rs:RS ca w v cs
 len:cs.length=C.length
 M:kE cs C w
def kE.at {w0 w:World}{Γ:List HP}{cs:List il}{C:List J}(h:kE cs C w0)(Y:Z w0 w Γ):kE cs C w:=fun i c=>(h i c).at Y
def iI.at {w0 w:World}{Γ:List HP}{v:Value}{cs:List il}{C:List J}(h:iI w0 v cs C)(Y:Z w0 w Γ):iI w v cs C:=⟨h.rs.at Y,h.len,h.M.at Y⟩
def kE.eQ {w:World}{cs:List il}{v:il}{c:J}(h:kE cs C w)(g:cs.length=C.length)(h2:RS W w v.M c):kE (cs++[v]) (C++[c]) w:=fun i j=>by
 rw[length_append,r6]at j;by_cases e:i=C.length
 ·subst e
  have d:au ca (cs++[v]) C.length=v:=by rw[nt,List.getD,<-g,kn (cD _),r7];rfl
  have f:(C++[c]).getD C.length []=c:=by rw[List.getD,kn (cD _),r7];rfl
  rw[d,f];exact h2
 have d:au ca (cs++[v]) i=au ca cs i:=by rw[nt,nt,List.getD,iX U];rfl
 have f:(C++[c]).getD i []=C.getD i []:=by rw[List.getD,iX U];rfl
 rw[d,f];exact h i U
def Ě {c:Value}{n:Int}{X' K:J}(hx:RS W w0 c X')(f:dL w0 pc [kv,F])(hk:RS W w0 kv K) :
  Calls ai 282 #[.agg #[c,E n],.pointer (some pc)] w0 fun e w'=>(∃ r,e=.returned (.bool r)/\(r=true↔X'=K))/\Z w0 w' []:=by
 have Y:=Z.start w0;have g:=hx.one;refine bA an Tryz.func282 ?_;refine uI ?_;refine tm ?_;refine yo (vs:=[c,E n]) rfl Y ?_;clear Y;intro h w Y;refine O ?_;refine aL rfl (Dz (hx.at Y) (hk.at Y)) ?_;rintro _ w' ⟨⟨r,rfl,d⟩,al⟩;refine aA ?_;clear al Y;intro Y;refine O ?_;exact bf (v:=.bool r) rfl rfl ⟨⟨r,rfl,d⟩,gm Y⟩
def ě {cs:List il}{K:J}(i:iI w0 b cs C)(n:dL w0 pc [kv,F])(hk:RS W w0 kv K) :
  Calls ai 293 #[b,.func (.func 282) #[] #[.pointer (some pc)]] w0 fun e w'=>(∃ r:Int,e=.returned (E r)/\(0<=r↔K∈C))/\Z w0 w' []:=by
 obtain⟨j,o,l⟩:=i;have u:=j.bU;have Y:=Z.start w0;refine bA an Tryz.func293 ?_;refine O ?_;refine cP [4,5,8,18] (G:=Nat) (fun k=>[(8,E k)]) (fun k w=>k<=cs.length/\K∉C.take k/\Z w0 w []) (fun k=>cs.length-k) 0 (fun _=>rfl) ⟨rfl,az⟩ ⟨bu _,sm,Y⟩ ?_;clear Y;rintro B k w ⟨x,c,Y⟩;refine aB ?_ ?_<;>intro h1
 ·have d:k<C.length:=U
  have f:=l k d;have g:=f.one;have m:(ca.enc (au ca cs k)).all Value.oneCell'=true:=by
   show ((au ca cs k).M.oneCell' && ((Value.int .i64 (au ca cs k).aN).oneCell' && true))=true;rw[g];rfl
  refine O ?_;refine wr (cs:=[.pointer (some pc)]) rfl rfl (Ě (X':=C.getD k []) (f.at Y) (n.at Y) (hk.at Y)) ?_;rintro _ w' ⟨⟨r,rfl,i⟩,al⟩;refine aA ?_;clear al Y;intro Y;cases r
  ·have y:¬C.getD k []=K:=fun h=>by cases i.2 h
   refine O ?_;refine⟨k+1,⟨rfl,az⟩,aU,⟨U,fun hm=>?_,Y⟩,U⟩;rw[eC [] d]at hm;rcases gG.1 hm with hm|hm
   ·exact c hm
   exact y (dp.1 hm).symm
  refine O ?_;exact bf (v:=E k) rfl rfl ⟨⟨k,rfl,⟨fun _=>by rw[<-i.1 rfl];exact cH [] d,fun _=>U⟩⟩,Y⟩
 rw[gH U]at c;refine O ?_;exact bf (v:=E (-1)) rfl rfl ⟨⟨-1,rfl,⟨fun h=>U,fun h=>absurd h c⟩⟩,Y⟩
def Ĝ {cs:List il}{K:J}(c:iI w0 b cs C)(d:dL w0 pc [kv,F])(hk:RS W w0 kv K) :
  Calls ai 281 #[b,.func (.func 282) #[] #[.pointer (some pc)]] w0 fun e w'=>(∃ r,e=.returned (.bool r)/\(r=true↔K∈C))/\Z w0 w' []:=by
 have Y:=Z.start w0;refine bA an Tryz.func281 ?_;refine O ?_;refine aL rfl (ě (c.at Y) (d.at Y) (hk.at Y)) ?_;rintro _ w' ⟨⟨r,rfl,c⟩,al⟩;refine aA ?_;clear al Y;intro Y;refine O ?_;exact bf (v:=.bool (decide (0<=r))) rfl rfl ⟨⟨_,rfl,by rw[gQ];exact c⟩,Y⟩
def ĝ (x:Int) :
  Calls ai 295 #[E x] w0 fun e w'=>e=.returned (kh (yl x))/\Z w0 w' []:=by
 have Y:=Z.start w0;refine bA an Tryz.func295 ?_;refine eE ?_;intro p w Y;exact Cw (p:=p) (vs:=[E x,E 1]) rfl rfl rfl (Y.gn 0 rfl) ⟨rfl,Y.aY⟩
def Ğ (x:Int) :
  Calls ai 302 #[E x] w0 fun e w'=>(∃ r,e=.returned (.bool r)/\(r=true↔x<0\/1048576<x))/\Z w0 w' []:=by
 have Y:=Z.start w0;refine bA an Tryz.func302 ?_;refine O ?_;exact bf (v:=.bool (decide (x<0) || decide (1048576<x))) rfl rfl ⟨⟨_,rfl,by rw[qa,gQ,gQ]⟩,Y⟩
def ğ {n:Nat}(hk:k<C.length):rE n (C.drop k)=if C.getD k []=[] then 3 else if j9 n (C.getD k []) then rE n (C.drop (k+1)) else 2:=by
 rw[Bi [] hk]
 conv=>lhs;unfold rE
def O5 {d:J}{cs:List il}(hc:RS W w0 cv d)(T:∀ x∈d,0<=x/\x<=1048576)(hC:iI w0 b cs C) :
  Calls ai 294 #[cv,b] w0 fun e w'=>e=.returned (bI (mQ d.length C))/\Z w0 w' []:=by
 obtain⟨T',V',j'⟩:=hC;have _a:=hc.bU;obtain⟨R,g⟩:=À (mQ d.length C);rw[<-g];have Y:=Z.start w0;refine bA an Tryz.func294 ?_;refine O ?_;refine aL rfl (NM (f:=302) (cs:=[]) (P:=fun x=>x<0\/1048576<x) (hc.at Y) fun w Γ Y x hx=>Ğ x) ?_;rintro _ w' ⟨⟨r,rfl,hr⟩,al⟩;refine aA ?_;clear al Y;intro Y;obtain rfl:r=false:=nG.2 fun h=>by
  obtain⟨x,hx,L⟩:=hr.1 h;have:=T x hx;omega
 refine O ?_;unfold mQ at g;refine jw ?_ ?_<;>intro h5
 ·rw[aM U]at g
  refine O ?_;exact bf (v:=.iface 57 (E 5)) rfl rfl ⟨by rw[g,cS dc],gm Y⟩
 rw[aC U]at g;refine O ?_;refine cP [4,4,6,8,18,59] (G:=Nat) (fun k=>[(18,E k)]) (fun k w=>k<=cs.length/\R=rE d.length (C.drop k)/\Z w0 w []) (fun k=>cs.length-k) 0 (fun _=>rfl) ⟨rfl,az⟩ ⟨bu _,g,Y⟩ ?_;clear Y g;rintro σ k w ⟨hk,g,Y⟩;refine aB ?_ ?_<;>intro h1
 ·have _b:k<cs.length:=U
  have N:k<C.length:=U;have D:=j' k N;have Q:=D.one;have R':(ca.enc (au ca cs k)).all Value.oneCell'=true:=by
   show ((au ca cs k).M.oneCell' && ((Value.int .i64 (au ca cs k).aN).oneCell' && true))=true;rw[Q];rfl
  have H':ca.enc (au ca cs k)=[(au ca cs k).M,E (au ca cs k).aN]:=rfl;rw[ğ N]at g;obtain⟨c,J'⟩:=À (C.getD k []);rw[<-J']at g D;have _c:=D.bU;refine mg ?_ ?_<;>intro p w Y L
  ·have j:c=[]:=GL.1 U
   rw[aM j]at g;refine O ?_;exact bf (v:=.iface 57 (E 3)) rfl rfl ⟨by rw[g,cS dc],gm Y⟩
  have y:c≠[]:=fun h=>by rw[h]at L;simp at L
  refine O ?_;rw[H']at Y;obtain⟨p6,rfl⟩:=À p;refine cP [4,4,7,8,30,58] (G:=Nat) (fun i=>[(30,E i)]) (fun i w=>i<=c.length/\(∀ j,j<i->uo d.length c j)/\Z w0 w [ak p6 361 [(au ca cs k).M,E (au ca cs k).aN]]) (fun i=>c.length-i) 0 (fun _=>rfl) ⟨rfl,az⟩ ⟨bu _,fun j S=>absurd S (dr _),Y⟩ ?_;clear Y;rintro _d i w ⟨hi,n,Y⟩;refine aB ?_ ?_<;>intro h3
  ·have P':i<c.length:=U
   have _e:∀ o,uo d.length c i↔(0<=c.getD i W.dflt/\c.getD i W.dflt<d.length/\(0<i->c.getD (i-1) W.dflt<c.getD i W.dflt)):=fun o:Unit=>x6;have l:¬uo d.length c i->¬j9 d.length c:=fun h L=>h (L i P');by_cases q1:c.getD i W.dflt<0
   ·have l:=l fun h=>by have:=h.1;omega
    have m:decide (c.getD i W.dflt<0)=true:=dy q1;refine O ?_
    try simp only[m];refine tG ?_
    have g:R=2:=by rw[g,aC y,aC l]
    refine O ?_;exact bf (v:=.iface 57 (E 2)) rfl rfl ⟨by rw[g,cS dc],gm Y⟩
   have m:decide (c.getD i W.dflt<0)=false:=dU q1;by_cases q2:(d.length:Int)<=c.getD i W.dflt
   ·have l:=l fun h=>by have:=h.2.1;omega
    have u:decide ((d.length:Int)<=c.getD i W.dflt)=true:=dy q2;refine O ?_
    try simp only[m,u];refine tG ?_
    have g:R=2:=by rw[g,aC y,aC l]
    refine O ?_;exact bf (v:=.iface 57 (E 2)) rfl rfl ⟨by rw[g,cS dc],gm Y⟩
   have u:decide ((d.length:Int)<=c.getD i W.dflt)=false:=dU q2;by_cases q3:0<i
   ·have B:decide ((0:Int)<(i:Int))=true:=dy U
    have ei:((i:Int)-1).toNat=i-1:=U;by_cases q4:c.getD i W.dflt<=c.getD (i-1) W.dflt
    ·have l:=l fun h=>by have:=h.2.2 q3;omega
     have H:decide (c.getD i W.dflt<=c.getD (i-1) W.dflt)=true:=dy q4;refine O ?_
     try simp only[m,u,B];refine tG ?_
     refine O ?_
     try simp only[ei,H];refine tG ?_
     have g:R=2:=by rw[g,aC y,aC l]
     refine O ?_;exact bf (v:=.iface 57 (E 2)) rfl rfl ⟨by rw[g,cS dc],gm Y⟩
    have H:decide (c.getD i W.dflt<=c.getD (i-1) W.dflt)=false:=dU q4;refine O ?_
    try simp only[m,u,B];refine tG ?_
    refine O ?_
    try simp only[ei,H];refine tG ?_
    refine O ?_;refine⟨i+1,⟨rfl,az⟩,aU,⟨U,fun j S=>?_,Y⟩,U⟩;by_cases e:j=i
    ·rw[e];exact⟨U,U,fun _=>U⟩
    exact n j U
   have B:decide ((0:Int)<(i:Int))=false:=dU U;refine O ?_
   try simp only[m,u,B];refine tG ?_
   refine O ?_;refine⟨i+1,⟨rfl,az⟩,aU,⟨U,fun j S=>?_,Y⟩,U⟩;by_cases e:j=i
   ·rw[e];exact⟨U,U,fun h=>absurd h q3⟩
   exact n j U
  have bL:j9 d.length c:=fun j S=>n j U;rw[aC y,aM bL]at g;refine O ?_;exact⟨k+1,⟨rfl,az⟩,aU,⟨U,g,gm Y⟩,U⟩
 rw[pS U]at g;refine O ?_;exact bf (v:=.nilIface) rfl rfl ⟨by rw[g,rE,fK rfl],Y⟩
end Go.Proofs.YtmapkjoefdgjfaaGreatDoor
