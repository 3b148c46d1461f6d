/- Several texts. -/
import Derived.Test.YtmapkjoefdgjfaaGreatDoorMW24D
set_option linter.unusedSimpArgs false
set_option linter.unusedVariables false
set_option linter.defProp false
set_option maxRecDepth 8000
set_option maxHeartbeats 16000000
open List Nat
namespace Go.Proofs.YtmapkjoefdgjfaaGreatDoor
open Go.Sl Go
variable {t:aa}{w0:World}{z cs V:J}{C:List J}{k:Nat}{q pc:Addr}{a fv gv A lv sv cv kv F b:Value}{K:List Nat}
attribute [local irreducible] vc opsW opsD opV opW PureV ReadV Thn Blk
structure wJ where
 op:Int
 aK:Int
 aw:Value
variable {us:List wJ}
def jI:Ty wJ:=⟨3,fun x=>[E x.op,E x.aK,x.aw],fun _=>rfl,⟨0,0,nS⟩⟩
instance Ix:nB jI:=⟨au⟩
def EQ (w:World)(v:wJ)(u:Un):Prop:=v.op=u.op/\v.aK=u.aK/\∃ L,RS O w v.aw L/\mB L u.aw
def su (us:List wJ)(U':List Un)(w:World):Prop:=∀ i:Nat,i<U'.length->EQ w (az jI us i) (un U' i)
structure uK (w:World) (q:Addr) (t:aa) (a fv gv cv lv:Value) (us:List wJ):Prop where
 box:dO w q [a,fv,E (aS t:Int),gv,cv,lv]
 vars:RS O w a t.vars
 fst:RS O w fv (dE t.vars t.vars.length)
 aG:RS O w gv (dz t)
 aT:RS O w cv (am t)
 BH:RS jI w lv us
 len:us.length=(bS t).length
 un:su us (bS t) w
def su.at {w0 w:World}{Γ:List HP}{us:List wJ}{U':List Un}(h:su us U' w0)(Y:M w0 w Γ):su us U' w:=fun i c=>by
 obtain⟨h1,d,L,e,f⟩:=h i c;exact⟨h1,d,L,e.at Y,f⟩
def SD {i:Nat}(hi:i<(bS t).length):∃ op:Nat,(un (bS t) i).op=(op:Int)/\op<t.Z.length:=by
 obtain⟨op,j,h1,_,c⟩:=CS.1 (yU hi);have d:un (bS t) (i:Int)=yM t.vars op (t.Z.getD op bf) j:=c;exact⟨op,by rw[d];rfl,h1⟩
def ö {m:Nat}:(replicate k bD++replicate (m+1) (0:Int)).set k bD=replicate (k+1) bD++replicate m 0:=by
 rw[yB _ _ sm,np,rZ,DE (n:=m),mJ,GK (n:=k),fG];rfl
structure SI (t:aa) (z D:J) (k:Nat):Prop where
 len:D.length=aS t
 val:∀ g:Int,0<=g->g<aS t->dg D g=bD\/(dg D g=0/\mb t.vars z g)
 st:∀ v:Nat,v<k->dg D (bC t.vars v+z.getD v O.dflt)=0
def SI.zero:SI t z (replicate (aS t) bD) 0:=⟨sm,fun g d h1=>.inl (by
 have c:g.toNat<aS t:=U
 simp[dg,List.getD,c]),fun v hv=>absurd hv (dx _)⟩
def SI.step {t:aa}{z D:J}{k:Nat}(h:SI t z D k)(I:aC t)(l:ab t.vars z)(hk:k<t.vars.length):SI t z (D.set (bC t.vars k+z.getD k O.dflt).toNat 0) (k+1):=by
 have m:=yW I l (f:=bC t.vars k+z.getD k O.dflt) ⟨k,hk,rfl⟩;have n:=h.len;have c:∀ g:Int,0<=g->dg (D.set (bC t.vars k+z.getD k O.dflt).toNat 0) g=if g=bC t.vars k+z.getD k O.dflt then 0 else dg D g:=fun g d=>B6 d m.1 U
 refine⟨by rw[gS];exact n,fun g d h1=>?_,fun v hv=>?_⟩
 ·rw[c g d]
  split
  ·rename_i e;exact .inr ⟨rfl,⟨k,hk,e⟩⟩
  exact h.val g d h1
 have i:v<t.vars.length:=U;have j:=yW I l (f:=bC t.vars v+z.getD v O.dflt) ⟨v,i,rfl⟩;rw[c _ j.1];split
 ·rfl
 rename_i e
 exact h.st v (by
  have:v≠k:=fun o=>e (by rw[o])
  omega)
def SI.vi {D:J}(h:SI t z D t.vars.length):yb (aZ t cs) z D:=by
 refine⟨h.len,fun g c h1=>?_,fun g c h1 d=>?_,fun g I=>?_⟩
 ·rcases h.val g c h1 with e|⟨e,_⟩
  ·rw[e];exact⟨dc,du _⟩
  rw[e];exact⟨du _,dc⟩
 ·rcases h.val g c h1 with e|⟨e,f⟩
  ·omega
  rw[e];exact .start f
 obtain⟨v,hv,rfl⟩:=I;have:=h.st v hv;exact Int.le_of_eq this
def ø:(bS (aZ t cs)).length=(bS t).length:=by
 have key:∀ k,k<=t.Z.length->(gL (aZ t cs) k).length=(gL t k).length:=by
  intro k
  induction k with
  | zero=>intro _;simp[gL]
  | succ k c =>
   intro hk;rw[yL,yL,length_append,length_append,c U,Al U,Bq,Bq]
 unfold bS;rw[yO];exact key _ (cz _)
def ù (hr:uK w0 q t a fv gv A lv us)(I:aC t)(hc:eu t cs)(hs:RS O w0 sv z)(bI:ab t.vars z)(_n:RS O w0 cv cs) :
  Calls aj 268 #[.pointer (some q),sv,cv] w0 fun e w'=>∃ b V,e=.returned b/\gV (aZ t cs) z V/\M w0 w' [X O 3 b V]:=by
 obtain⟨hb,_o,_p,_q,_r,_s,_t,hF⟩:=hr;have o:=yP I hc;have hN:=Af I;have _u:=hc.1;have _v:=bI.1;have _d:=I.vars;have _w:=Ae t.vars t.vars.length;have _x:=I.Z;have _y:(bS t).length<=64*t.Z.length:=Bp I (k:=t.Z.length) (cz _);have Y:=M.start w0;refine bB ao Tryz.func268 ?_;refine lw ?_;intro s w Y;obtain⟨b,rfl⟩:=À s;rw[gY]at Y;have T:∀ k,k<=aS t->(replicate k bD++replicate (aS t-k) (0:Int)).length=aS t:=fun k hk=>by simp;omega
 have j':(replicate ((aS t:Int)).toNat (0:Int)).length=aS t:=sm;have H':M w0 w [X O 3 b (replicate 0 bD++replicate (aS t-0) (0:Int))]:=Y;refine W ?_;refine cN [8,8,22,28] (G:=Nat) (fun k=>[(22,E k)]) (fun k w=>k<=aS t/\M w0 w [X O 3 b (replicate k bD++replicate (aS t-k) (0:Int))]) (fun k=>aS t-k) 0 (fun _=>rfl) ⟨rfl,au⟩ ⟨br _,H'⟩ ?_;clear Y H';rintro σ k w ⟨_e,Y⟩;have _f:=T k _e;refine aA ?_ ?_<;>intro h1
 ·have c:k<aS t:=U
  refine eQ ?_;intro w Y;rw[show aS t-k=(aS t-(k+1))+1 by omega,show (1125899906842624:Int)=bD from rfl,ö]at Y;exact⟨k+1,⟨rfl,au⟩,aV,⟨U,Y⟩,U⟩
 have _g:k=aS t:=U;rw[_g,rZ,Cq,fI]at Y;clear _f j' T;refine W ?_;refine dN [9,10,31,47] (G:=Nat) (H:=J) (fun k _=>[(31,E k)]) (fun k D w=>k<=t.vars.length/\SI t z D k/\M w0 w [X O 3 b D]) (fun k _=>t.vars.length-k) 0 _ (fun _ _=>rfl) ⟨rfl,au⟩ ⟨br _,SI.zero,Y⟩ ?_;clear Y;rintro _z k D w ⟨_A,r,Y⟩;have J':=r.len;refine aA ?_ ?_<;>intro h2
 ·have c:k<t.vars.length:=U
  have g:=yW I bI (f:=bC t.vars k+z.getD k O.dflt) ⟨k,c,rfl⟩;obtain⟨g0,g1,g2⟩:=CJ I.pos (fun i B=>(I.nt i B).2) _d c;have j:=bI.2 k U;have l:=I.nt k c;have d:=r.step I bI c;rw[<-g0]at d g g1 g2;refine eQ ?_;intro w Y;exact⟨k+1,_,⟨rfl,au⟩,aV,⟨U,d,Y⟩,U⟩
 have P':k=t.vars.length:=U;subst P';have R':=r.vi (cs:=cs);clear r J';refine W ?_;refine dN [11,11,13,14,48,90] (G:=Bool) (H:=J) (fun g _=>[(11,.bool g)]) (fun g D w=>yb (aZ t cs) z D/\(g=false->∀ i:Nat,i<(bS t).length->(fun i D=>jO D (un (bS (aZ t cs)) i).aw<bD->dg D (un (bS (aZ t cs)) i).aK<=jO D (un (bS (aZ t cs)) i).aw+(un (bS (aZ t cs)) i).aO) i D)/\M w0 w [X O 3 b D]) (fun g D=>2*fT D+(bif g then 1 else 0)) true _ (fun _ _=>rfl) ⟨rfl,au⟩ ⟨R',(fun h=>by cases h),Y⟩ ?_;clear Y R';rintro _B g D w ⟨hV,T',Y⟩;cases g
 ·refine W ?_
  exact bk (v:=b) rfl rfl ⟨b,D,rfl,hV.ow o fun i B=>T' rfl i (by
   by_cases h:i<(bS t).length
   ·exact h
   exfalso;have:(bS (aZ t cs)).length=(bS t).length:=ø
   omega),Y⟩
 clear T';refine W ?_;refine nE [11,11,13,14,54,90] (G:=Nat) (H:=Bool) (I':=J) (fun k g _=>[(54,E k),(11,.bool g)]) (fun k g d w=>k<=(bS t).length/\yb (aZ t cs) z d/\fT d<=fT D/\(g=true->fT d<fT D)/\(g=false->∀ i:Nat,i<k->(fun i D=>jO D (un (bS (aZ t cs)) i).aw<bD->dg D (un (bS (aZ t cs)) i).aK<=jO D (un (bS (aZ t cs)) i).aw+(un (bS (aZ t cs)) i).aO) i d)/\M w0 w [X O 3 b d]) (fun k _ _=>(bS t).length-k) 0 false D (fun _ _ _=>rfl) ⟨rfl,rfl,au⟩ ⟨br _,hV,cz _,(fun h=>by cases h),fun _ i B=>absurd B (dx _),Y⟩ ?_;clear Y;rintro _C k g d w ⟨_D,j,V',N,P,Y⟩;refine aA ?_ ?_<;>intro h3
 ·have c:k<(bS t).length:=U
  obtain⟨c1,c2,L,c3,c4⟩:=hF k c;obtain⟨op,_a,_k⟩:=SD c;obtain⟨u1,u2,u3,u4,u5⟩:=Ln (cs:=cs) c;rw[_a,gY]at u5;have l:k<(bS (aZ t cs)).length:=by rw[u1];exact c
  have Q:mB L (un (bS (aZ t cs)) k).aw:=by rw[u4];exact c4
  have u:=j.vP o l Q;have x:=(uM o).aK k l;have J':=j.len;have _E:aS (aZ t cs)=aS t:=rfl;have _l:=hc.2 _ (cD O.dflt (show op<cs.length by omega));have m:=Sm Q fun f S=>(u f S).1;have _F:=Ar (V:=d) fun f S=>(u f S).1;have _b:=j.dC _ x.1 x.2;rw[u3]at x _b;obtain⟨mk,_c⟩:=À ((un (bS t) k).aK);rw[<-_c]at x _b c2 u3;have _h:=c3.one;have _m:(jI.enc (az jI us k)).all Value.oneCell'=true:=by
   show ((Value.int .i64 (az jI us k).op).oneCell' && ((Value.int .i64 (az jI us k).aK).oneCell' && ((az jI us k).aw.oneCell' && true)))=true;rw[_h];rfl
  have _i:jI.enc (az jI us k)=[E (op:Int),E mk,(az jI us k).aw]:=by
   show [Value.int .i64 (az jI us k).op,Value.int .i64 (az jI us k).aK,(az jI us k).aw]=_;rw[c1,c2,_a]
  refine eB ?_;intro p w Y;refine aU rfl (LG (lv:=(az jI us k).aw) (c3.at Y) (bm (s:=b) Y) fun f S=>⟨(u f S).1.1,by have:=(u f S).2;omega⟩) ?_;rintro _ w' ⟨rfl,an⟩;refine aI ?_;clear an Y;intro Y;obtain⟨_j,rfl⟩:=À p;replace Y:M w0 w' [ak _j 138 [E (op:Int),E mk,(az jI us k).aw],X O 3 b d]:=by rw[<-_i];exact Y
  by_cases q1:jO d L<bD
  ·have _G:jO d L<1125899906842624:=q1
   have y:decide (jO d L<1125899906842624)=true:=dY q1;by_cases q2:jO d L+cs.getD op O.dflt<dg d mk
   ·have R:decide (jO d L+cs.getD op O.dflt<d.getD mk.toNat O.dflt)=true:=dY q2
    have n:=j.o0 o l Q q1 (by rw[u5,u3];exact q2);rw[u5,u3]at n;refine W ?_;refine r5 ?_;clear Y;intro w Y;refine W ?_
    try simp only[y];refine eG ?_
    refine W ?_
    try simp only[R];refine eG ?_
    refine W ?_;refine r5 ?_;clear Y;intro w Y;refine iC ?_;intro w Y;exact⟨k+1,true,_,⟨rfl,rfl,au⟩,aV,⟨U,n.1,U,fun _=>U,(fun h=>by cases h),Y.tail⟩,U⟩
   have R:decide (jO d L+cs.getD op O.dflt<d.getD mk.toNat O.dflt)=false:=eA q2;refine W ?_;refine r5 ?_;clear Y;intro w Y;refine W ?_
   try simp only[y];refine eG ?_
   refine W ?_
   try simp only[R];refine eG ?_
   refine W ?_;refine⟨k+1,g,d,⟨rfl,rfl,au⟩,aV,⟨U,j,V',N,fun n i B=>?_,Y.tail⟩,U⟩;by_cases e:i=k
   ·subst e
    intro _;rw[u5,u3,<-m];omega
   exact P n i U
  have y:decide (jO d L<1125899906842624)=false:=eA q1;refine W ?_;refine r5 ?_;clear Y;intro w Y;refine W ?_
  try simp only[y];refine eG ?_
  refine W ?_;refine⟨k+1,g,d,⟨rfl,rfl,au⟩,aV,⟨U,j,V',N,fun n i B=>?_,Y.tail⟩,U⟩;by_cases e:i=k
  ·subst e
   intro R;rw[<-m]at R;exact absurd R q1
  exact P n i U
 refine W ?_;refine⟨g,d,⟨rfl,au⟩,aV,⟨j,fun n i B=>P n i U,Y⟩,?_⟩;cases g
 ·simp only[cond_true,cond_false];omega
 have:=N rfl;simp only[cond_true];omega
def ú {vv:Value}(S:uK w0 q t a fv gv A lv us)(I:aC t)(hv:RS O w0 vv V)(j':V.length=aS t)(hV:∀ g:Int,0<=g->g<aS t->0<=dg V g) :
  Calls aj 272 #[.pointer (some q),vv] w0 fun e w'=>∃ h,e=.returned h/\M w0 w' [X a8 367 h (aW t V)]:=by
 obtain⟨hb,H',J',P',R',T',V',hF⟩:=S;have hN:=Af I;have _a:=I.Z;have _b:(bS t).length<=64*t.Z.length:=Bp I (k:=t.Z.length) (cz _);have Y:=M.start w0;refine bB ao Tryz.func272 ?_;replace Y:=Y.nil (T:=a8) (e:=367);rw[<-à t V]at Y;refine W ?_;refine dN [5,5,7,7,13,34] (G:=Nat) (H:=Value) (fun k h=>[(13,E k),(5,h)]) (fun k h w=>k<=(bS t).length/\M w0 w [X a8 367 h (nQ t V k)]) (fun k _=>(bS t).length-k) 0 (nS) (fun _ _=>rfl) ⟨rfl,rfl,au⟩ ⟨br _,Y⟩ ?_;clear Y;rintro σ k h w ⟨hk,Y⟩;have _c:=Lo t V k;refine aA ?_ ?_<;>intro h1
 ·have m:k<(bS t).length:=U
  obtain⟨c1,c2,L,r,u⟩:=hF k m;obtain⟨op,o,P⟩:=SD m;have hU:=uM I;have j:∀ f∈L,0<=f/\f<aS t:=fun f d=>hU.aw k m f ((u f).1 d);have x:∀ f∈L,0<=f/\0<=dg V f:=fun f d=>⟨(j f d).1,hV f (j f d).1 (j f d).2⟩
  have i:=Sm u x;have y:=á (V:=V) u fun f d=>(j f d).1;have c:=Sp t V k;obtain⟨mk,l⟩:=À ((un (bS t) k).aK);rw[<-l]at c2;have B:=r.one;have Q:(jI.enc (az jI us k)).all Value.oneCell'=true:=by
   show ((Value.int .i64 (az jI us k).op).oneCell' && ((Value.int .i64 (az jI us k).aK).oneCell' && ((az jI us k).aw.oneCell' && true)))=true;rw[B];rfl
  have D:jI.enc (az jI us k)=[E (op:Int),E mk,(az jI us k).aw]:=by
   show [Value.int .i64 (az jI us k).op,Value.int .i64 (az jI us k).aK,(az jI us k).aw]=_;rw[c1,c2,o]
  refine eB ?_;intro p w Y;refine aU rfl (LG (lv:=(az jI us k).aw) (r.at Y) (hv.at Y) fun f d=>⟨(j f d).1,by have:=(j f d).2;omega⟩) ?_;rintro _ w' ⟨rfl,an⟩;refine aI ?_;clear an Y;intro Y;obtain⟨p7,rfl⟩:=À p;replace Y:M w0 w' [ak p7 138 [E (op:Int),E mk,(az jI us k).aw],X a8 367 h (nQ t V k)]:=by rw[<-D];exact Y
  refine aA ?_ ?_<;>intro R
  ·have n:jO V (un (bS t) k).aw<bD:=by rw[<-i];exact R
   rw[sK,aP n]at c;refine W ?_;refine fQ (pl [0,1,2,3,5,6,7,8,4] (.cJ 6::.cJ 8::pl [9,10,11,12] [])) Y kr ?_;clear Y;intro w Y;refine W ?_;refine aU rfl (LF (lv:=(az jI us k).aw) (r.at Y) (hv.at Y) fun f d=>⟨(j f d).1,by have:=(j f d).2;omega⟩) ?_;rintro _ w' ⟨rfl,an⟩;refine aI ?_;clear an Y;intro Y;refine W ?_;refine jG a8 (x1:=⟨iu V L,mk,op⟩) rfl rfl rfl (fX rfl) (fb _) Y ?_;clear Y;intro sl w Y;refine ot ?_;intro s w Y;obtain⟨N,rfl⟩:=À s;rw[y,l,<-o,<-c]at Y;exact⟨k+1,N,⟨rfl,rfl,au⟩,aV,⟨U,Y.tail.tail⟩,U⟩
  have n:¬jO V (un (bS t) k).aw<bD:=by rw[<-i];exact rY.2 R
  rw[sK,aH n,fI]at c;refine W ?_;exact⟨k+1,h,⟨rfl,rfl,au⟩,aV,⟨U,by rw[c];exact Y.tail⟩,U⟩
 have c:k=(bS t).length:=U;subst c;refine W ?_;exact bk (v:=h) rfl rfl ⟨h,rfl,Y⟩
structure TI (t:aa) (cs V:J) (g0:Int) (B:List Bool):Prop where
 len:B.length=aS t
 ok:∀ f:Int,0<=f->f<aS t->kZ B f=true->ZT (aZ t cs) V g0 f
 g:kZ B g0=true
def CV (cs:J)(B:List Bool)(a:uk):Prop:=0<=a.ba->cs.getD a.op.toNat O.dflt=0->kZ B a.dst=true->kZ B a.ba=true
structure Eo (t:aa) (cs z V:J) (g0:Int) (S:List Bool):Prop where
 len:S.length=aS t
 ok:∀ f:Int,0<=f->f<aS t->kZ S f=true->ZS (aZ t cs) z V g0 f
 st:∀ f,mb t.vars z f->kZ S f=true
def Bv (B S:List Bool)(a:uk):Prop:=(a.ba<0\/kZ S a.ba=true)->kZ B a.dst=false->kZ S a.dst=true
def û {vv:Value}{g0:Int}(hr:uK w0 q t a fv gv A lv us)(I:aC t)(hc:eu t cs)(hs:RS O w0 sv z)(bI:ab t.vars z)(_A:RS O w0 cv cs)(hv:RS O w0 vv V)(X':gE (aZ t cs) z V g0) :
  Calls aj 270 #[.pointer (some q),sv,cv,vv] w0 fun e w'=>∃ (kv:Value) (K:List Nat),e=.returned kv/\K.Pairwise (·<·)/\(∀ i:Nat,i∈K↔i<t.Z.length/\jc (aZ t cs) z V g0 i)/\M w0 w' [X O 3 kv (K.map fun i:Nat=>(i:Int))]:=by
 have _B:=hr;obtain⟨hb,_s,_t,_m,_u,_v,_w,hF⟩:=hr;have hN:=Af I;have _C:=I.Z;have _D:=hc.1;have _E:=bI.1;have _x:=I.vars;have _F:=Ae t.vars t.vars.length;have _G:(bS t).length<=64*t.Z.length:=Bp I (k:=t.Z.length) (cz _);have _y:V.length=aS t:=X'.hm.len;have hV:∀ g:Int,0<=g->g<aS t->0<=dg V g:=fun g D h1=>(X'.hm.dC g D h1).1;have _H:(aW t V).length<=(bS t).length:=Lo t V _;have _h:∀ f∈dz t,0<=f/\f<V.length:=fun f hf=>by
  obtain⟨x,hx,rfl⟩:=iQ.1 hf;obtain⟨i,L,e⟩:=fF hx;have ho:=(I.aG i L).1;rw[al L,e]at ho;have h1:=vC I.pos ho;have m:=tx I;omega
 have _z:iu V (dz t)=g0:=by
  rcases yT (V:=V) (l:=dz t) fun f hf=>(_h f hf).1 with ⟨e,_⟩|⟨_,h⟩
  ·have:=X'.g.1
   have e2:dz (aZ t cs)=dz t:=rfl;rw[e2,e]at this;exact absurd this fM
  exact CQ h X'.g
 have _a:=_h g0 X'.g.1;have j':∀ a∈(aW t V),(0<=a.dst/\a.dst<aS t)/\a.ba<aS t/\∃ op:Nat,a.op=(op:Int)/\op<t.Z.length:=fun a ha=>by
  obtain⟨_,_,_,_,_,_,_,h1,m,h3⟩:=HM (cs:=cs) I hV ha;exact⟨h1,m,h3⟩
 have Y:=M.start w0;refine bB ao Tryz.func270 ?_;refine W ?_;refine aU rfl (ú (⟨hb.at Y,_s.at Y,_t.at Y,_m.at Y,_u.at Y,_v.at Y,_w,hF.at Y⟩) I (hv.at Y) _y hV) ?_;rintro _ w' ⟨av,rfl,an⟩;replace Y:M w0 w' [X a8 367 av (aW t V)]:=Y.mu an;clear an;refine⟨_,rfl,?_⟩;refine lw ?_;clear Y;intro s w Y;obtain⟨tv,rfl⟩:=À s;rw[gY]at Y;have _g:(replicate (aS t) false).length=aS t:=np;refine W ?_;refine aU rfl (LF (_m.at Y) (hv.at Y) _h) ?_;rintro _ w' ⟨rfl,an⟩;refine aI ?_;clear an Y;intro Y;rw[_z];have _n:TI t cs V g0 ((replicate (aS t) false).set g0.toNat true):=by
  refine⟨by rw[gS];exact _g,fun f D h1 hb=>?_,by rw[yV _a.1 U _a.1,aP rfl]⟩;rw[yV _a.1 U D]at hb;by_cases e:f=g0
  ·rw[e];exact .aG
  rw[aH e,Su]at hb;cases hb
 refine eQ ?_;clear Y;intro w Y;refine dN [11,11,13,13,39,76] (G:=Bool) (H:=List Bool) (fun u _=>[(11,.bool u)]) (fun u B w=>TI t cs V g0 B/\(u=false->∀ i:Nat,i<(aW t V).length->CV cs B ((aW t V).getD i a8.dflt))/\M w0 w [X ah 4 tv B,X a8 367 av (aW t V)]) (fun u B=>2*mn B+(bif u then 1 else 0)) true _ (fun _ _=>rfl) ⟨rfl,au⟩ ⟨_n,(fun h=>by cases h),Y⟩ ?_;clear Y _n _g;rintro _I u B w ⟨hT,T',Y⟩;cases u;rotate_left
 ·clear T'
  refine W ?_;refine nE [11,11,13,13,42,76] (G:=Nat) (H:=Bool) (I':=List Bool) (fun k u _=>[(42,E k),(11,.bool u)]) (fun k u R w=>k<=(aW t V).length/\TI t cs V g0 R/\mn R<=mn B/\(u=true->mn R<mn B)/\(u=false->∀ i:Nat,i<k->CV cs R ((aW t V).getD i a8.dflt))/\M w0 w [X ah 4 tv R,X a8 367 av (aW t V)]) (fun k _ _=>(aW t V).length-k) 0 false B (fun _ _ _=>rfl) ⟨rfl,rfl,au⟩ ⟨br _,hT,cz _,(fun h=>by cases h),fun _ i L=>absurd L (dx _),Y⟩ ?_;clear Y;rintro _i k u R w ⟨hk,n,P',P,Q,Y⟩;have _o:=n.len;refine aA ?_ ?_<;>intro h3
  ·have R':k<(aW t V).length:=U
   have H':=cD a8.dflt R';obtain⟨d,J',op,_c,_b⟩:=j' _ H';by_cases p1:0<=((aW t V).getD k a8.dflt).ba;rotate_left
   ·have j:CV cs R ((aW t V).getD k a8.dflt):=fun h=>absurd h p1
    have o:decide (0<=((aW t V).getD k a8.dflt).ba)=false:=eA p1;refine c9 ?_;clear Y;intro p w Y
    try simp only[o];refine eG ?_
    refine W ?_;refine⟨k+1,u,R,⟨rfl,rfl,au⟩,aV,⟨U,n,P',P,fun r i L=>?_,Y.tail⟩,U⟩;by_cases e:i=k
    ·subst e;exact j
    exact Q r i U
   have o:decide (0<=((aW t V).getD k a8.dflt).ba)=true:=dY p1;by_cases N:cs.getD ((aW t V).getD k a8.dflt).op.toNat O.dflt=0;rotate_left
   ·have j:CV cs R ((aW t V).getD k a8.dflt):=fun _ h=>absurd h N
    have V':decide (cs.getD ((aW t V).getD k a8.dflt).op.toNat O.dflt=0)=false:=eA N;refine c9 ?_;clear Y;intro p w Y
    try simp only[o];refine eG ?_
    refine W ?_
    try simp only[V'];refine eG ?_
    refine W ?_;refine⟨k+1,u,R,⟨rfl,rfl,au⟩,aV,⟨U,n,P',P,fun r i L=>?_,Y.tail⟩,U⟩;by_cases e:i=k
    ·subst e;exact j
    exact Q r i U
   have V':decide (cs.getD ((aW t V).getD k a8.dflt).op.toNat O.dflt=0)=true:=dY N;cases p3:R.getD ((aW t V).getD k a8.dflt).dst.toNat ah.dflt
   ·have j:CV cs R ((aW t V).getD k a8.dflt):=fun _ _ h=>by
     have m:R.getD ((aW t V).getD k a8.dflt).dst.toNat ah.dflt=true:=h;rw[p3]at m;cases m
    refine c9 ?_;clear Y;intro p w Y
    try simp only[o];refine eG ?_
    refine W ?_
    try simp only[V'];refine eG ?_
    refine W ?_
    try simp only[p3];refine eG ?_
    refine W ?_;refine⟨k+1,u,R,⟨rfl,rfl,au⟩,aV,⟨U,n,P',P,fun r i L=>?_,Y.tail⟩,U⟩;by_cases e:i=k
    ·subst e;exact j
    exact Q r i U
   cases p4:R.getD ((aW t V).getD k a8.dflt).ba.toNat ah.dflt;rotate_left
   ·have j:CV cs R ((aW t V).getD k a8.dflt):=fun _ _ _=>p4
    refine c9 ?_;clear Y;intro p w Y
    try simp only[o];refine eG ?_
    refine W ?_
    try simp only[V'];refine eG ?_
    refine W ?_
    try simp only[p3];refine eG ?_
    refine W ?_
    try simp only[p4];refine eG ?_
    refine W ?_;refine⟨k+1,u,R,⟨rfl,rfl,au⟩,aV,⟨U,n,P',P,fun r i L=>?_,Y.tail⟩,U⟩;by_cases e:i=k
    ·subst e;exact j
    exact Q r i U
   have _f:=n.ok _ d.1 d.2 p3;have _d:=â I hV H' p1 N _f;have _e:TI t cs V g0 (R.set ((aW t V).getD k a8.dflt).ba.toNat true):=by
    refine⟨by rw[gS];exact _o,fun f D h1 hb=>?_,?_⟩
    ·rw[yV p1 U D]at hb
     by_cases e:f=((aW t V).getD k a8.dflt).ba
     ·rw[e];exact _d
     rw[aH e]at hb;exact n.ok f D h1 hb
    rw[yV p1 U _a.1];split
    ·rfl
    exact n.g
   have _p:=HO (B:=R) (i:=((aW t V).getD k a8.dflt).ba.toNat) U p4;refine c9 ?_;clear Y;intro p w Y
   try simp only[o];refine eG ?_
   refine W ?_
   try simp only[V'];refine eG ?_
   refine W ?_
   try simp only[p3];refine eG ?_
   refine W ?_
   try simp only[p4];refine eG ?_
   refine iC ?_;clear Y;intro w Y;exact⟨k+1,true,_,⟨rfl,rfl,au⟩,aV,⟨U,_e,U,fun _=>U,(fun h=>by cases h),Y.tail⟩,U⟩
  refine W ?_;refine⟨u,R,⟨rfl,au⟩,aV,⟨n,fun r i L=>Q r i U,Y⟩,?_⟩;cases u
  ·simp only[cond_true,cond_false];omega
  have:=P rfl;simp only[cond_true];omega
 have _q:=T' rfl;clear T'
 have _f:∀ f:Int,0<=f->f<aS t->(kZ B f=true↔ZT (aZ t cs) V g0 f):=fun f D h1=>⟨hT.ok f D h1,fun h=>by
  refine Fe (B:=fun f=>kZ B f=true) I hV hT.g (fun a ha m h3 h4=>?_) h;obtain⟨i,L,e⟩:=fF ha;have h5:=_q i L;rw[al L,e]at h5
  exact h5 m h3 h4⟩
 refine lw ?_;clear Y;intro s w Y;obtain⟨uv,rfl⟩:=À s;rw[gY]at Y;have _o:=hT.len;refine dN [15,16,84,100] (G:=Nat) (H:=List Bool) (fun k _=>[(84,E k)]) (fun k S w=>k<=t.vars.length/\S.length=aS t/\(∀ f:Int,0<=f->f<aS t->kZ S f=true->mb t.vars z f)/\(∀ v:Nat,v<k->kZ S (bC t.vars v+z.getD v O.dflt)=true)/\M w0 w [X ah 4 uv S,X ah 4 tv B,X a8 367 av (aW t V)]) (fun k _=>t.vars.length-k) 0 _ (fun _ _=>rfl) ⟨rfl,au⟩ ⟨br _,np,(fun f _ _ h=>by rw[Su]at h;cases h),fun v hv=>absurd hv (dx _),Y⟩ ?_;clear Y;rintro _J k S w ⟨hk,V',_i,_j,Y⟩;refine aA ?_ ?_<;>intro h4
 ·have R':k<t.vars.length:=U
  have _k:=yW I bI (f:=bC t.vars k+z.getD k O.dflt) ⟨k,R',rfl⟩;obtain⟨q0,q1,q2⟩:=CJ I.pos (fun i L=>(I.nt i L).2) _x R';have hz:=bI.2 k U;have hd:=I.nt k R';have R:=fun f (D:0<=f)=>yV (B:=S) (g:=f) _k.1 U D;have n1:∀ f:Int,0<=f->f<aS t->kZ (S.set (bC t.vars k+z.getD k O.dflt).toNat true) f=true->mb t.vars z f:=fun f D h1 hb=>by
   rw[R f D]at hb;by_cases e:f=bC t.vars k+z.getD k O.dflt
   ·exact⟨k,R',e⟩
   rw[aH e]at hb;exact _i f D h1 hb
  have n2:∀ v:Nat,v<k+1->kZ (S.set (bC t.vars k+z.getD k O.dflt).toNat true) (bC t.vars v+z.getD v O.dflt)=true:=fun v hv=>by
   have _l:v<t.vars.length:=U;rw[R _ (yW I bI (f:=bC t.vars v+z.getD v O.dflt) ⟨v,_l,rfl⟩).1];split
   ·rfl
   rename_i e
   exact _j v (by
    have:v≠k:=fun e2=>e (by rw[e2])
    omega)
  rw[<-q0]at n1 n2 _k q1 q2;refine eQ ?_;clear Y;intro w Y;refine⟨k+1,_,⟨rfl,au⟩,aV,⟨U,by rw[gS];exact V',n1,fun v hv=>?_,Y⟩,U⟩;exact n2 v hv
 have _k:k=t.vars.length:=U;subst _k
 have _r:Eo t cs z V g0 S:=⟨V',fun f D h1 hb=>.st (_i f D h1 hb),fun f hf=>by
  obtain⟨v,hv,rfl⟩:=hf
  exact _j v hv⟩
 clear _i _j V';refine W ?_;refine dN [17,17,19,19,101,138] (G:=Bool) (H:=List Bool) (fun u _=>[(17,.bool u)]) (fun u S w=>Eo t cs z V g0 S/\(u=false->∀ i:Nat,i<(aW t V).length->Bv B S ((aW t V).getD i a8.dflt))/\M w0 w [X ah 4 uv S,X ah 4 tv B,X a8 367 av (aW t V)]) (fun u S=>2*mn S+(bif u then 1 else 0)) true _ (fun _ _=>rfl) ⟨rfl,au⟩ ⟨_r,(fun h=>by cases h),Y⟩ ?_;clear Y _r S;rintro _K u S w ⟨hS,T',Y⟩;cases u;rotate_left
 ·clear T'
  refine W ?_;refine nE [17,17,19,19,104,138] (G:=Nat) (H:=Bool) (I':=List Bool) (fun k u _=>[(104,E k),(17,.bool u)]) (fun k u R w=>k<=(aW t V).length/\Eo t cs z V g0 R/\mn R<=mn S/\(u=true->mn R<mn S)/\(u=false->∀ i:Nat,i<k->Bv B R ((aW t V).getD i a8.dflt))/\M w0 w [X ah 4 uv R,X ah 4 tv B,X a8 367 av (aW t V)]) (fun k _ _=>(aW t V).length-k) 0 false S (fun _ _ _=>rfl) ⟨rfl,rfl,au⟩ ⟨br _,hS,cz _,(fun h=>by cases h),fun _ i L=>absurd L (dx _),Y⟩ ?_;clear Y;rintro _L k u R w ⟨hk,n,P',P,Q,Y⟩;have V':=n.len;refine aA ?_ ?_<;>intro h3
  ·have R':k<(aW t V).length:=U
   have H':=cD a8.dflt R';obtain⟨d,J',op,_c,_b⟩:=j' _ H';by_cases p1:((aW t V).getD k a8.dflt).ba<0
   ·have o:decide (((aW t V).getD k a8.dflt).ba<0)=true:=dY p1
    cases N:B.getD ((aW t V).getD k a8.dflt).dst.toNat ah.dflt;rotate_left
    ·have j:Bv B R ((aW t V).getD k a8.dflt):=fun _ h=>by
      have m:B.getD ((aW t V).getD k a8.dflt).dst.toNat ah.dflt=false:=h;rw[N]at m;cases m
     refine c9 ?_;clear Y;intro p w Y
     try simp only[o];refine eG ?_
     refine W ?_
     try simp only[N];refine eG ?_
     refine W ?_;refine⟨k+1,u,R,⟨rfl,rfl,au⟩,aV,⟨U,n,P',P,fun r i L=>?_,Y.tail⟩,U⟩;by_cases e:i=k
     ·subst e;exact j
     exact Q r i U
    cases p3:R.getD ((aW t V).getD k a8.dflt).dst.toNat ah.dflt;rotate_left
    ·have j:Bv B R ((aW t V).getD k a8.dflt):=fun _ _=>p3
     refine c9 ?_;clear Y;intro p w Y
     try simp only[o];refine eG ?_
     refine W ?_
     try simp only[N];refine eG ?_
     refine W ?_
     try simp only[p3];refine eG ?_
     refine W ?_;refine⟨k+1,u,R,⟨rfl,rfl,au⟩,aV,⟨U,n,P',P,fun r i L=>?_,Y.tail⟩,U⟩;by_cases e:i=k
     ·subst e;exact j
     exact Q r i U
    have _l:¬ZT (aZ t cs) V g0 ((aW t V).getD k a8.dflt).dst:=fun h=>by
     have m:B.getD ((aW t V).getD k a8.dflt).dst.toNat ah.dflt=true:=(_f _ d.1 d.2).2 h;rw[N]at m;cases m
    have _d:ZS (aZ t cs) z V g0 ((aW t V).getD k a8.dflt).dst:=Sr I hV H' (.inl p1) _l;have _e:Eo t cs z V g0 (R.set ((aW t V).getD k a8.dflt).dst.toNat true):=by
     refine⟨by rw[gS];exact V',fun f D h1 hb=>?_,fun f hf=>?_⟩
     ·rw[yV d.1 U D]at hb
      by_cases e:f=((aW t V).getD k a8.dflt).dst
      ·rw[e];exact _d
      rw[aH e]at hb;exact n.ok f D h1 hb
     rw[yV d.1 U (yW I bI hf).1];split
     ·rfl
     exact n.st f hf
    have _p:=HO (B:=R) (i:=((aW t V).getD k a8.dflt).dst.toNat) U p3;refine c9 ?_;clear Y;intro p w Y
    try simp only[o];refine eG ?_
    refine W ?_
    try simp only[N];refine eG ?_
    refine W ?_
    try simp only[p3];refine eG ?_
    refine iC ?_;clear Y;intro w Y;exact⟨k+1,true,_,⟨rfl,rfl,au⟩,aV,⟨U,_e,U,fun _=>U,(fun h=>by cases h),Y.tail⟩,U⟩
   have o:decide (((aW t V).getD k a8.dflt).ba<0)=false:=eA p1;cases p1b:R.getD ((aW t V).getD k a8.dflt).ba.toNat ah.dflt
   ·have j:Bv B R ((aW t V).getD k a8.dflt):=fun h=>by
     rcases h with h|h
     ·exact absurd h p1
     have m:R.getD ((aW t V).getD k a8.dflt).ba.toNat ah.dflt=true:=h;rw[p1b]at m;cases m
    refine c9 ?_;clear Y;intro p w Y
    try simp only[o];refine eG ?_
    refine W ?_
    try simp only[p1b];refine eG ?_
    refine W ?_;refine⟨k+1,u,R,⟨rfl,rfl,au⟩,aV,⟨U,n,P',P,fun r i L=>?_,Y.tail⟩,U⟩;by_cases e:i=k
    ·subst e;exact j
    exact Q r i U
   cases N:B.getD ((aW t V).getD k a8.dflt).dst.toNat ah.dflt;rotate_left
   ·have j:Bv B R ((aW t V).getD k a8.dflt):=fun _ h=>by
     have m:B.getD ((aW t V).getD k a8.dflt).dst.toNat ah.dflt=false:=h;rw[N]at m;cases m
    refine c9 ?_;clear Y;intro p w Y
    try simp only[o];refine eG ?_
    refine W ?_
    try simp only[p1b];refine eG ?_
    refine W ?_
    try simp only[N];refine eG ?_
    refine W ?_;refine⟨k+1,u,R,⟨rfl,rfl,au⟩,aV,⟨U,n,P',P,fun r i L=>?_,Y.tail⟩,U⟩;by_cases e:i=k
    ·subst e;exact j
    exact Q r i U
   cases p3:R.getD ((aW t V).getD k a8.dflt).dst.toNat ah.dflt;rotate_left
   ·have j:Bv B R ((aW t V).getD k a8.dflt):=fun _ _=>p3
    refine c9 ?_;clear Y;intro p w Y
    try simp only[o];refine eG ?_
    refine W ?_
    try simp only[p1b];refine eG ?_
    refine W ?_
    try simp only[N];refine eG ?_
    refine W ?_
    try simp only[p3];refine eG ?_
    refine W ?_;refine⟨k+1,u,R,⟨rfl,rfl,au⟩,aV,⟨U,n,P',P,fun r i L=>?_,Y.tail⟩,U⟩;by_cases e:i=k
    ·subst e;exact j
    exact Q r i U
   have _l:¬ZT (aZ t cs) V g0 ((aW t V).getD k a8.dflt).dst:=fun h=>by
    have m:B.getD ((aW t V).getD k a8.dflt).dst.toNat ah.dflt=true:=(_f _ d.1 d.2).2 h;rw[N]at m;cases m
   have _d:ZS (aZ t cs) z V g0 ((aW t V).getD k a8.dflt).dst:=Sr I hV H' (.inr (n.ok _ U J' p1b)) _l;have _e:Eo t cs z V g0 (R.set ((aW t V).getD k a8.dflt).dst.toNat true):=by
    refine⟨by rw[gS];exact V',fun f D h1 hb=>?_,fun f hf=>?_⟩
    ·rw[yV d.1 U D]at hb
     by_cases e:f=((aW t V).getD k a8.dflt).dst
     ·rw[e];exact _d
     rw[aH e]at hb;exact n.ok f D h1 hb
    rw[yV d.1 U (yW I bI hf).1];split
    ·rfl
    exact n.st f hf
   have _p:=HO (B:=R) (i:=((aW t V).getD k a8.dflt).dst.toNat) U p3;refine c9 ?_;clear Y;intro p w Y
   try simp only[o];refine eG ?_
   refine W ?_
   try simp only[p1b];refine eG ?_
   refine W ?_
   try simp only[N];refine eG ?_
   refine W ?_
   try simp only[p3];refine eG ?_
   refine iC ?_;clear Y;intro w Y;exact⟨k+1,true,_,⟨rfl,rfl,au⟩,aV,⟨U,_e,U,fun _=>U,(fun h=>by cases h),Y.tail⟩,U⟩
  refine W ?_;refine⟨u,R,⟨rfl,au⟩,aV,⟨n,fun r i L=>Q r i U,Y⟩,?_⟩;cases u
  ·simp only[cond_true,cond_false];omega
  have:=P rfl;simp only[cond_true];omega
 have R:=T' rfl;clear T'
 have P':∀ f:Int,0<=f->f<aS t->(kZ S f=true↔ZS (aZ t cs) z V g0 f):=fun f D h1=>⟨hS.ok f D h1,fun h=>by
  refine Ff (S:=fun f=>kZ S f=true) I hV hS.st (fun a ha m h3=>?_) h;obtain⟨i,L,e⟩:=fF ha;have h5:=R i L;rw[al L,e]at h5;refine h5 m ?_;cases j:kZ B a.dst
  ·rfl
  exact absurd ((_f _ (j' a ha).1.1 (j' a ha).1.2).1 j) h3⟩
 have V':=hS.len;replace Y:=Y.nil (T:=O) (e:=3);refine W ?_;refine nE [20,20,22,22,141,167] (G:=Nat) (H:=Value) (I':=J) (fun k b _=>[(141,E k),(20,b)]) (fun k b xs w=>k<=(aW t V).length/\xs.length<=k/\(∀ x:Int,x∈xs↔∃ i:Nat,i<k/\((aW t V).getD i a8.dflt).op=x/\(((aW t V).getD i a8.dflt).ba<0\/kZ S ((aW t V).getD i a8.dflt).ba=true)/\kZ B ((aW t V).getD i a8.dflt).dst=true)/\M w0 w [X O 3 b xs,X ah 4 uv S,X ah 4 tv B,X a8 367 av (aW t V)]) (fun k _ _=>(aW t V).length-k) 0 (nS) [] (fun _ _ _=>rfl) ⟨rfl,rfl,au⟩ ⟨br _,cz _,(fun x=>⟨fun h=>absurd h fM,fun⟨i,L,_⟩=>absurd L (dx _)⟩),Y⟩ ?_;clear Y;rintro _d k b xs w ⟨hk,_e,n,Y⟩;refine aA ?_ ?_<;>intro h3
 ·have R':k<(aW t V).length:=U
  have H':=cD a8.dflt R';obtain⟨d,J',op,_c,_b⟩:=j' _ H';have r:¬((((aW t V).getD k a8.dflt).ba<0\/kZ S ((aW t V).getD k a8.dflt).ba=true)/\kZ B ((aW t V).getD k a8.dflt).dst=true)->∀ x:Int,x∈xs↔∃ i:Nat,i<k+1/\((aW t V).getD i a8.dflt).op=x/\(((aW t V).getD i a8.dflt).ba<0\/kZ S ((aW t V).getD i a8.dflt).ba=true)/\kZ B ((aW t V).getD i a8.dflt).dst=true:=fun j x=>by
   rw[n x];constructor
   ·rintro⟨i,h1,m⟩;exact⟨i,U,m⟩
   rintro⟨i,h1,m⟩;by_cases e:i=k
   ·subst e;exact absurd m.2 j
   exact⟨i,U,m⟩
  have P:((((aW t V).getD k a8.dflt).ba<0\/kZ S ((aW t V).getD k a8.dflt).ba=true)/\kZ B ((aW t V).getD k a8.dflt).dst=true)->∀ x:Int,x∈xs++[((aW t V).getD k a8.dflt).op]↔∃ i:Nat,i<k+1/\((aW t V).getD i a8.dflt).op=x/\(((aW t V).getD i a8.dflt).ba<0\/kZ S ((aW t V).getD i a8.dflt).ba=true)/\kZ B ((aW t V).getD i a8.dflt).dst=true:=fun j x=>by
   rw[gK,n x,dp];constructor
   ·rintro (⟨i,h1,m⟩|h)
    ·exact⟨i,U,m⟩
    exact⟨k,U,h.symm,j⟩
   rintro⟨i,h1,m⟩;by_cases e:i=k
   ·subst e;exact .inr m.1.symm
   exact .inl ⟨i,U,m⟩
  by_cases p1:((aW t V).getD k a8.dflt).ba<0
  ·have o:decide (((aW t V).getD k a8.dflt).ba<0)=true:=dY p1
   cases N:B.getD ((aW t V).getD k a8.dflt).dst.toNat ah.dflt
   ·have j:=r fun h=>by
     have m:B.getD ((aW t V).getD k a8.dflt).dst.toNat ah.dflt=true:=h.2;rw[N]at m;cases m
    refine c9 ?_;clear Y;intro p w Y
    try simp only[o];refine eG ?_
    refine W ?_
    try simp only[N];refine eG ?_
    refine W ?_;exact⟨k+1,b,xs,⟨rfl,rfl,au⟩,aV,⟨U,U,j,Y.tail⟩,U⟩
   have j:=P ⟨.inl p1,N⟩;refine c9 ?_;clear Y;intro p w Y
   try simp only[o];refine eG ?_
   refine W ?_
   try simp only[N];refine eG ?_
   repeat (first|refine dB ?_|(refine fR ?_;clear Y;intro s w Y))
   obtain⟨Q,rfl⟩:=À s;exact⟨k+1,Q,_,⟨rfl,rfl,au⟩,aV,⟨U,by rw[length_append,tr];omega,j,Y.tail.tail⟩,U⟩
  have o:decide (((aW t V).getD k a8.dflt).ba<0)=false:=eA p1;cases p1b:S.getD ((aW t V).getD k a8.dflt).ba.toNat ah.dflt
  ·have j:=r fun h=>by
    rcases h.1 with h|h
    ·exact p1 h
    have m:S.getD ((aW t V).getD k a8.dflt).ba.toNat ah.dflt=true:=h;rw[p1b]at m;cases m
   refine c9 ?_;clear Y;intro p w Y
   try simp only[o];refine eG ?_
   refine W ?_
   try simp only[p1b];refine eG ?_
   refine W ?_;exact⟨k+1,b,xs,⟨rfl,rfl,au⟩,aV,⟨U,U,j,Y.tail⟩,U⟩
  cases N:B.getD ((aW t V).getD k a8.dflt).dst.toNat ah.dflt
  ·have j:=r fun h=>by
    have m:B.getD ((aW t V).getD k a8.dflt).dst.toNat ah.dflt=true:=h.2;rw[N]at m;cases m
   refine c9 ?_;clear Y;intro p w Y
   try simp only[o];refine eG ?_
   refine W ?_
   try simp only[p1b];refine eG ?_
   refine W ?_
   try simp only[N];refine eG ?_
   refine W ?_;exact⟨k+1,b,xs,⟨rfl,rfl,au⟩,aV,⟨U,U,j,Y.tail⟩,U⟩
  have j:=P ⟨.inr p1b,N⟩;refine c9 ?_;clear Y;intro p w Y
  try simp only[o];refine eG ?_
  refine W ?_
  try simp only[p1b];refine eG ?_
  refine W ?_
  try simp only[N];refine eG ?_
  repeat (first|refine dB ?_|(refine fR ?_;clear Y;intro s w Y))
  obtain⟨Q,rfl⟩:=À s;exact⟨k+1,Q,_,⟨rfl,rfl,au⟩,aV,⟨U,by rw[length_append,tr];omega,j,Y.tail.tail⟩,U⟩
 have _k:k=(aW t V).length:=U;subst _k;refine W ?_;refine aU rfl (Dm (s:=b) Y U) ?_;clear Y;rintro _ w ⟨rfl,Y⟩;refine⟨_,rfl,?_⟩;refine W ?_;refine aU rfl (Gj (s:=b) Y (by rw[Dz];omega)) ?_;clear Y;rintro _ w ⟨kv,rfl,Y⟩;refine⟨_,rfl,?_⟩;have o:∀ x:Int,x∈dt (fk xs)↔∃ i:Nat,x=(i:Int)/\i<t.Z.length/\jc (aZ t cs) z V g0 i:=fun x=>by
  rw[Dd,Gi,n x];constructor
  ·rintro⟨j,h1,m,h3,h4⟩
   have H':=cD a8.dflt h1;obtain⟨d,J',op,_c,_b⟩:=j' _ H';refine⟨op,by rw[<-m,_c],_b,(Ss I hV).2 ⟨_,H',_c,?_,(_f _ d.1 d.2).1 h4⟩⟩;by_cases D:((aW t V).getD j a8.dflt).ba<0
   ·exact .inl D
   rcases h3 with h|h
   ·exact .inl h
   exact .inr ((P' _ U J').1 h)
  rintro⟨i,rfl,Q,r⟩;obtain⟨a,ha,ho,N,hz⟩:=(Ss I hV).1 r;obtain⟨d,J',_⟩:=j' a ha;obtain⟨j,P,e⟩:=fF ha;refine⟨j,P,?_⟩;rw[al P,e];refine⟨ho,?_,(_f _ d.1 d.2).2 hz⟩;by_cases D:a.ba<0
  ·exact .inl D
  rcases N with h|h
  ·exact .inl h
  exact .inr ((P' _ U J').2 h)
 have d:∀ x∈dt (fk xs),((x.toNat:Nat):Int)=x:=fun x hx=>by
  obtain⟨i,e,_⟩:=(o x).1 hx;rw[e];rfl
 have j:((dt (fk xs)).map Int.toNat).map (fun i:Nat=>(i:Int))=dt (fk xs):=by
  rw[zz]
  conv=>rhs;rw[<-map_id (dt (fk xs))]
  exact xK fun x hx=>d x hx
 have r:=SE (JJ xs);refine W ?_;refine bk (v:=kv) rfl rfl ⟨kv,(dt (fk xs)).map Int.toNat,rfl,?_,fun i=>?_,?_⟩
 ·refine A5.2 (Jb (fun {x y} hx N P=>?_) r)
  have h1:=d x hx;have m:=d y N;omega
 ·rw[iQ]
  constructor
  ·rintro⟨x,hx,rfl⟩
   obtain⟨i,e,h1,m⟩:=(o x).1 hx;rw[e,gY];exact⟨h1,m⟩
  rintro⟨h1,m⟩;exact⟨(i:Int),(o _).2 ⟨i,rfl,h1,m⟩,rfl⟩
 rw[j];exact Y.only
structure il where
 Z:Value
 aO:Int
def bW:Ty il:=⟨2,fun x=>[x.Z,E x.aO],fun _=>rfl,⟨nS,0⟩⟩
instance Iy:nB bW:=⟨au⟩
def Bw (t:aa)(z cs:J)(L:List (List Nat × Int)):Prop:=∀ r,q7 t z cs r->q7 t z (am t) (r.map (L++·))
def Bw.zero:Bw t z (am t) []:=fun r h=>by
 have e:r.map (([]:List (List Nat × Int))++·)=r:=by cases r<;>rfl
 rw[e];exact h
def Bw.step {t:aa}{z cs V:J}{L:List (List Nat × Int)}{g0:Int}{K:List Nat}{c:Int}(h:Bw t z cs L)(h1:gV (aZ t cs) z V)(h2:0<cW t.vars t.aG V)(d:cW t.vars t.aG V<bD)(f:jx V (dz t) g0)(g:∀ i,i∈K↔i<t.Z.length/\jc (aZ t cs) z V g0 i)(j:K.Pairwise (·<·))(l:qf cs K c):Bw t z (jw cs K c) (L++[(K,c)]):=fun r m=>by
 have:=h _ (.step h1 h2 d f g j l m);have e:(r.map ((K,c)::·)).map (L++·)=r.map ((L++[(K,c)])++·):=by cases r<;>simp
 rw[e]at this;exact this
def rz (m x:Int):Int:=if x<m then x else m
def lX (cs:J)(m:Int)(K:List Nat):Int:=K.foldl (fun m i=>rz m (cs.getD i O.dflt)) m
def SF {cs:J}:∀ {K:List Nat}{m:Int},lX cs m K<=m/\(∀ i∈K,lX cs m K<=cs.getD i O.dflt)/\(lX cs m K=m\/∃ i∈K,cs.getD i O.dflt=lX cs m K)
 | [],m=>⟨du _,fun i c=>absurd c fM,.inl rfl⟩
 | x::K,m=>by
  obtain⟨h1,f,d⟩:=SF (cs:=cs) (K:=K) (m:=rz m (cs.getD x O.dflt));have e:lX cs m (x::K)=lX cs (rz m (cs.getD x O.dflt)) K:=rfl;have g:rz m (cs.getD x O.dflt)<=m/\rz m (cs.getD x O.dflt)<=cs.getD x O.dflt/\(rz m (cs.getD x O.dflt)=m\/rz m (cs.getD x O.dflt)=cs.getD x O.dflt):=by unfold rz;split<;>omega
  rw[e];refine⟨U,fun i c=>?_,?_⟩
  ·rcases dZ.1 c with e|c
   ·rw[e];omega
   exact f i c
  rcases d with d|⟨i,c,d⟩
  ·rcases g.2.2 with h|h
   ·exact .inl U
   exact .inr ⟨x,gA,U⟩
  exact .inr ⟨i,iR _ c,d⟩
def ü (h:eu t cs)(e:K≠[])(c:∀ i∈K,i<cs.length):qf cs K (lX cs 1048576 K):=by
 obtain⟨h1,f,d⟩:=SF (cs:=cs) (K:=K) (m:=1048576);refine⟨?_,f⟩;rcases d with d|⟨i,g,d⟩
 ·cases K with
  | nil=>exact absurd rfl e
  | cons x K =>
   have hx:=c x gA;have j:=h.2 _ (cD O.dflt hx);have l:=f x gA;exact⟨x,gA,hx,U⟩
 exact⟨i,g,c i g,d⟩
def SG (h:k<K.length):K.take (k+1)=K.take k++[K[k]]:=by rw[GP,kP h];rfl
def ý (cs:J)(c:Int):jw cs [] c=cs:=by
 unfold jw;refine iA sm fun i h1 d=>?_;rw[mL,qW,aH fM,al d]
def þ {c:Int}(hk:k<K.length)(m:K.Pairwise (·<·))(l:K[k]<cs.length):(jw cs (K.take k) c).set K[k] ((jw cs (K.take k) c).getD K[k] O.dflt-c)=jw cs (K.take (k+1)) c:=by
 have g:K[k]∉K.take k:=fun h=>by
  obtain⟨j,f,e⟩:=fF h;rw[jf]at f;rw[Dx]at e;have:=v7.1 m j k U hk U;omega
 rw[yQ l,aH g];refine iA (by rw[gS,Am,Am]) fun i h1 f=>?_;have j:i<cs.length:=by rw[Am]at f;exact f
 rw[<-al (d:=O.dflt) h1,<-al (d:=O.dflt) f,yQ j,SG hk];rw[St (by rw[Am];exact l)];by_cases e:i=K[k]
 ·rw[aP e,aP (gK.2 (.inr (dp.2 e))),e]
 rw[aH e,yQ j];by_cases h:i∈K.take k
 ·rw[aP h,aP (gK.2 (.inl h))]
 rw[aH h,aH fun f=>by
  rcases gK.1 f with f|f
  ·exact h f
  exact e (dp.1 f)]
def ÿ (c:∀ f∈dz t,0<=f/\0<=dg V f):jO V (dz t)=cW t.vars t.aG V:=by
 rw[Si c];unfold dz cW;rw[foldl_map]
def Yr (hr:uK w0 q t a fv gv A lv us)(I:aC t)(hs:RS O w0 sv z)(bI:ab t.vars z) :
  Calls aj 267 #[.pointer (some q),sv] w0 fun e w'=>(q7 t z (am t) none/\e=.returned (.tuple #[nS,bO 3])/\M w0 w' [])\/∃ b L cl,q7 t z (am t) (some L)/\e=.returned (.tuple #[b,.nilIface])/\cl.map il.aO=L.map Prod.snd/\(∀ x∈cl,x.Z.oneCell'=true)/\M w0 w' [X bW 361 b cl]:=by
 have _y:=hr;obtain⟨hb,V',_j,_a,J',_k,_l,hF⟩:=hr;have _z:=I.Z;have _b:∀ {w:World}{Γ:List HP},M w0 w Γ->uK w q t a fv gv A lv us:=fun Y=>⟨hb.at Y,V'.at Y,_j.at Y,_a.at Y,J'.at Y,_k.at Y,_l,hF.at Y⟩
 have D:∀ f∈dz t,0<=f/\f<aS t:=fun f hf=>by
  obtain⟨x,hx,rfl⟩:=iQ.1 hf;obtain⟨i,hi,e⟩:=fF hx;have d:=(I.aG i hi).1;rw[al hi,e]at d;have h1:=vC I.pos d;have h2:=tx I;omega
 have Y:=M.start w0;refine bB ao Tryz.func267 ?_;refine W ?_;refine aU rfl (yi (V'.at Y) (hs.at Y)) ?_;rintro _ w' ⟨⟨r,rfl,_m⟩,an⟩;refine aI ?_;clear an Y;intro Y;obtain rfl:r=true:=_m.2 bI;refine W ?_;refine aU rfl (nH (J'.at Y) (by rw[tB];omega)) ?_;rintro _ w' ⟨cv,rfl,an⟩;replace Y:M w0 w' [X O 3 cv (am t)]:=Y.mu an;clear an;refine⟨_,rfl,?_⟩;replace Y:=Y.nil (T:=bW) (e:=361);refine W ?_;refine cN [4,5,7,10,12,12,14,14,31,88] (G:=Value × J × List (List Nat × Int) × List il) (fun x=>[(7,x.1)]) (fun x w=>eu t x.2.1/\Bw t z x.2.1 x.2.2.1/\x.2.2.2.map il.aO=x.2.2.1.map Prod.snd/\(∀ y∈x.2.2.2,y.Z.oneCell'=true)/\x.2.2.2.length+fT x.2.1<=4294967296/\M w0 w [X bW 361 x.1 x.2.2.2,X O 3 cv x.2.1]) (fun x=>fT x.2.1) (nS,am t,[],[]) (fun _=>rfl) ⟨rfl,au⟩ ⟨Ee I,Bw.zero,rfl,(fun x hx=>absurd hx fM),?_,Y⟩ ?_
 ·have h3:=Sd (cs:=am t) (B:=1048576) fun x hx=>(zy I x hx).2
  have h4:(am t).length*1048576<=4096*1048576:=uF _ (by rw[tB];exact I.Z);show 0+fT (am t)<=4294967296;omega
 clear Y;rintro σ ⟨b,cs,L,cl⟩ w ⟨H,o,P',N,hlen,Y⟩;simp only at H o P' N hlen Y;have _c:=H.1;refine W ?_;refine aU rfl (ù (_b Y) I H (hs.at Y) bI (bm (s:=cv) Y)) ?_;rintro _ w' ⟨vv,V,rfl,g,an⟩;refine aL ?_;clear an Y;intro Y;have _A:V.length=aS t:=g.len;have _n:∀ f∈dz t,0<=f/\0<=dg V f:=fun f hf=>⟨(D f hf).1,(g.dC f (D f hf).1 (D f hf).2).1⟩
 have _o:=ÿ _n;have _B:=Ao t.vars t.aG V;have _C:cW t.vars t.aG V<=bD:=uY (yP I H) g;have _u:bD=1125899906842624:=rfl;refine W ?_;refine aU rfl (LG (_a.at Y) (bm (s:=vv) Y) fun f hf=>⟨(D f hf).1,by have:=(D f hf).2;omega⟩) ?_;rintro _ w' ⟨rfl,an⟩;refine aI ?_;clear an Y;intro Y;rw[_o];refine aA ?_ ?_<;>intro h1
 ·have d:=o _ (.qa g U)
  refine W ?_;exact cX (v:=nS) (v':=.iface 57 (E 3)) rfl rfl rfl (.inl ⟨d,by rw[dq dc],iY Y⟩)
 refine aA ?_ ?_<;>intro h2
 ·have d:=o _ (.done g h2)
  refine W ?_;exact cX (v:=b) (v':=.nilIface) rfl rfl rfl (.inr ⟨b,L,cl,by simpa using d,rfl,P',N,(Y.tail).only⟩)
 have Q:0<cW t.vars t.aG V:=U;have _d:cW t.vars t.aG V<bD:=U;have _e:dz t≠[]:=fun e=>by
  have:t.aG=[]:=by simpa [dz] using e
  rw[this]at Q;exact absurd Q (by simp[cW])
 obtain⟨g0,j'⟩:=CT (V:=V) _e;have X':=HK I bI H g Q _d j';refine W ?_;refine aU rfl (û (_b Y) I H (hs.at Y) bI (bm (s:=cv) Y) (bm (s:=vv) Y) X') ?_;rintro _ w' ⟨kv,K,rfl,u,hK,an⟩;refine aL ?_;clear an Y;intro Y;have P:∀ i∈K,i<cs.length:=fun i hi=>by rw[_c];exact((hK i).1 hi).1
 have _f:K≠[]:=fun e=>by
  obtain⟨i,h3,h4⟩:=Li X';have:=(hK i).2 ⟨h3,h4⟩;rw[e]at this;exact absurd this fM
 have d:=ü H _f P;have R':=Sf I H X' hK u d;have R:=(bm (s:=kv) Y).one;have _g:(K.map fun i:Nat=>(i:Int)).length=K.length:=iW _;refine W ?_;refine zA (v1:=kv) (v2:=E 1048576) rfl rfl rfl (by simp only[ew,eN,R];rfl) ?_;refine EP ?_;intro pc w Y;refine jH (n:=2) (p:=pc) (vs:=[kv,E 1048576]) rfl rfl Y inferInstance rfl rfl (by simp only[ew,eN,R];rfl) ?_;clear Y;intro w Y;obtain⟨KI,_h⟩:=À (K.map fun i:Nat=>(i:Int));rw[<-_h]at Y _g;have _D:K.length<=t.Z.length:=by
  have h1:=SH (l:=K) (m:=List.range t.Z.length) (u.imp fun h=>ne_of_lt h) fun i hi=>mem_range.2 ((hK i).1 hi).1;rw[length_range]at h1;exact h1
 have H':∀ k (h:k<K.length),KI.getD k O.dflt=(K[k]:Int):=fun k h=>by
  rw[_h,al (by rw[iW];exact h),mL]
 refine W ?_;refine cN [12,12,56,68] (G:=Nat) (fun k=>[(56,E k)]) (fun k w=>k<=K.length/\M w0 w [ak pc 361 [kv,E (lX cs 1048576 (K.take k))],X O 3 kv KI,X O 3 vv V,X bW 361 b cl,X O 3 cv cs]) (fun k=>K.length-k) 0 (fun _=>rfl) ⟨rfl,au⟩ ⟨br _,Y⟩ ?_;clear Y;rintro _E k w ⟨hk,Y⟩;refine aA ?_ ?_<;>intro h3
 ·have j:k<K.length:=U
  have T':=H' k j;have S:=P _ (wq j);have _i:lX cs 1048576 (K.take (k+1))=rz (lX cs 1048576 (K.take k)) (cs.getD K[k] O.dflt):=by rw[SG j];unfold lX;rw[tf];rfl
  refine W ?_;refine r5 ?_;clear Y;intro w Y;refine iC ?_;intro w Y;simp only[mM,mJ]at Y;rw[T',gY,show (if cs.getD K[k] O.dflt<lX cs 1048576 (K.take k) then cs.getD K[k] O.dflt else lX cs 1048576 (K.take k))=lX cs 1048576 (K.take (k+1)) from _i.symm]at Y;exact⟨k+1,⟨rfl,au⟩,aV,⟨U,Y⟩,U⟩
 have _p:k=K.length:=U;rw[_p,gH (cz _)]at Y;obtain⟨c,_q⟩:=À (lX cs 1048576 K);rw[<-_q]at Y d R';rw[<-ý cs c]at Y;have _v:=R'.pos;have _w:=R'.le;refine W ?_;refine cN [14,14,72,84] (G:=Nat) (fun k=>[(72,E k)]) (fun k w=>k<=K.length/\M w0 w [ak pc 361 [kv,E c],X O 3 kv KI,X O 3 vv V,X bW 361 b cl,X O 3 cv (jw cs (K.take k) c)]) (fun k=>K.length-k) 0 (fun _=>rfl) ⟨rfl,au⟩ ⟨br _,Y⟩ ?_;clear Y;rintro _F k w ⟨hk,Y⟩;refine aA ?_ ?_<;>intro h4
 ·have j:k<K.length:=U
  have T':=H' k j;have S:=P _ (wq j);have _G:=Am cs (K.take k) c;have _r:=þ (c:=c) j u S;have J':=H.2 _ (cD O.dflt S);have _s:=yQ (cs:=cs) (K:=K.take k) (c:=c) S;have _t : -1048576<=(jw cs (K.take k) c).getD K[k] O.dflt/\(jw cs (K.take k) c).getD K[k] O.dflt<=1048576:=by
   rw[_s];split<;>omega
  have _i:(KI.getD k O.dflt).toNat=K[k]:=by rw[T'];rfl
  have _x : -1048576<=(jw cs (K.take k) c).getD (KI.getD k O.dflt).toNat O.dflt/\(jw cs (K.take k) c).getD (KI.getD k O.dflt).toNat O.dflt<=1048576:=by rw[_i];exact _t
  refine W ?_;refine r5 ?_;clear Y;intro w Y;refine iC ?_;intro w Y;rw[_i,_r]at Y;exact⟨k+1,⟨rfl,au⟩,aV,⟨U,Y⟩,U⟩
 have j:k=K.length:=U;rw[j,gH (cz _)]at Y;have T':=Lk (fun x hx=>(H.2 x hx).1) U d;refine W ?_;refine jG bW (x1:=⟨kv,c⟩) rfl rfl rfl (fX rfl) (fb _) Y ?_;clear Y;intro so w Y;refine rV (s:=b) (s2:=so) inferInstance rfl rfl (bm Y) rfl rfl (fun x hx v hv=>?_) (by simp only[length_cons,length_nil];omega) (by unfold bT;simp only[length_cons,length_nil];omega) Y ?_
 ·rw[dp.1 hx]at hv
  simp only[bW,dZ,fM,pL]at hv;rcases hv with rfl|rfl
  ·exact R
  rfl
 clear Y;intro S w Y;refine W ?_
 exact⟨(S,jw cs K c,L++[(K,c)],cl++[⟨kv,c⟩]),⟨rfl,au⟩,aV,⟨Ed H d,o.step g Q _d j' hK u d,by simp[P'],fun x hx=>(by
  rcases gK.1 hx with hx|hx
  ·exact N x hx
  rw[dp.1 hx];exact R),by simp only[length_append,tr];omega,Y.bb⟩,by simp only;omega⟩
def kG (cs:List il)(C:List J)(w:World):Prop:=∀ i:Nat,i<C.length->RS O w (az bW cs i).Z (C.getD i [])
structure iG (w:World) (v:Value) (cs:List il) (C:List J):Prop where
 rs:RS bW w v cs
 len:cs.length=C.length
 Z:kG cs C w
def kG.at {w0 w:World}{Γ:List HP}{cs:List il}{C:List J}(h:kG cs C w0)(Y:M w0 w Γ):kG cs C w:=fun i c=>(h i c).at Y
def iG.at {w0 w:World}{Γ:List HP}{v:Value}{cs:List il}{C:List J}(h:iG w0 v cs C)(Y:M w0 w Γ):iG w v cs C:=⟨h.rs.at Y,h.len,h.Z.at Y⟩
def kG.fe {w:World}{cs:List il}{v:il}{c:J}(h:kG cs C w)(g:cs.length=C.length)(h2:RS O w v.Z c):kG (cs++[v]) (C++[c]) w:=fun i j=>by
 rw[length_append,tr]at j;by_cases e:i=C.length
 ·subst e
  have d:az bW (cs++[v]) C.length=v:=by rw[nr,List.getD,<-g,kp (cz _),rZ];rfl
  have f:(C++[c]).getD C.length []=c:=by rw[List.getD,kp (cz _),rZ];rfl
  rw[d,f];exact h2
 have d:az bW (cs++[v]) i=az bW cs i:=by rw[nr,nr,List.getD,js U];rfl
 have f:(C++[c]).getD i []=C.getD i []:=by rw[List.getD,js U];rfl
 rw[d,f];exact h i U
def Ā {c:Value}{n:Int}{X' K:J}(hx:RS O w0 c X')(f:dO w0 pc [kv,F])(hk:RS O w0 kv K) :
  Calls aj 282 #[.agg #[c,E n],.pointer (some pc)] w0 fun e w'=>(∃ r,e=.returned (.bool r)/\(r=true↔X'=K))/\M w0 w' []:=by
 have Y:=M.start w0;have g:=hx.one;refine bB ao Tryz.func282 ?_;refine vt ?_;refine tF ?_;refine yj (vs:=[c,E n]) rfl Y ?_;clear Y;intro h w Y;refine W ?_;refine aU rfl (Do (hx.at Y) (hk.at Y)) ?_;rintro _ w' ⟨⟨r,rfl,d⟩,an⟩;refine aI ?_;clear an Y;intro Y;refine W ?_;exact bk (v:=.bool r) rfl rfl ⟨⟨r,rfl,d⟩,iY Y⟩
def ā {cs:List il}{K:J}(i:iG w0 b cs C)(n:dO w0 pc [kv,F])(hk:RS O w0 kv K) :
  Calls aj 293 #[b,.func (.func 282) #[] #[.pointer (some pc)]] w0 fun e w'=>(∃ r:Int,e=.returned (E r)/\(0<=r↔K∈C))/\M w0 w' []:=by
 obtain⟨j,o,l⟩:=i;have u:=j.bT;have Y:=M.start w0;refine bB ao Tryz.func293 ?_;refine W ?_;refine cN [4,5,8,18] (G:=Nat) (fun k=>[(8,E k)]) (fun k w=>k<=cs.length/\K∉C.take k/\M w0 w []) (fun k=>cs.length-k) 0 (fun _=>rfl) ⟨rfl,au⟩ ⟨br _,sm,Y⟩ ?_;clear Y;rintro B k w ⟨x,c,Y⟩;refine aA ?_ ?_<;>intro h1
 ·have d:k<C.length:=U
  have f:=l k d;have g:=f.one;have m:(bW.enc (az bW cs k)).all Value.oneCell'=true:=by
   show ((az bW cs k).Z.oneCell' && ((Value.int .i64 (az bW cs k).aO).oneCell' && true))=true;rw[g];rfl
  refine W ?_;refine wr (cs:=[.pointer (some pc)]) rfl rfl (Ā (X':=C.getD k []) (f.at Y) (n.at Y) (hk.at Y)) ?_;rintro _ w' ⟨⟨r,rfl,i⟩,an⟩;refine aI ?_;clear an Y;intro Y;cases r
  ·have y:¬C.getD k []=K:=fun h=>by cases i.2 h
   refine W ?_;refine⟨k+1,⟨rfl,au⟩,aV,⟨U,fun hm=>?_,Y⟩,U⟩;rw[eD [] d]at hm;rcases gK.1 hm with hm|hm
   ·exact c hm
   exact y (dp.1 hm).symm
  refine W ?_;exact bk (v:=E k) rfl rfl ⟨⟨k,rfl,⟨fun _=>by rw[<-i.1 rfl];exact cD [] d,fun _=>U⟩⟩,Y⟩
 rw[gH U]at c;refine W ?_;exact bk (v:=E (-1)) rfl rfl ⟨⟨-1,rfl,⟨fun h=>U,fun h=>absurd h c⟩⟩,Y⟩
def Ă {cs:List il}{K:J}(c:iG w0 b cs C)(d:dO w0 pc [kv,F])(hk:RS O w0 kv K) :
  Calls aj 281 #[b,.func (.func 282) #[] #[.pointer (some pc)]] w0 fun e w'=>(∃ r,e=.returned (.bool r)/\(r=true↔K∈C))/\M w0 w' []:=by
 have Y:=M.start w0;refine bB ao Tryz.func281 ?_;refine W ?_;refine aU rfl (ā (c.at Y) (d.at Y) (hk.at Y)) ?_;rintro _ w' ⟨⟨r,rfl,c⟩,an⟩;refine aI ?_;clear an Y;intro Y;refine W ?_;exact bk (v:=.bool (decide (0<=r))) rfl rfl ⟨⟨_,rfl,by rw[gR];exact c⟩,Y⟩
def ă (x:Int) :
  Calls aj 295 #[E x] w0 fun e w'=>e=.returned (kj (yd x))/\M w0 w' []:=by
 have Y:=M.start w0;refine bB ao Tryz.func295 ?_;refine eB ?_;intro p w Y;exact Cl (p:=p) (vs:=[E x,E 1]) rfl rfl rfl (Y.gB 0 rfl) ⟨rfl,Y.bb⟩
def Ą (x:Int) :
  Calls aj 302 #[E x] w0 fun e w'=>(∃ r,e=.returned (.bool r)/\(r=true↔x<0\/1048576<x))/\M w0 w' []:=by
 have Y:=M.start w0;refine bB ao Tryz.func302 ?_;refine W ?_;exact bk (v:=.bool (decide (x<0) || decide (1048576<x))) rfl rfl ⟨⟨_,rfl,by rw[pO,gR,gR]⟩,Y⟩
def ą {n:Nat}(hk:k<C.length):rA n (C.drop k)=if C.getD k []=[] then 3 else if j9 n (C.getD k []) then rA n (C.drop (k+1)) else 2:=by
 rw[Dy [] hk]
 conv=>lhs;unfold rA
def OR {d:J}{cs:List il}(hc:RS O w0 cv d)(T:∀ x∈d,0<=x/\x<=1048576)(hC:iG w0 b cs C) :
  Calls aj 294 #[cv,b] w0 fun e w'=>e=.returned (bO (mO d.length C))/\M w0 w' []:=by
 obtain⟨T',V',j'⟩:=hC;have _a:=hc.bT;obtain⟨R,g⟩:=À (mO d.length C);rw[<-g];have Y:=M.start w0;refine bB ao Tryz.func294 ?_;refine W ?_;refine aU rfl (UB (f:=302) (cs:=[]) (P:=fun x=>x<0\/1048576<x) (hc.at Y) fun w Γ Y x hx=>Ą x) ?_;rintro _ w' ⟨⟨r,rfl,hr⟩,an⟩;refine aI ?_;clear an Y;intro Y;obtain rfl:r=false:=qX.2 fun h=>by
  obtain⟨x,hx,L⟩:=hr.1 h;have:=T x hx;omega
 refine W ?_;unfold mO at g;refine jy ?_ ?_<;>intro h5
 ·rw[aP U]at g
  refine W ?_;exact bk (v:=.iface 57 (E 5)) rfl rfl ⟨by rw[g,dq dc],iY Y⟩
 rw[aH U]at g;refine W ?_;refine cN [4,4,6,8,18,59] (G:=Nat) (fun k=>[(18,E k)]) (fun k w=>k<=cs.length/\R=rA d.length (C.drop k)/\M w0 w []) (fun k=>cs.length-k) 0 (fun _=>rfl) ⟨rfl,au⟩ ⟨br _,g,Y⟩ ?_;clear Y g;rintro σ k w ⟨hk,g,Y⟩;refine aA ?_ ?_<;>intro h1
 ·have _b:k<cs.length:=U
  have N:k<C.length:=U;have D:=j' k N;have Q:=D.one;have R':(bW.enc (az bW cs k)).all Value.oneCell'=true:=by
   show ((az bW cs k).Z.oneCell' && ((Value.int .i64 (az bW cs k).aO).oneCell' && true))=true;rw[Q];rfl
  have H':bW.enc (az bW cs k)=[(az bW cs k).Z,E (az bW cs k).aO]:=rfl;rw[ą N]at g;obtain⟨c,J'⟩:=À (C.getD k []);rw[<-J']at g D;have _c:=D.bT;refine lR ?_ ?_<;>intro p w Y L
  ·have j:c=[]:=Gy.1 U
   rw[aP j]at g;refine W ?_;exact bk (v:=.iface 57 (E 3)) rfl rfl ⟨by rw[g,dq dc],iY Y⟩
  have y:c≠[]:=fun h=>by rw[h]at L;simp at L
  refine W ?_;rw[H']at Y;obtain⟨p6,rfl⟩:=À p;refine cN [4,4,7,8,30,58] (G:=Nat) (fun i=>[(30,E i)]) (fun i w=>i<=c.length/\(∀ j,j<i->ul d.length c j)/\M w0 w [ak p6 361 [(az bW cs k).Z,E (az bW cs k).aO]]) (fun i=>c.length-i) 0 (fun _=>rfl) ⟨rfl,au⟩ ⟨br _,fun j S=>absurd S (dx _),Y⟩ ?_;clear Y;rintro _d i w ⟨hi,n,Y⟩;refine aA ?_ ?_<;>intro h3
  ·have P':i<c.length:=U
   have _e:∀ o,ul d.length c i↔(0<=c.getD i O.dflt/\c.getD i O.dflt<d.length/\(0<i->c.getD (i-1) O.dflt<c.getD i O.dflt)):=fun o:Unit=>xV;have l:¬ul d.length c i->¬j9 d.length c:=fun h L=>h (L i P');by_cases q1:c.getD i O.dflt<0
   ·have l:=l fun h=>by have:=h.1;omega
    have m:decide (c.getD i O.dflt<0)=true:=dY q1;refine W ?_
    try simp only[m];refine tH ?_
    have g:R=2:=by rw[g,aH y,aH l]
    refine W ?_;exact bk (v:=.iface 57 (E 2)) rfl rfl ⟨by rw[g,dq dc],iY Y⟩
   have m:decide (c.getD i O.dflt<0)=false:=eA q1;by_cases q2:(d.length:Int)<=c.getD i O.dflt
   ·have l:=l fun h=>by have:=h.2.1;omega
    have u:decide ((d.length:Int)<=c.getD i O.dflt)=true:=dY q2;refine W ?_
    try simp only[m,u];refine tH ?_
    have g:R=2:=by rw[g,aH y,aH l]
    refine W ?_;exact bk (v:=.iface 57 (E 2)) rfl rfl ⟨by rw[g,dq dc],iY Y⟩
   have u:decide ((d.length:Int)<=c.getD i O.dflt)=false:=eA q2;by_cases q3:0<i
   ·have B:decide ((0:Int)<(i:Int))=true:=dY U
    have ei:((i:Int)-1).toNat=i-1:=U;by_cases q4:c.getD i O.dflt<=c.getD (i-1) O.dflt
    ·have l:=l fun h=>by have:=h.2.2 q3;omega
     have H:decide (c.getD i O.dflt<=c.getD (i-1) O.dflt)=true:=dY q4;refine W ?_
     try simp only[m,u,B];refine tH ?_
     refine W ?_
     try simp only[ei,H];refine tH ?_
     have g:R=2:=by rw[g,aH y,aH l]
     refine W ?_;exact bk (v:=.iface 57 (E 2)) rfl rfl ⟨by rw[g,dq dc],iY Y⟩
    have H:decide (c.getD i O.dflt<=c.getD (i-1) O.dflt)=false:=eA q4;refine W ?_
    try simp only[m,u,B];refine tH ?_
    refine W ?_
    try simp only[ei,H];refine tH ?_
    refine W ?_;refine⟨i+1,⟨rfl,au⟩,aV,⟨U,fun j S=>?_,Y⟩,U⟩;by_cases e:j=i
    ·rw[e];exact⟨U,U,fun _=>U⟩
    exact n j U
   have B:decide ((0:Int)<(i:Int))=false:=eA U;refine W ?_
   try simp only[m,u,B];refine tH ?_
   refine W ?_;refine⟨i+1,⟨rfl,au⟩,aV,⟨U,fun j S=>?_,Y⟩,U⟩;by_cases e:j=i
   ·rw[e];exact⟨U,U,fun h=>absurd h q3⟩
   exact n j U
  have bI:j9 d.length c:=fun j S=>n j U;rw[aH y,aP bI]at g;refine W ?_;exact⟨k+1,⟨rfl,au⟩,aV,⟨U,g,iY Y⟩,U⟩
 rw[qz U]at g;refine W ?_;exact bk (v:=.nilIface) rfl rfl ⟨by rw[g,rA,gy rfl],Y⟩
end Go.Proofs.YtmapkjoefdgjfaaGreatDoor
