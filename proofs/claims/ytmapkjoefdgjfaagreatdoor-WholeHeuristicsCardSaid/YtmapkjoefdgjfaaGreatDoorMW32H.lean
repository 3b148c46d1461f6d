/- Several texts. -/
import Derived.Test.YtmapkjoefdgjfaaGreatDoorMW31H
set_option linter.unusedSimpArgs false
set_option linter.unusedVariables false
set_option linter.defProp false
set_option maxRecDepth 8000
set_option maxHeartbeats 16000000
open List Nat
namespace Go.Proofs.YtmapkjoefdgjfaaGreatDoor
open Go.Sl
variable {t:aa}{w0:World}
section
open Go.Sl
def Z2 {n:Nat}(a:n<=4):(sH n 1).length+(sH n 2).length<=12:=by
 have:n=0\/n=1\/n=2\/n=3\/n=4:=U;rcases this with rfl|rfl|rfl|rfl|rfl<;>decide
def Z3 (hv:t.vars.length<=4):(dx t 2).length<=12:=by
 have e:fA 2=2:=dc;have h1:=DI (t:=t) 1;have a:=DI (t:=t) 2;have b:=Z2 hv;unfold dx;rw[e,QN,jC,length_append];omega
def Z4 (a:fx t)(hv:t.vars.length<=4):jb t (dx t 2) :=
 ⟨a,D1 t 2,fun _ b=>Aa b,fun _ b=>uJ (D2 a.dJ.pos (Aa b)) a.many,fun _=>Z5 (Z3 hv)⟩
end
section
open Go.Sl Go
attribute [local irreducible] vc opsW opsD opV opW PureV ReadV Thn Blk
structure Dq (t:aa) (ps:List (Option Addr)) (Gs:List (J->Int)):Prop where
 pl:ps.length=9
 gl:Gs.length=9
 Ft:∀ G∈Gs,sY t G
 cons:∀ k:Nat,k∈[0,1,6,7,8]->vw t (Gs.getD k fun _=>0)
def nine {P:Nat->Prop}(a:P 0)(h1:P 1)(h2:P 2)(b:P 3)(c:P 4)(d:P 5)(e:P 6)(f:P 7)(g:P 8):∀ k,k<9->P k
 | 0,_=>a
 | 1,_=>h1
 | 2,_=>h2
 | 3,_=>b
 | 4,_=>c
 | 5,_=>d
 | 6,_=>e
 | 7,_=>f
 | 8,_=>g
 | k+9,h=>absurd h U
def Zs {a b c d:Value}{vs:List kq}(u:bR w0 a b c d vs t)(y:fx t)(hv:t.vars.length<=4)(hT:nF w0)(hB:nc w0) :
  Calls ak 10 #[.agg #[a,b,c,d]] w0 fun e w'=>∃ v ps Gs,e=.returned (.tuple #[v,.bool true])/\Dq t ps Gs/\Z w0 w' [X aA 36 v (ps.map Value.pointer),bA (fun w=>ig w ps t Gs)]:=by
 have I:=y.dJ;have Y:=Z.start w0;refine bI ar Tryz.func10 ?_;refine dj ?_;intro pt w Y;refine aR rfl (XD (u.at Y) I) ?_;rintro _ w' ⟨g,rfl,aw⟩;refine aO ?_;clear aw Y;intro Y;refine O ?_;refine aR rfl (Rz (u.at Y) I) ?_;rintro _ w' ⟨i,rfl,aw⟩;refine aO ?_;clear aw Y;intro Y;refine O ?_;refine aR rfl (RA (u.at Y) I) ?_;rintro _ w' ⟨j,rfl,aw⟩;refine aO ?_;clear aw Y;intro Y;refine O ?_;refine aR rfl (LO (kind:=1) (fun _=>LP) (u.at Y) I) ?_;rintro _ w' f;rcases f with ⟨A,_⟩|⟨l,_,rfl,aw⟩
 ·omega
 refine aO ?_;clear aw Y;intro Y;refine O ?_;refine aR rfl (LO (kind:=2) (fun _=>LP) (u.at Y) I) ?_;rintro _ w' f;rcases f with ⟨A,_⟩|⟨m,_,rfl,aw⟩
 ·omega
 refine aO ?_;clear aw Y;intro Y;refine O ?_;refine aR rfl (LO (kind:=3) (fun _=>LP) (u.at Y) I) ?_;rintro _ w' f;rcases f with ⟨A,_⟩|⟨n,_,rfl,aw⟩
 ·omega
 refine aO ?_;clear aw Y;intro Y;refine O ?_;refine aR rfl (Z6 (size:=2) (u.at Y) y (hB.at Y)) ?_;rintro _ w' f;rcases f with ⟨hE,_⟩|⟨o,P,Q,rfl,B,aw⟩
 ·have:=(Z4 y hv).GQ;omega
 refine aO ?_;clear aw Y;intro Y;have C:=Z7 B;have D:=B.cons;obtain⟨F,R⟩:=À (lZ t (dx t 2) P Q);rw[<-R]at Y C D;refine O ?_;refine aR rfl (Z8 (size:=2) (u.at Y) y) ?_;rintro _ w' ⟨q,Ds,Ps,rfl,x,aw⟩;refine aO ?_;clear aw Y;intro Y;have H:=Z9 (RB y x);have K:=(RB y x).cons;obtain⟨L,S⟩:=À (l5 t (dx t 2) Ds);rw[<-S]at Y H K;refine O ?_;refine aR rfl (Á (M':=20) (u.at Y) I (hT.at Y)) ?_;rintro _ w' f;have z:=Â y;rcases f with ⟨hE,_⟩|⟨_,r,rfl,aw⟩
 ·exact absurd z hE
 refine aO ?_;clear aw Y;intro Y;refine O ?_;refine D3 (T:=aA) ([some g,some i,some j,some l,some m,some n,some o,some q,some r].map Value.pointer) ([some g,some i,some j,some l,some m,some n,some o,some q,some r].map Value.pointer) rfl rfl rfl rfl rfl dc dc dc Y ?_;clear Y;intro N w Y;refine O ?_;have V:Z w0 w [X aA 36 N ([some g,some i,some j,some l,some m,some n,some o,some q,some r].map Value.pointer),bA (fun w=>cF w r t (oQ t 20)),bA (fun w=>cF w q t L),bA (fun w=>cF w o t F),bA (fun w=>cF w n t (gC t 3)),bA (fun w=>cF w m t (gC t 2)),bA (fun w=>cF w l t (gC t 1)),bA (fun w=>cF w j t (pX t)),bA (fun w=>cF w i t (dC t)),bA (fun w=>cF w g t (cX t)),am pt 26 [a,b,c,d]]:=Y;have j':Z w0 w [bA (fun w=>cF w r t (oQ t 20)),bA (fun w=>cF w q t L),bA (fun w=>cF w o t F),bA (fun w=>cF w n t (gC t 3)),bA (fun w=>cF w m t (gC t 2)),bA (fun w=>cF w l t (gC t 1)),bA (fun w=>cF w j t (pX t)),bA (fun w=>cF w i t (dC t)),bA (fun w=>cF w g t (cX t)),X aA 36 N ([some g,some i,some j,some l,some m,some n,some o,some q,some r].map Value.pointer)]:=V.bj;have H':=Z.rd (Δ:=[bA (fun w=>cF w r t (oQ t 20)),bA (fun w=>cF w q t L),bA (fun w=>cF w o t F),bA (fun w=>cF w n t (gC t 3)),bA (fun w=>cF w m t (gC t 2)),bA (fun w=>cF w l t (gC t 1)),bA (fun w=>cF w j t (pX t)),bA (fun w=>cF w i t (dC t)),bA (fun w=>cF w g t (cX t))]) (φ:=fun w=>ig w [some g,some i,some j,some l,some m,some n,some o,some q,some r] t [cX t,dC t,pX t,gC t 1,gC t 2,gC t 3,F,L,oQ t 20]) (fun _ w h=>nine ⟨g,rfl,h.dQ 8 rfl⟩ ⟨i,rfl,h.dQ 7 rfl⟩ ⟨j,rfl,h.dQ 6 rfl⟩ ⟨l,rfl,h.dQ 5 rfl⟩ ⟨m,rfl,h.dQ 4 rfl⟩ ⟨n,rfl,h.dQ 3 rfl⟩ ⟨o,rfl,h.dQ 2 rfl⟩ ⟨q,rfl,h.dQ 1 rfl⟩ ⟨r,rfl,h.dQ 0 rfl⟩) j'
 refine dw (v:=N) (v':=.bool true) rfl rfl rfl ⟨N,[some g,some i,some j,some l,some m,some n,some o,some q,some r],[cX t,dC t,pX t,gC t 1,gC t 2,gC t 3,F,L,oQ t 20],rfl,⟨rfl,rfl,fun G hG=>?_,fun k hk=>?_⟩,H'.bj⟩
 ·simp only[gT,jd,pQ]at hG
  rcases hG with rfl|rfl|rfl|rfl|rfl|rfl|rfl|rfl|rfl
  ·exact Ã I
  ·exact Ä I
  ·exact Å I
  ·exact LQ I 1 (.inl rfl)
  ·exact LQ I 2 (.inr (.inl rfl))
  ·exact LQ I 3 (.inr (.inr (Xs I)))
  ·exact C
  ·exact H
  exact Æ I z
 simp only[gT,jd,pQ]at hk;rcases hk with rfl|rfl|rfl|rfl|rfl
 ·exact XH I
 ·exact Ç I
 ·exact D
 ·exact K
 exact(RC I z).2.1
def Zr {a b c d:Value}{vs:List kq}(B:bR w0 a b c d vs t) :
  Calls ak 7 #[.agg #[a,b,c,d]] w0 fun e w'=>(∃ r,e=.returned (.bool r)/\(r=true->fx t))/\Z w0 w' []:=by
 have q:=B;obtain⟨F,hb,hc,u⟩:=B;have x:=u.rs;have K:=u.len;have L:=F.cn;have N:=x.cn;have Y:=Z.start w0;refine bI ar Tryz.func7 ?_;refine dj ?_;intro o w Y;refine aR rfl (È (q.at Y)) ?_;rintro _ w' ⟨⟨r,rfl,P⟩,aw⟩;refine aL ?_;clear aw Y;intro Y;cases r
 ·refine O ?_
  exact bo (v:=.bool false) rfl rfl ⟨⟨false,rfl,fun h=>by cases h⟩,iH Y⟩
 have Q:=P.1 rfl;refine O ?_;refine de [2,2,4,4,16,26] (G:=Nat) (fun k=>[(16,E k)]) (fun k w=>k<=t.vars.length/\Z w0 w [am o 26 [a,b,c,d]]) (fun k=>t.vars.length-k) 0 (fun _=>rfl) ⟨rfl,az⟩ ⟨bC _,Y⟩ ?_;clear Y;rintro σ k w ⟨hk,Y⟩;refine aC ?_ ?_<;>intro h1
 ·have g:k<t.vars.length:=U
  refine aC ?_ ?_<;>intro f
  ·refine O ?_
   exact bo (v:=.bool false) rfl rfl ⟨⟨false,rfl,fun h=>by cases h⟩,iH Y⟩
  refine O ?_;exact⟨k+1,⟨rfl,az⟩,aX,⟨U,Y⟩,U⟩
 refine O ?_;refine de [2,2,6,7,9,9,30,54] (G:=Nat) (fun k=>[(30,E k)]) (fun k w=>k<=t.M.length/\Z w0 w [am o 26 [a,b,c,d]]) (fun k=>t.M.length-k) 0 (fun _=>rfl) ⟨rfl,az⟩ ⟨bC _,Y⟩ ?_;clear Y;rintro R k w ⟨hk,Y⟩;refine aC ?_ ?_<;>intro h3
 ·have g:k<t.M.length:=U
  have j:=u.eI k g;have C:=j.one;obtain⟨es,f⟩:=j.aQ;have l:=f.rs;have S:=f.len;have T:=l.cn;refine ep ?_;intro D w Y;have Y:Z w0 w [am D 44 (cN.enc (aB cN vs k)),am o 26 [a,b,c,d]]:=Y;refine dP [2,2,7,7,9,9,37,51] (G:=Nat) (H:=Nat) (fun i m=>[(37,E i),(7,E m)]) (fun i m w=>i<=(t.M.getD k bz).aQ.length/\m<=i/\Z w0 w [am D 44 (cN.enc (aB cN vs k)),am o 26 [a,b,c,d]]) (fun i _=>(t.M.getD k bz).aQ.length-i) 0 0 (fun _ _=>rfl) ⟨rfl,rfl,az⟩ ⟨bC _,cP _,Y⟩ ?_;clear Y;rintro V i m w ⟨hi,hm,Y⟩;refine aC ?_ ?_<;>intro h4
  ·have y:i<(t.M.getD k bz).aQ.length:=U
   have n:=f.eI i y;have z:=n.one;have A:=n.cb;have j':=A.cn;refine lE ?_ ?_<;>intro p w Y h5
   ·refine O ?_
    exact bo (v:=.bool false) rfl rfl ⟨⟨false,rfl,fun h=>by cases h⟩,iH Y⟩
   refine aC ?_ ?_<;>intro h6
   ·refine O ?_
    exact⟨i+1,m+1,⟨rfl,rfl,az⟩,aX,⟨U,U,Y.tail⟩,U⟩
   refine O ?_;exact⟨i+1,m,⟨rfl,rfl,az⟩,aX,⟨U,U,Y.tail⟩,U⟩
  refine aC ?_ ?_<;>intro n
  ·refine O ?_
   exact bo (v:=.bool false) rfl rfl ⟨⟨false,rfl,fun h=>by cases h⟩,iH Y⟩
  refine O ?_;exact⟨k+1,⟨rfl,az⟩,aX,⟨U,Y.tail⟩,U⟩
 refine O ?_;exact bo (v:=.bool true) rfl rfl ⟨⟨true,rfl,fun _=>Q⟩,iH Y⟩

def fH:aa:=⟨[2],[0],[⟨0,1⟩],[⟨ByteArray.empty,2,[],[⟨[],0,1⟩]⟩]⟩
def Ab:aJ fH:=by
 refine⟨dc,dc,dc,dc,dc,fun i a=>?_⟩;have b:i=0:=by simp[fH]at a;omega
 subst b;refine⟨dc,dc,dc,⟨fP rfl,fun i a=>absurd a (eo _)⟩,dc,fun j c=>?_⟩;have h1:j=0:=by simp[fH]at c;omega
 subst h1;exact⟨dc,dc⟩
def RD:cz fH=[⟨0,0,2,1,[]⟩]:=rfl
def BZ:aZ fH=2:=rfl
def RE:iL fH [0] [0,2]:=by
 have b:oH fH.vars [0] 0:=⟨0,dc,rfl⟩
 refine RF dc (fun g e h1=>?_) (wk Ab) (fun g I=>?_) (fun i c=>?_) (fun g e h1 f=>?_)
 ·rw[BZ]at h1
  have a:g=0\/g=1:=U;rcases a with rfl|rfl<;>decide
 ·obtain⟨v,hv,rfl⟩:=I
  have:v=0:=by simp[fH]at hv;exact hv
  subst this;decide
 ·rw[RD]at c ⊢
  have a:i=0:=by simp at c;omega
  subst a;decide
 rw[BZ]at h1;have d0:lC (cz fH) (oH fH.vars [0]) 0 0:=.start b;have d1:lC (cz fH) (oH fH.vars [0]) 1 2:=.kg (i:=0) (v:=fun _=>0) (m:=0) dc dc (fun n d=>by rw[RD]at d;exact absurd d jd) (fun _ _=>iq _);have a:g=0\/g=1:=U;rcases a with rfl|rfl
 ·exact d0
 exact d1
def Bm:aj fH.vars [0]:=dc
def G8:kS fH (dC fH) [0]=2:=by unfold kS;rw[ba Bm,yf Bm RE];decide
def G9:kS fH (pX fH) [0]=2:=by
 unfold kS;rw[ba Bm];obtain⟨r,h⟩:=LR Ab Bm;have i:mg fH (cD fH [0] 0) [] 0:=.aF dc;have v:mg fH [0] [((0:Nat):Int)] (oF fH 0+0):=.step (op:=0) dc dc i;have fh:=RG Ab v;have he:=ur Bm h;rw[he]at fh ⊢;have y:oF fH 0+0=2:=dc;rw[y]at fh;have k:dy fH.vars fH.aF [0,2]=2:=dc;have key:∀ V,iL (bk fH (ao fH)) [0] V->dy fH.vars fH.aF V=2:=fun V b=>by
  rw[RH Ab]at b;rw[<-yf Bm b,yf Bm RE,k]
 have d:=D4 Ab;have f:(ao fH).getD 0 W.dflt=2:=dc;obtain⟨cs,m⟩:=À (ao fH);rw[<-m]at h key d f;clear he
 cases h with
 | qR b z=>exact absurd fh.1 dc
 | done b z=>have:=key _ b;omega
 | @step _ V g0 K c A b B C n D u a o =>
  have x:=Fv Ab Bm d b B C n;obtain⟨j,F,g⟩:=a.1;have q:j=0:=by
   have:=((D j).1 F).1;have e:fH.M.length=1:=rfl;omega
  subst q;rw[f]at g;have G:=g.2
  cases A with
  | none=>exact absurd fh.1 (Int.lt_irrefl bZ)
  | some l =>
   have h1:=(RJ Ab o (D5 d a) l rfl).1;have H:yN (Option.map ((K,c)::·) (some l))=c+ng l:=rfl;rw[H]at fh ⊢;omega
def Fo :
  Calls ak 9 #[] w0 fun e w'=>e=.returned (.bool true)/\Z w0 w' []:=by
 have Y:=Z.start w0;refine bI ar Tryz.func9 ?_
 repeat (first|refine dS ?_|(refine gA ?_;clear Y;intro s w Y))
 obtain⟨a,rfl⟩:=À s;refine jA aD (x1:=⟨0,1⟩) rfl rfl rfl (fP rfl) (fg _) Y ?_;clear Y;intro b w Y;obtain⟨c,rfl⟩:=À s;refine O ?_;refine jA bm (x1:=⟨nS,0,1⟩) rfl rfl rfl (fP rfl) (fg _) Y ?_;clear Y;intro d w Y;have x:=(Y.rs 0 rfl).one;refine zr (v1:=E 2) (v2:=d) rfl rfl rfl (by simp only[fo,fB,x];rfl) ?_;refine jA cN (x1:=⟨ByteArray.empty,2,nS,d⟩) rfl rfl rfl (fP rfl) (fg _) Y ?_;clear Y;intro so w Y;have m:=(Y.rs 0 rfl).one;have o:=(Y.rs 2 rfl).one;have q:=(Y.rs 3 rfl).one;have r:=(Y.rs 4 rfl).one;refine mq (parts:=[(0,.tmp 6),(1,.tmp 7),(2,.tmp 9),(3,.tmp 13)]) (vs:=[(0,c),(1,a),(2,b),(3,so)]) rfl rfl (by simp only[fo,fB,m,o,q,r];rfl) ?_;refine H2 ?_;clear Y;intro k w Y;refine lm (n:=4) (p:=k) (vs:=[c,a,b,so]) rfl rfl Y inferInstance rfl rfl (by simp only[fo,fB,m,o,q,r];rfl) ?_;clear Y;intro w Y;have f:Z w0 w [X cN 44 so [⟨ByteArray.empty,2,nS,d⟩],X bm 61 d [⟨nS,0,1⟩],X aD 63 b [⟨0,1⟩],X W 3 a [0],X W 3 c [2],am k 26 [c,a,b,so]]:=by
  have g:Z w0 w [am k 26 [c,a,b,so],X cN 44 so [⟨ByteArray.empty,2,nS,d⟩],X bm 61 d [⟨nS,0,1⟩],X aD 63 b [⟨0,1⟩],X W 3 a [0],X W 3 c [2]]:=Y;exact g.bj
 have g:=Z.rd (Δ:=[X cN 44 so [⟨ByteArray.empty,2,nS,d⟩],X bm 61 d [⟨nS,0,1⟩],X aD 63 b [⟨0,1⟩],X W 3 a [0],X W 3 c [2]]) (φ:=fun w=>bR w c a b so [⟨ByteArray.empty,2,nS,d⟩] fH) (fun _ w h=>⟨h.rs 4 rfl,h.rs 3 rfl,h.rs 2 rfl,⟨h.rs 0 rfl,rfl,fun i y=>by
  have l:i=0:=by simp[fH]at y;omega
  subst l;rw[oz];refine⟨rfl,fP rfl,rfl,RS.nil,[⟨nS,0,1⟩],h.rs 1 rfl,rfl,fun j u=>?_⟩;have l:j=0:=by simp[fH]at u;exact u
  subst l;rw[oz]
  exact⟨rfl,rfl,RS.nil⟩⟩⟩) f
 clear Y f;have Y:Z w0 w [bA (fun w=>bR w c a b so [⟨ByteArray.empty,2,nS,d⟩] fH),am k 26 [c,a,b,so]]:=g;clear g;refine O ?_;refine aR rfl (Rz (Y.dQ 0 rfl) Ab) ?_;rintro _ w' ⟨j,rfl,aw⟩;refine aO ?_;clear aw Y;intro Y;refine O ?_;refine aR rfl (RA (Y.dQ 1 rfl) Ab) ?_;rintro _ w' ⟨l,rfl,aw⟩;refine aO ?_;clear aw Y;intro Y;refine qJ ?_;intro s w Y;refine aR rfl (DX (Y.dQ 2 rfl) (bB (s:=s) Y)) ?_;refine gk ?_;clear Y;intro w' Y;rw[G8];refine qJ ?_;intro s w Y;refine aR rfl (DX (Y.dQ 2 rfl) (bB (s:=s) Y)) ?_;refine gk ?_;clear Y;intro w' Y;rw[G9];refine O ?_;exact bo (v:=.bool true) rfl rfl ⟨rfl,iH Y⟩
def Zx {p:Addr}{H:J->Int}{sv:Value}{s:J}(he:cF w0 p t H)(a:RS W w0 sv s) :
  Calls ak 16 #[.pointer (some p),sv] w0 fun e w'=>e=.returned (.bool (decide (kS t H s=bZ)))/\Z w0 w' []:=by
 have Y:=Z.start w0;refine bI ar Tryz.func16 ?_;refine O ?_;refine aR rfl (DX (he.at Y) (a.at Y)) ?_;rintro _ w' ⟨rfl,aw⟩;refine aL ?_;clear aw Y;intro Y;refine O ?_;exact bo (v:=.bool (decide (kS t H s=bZ))) rfl rfl ⟨rfl,Y⟩
end
end Go.Proofs.YtmapkjoefdgjfaaGreatDoor
