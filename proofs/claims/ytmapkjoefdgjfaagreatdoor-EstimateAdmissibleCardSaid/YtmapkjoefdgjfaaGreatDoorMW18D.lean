/- Several texts. -/
import Derived.Test.YtmapkjoefdgjfaaGreatDoorMW17D
set_option linter.unusedSimpArgs false
set_option linter.unusedVariables false
set_option linter.defProp false
set_option maxRecDepth 8000
set_option maxHeartbeats 16000000
open List Nat
namespace Go.Proofs.YtmapkjoefdgjfaaGreatDoor
open Go.Sl
variable {s:J}{k C i:Nat}{w0:World}{a b c d:Value}{vs:List iX}{pv:Addr}{ss:List Value}
section
open Go.Sl Go
attribute [local irreducible] vc opsW opsD opV opW PureV ReadV Thn Blk
structure sh (w:World) (s:Value) (ss:List Value) (Ls:List J):Prop where
 rs:RS ar w s ss
 len:ss.length=Ls.length
 dK:∀ i,i<Ls.length->RS O w (cF ss i) (Ls.getD i [])
def sh.at {w0 w:World}{Γ:List HP}{s:Value}{ss:List Value}{Ls:List J}(h:sh w0 s ss Ls)(Y:M w0 w Γ):sh w s ss Ls:=⟨h.rs.at Y,h.len,fun i e=>(h.dK i e).at Y⟩
def É {x:Value}{t:aa}{L:J}(A:bz w0 a b c d vs t)(B:RS O w0 x L) :
  Calls aj 85 #[.agg #[a,b,c,d],x] w0 fun e w'=>(∃ r,e=.returned (.bool r)/\(r=true↔fm t.vars L))/\M w0 w' []:=by
 obtain⟨F,S,T,V⟩:=A;have H:=F.bT;have K:=B.bT;have Y:=M.start w0;refine bB ao Tryz.func85 ?_;refine eB ?_;intro P w Y;refine cN [4,6,9,36] (G:=Nat) (fun k=>[(9,E k)]) (fun k w=>k<=L.length/\(∀ i,i<k->(0<=L.getD i O.dflt/\L.getD i O.dflt<t.vars.length)/\(0<i->L.getD (i-1) O.dflt<L.getD i O.dflt))/\M w0 w [ak P 26 [a,b,c,d]]) (fun k=>L.length-k) 0 (fun _=>rfl) ⟨rfl,au⟩ ⟨br _,fun i l=>absurd l (dx _),Y⟩ ?_;clear Y;rintro σ k w ⟨Q,g,Y⟩;refine aA ?_ ?_<;>intro h1
 ·have m:k<L.length:=U
  have y:((k:Int)-1).toNat=k-1:=U;refine aA ?_ ?_<;>intro j
  ·refine W ?_
   refine bk (v:=.bool false) rfl rfl ⟨⟨false,rfl,dr fun u=>?_⟩,Y.tail⟩;have R:=u k m;rw[y]at j;rcases j with (j|j)|⟨j,h4⟩
   ·omega
   ·omega
   have:=R.2 U;omega
  rw[y]at j;refine W ?_;refine⟨k+1,⟨rfl,au⟩,aV,⟨U,fun i l=>?_,Y⟩,U⟩;by_cases h:i=k
  ·subst h;exact⟨U,fun u=>U⟩
  exact g i U
 refine W ?_;refine bk (v:=.bool true) rfl rfl ⟨⟨true,rfl,iH fun i l=>g i U⟩,Y.tail⟩
def Ê {g:Value}{t:aa}{L:J}(h:bz w0 a b c d vs t)(hv:dO w0 pv [a,b,c,d])(j:RS O w0 g L) :
  Calls aj 84 #[g,.pointer (some pv)] w0 fun e w'=>(∃ r,e=.returned (.bool r)/\(r=true↔¬fm t.vars L))/\M w0 w' []:=by
 have Y:=M.start w0;refine bB ao Tryz.func84 ?_;refine W ?_;refine aU rfl (É (h.at Y) (j.at Y)) ?_;rintro _ w' ⟨⟨r,rfl,l⟩,an⟩;refine aI ?_;clear an Y;intro Y;refine W ?_;refine bk (v:=.bool (!r)) rfl rfl ⟨⟨_,rfl,?_⟩,Y⟩;rw[<-l];simp
def Ë {s:Value}{t:aa}{Ls:List J}(A:bz w0 a b c d vs t)(hv:dO w0 pv [a,b,c,d])(l:sh w0 s ss Ls) :
  Calls aj 111 #[s,.func (.func 84) #[] #[.pointer (some pv)]] w0 fun e w'=>(∃ r:Int,e=.returned (E r)/\(0<=r↔∃ i,i<Ls.length/\¬fm t.vars (Ls.getD i [])))/\M w0 w' []:=by
 have m:=l.rs;have B:=l.len;have F:=m.bT;have Y:=M.start w0;refine bB ao Tryz.func111 ?_;refine W ?_;refine cN [4,5,8,18] (G:=Nat) (fun k=>[(8,E k)]) (fun k w=>k<=Ls.length/\(∀ i,i<k->fm t.vars (Ls.getD i []))/\M w0 w []) (fun k=>Ls.length-k) 0 (fun _=>rfl) ⟨rfl,au⟩ ⟨br _,fun i u=>absurd u (dx _),Y⟩ ?_;clear Y;rintro H k w ⟨hk,g,Y⟩;refine aA ?_ ?_<;>intro h1
 ·have j:k<Ls.length:=U
  refine W ?_;refine wr (cs:=[.pointer (some pv)]) rfl rfl (Ê (A.at Y) (hv.at Y) ((l.dK k j).at Y)) ?_;rintro _ w' ⟨⟨r,rfl,y⟩,an⟩;refine aI ?_;clear an Y;intro Y;cases r
  ·have x:fm t.vars (Ls.getD k []):=by
    by_cases h:fm t.vars (Ls.getD k [])
    ·exact h
    have:=y.2 h;cases this
   refine W ?_;refine⟨k+1,⟨rfl,au⟩,aV,⟨U,fun i u=>?_,Y⟩,U⟩;by_cases h:i=k
   ·subst h;exact x
   exact g i U
  refine W ?_;refine bk (v:=E k) rfl rfl ⟨⟨k,rfl,⟨fun _=>⟨k,j,y.1 rfl⟩,fun _=>U⟩⟩,Y⟩
 refine W ?_;refine bk (v:=E (-1)) rfl rfl ⟨⟨-1,rfl,⟨fun h=>U,?_⟩⟩,Y⟩;rintro⟨i,u,he⟩;exact absurd (g i U) he
def Ì {s:Value}{t:aa}{Ls:List J}(g:bz w0 a b c d vs t)(hv:dO w0 pv [a,b,c,d])(h:sh w0 s ss Ls) :
  Calls aj 83 #[s,.func (.func 84) #[] #[.pointer (some pv)]] w0 fun e w'=>(∃ r,e=.returned (.bool r)/\(r=true↔∃ i,i<Ls.length/\¬fm t.vars (Ls.getD i [])))/\M w0 w' []:=by
 have Y:=M.start w0;refine bB ao Tryz.func83 ?_;refine W ?_;refine aU rfl (Ë g hv h) ?_;rintro _ w' ⟨⟨r,rfl,j⟩,an⟩;refine aI ?_;clear an Y;intro Y;refine W ?_;exact bk (v:=.bool (decide (0<=r))) rfl rfl ⟨⟨_,rfl,by rw[gR];exact j⟩,Y⟩
end
section
open Go.Sl Go
structure n0 (t:aa) (Ls o q:List J):Prop where
 run:tk t Ls (am t) o q
 da:aC t
 inv:∀ k,k<Ls.length->jr t.vars (Ls.getD k [])
 jb:∀ k,k<Ls.length->bp t.vars (Ls.getD k [])<=512
 len:Ls.length<=32
def Í {f g:Nat->Int}{n:Nat}(h:∀ k,k<n->f k<=g k):ju f n<=ju g n:=by
 induction n with
 | zero=>exact du _
 | succ n e =>
  have h1:=e fun k hk=>h k U;have j:=h n U;rw[wu,wu];omega
def Î (f g:Nat->Int)(n:Nat):ju (fun k=>f k+g k) n=ju f n+ju g n:=by
 induction n with
 | zero=>rfl
 | succ n e=>rw[wu,wu,wu,e];omega
def Ï {f:Nat->Int}{n:Nat}(h:∀ k,k<n->f k=0):ju f n=0:=by
 induction n with
 | zero=>rfl
 | succ n e=>rw[wu,e fun k hk=>h k U,h n U];rfl
section
variable {t:aa}{Ls o q:List J}
def n0.xO (h:n0 t Ls o q){k:Nat}(hk:k<Ls.length):nD (bM t (Ls.getD k [])) (dH (am t) q k) (bp t.vars (Ls.getD k [])).toNat:=(h.run.aO (xP h.da) k U).xO
def n0.bT (h:n0 t Ls o q)(hk:k<Ls.length):((bp t.vars (Ls.getD k [])).toNat:Int)*1048576<=536870912:=by
 have:=h.jb k hk;omega
def n0.dC (h:n0 t Ls o q)(e:ab t.vars s)(hk:k<Ls.length):0<=bG t Ls o s k/\bG t Ls o s k<=bD:=Gb (h.inv k hk) (h.run.bN k hk) e
def n0.pA (h:n0 t Ls o q){s:J}(g:ab t.vars s){k:Nat}(hk:k<Ls.length)(j:bG t Ls o s k<bD):bG t Ls o s k<=536870912:=by
 have e:=oz g (h.inv k hk).mem;have l:=h.run.bN k hk;have:=l.pA (h.xO hk) (C:=1048576) dc (fun x hx=>((h.run.aO (xP h.da) k U).dC x hx).2) (i:=(bU t.vars (Ls.getD k []) s).toNat) U (by rw[fZ e.1];exact j);rw[fZ e.1]at this;exact rO this (h.bT hk)
def n0.ow (h:n0 t Ls o q)(j:ab t.vars s):(gj t Ls o s<bD↔∀ k,k<Ls.length->bG t Ls o s k<bD)/\(gj t Ls o s<bD->gj t Ls o s=ju (bG t Ls o s) Ls.length)/\0<=gj t Ls o s/\gj t Ls o s<=bD:=by
 have r:=h.len;by_cases l:∀ k,k<Ls.length->bG t Ls o s k<bD
 ·have hv:=N2 j fun k hk=>(by have:=l k hk;have e:bD=1125899906842624:=rfl;omega:bG t Ls o s k≠1125899906842624)
  have m:=N0 (n:=Ls.length) (f:=bG t Ls o s) (B:=536870912) fun k hk=>⟨(h.dC j hk).1,h.pA j hk (l k hk)⟩
  have e:bD=1125899906842624:=rfl;have g:gj t Ls o s<bD:=by rw[hv];omega
  exact⟨⟨fun _=>l,fun _=>g⟩,fun _=>hv,by rw[hv];exact m.1,U⟩
 obtain⟨k,hk⟩:=Classical.not_forall.1 l;obtain⟨hk,u⟩:=Classical.not_imp.1 hk;have v:=(h.dC j hk).2;have hv:=N1 j hk (show bG t Ls o s k=1125899906842624 by have e:bD=1125899906842624:=rfl;omega);have e:bD=1125899906842624:=rfl;refine⟨⟨fun g=>U,fun m=>absurd m l⟩,fun g=>U,U,U⟩
def n0.xF (h:n0 t Ls o q){op:Nat}(e:op<t.Z.length):∀ k,k<=Ls.length->ju (fun j=>(q.getD j []).getD op O.dflt) k+(dH (am t) q k).getD op O.dflt=(am t).getD op O.dflt
 | 0,_=>by rw[U3,NX];omega
 | k+1,hk=>by
  have l:=h.xF e k U;have g:=(h.run.aO (xP h.da) k U).len;rw[wu,I1 (by rw[h.run.pl];omega),NV U];omega
def n0.s9 (h:n0 t Ls o q){op:Nat}(r:ab t.vars s)(y:op<t.Z.length)(H:iT t s op)(hk:k<Ls.length)(A:bG t Ls o (cd t s op) k<bD) :
  bG t Ls o s k<bD/\bG t Ls o s k<=bG t Ls o (cd t s op) k+(q.getD k []).getD op O.dflt:=by
 have u:=h.inv k hk;have B:=h.run.bN k hk;have F:=h.xO hk;have g:=h.run.aO (xP h.da) k U;have he:=RE h.da u r y H;have v:=r6 h.da r y;have G:=oz r u.mem;have j:=oz v u.mem;have l:bG t Ls o s k<bD:=by
  have m:=B.uL (bU t.vars (Ls.getD k []) (cd t s op)).toNat U (by rw[fZ j.1];exact A);rw[fZ j.1]at m;have K:=h.bT hk;have:=(B.ow F (C:=1048576) dc (fun x hx=>(g.dC x hx).2) (by have e:bD=1125899906842624:=rfl;omega) (i:=(bU t.vars (Ls.getD k []) s).toNat) U).2 ⟨_,by rw[fZ G.1];exact .step he m⟩
  rwa[fZ G.1]at this
 refine⟨l,?_⟩;have m:qG (bM t (Ls.getD k [])) (o.getD k []) t.Z.length (q.getD k []):=by
  rw[h.run.part k hk];exact NZ fun e he=>by have:=F.cG e he;rw[g.len]at this;exact this
 have:=m.low _ he l A;simp only[gG,gY]at this;unfold bG;omega
def n0.step (h:n0 t Ls o q){s:J}{op:Nat}(m:ab t.vars s)(j:op<t.Z.length)(u:iT t s op)(v:gj t Ls o (cd t s op)<bD) :
  gj t Ls o s<bD/\gj t Ls o s<=(am t).getD op O.dflt+gj t Ls o (cd t s op):=by
 have r:=r6 h.da m j;obtain⟨x,a2,a3,a4⟩:=h.ow m;obtain⟨y,A,B,F⟩:=h.ow r;have hk:=y.1 v;have l:=x.2 fun k e=>(h.s9 m j u e (hk k e)).1;refine⟨l,?_⟩;rw[a2 l,A v];have h1:=Í (n:=Ls.length) (f:=bG t Ls o s) (g:=fun k=>bG t Ls o (cd t s op) k+(q.getD k []).getD op O.dflt) fun k e=>(h.s9 m j u e (hk k e)).2;rw[Î]at h1;have G:=h.xF j Ls.length (cz _);have H:=((h.run.aO (xP h.da) Ls.length (cz _)).at j).1;omega
def n0.aG (h:n0 t Ls o q){s:J}(e:ab t.vars s)(I:bZ s t.aG):gj t Ls o s=0:=by
 have g:∀ k,k<Ls.length->bG t Ls o s k=0:=fun k hk=>RL (h.inv k hk) (h.run.bN k hk) e I;have j:=(h.ow e).1.2 fun k hk=>by rw[g k hk];decide
 rw[(h.ow e).2.1 j];exact Ï g
end
section
variable {f:Int}{t:aa}{Ls o q D z:List J}
end
def iU (f:Nat->Int)(C:Nat)(n:Nat):Int:=ju (fun v=>if C.testBit v then f v else 0) n
def RW (f:Nat->Int)(C:Nat):iU f C 0=0:=rfl
def wo {f:Nat->Int}{n:Nat}(h:ib C n):iU f C (n+1)=iU f C n+f n:=by
 unfold iU;rw[wu,aP h]
def wN {f:Nat->Int}{n:Nat}(h:¬ib C n):iU f C (n+1)=iU f C n:=by
 unfold iU;rw[wu,aH h];omega
def HF {f:Nat->Int}{C:Nat}:∀ {n:Nat},(∀ k,k<n->0<=f k)->0<=iU f C n
 | 0,_=>du _
 | n+1,h=>by
  have h1:=HF (C:=C) (n:=n) fun k hk=>h k U;have g:=h n U;by_cases e:ib C n
  ·rw[wo e];omega
  rw[wN e];exact h1
def RX {f:Nat->Int}{C j:Nat}:∀ {n:Nat},(∀ k,k<n->0<=f k)->(∀ v,ib C v->ib j v)->iU f C n<=iU f j n
 | 0,_,_=>du _
 | n+1,h,l=>by
  have h1:=RX (n:=n) (fun k hk=>h k U) l;have m:=h n U;by_cases g:ib C n
  ·rw[wo g,wo (l n g)];omega
  by_cases e:ib j n
  ·rw[wN g,wo e];omega
  rw[wN g,wN e];exact h1
def RY {f g:Nat->Int}{C:Nat}:∀ {n:Nat},(∀ k,k<n->ib C k->f k<=g k)->iU f C n<=iU g C n
 | 0,_=>du _
 | n+1,h=>by
  have h1:=RY (n:=n) fun k hk=>h k U;by_cases e:ib C n
  ·have:=h n U e
   rw[wo e,wo e];omega
  rw[wN e,wN e];exact h1
def RZ {f:Nat->Int}{C:Nat}:∀ {n k:Nat},(∀ k,k<n->0<=f k)->k<n->ib C k->f k<=iU f C n
 | 0,_,_,hk,_=>absurd hk (dx _)
 | n+1,k,h,hk,j=>by
  have l:=h n U;have m:=HF (C:=C) (n:=n) fun k hk=>h k U;by_cases e:k=n
  ·subst e;rw[wo j];omega
  have:=RZ (n:=n) (fun k hk=>h k U) U j;by_cases g:ib C n
  ·rw[wo g];omega
  rw[wN g];exact this
def HG {f:Nat->Int}{C:Nat}{B:Int}(g:0<=B):∀ {n:Nat},(∀ k,k<n->ib C k->f k<=B)->iU f C n<=n*B
 | 0,_=>by simp[RW]
 | n+1,h=>by
  have h1:=HG g (n:=n) fun k hk=>h k U;rw[B7,zH];simp only[I2,Dh];by_cases e:ib C n
  ·have:=h n U e
   rw[wo e];omega
  rw[wN e];omega
def R0 {f g:Nat->Int}{C:Nat}{c:Int}(r:0<=c):∀ {n:Nat},(∀ k,k<n->ib C k->f k=g k\/f k<=g k+c)->(∀ j k,j<n->k<n->ib C j->ib C k->f j≠g j->f k≠g k->j=k)->iU f C n<=iU g C n+c
 | 0,_,_=>by simp[RW];exact r
 | n+1,h,hu=>by
  have h1:=R0 r (n:=n) (fun k hk=>h k U) fun j k v hk=>hu j k U U;by_cases l:ib C n
  ·rw[wo l,wo l]
   by_cases e:f n=g n
   ·omega
   have x:=h n U l;have y:iU f C n<=iU g C n:=RY fun k hk m=>by
    by_cases u:f k=g k
    ·omega
    have:=hu k n U U m l u e;omega
   omega
  rw[wN l,wN l];exact h1
def mi (f:Nat->Int)(l:J):Int:=l.foldl (fun a i=>min (a+f i.toNat) bD) 0
def OO (f:Nat->Int)(l:J)(i:Int):mi f (l++[i])=min (mi f l+f i.toNat) bD:=by simp[mi]
def Lg {f:Nat->Int}{C:Nat}:∀ {n:Nat},(∀ k,k<n->0<=f k)->mi f (dy C n)=min (iU f C n) bD
 | 0,_=>rfl
 | n+1,h=>by
  have h1:=Lg (C:=C) (n:=n) fun k hk=>h k U;have g:=h n U;by_cases e:ib C n
  ·rw[N6 e,OO,h1,wo e,gY];omega
  rw[N7 e,wN e,h1]
def V1 {f:Nat->Int}{l:J}(h:∀ i∈l,0<=f i.toNat):0<=mi f l/\mi f l<=bD:=by
 have key:∀ (l:J) (a:Int),0<=a->a<=bD->(∀ i∈l,0<=f i.toNat)->0<=l.foldl (fun a i=>min (a+f i.toNat) bD) a/\l.foldl (fun a i=>min (a+f i.toNat) bD) a<=bD:=by
  intro l
  induction l with
  | nil=>intro a g h1 _;exact⟨g,h1⟩
  | cons i l r =>
   intro a g h1 m;have:=m i gA;refine r _ ?_ ?_ fun j u=>m j (iR _ u)
   ·have e:bD=1125899906842624:=rfl
    show 0<=min (a+f i.toNat) bD;omega
   show min (a+f i.toNat) bD<=bD;omega
 exact key l 0 (du _) dc h
def fN (f:Nat->Int)(Cs:List J):Int:=Cs.foldl (fun b l=>max b (mi f l)) 0
def JC (f:Nat->Int)(Cs:List J)(l:J):fN f (Cs++[l])=max (fN f Cs) (mi f l):=by simp[fN]
def R2 {f:Nat->Int}{Cs:List J}:0<=fN f Cs/\∀ l∈Cs,mi f l<=fN f Cs:=by
 refine nu (P:=fun Cs=>0<=fN f Cs/\∀ l∈Cs,mi f l<=fN f Cs) ⟨du _,fun l e=>by simp at e⟩ ?_ Cs;intro L x ⟨g,h1⟩;rw[JC];refine⟨U,fun l e=>?_⟩;rcases gK.1 e with e|e
 ·have:=h1 l e;omega
 rw[dp.1 e];omega
def Ð {f:Nat->Int}{Cs:List J}:fN f Cs=0\/∃ l∈Cs,fN f Cs=mi f l:=by
 refine nu (P:=fun Cs=>fN f Cs=0\/∃ l∈Cs,fN f Cs=mi f l) (.inl rfl) ?_ Cs;intro L x g;rw[JC];by_cases h:fN f L<=mi f x
 ·exact .inr ⟨x,sm,U⟩
 rcases g with g|⟨l,j,e⟩
 ·exact .inl U
 exact .inr ⟨l,by simp[j],U⟩
section
variable {n:Nat}{N:Nat->Nat}{Cs:List J}{f:Nat->Int}
def R3 (g:Gr n N)(j:kJ n N Cs)(e:∀ k,k<n->0<=f k)(h:ta n N C):min (iU f C n) bD<=fN f Cs:=by
 obtain⟨l,h1,m⟩:=Ol g _ C h (cz _);have r:=(R2 (f:=f) (Cs:=Cs)).2 _ ((j _).2 ⟨l,h1,rfl⟩);rw[Lg e]at r;have:=RX e m;omega
def HH (j:kJ n N Cs)(g:∀ k,k<n->0<=f k):∃ C,ta n N C/\fN f Cs=min (iU f C n) bD:=by
 rcases Ð (f:=f) (Cs:=Cs) with h|⟨l,m,e⟩
 ·refine⟨0,⟨fun v hv=>by simp[ib]at hv,fun u v hu=>by simp[ib]at hu⟩,?_⟩
  have:iU f 0 n=0:=by
   have h1:=HF (C:=0) g;have x:=HG (f:=f) (C:=0) (B:=0) (du _) (n:=n) fun k _ r=>by simp[ib]at r
   omega
  rw[this,h];decide
 obtain⟨C,hm,rfl⟩:=(j _).1 m;exact⟨C,⟨hm.bd,hm.tl⟩,by rw[e,Lg g]⟩
def Ñ (g:kJ n N Cs)(h:∀ k,k<n->0<=f k):0<=fN f Cs/\fN f Cs<=bD:=by
 obtain⟨C,_,e⟩:=HH g h;exact⟨R2.1,U⟩
def Ò (h:Gr n N)(j:kJ n N Cs)(g:∀ k,k<n->0<=f k)(hk:k<n)(hi:f k<=bD):f k<=fN f Cs:=by
 have e:ta n N (2 ^ k):=⟨fun v hv=>by
   have:k=v:=by simpa [ib,yz] using hv
   omega,fun u v hu hv l=>by
   have h1:k=u:=by simpa [ib,yz] using hu
   have m:k=v:=by simpa [ib,yz] using hv
   omega⟩
 have h1:=R3 h j g e;have m:=RZ g hk (C:=2 ^ k) (by simp[ib]);omega
end
def oP (t:aa)(op:Nat)(p:J):Prop:=∃ e∈(t.Z.getD op bf).aJ,e.var∈p
def mU (t:aa)(a b:J):Prop:=∀ op,op<t.Z.length->¬(oP t op a/\oP t op b)
def R4 {t:aa}{a b:J}(h:mU t a b):mU t b a:=fun op g e=>h op g ⟨e.2,e.1⟩
def Ó {vars:J}{v:Int}(hv:0<=v)(l:List kU):(∀ e∈l,gQ vars e)->(∀ e∈l,e.var≠v)->sg (eW s l) v=sg s v:=by
 refine nu (P:=fun l=>(∀ e∈l,gQ vars e)->(∀ e∈l,e.var≠v)->sg (eW s l) v=sg s v) (fun _ _=>rfl) ?_ l;intro l e h h1 g;have i1:=h (fun x hx=>h1 x (by simp[hx])) fun x hx=>g x (by simp[hx]);rw[CM];split
 ·rw[yN (tz (h1 e sm)).1 hv (g e sm)];exact i1
 exact i1
def Ô {t:aa}{p:J}{op:Nat}(I:aC t)(g:jr t.vars p)(j:op<t.Z.length)(h:¬oP t op p):bU t.vars p (cd t s op)=bU t.vars p s :=
 CP fun v hv=>Ó (g.mem v hv).1 _ (I.op op j).mem fun e he l=>h ⟨e,he,by rw[l];exact hv⟩
structure kF (t:aa) (Ls o:List J) (N:Nat->Nat) (Cs:List J):Prop where
 da:aC t
 inv:∀ k,k<Ls.length->jr t.vars (Ls.getD k [])
 jb:∀ k,k<Ls.length->bp t.vars (Ls.getD k [])<=512
 len:Ls.length<=32
 bN:∀ k,k<Ls.length->cH (bM t (Ls.getD k [])) (am t) (fx t (Ls.getD k [])) (bp t.vars (Ls.getD k [])).toNat (o.getD k [])
 gr:Gr Ls.length N
 add:∀ u v,u<Ls.length->v<Ls.length->(ib (N u) v↔u≠v/\mU t (Ls.getD u []) (Ls.getD v []))
 cl:kJ Ls.length N Cs
noncomputable def gC (t:aa)(Ls o Cs:List J)(s:J):Int:=fN (bG t Ls o s) Cs
section
variable {t:aa}{Ls o Cs:List J}{N:Nat->Nat}
def kF.dC (h:kF t Ls o N Cs)(e:ab t.vars s)(hk:k<Ls.length):0<=bG t Ls o s k/\bG t Ls o s k<=bD:=Gb (h.inv k hk) (h.bN k hk) e
def kF.xO (h:kF t Ls o N Cs){k:Nat}:nD (bM t (Ls.getD k [])) (am t) (bp t.vars (Ls.getD k [])).toNat:=(xP h.da).xO
def kF.pA (h:kF t Ls o N Cs){s:J}(g:ab t.vars s){k:Nat}(hk:k<Ls.length)(j:bG t Ls o s k<bD):bG t Ls o s k<=536870912:=by
 have e:=oz g (h.inv k hk).mem;have l:=h.jb k hk;have:=(h.bN k hk).pA h.xO (C:=1048576) dc (fun x hx=>((xP h.da).dC x hx).2) (i:=(bU t.vars (Ls.getD k []) s).toNat) U (by rw[fZ e.1];exact j);rw[fZ e.1]at this;exact rO this U
def kF.MQ (h:kF t Ls o N Cs)(e:ab t.vars s):0<=gC t Ls o Cs s/\gC t Ls o Cs s<=bD:=Ñ h.cl fun _ hk=>(h.dC e hk).1
def kF.ow (h:kF t Ls o N Cs)(j:ab t.vars s):gC t Ls o Cs s<bD↔∀ k,k<Ls.length->bG t Ls o s k<bD:=by
 have g:=fun k (hk:k<Ls.length)=>(h.dC j hk).1;constructor
 ·intro l k hk
  have:=Ò h.gr h.cl g hk (h.dC j hk).2;unfold gC at l;omega
 intro m;obtain⟨C,_,e⟩:=HH h.cl g;have r:=HG (f:=bG t Ls o s) (C:=C) (B:=536870912) dc (n:=Ls.length) fun k hk _=>h.pA j hk (m k hk);have l:=h.len;unfold gC;rw[e];have u:bD=1125899906842624:=rfl;omega
def kF.s9 (h:kF t Ls o N Cs){op:Nat}(m:ab t.vars s)(A:op<t.Z.length)(G:iT t s op)(hk:k<Ls.length)(B:bG t Ls o (cd t s op) k<bD) :
  bG t Ls o s k<bD/\bG t Ls o s k<=bG t Ls o (cd t s op) k+(am t).getD op O.dflt:=by
 have r:=h.inv k hk;have u:=h.bN k hk;have he:=RE h.da r m A G;have v:=r6 h.da m A;have F:=oz m r.mem;have g:=oz v r.mem;have H:=h.jb k hk;have j:=u.ER h.xO he B;simp only[gG,gY]at j;have y:bG t Ls o s k<bD:=by
  have l:=u.uL (bU t.vars (Ls.getD k []) (cd t s op)).toNat U (by rw[fZ g.1];exact B);rw[fZ g.1]at l;have:=(u.ow h.xO (C:=1048576) dc (fun x hx=>((xP h.da).dC x hx).2) (by have e:bD=1125899906842624:=rfl;omega) (i:=(bU t.vars (Ls.getD k []) s).toNat) U).2 ⟨_,by rw[fZ F.1];exact .step he l⟩
  rwa[fZ F.1]at this
 exact⟨y,j⟩
def kF.step (h:kF t Ls o N Cs){s:J}{op:Nat}(r:ab t.vars s)(m:op<t.Z.length)(K:iT t s op)(L:gC t Ls o Cs (cd t s op)<bD) :
  gC t Ls o Cs s<bD/\gC t Ls o Cs s<=(am t).getD op O.dflt+gC t Ls o Cs (cd t s op):=by
 have u:=r6 h.da r m;have v:=(h.ow u).1 L;have y:=(h.ow r).2 fun k hk=>(h.s9 r m K hk (v k hk)).1;refine⟨y,?_⟩;have A:=fun k (hk:k<Ls.length)=>(h.dC r hk).1;have x:=fun k (hk:k<Ls.length)=>(h.dC u hk).1;obtain⟨C,P,e⟩:=HH h.cl A;have h1:=R3 h.gr h.cl x P;have R:=((xP h.da).at m).1
 have l:∀ k,k<Ls.length->bG t Ls o s k≠bG t Ls o (cd t s op) k->oP t op (Ls.getD k []):=fun k hk l=>nl fun B=>l (by
  unfold bG;rw[Ô h.da (h.inv k hk) m B])
 have V:=R0 (f:=bG t Ls o s) (g:=bG t Ls o (cd t s op)) (C:=C) R (n:=Ls.length) (fun k hk _=>.inr (h.s9 r m K hk (v k hk)).2) fun j k Q hk F G S T=>nl fun H =>
   ((h.add j k Q hk).1 (P.tl j k F G H)).2 op m ⟨l j Q S,l k hk T⟩
 unfold gC at L ⊢;rw[e];omega
def kF.aG (h:kF t Ls o N Cs){s:J}(j:ab t.vars s)(I:bZ s t.aG):gC t Ls o Cs s=0:=by
 have l:∀ k,k<Ls.length->bG t Ls o s k=0:=fun k hk=>RL (h.inv k hk) (h.bN k hk) j I;have g:=fun k (hk:k<Ls.length)=>(h.dC j hk).1;obtain⟨C,_,e⟩:=HH h.cl g;have m:=HG (f:=bG t Ls o s) (C:=C) (B:=0) (du _) (n:=Ls.length) fun k hk _=>by rw[l k hk];exact du _
 have r:=HF (C:=C) g;unfold gC;rw[e];have u:bD=1125899906842624:=rfl;omega
end
end
section
open Go.Sl Go
attribute [local irreducible] vc opsW opsD opV opW PureV ReadV Thn Blk
noncomputable def gp (t:aa)(Ls:List J):Int:=if bX t≠0 then bX t else if ∀ i,i<Ls.length->fm t.vars (Ls.getD i []) then 0 else 2
def Vn {s:Value}{t:aa}{Ls:List J}(Q:bz w0 a b c d vs t)(y:sh w0 s ss Ls) :
  Calls aj 106 #[.agg #[a,b,c,d],s] w0 fun e w'=>e=.returned (bO (gp t Ls))/\M w0 w' []:=by
 have A:=Q;obtain⟨V,hb,hc,hd⟩:=Q;have j':=V.bT;have B:=y.rs;have H':=y.len;have J':=B.bT;have Y:=M.start w0;refine bB ao Tryz.func106 ?_;refine eB ?_;intro R w Y;refine aU rfl (vY (A.at Y)) ?_;rintro _ w' ⟨rfl,an⟩;refine aI ?_;clear an Y;intro Y;by_cases hk:bX t=0
 ·rw[gy hk]
  refine W ?_;refine cN [4,4,7,9,17,52] (G:=Nat) (fun k=>[(17,E k)]) (fun k w=>k<=Ls.length/\(∀ i,i<k->fm t.vars (Ls.getD i []))/\M w0 w [ak R 26 [a,b,c,d]]) (fun k=>Ls.length-k) 0 (fun _=>rfl) ⟨rfl,au⟩ ⟨br _,fun i r=>absurd r (dx _),Y⟩ ?_;clear Y;rintro σ m w ⟨hm,g,Y⟩;refine aA ?_ ?_<;>intro h0
  ·have u:m<Ls.length:=U
   have S:=y.dK m u;have F:=S.bT;obtain⟨L,H⟩:=À (Ls.getD m []);rw[<-H]at S F;refine W ?_;refine cN [4,4,8,9,23,51] (G:=Nat) (fun k=>[(23,E k)]) (fun k w=>k<=L.length/\(∀ i,i<k->(0<=L.getD i O.dflt/\L.getD i O.dflt<t.vars.length)/\(0<i->L.getD (i-1) O.dflt<L.getD i O.dflt))/\M w0 w [ak R 26 [a,b,c,d]]) (fun k=>L.length-k) 0 (fun _=>rfl) ⟨rfl,au⟩ ⟨br _,fun i r=>absurd r (dx _),Y⟩ ?_;clear Y;rintro P' k w ⟨R',l,Y⟩;refine aA ?_ ?_<;>intro h1
   ·have K:k<L.length:=U
    have T:((k:Int)-1).toNat=k-1:=U;refine aA ?_ ?_<;>intro j
    ·refine W ?_
     refine bk (v:=bO 2) rfl (by rw[dq dc];rfl) ⟨?_,Y.tail⟩;rw[gp,aH (by simp[hk]),aH];intro P;have x:=P m u;rw[<-H]at x;have h3:=x k K;rw[T]at j;rcases j with (j|j)|⟨j,h4⟩
     ·omega
     ·omega
     have:=h3.2 U;omega
    rw[T]at j;refine W ?_;refine⟨k+1,⟨rfl,au⟩,aV,⟨U,fun i r=>?_,Y⟩,U⟩;by_cases h:i=k
    ·subst h;exact⟨U,fun h0=>U⟩
    exact l i U
   refine W ?_;refine⟨m+1,⟨rfl,au⟩,aV,⟨U,fun i r=>?_,Y⟩,U⟩;by_cases h:i=m
   ·subst h;rw[<-H];intro j x;exact l j U
   exact g i U
  refine W ?_;refine bk (v:=bO 0) rfl (by rw[gy rfl];rfl) ⟨?_,Y.tail⟩;rw[gp,aH (by simp[hk]),aP];intro i r;exact g i U
 rw[dq hk];refine W ?_;refine bk (v:=bO (bX t)) rfl (by rw[dq hk];rfl) ⟨?_,Y.tail⟩;rw[gp,aP hk]
def HI {P Q:Prop}[Decidable Q]{b:Bool}(h:b=true↔P):(b || decide Q)=true↔P\/Q:=by rw[pO,h,gR]
def Br {n:Nat}{p:Nat->Prop}:(∃ i,i<n+1/\p i)↔(∃ i,i<n/\p i)\/p n:=by
 constructor
 ·rintro⟨i,g,h⟩
  by_cases e:i=n
  ·subst e;exact .inr h
  exact .inl ⟨i,U,h⟩
 rintro (⟨i,g,h⟩|h)
 ·exact⟨i,U,h⟩
 exact⟨n,U,h⟩
def R5 {t:aa}{op:Nat}{p:J}:oP t op p↔∃ i,i<(t.Z.getD op bf).aJ.length/\((t.Z.getD op bf).aJ.getD i bE).var∈p:=by
 constructor
 ·rintro⟨e,he,hv⟩
  obtain⟨i,g,rfl⟩:=AU.1 he;exact⟨i,g,by rw[al g];exact hv⟩
 rintro⟨i,g,hv⟩;exact⟨_,cD bE g,hv⟩
def Vo {xa xb:Value}{t:aa}{A B:J}(ht:bz w0 a b c d vs t)(hA:RS O w0 xa A)(hB:RS O w0 xb B) :
  Calls aj 107 #[.agg #[a,b,c,d],xa,xb] w0 fun e w'=>(∃ r,e=.returned (.bool r)/\(r=true↔mU t A B))/\M w0 w' []:=by
 obtain⟨ha,hb,hc,S⟩:=ht;have T:=S.rs;have R':=S.len;have T':=T.bT;have Y:=M.start w0;refine bB ao Tryz.func107 ?_;refine eB ?_;intro pt w Y;refine cN [6,6,8,10,12,12,16,46] (G:=Nat) (fun k=>[(16,E k)]) (fun k w=>k<=t.Z.length/\(∀ op,op<k->¬(oP t op A/\oP t op B))/\M w0 w [ak pt 26 [a,b,c,d]]) (fun k=>t.Z.length-k) 0 (fun _=>rfl) ⟨rfl,au⟩ ⟨br _,fun i V=>absurd V (dx _),Y⟩ ?_;clear Y;rintro σ k w ⟨hk,l,Y⟩;refine aA ?_ ?_<;>intro h1
 ·have K:k<t.Z.length:=U
  have L:=S.dK k K;have H':=L.one;obtain⟨es,m⟩:=L.aJ;have P:=m.rs;have J':=m.len;have P':=P.bT;refine eB ?_;intro pe w Y;refine nE [9,10,12,12,23,41] (G:=Nat) (H:=Bool) (I':=Bool) (fun j x y=>[(23,E j),(9,.bool x),(10,.bool y)]) (fun j x y w=>j<=es.length/\(x=true↔∃ i,i<j/\((t.Z.getD k bf).aJ.getD i bE).var∈A)/\(y=true↔∃ i,i<j/\((t.Z.getD k bf).aJ.getD i bE).var∈B)/\M w0 w [ak pe 44 (cp.enc (az cp vs k)),ak pt 26 [a,b,c,d]]) (fun j _ _=>es.length-j) 0 false false (fun _ _ _=>rfl) ⟨rfl,rfl,rfl,au⟩ ⟨br _,dr (fun⟨i,V,_⟩=>by omega),dr (fun⟨i,V,_⟩=>by omega),Y⟩ ?_;clear Y;rintro V' j x y w ⟨hj,hx,Q,Y⟩;refine aA ?_ ?_<;>intro h2
  ·have u:j<(t.Z.getD k bf).aJ.length:=U
   have F:=m.dK j u;have _a:=F.one;have j':=F.var;have g:∀ R:J,(∃ i,i<j+1/\((t.Z.getD k bf).aJ.getD i bE).var∈R)↔(∃ i,i<j/\((t.Z.getD k bf).aJ.getD i bE).var∈R)\/(az aY es j).var∈R:=fun R=>by rw[j'];exact Br
   cases x<;>cases y
   ·refine eB ?_;intro p w Y
    refine aU rfl (wC (v:=(az aY es j).var) (hA.at Y)) ?_;rintro _ w' ⟨rfl,an⟩;refine aI ?_;clear an Y;intro Y;refine W ?_;refine aU rfl (wC (v:=(az aY es j).var) (hB.at Y)) ?_;rintro _ w' ⟨rfl,an⟩;refine aI ?_;clear an Y;intro Y;refine W ?_;exact⟨j+1,_,_,⟨rfl,rfl,rfl,au⟩,aV,⟨U,(HI hx).trans (g A).symm,(HI Q).trans (g B).symm,Y.bb⟩,U⟩
   ·refine eB ?_;intro p w Y
    refine aU rfl (wC (v:=(az aY es j).var) (hA.at Y)) ?_;rintro _ w' ⟨rfl,an⟩;refine aI ?_;clear an Y;intro Y;refine W ?_;exact⟨j+1,_,true,⟨rfl,rfl,rfl,au⟩,aV,⟨U,(HI hx).trans (g A).symm,iH ((g B).2 (.inl (Q.1 rfl))),Y.bb⟩,U⟩
   ·refine eB ?_;intro p w Y
    refine aU rfl (wC (v:=(az aY es j).var) (hB.at Y)) ?_;rintro _ w' ⟨rfl,an⟩;refine aI ?_;clear an Y;intro Y;refine W ?_;exact⟨j+1,true,_,⟨rfl,rfl,rfl,au⟩,aV,⟨U,iH ((g A).2 (.inl (hx.1 rfl))),(HI Q).trans (g B).symm,Y.bb⟩,U⟩
   refine eB ?_;intro p w Y;exact⟨j+1,true,true,⟨rfl,rfl,rfl,au⟩,aV,⟨U,iH ((g A).2 (.inl (hx.1 rfl))),iH ((g B).2 (.inl (Q.1 rfl))),Y.bb⟩,U⟩
  have u:j=(t.Z.getD k bf).aJ.length:=U;subst u;have F:=hx.trans R5.symm;have R:=Q.trans R5.symm;have g:¬(oP t k A/\oP t k B)->∀ op,op<k+1->¬(oP t op A/\oP t op B):=fun h op ho=>by
   by_cases e:op=k
   ·subst e;exact h
   exact l op U
  cases x<;>cases y
  ·refine W ?_
   exact⟨k+1,⟨rfl,au⟩,aV,⟨U,g fun h=>(by have:=F.2 h.1;cases this),Y.bb⟩,U⟩
  ·refine W ?_
   exact⟨k+1,⟨rfl,au⟩,aV,⟨U,g fun h=>(by have:=F.2 h.1;cases this),Y.bb⟩,U⟩
  ·refine W ?_
   exact⟨k+1,⟨rfl,au⟩,aV,⟨U,g fun h=>(by have:=R.2 h.2;cases this),Y.bb⟩,U⟩
  refine W ?_;exact bk (v:=.bool false) rfl rfl ⟨⟨false,rfl,dr fun h=>h k K ⟨F.1 rfl,R.1 rfl⟩⟩,Y.bb⟩
 refine W ?_;exact bk (v:=.bool true) rfl rfl ⟨⟨true,rfl,iH fun op ho=>l op U⟩,Y.bb⟩
end
section
open Go.Sl Go
open Classical in
noncomputable def kz (t:aa)(Ls:List J)(i:Nat):Nat->List kO
 | 0=>[]
 | k+1=>kz t Ls i k++if mU t (Ls.getD i []) (Ls.getD k []) then [⟨(k:Int),(i:Int),1⟩] else []
noncomputable def gd (t:aa)(Ls:List J):Nat->List kO
 | 0=>[]
 | i+1=>gd t Ls i++kz t Ls i i
def Vp {t:aa}{Ls:List J}:gd t Ls i++kz t Ls i i=gd t Ls (i+1):=rfl
def Jj {t:aa}{Ls:List J}(h:mU t (Ls.getD i []) (Ls.getD k [])):kz t Ls i (k+1)=kz t Ls i k++[⟨(k:Int),(i:Int),1⟩]:=by rw[kz,aP h]
def Ji {t:aa}{Ls:List J}(h:¬mU t (Ls.getD i []) (Ls.getD k [])):kz t Ls i (k+1)=kz t Ls i k:=by rw[kz,aH h,fI]
def Lh {t:aa}{Ls:List J}{i:Nat}{a:kO}:∀ {k:Nat},a∈kz t Ls i k↔∃ j,j<k/\mU t (Ls.getD i []) (Ls.getD j [])/\a=⟨(j:Int),(i:Int),1⟩
 | 0=>by simp[kz]
 | k+1=>by
  by_cases h:mU t (Ls.getD i []) (Ls.getD k [])
  ·rw[Jj h,gK,Lh,dp]
   constructor
   ·rintro (⟨j,m,g⟩|e)
    ·exact⟨j,U,g⟩
    exact⟨k,U,h,e⟩
   rintro⟨j,m,g,e⟩;by_cases l:j=k
   ·subst l;exact .inr e
   exact .inl ⟨j,U,g,e⟩
  rw[Ji h,Lh];constructor
  ·rintro⟨j,m,g⟩
   exact⟨j,U,g⟩
  rintro⟨j,m,g,e⟩;by_cases l:j=k
  ·subst l;exact absurd g h
  exact⟨j,U,g,e⟩
def Jh {t:aa}{Ls:List J}{i:Nat}:∀ k,(kz t Ls i k).length<=k
 | 0=>by simp[kz]
 | k+1=>by
  have:=Jh (t:=t) (Ls:=Ls) (i:=i) k;by_cases h:mU t (Ls.getD i []) (Ls.getD k [])
  ·rw[Jj h,length_append,tr];omega
  rw[Ji h];omega
def El {t:aa}{Ls:List J}{a:kO}:∀ {n:Nat},a∈gd t Ls n↔∃ i j,i<n/\j<i/\mU t (Ls.getD i []) (Ls.getD j [])/\a=⟨(j:Int),(i:Int),1⟩
 | 0=>by simp[gd]
 | n+1=>by
  rw[gd,gK,El,Lh];constructor
  ·rintro (⟨i,j,l,g⟩|⟨j,h,g⟩)
   ·exact⟨i,j,U,g⟩
   exact⟨n,j,U,h,g⟩
  rintro⟨i,j,l,h,g⟩;by_cases e:i=n
  ·subst e;exact .inr ⟨j,h,g⟩
  exact .inl ⟨i,j,U,h,g⟩
def Jg {t:aa}{Ls:List J}:∀ n,n<=32->(gd t Ls n).length<=n*32
 | 0,_=>by simp[gd]
 | n+1,e=>by
  have h1:=Jg (t:=t) (Ls:=Ls) n U;have g:=Jh (t:=t) (Ls:=Ls) (i:=n) n;rw[gd,length_append];omega
def JD {t:aa}{Ls:List J}{n:Nat}:∀ a∈gd t Ls n,fj n a:=fun a e=>by
 obtain⟨i,j,g,h,_,rfl⟩:=El.1 e;unfold fj;simp only;omega
def Vq {t:aa}{Ls:List J}{n:Nat}(e:n<=32):cj n (gd t Ls n)=0:=by
 have:=Jg (t:=t) (Ls:=Ls) n e;exact N3 U U fun i g=>JD _ (cD bA.dflt g)
def V2 {t:aa}{Ls:List J}{n u v:Nat}(hu:u<n)(hv:v<n):mR (gd t Ls n) u v↔u≠v/\mU t (Ls.getD u []) (Ls.getD v []):=by
 constructor
 ·rintro⟨g,a,m,l⟩
  obtain⟨i,j,x,y,e,rfl⟩:=El.1 m;refine⟨g,?_⟩;simp only at l;rcases l with ⟨h1,r⟩|⟨h1,r⟩
  ·obtain rfl:j=u:=U
   obtain rfl:i=v:=U;exact R4 e
  obtain rfl:j=v:=U;obtain rfl:i=u:=U;exact e
 rintro⟨g,e⟩;refine⟨g,?_⟩;rcases Nat.lt_or_gt_of_ne g with h|h
 ·exact⟨⟨(u:Int),(v:Int),1⟩,El.2 ⟨v,u,hv,h,R4 e,rfl⟩,.inl ⟨rfl,rfl⟩⟩
 exact⟨⟨(v:Int),(u:Int),1⟩,El.2 ⟨u,v,hu,h,e,rfl⟩,.inr ⟨rfl,rfl⟩⟩
end
end Go.Proofs.YtmapkjoefdgjfaaGreatDoor
