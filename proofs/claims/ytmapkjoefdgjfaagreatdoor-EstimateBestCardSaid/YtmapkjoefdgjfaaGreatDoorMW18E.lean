/- Several texts. -/
import Derived.Test.YtmapkjoefdgjfaaGreatDoorMW17E
set_option linter.unusedSimpArgs false
set_option linter.unusedVariables false
set_option linter.defProp false
set_option maxRecDepth 8000
set_option maxHeartbeats 16000000
open List Nat
namespace Go.Proofs.YtmapkjoefdgjfaaGreatDoor
open Go.Sl
variable {s:J}{k C i:Nat}{w0:World}{a b c d:Value}{vs:List iW}{pv:Addr}{ss:List Value}
section
open Go.Sl Go
attribute [local irreducible] vc opsW opsD opV opW PureV ReadV Thn Blk
structure sk (w:World) (s:Value) (ss:List Value) (Ls:List J):Prop where
 rs:RS ap w s ss
 len:ss.length=Ls.length
 dJ:∀ i,i<Ls.length->RS W w (cG ss i) (Ls.getD i [])
def sk.at {w0 w:World}{Γ:List HP}{s:Value}{ss:List Value}{Ls:List J}(h:sk w0 s ss Ls)(Y:Z w0 w Γ):sk w s ss Ls:=⟨h.rs.at Y,h.len,fun i e=>(h.dJ i e).at Y⟩
def ä {x:Value}{t:aa}{L:J}(A:bn w0 a b c d vs t)(B:RS W w0 x L) :
  Calls ai 85 #[.agg #[a,b,c,d],x] w0 fun e w'=>(∃ r,e=.returned (.bool r)/\(r=true↔fi t.vars L))/\Z w0 w' []:=by
 obtain⟨F,S,T,V⟩:=A;have H:=F.bU;have K:=B.bU;have Y:=Z.start w0;refine bA an Tryz.func85 ?_;refine eE ?_;intro P w Y;refine cP [4,6,9,36] (G:=Nat) (fun k=>[(9,E k)]) (fun k w=>k<=L.length/\(∀ i,i<k->(0<=L.getD i W.dflt/\L.getD i W.dflt<t.vars.length)/\(0<i->L.getD (i-1) W.dflt<L.getD i W.dflt))/\Z w0 w [ak P 26 [a,b,c,d]]) (fun k=>L.length-k) 0 (fun _=>rfl) ⟨rfl,az⟩ ⟨bu _,fun i l=>absurd l (dr _),Y⟩ ?_;clear Y;rintro σ k w ⟨Q,g,Y⟩;refine aB ?_ ?_<;>intro h1
 ·have m:k<L.length:=U
  have y:((k:Int)-1).toNat=k-1:=U;refine aB ?_ ?_<;>intro j
  ·refine O ?_
   refine bf (v:=.bool false) rfl rfl ⟨⟨false,rfl,cL fun u=>?_⟩,Y.tail⟩;have R:=u k m;rw[y]at j;rcases j with (j|j)|⟨j,h4⟩
   ·omega
   ·omega
   have:=R.2 U;omega
  rw[y]at j;refine O ?_;refine⟨k+1,⟨rfl,az⟩,aU,⟨U,fun i l=>?_,Y⟩,U⟩;by_cases h:i=k
  ·subst h;exact⟨U,fun u=>U⟩
  exact g i U
 refine O ?_;refine bf (v:=.bool true) rfl rfl ⟨⟨true,rfl,im fun i l=>g i U⟩,Y.tail⟩
def å {g:Value}{t:aa}{L:J}(h:bn w0 a b c d vs t)(hv:dL w0 pv [a,b,c,d])(j:RS W w0 g L) :
  Calls ai 84 #[g,.pointer (some pv)] w0 fun e w'=>(∃ r,e=.returned (.bool r)/\(r=true↔¬fi t.vars L))/\Z w0 w' []:=by
 have Y:=Z.start w0;refine bA an Tryz.func84 ?_;refine O ?_;refine aL rfl (ä (h.at Y) (j.at Y)) ?_;rintro _ w' ⟨⟨r,rfl,l⟩,al⟩;refine aA ?_;clear al Y;intro Y;refine O ?_;refine bf (v:=.bool (!r)) rfl rfl ⟨⟨_,rfl,?_⟩,Y⟩;rw[<-l];simp
def æ {s:Value}{t:aa}{Ls:List J}(A:bn w0 a b c d vs t)(hv:dL w0 pv [a,b,c,d])(l:sk w0 s ss Ls) :
  Calls ai 111 #[s,.func (.func 84) #[] #[.pointer (some pv)]] w0 fun e w'=>(∃ r:Int,e=.returned (E r)/\(0<=r↔∃ i,i<Ls.length/\¬fi t.vars (Ls.getD i [])))/\Z w0 w' []:=by
 have m:=l.rs;have B:=l.len;have F:=m.bU;have Y:=Z.start w0;refine bA an Tryz.func111 ?_;refine O ?_;refine cP [4,5,8,18] (G:=Nat) (fun k=>[(8,E k)]) (fun k w=>k<=Ls.length/\(∀ i,i<k->fi t.vars (Ls.getD i []))/\Z w0 w []) (fun k=>Ls.length-k) 0 (fun _=>rfl) ⟨rfl,az⟩ ⟨bu _,fun i u=>absurd u (dr _),Y⟩ ?_;clear Y;rintro H k w ⟨hk,g,Y⟩;refine aB ?_ ?_<;>intro h1
 ·have j:k<Ls.length:=U
  refine O ?_;refine wr (cs:=[.pointer (some pv)]) rfl rfl (å (A.at Y) (hv.at Y) ((l.dJ k j).at Y)) ?_;rintro _ w' ⟨⟨r,rfl,y⟩,al⟩;refine aA ?_;clear al Y;intro Y;cases r
  ·have x:fi t.vars (Ls.getD k []):=by
    by_cases h:fi t.vars (Ls.getD k [])
    ·exact h
    have:=y.2 h;cases this
   refine O ?_;refine⟨k+1,⟨rfl,az⟩,aU,⟨U,fun i u=>?_,Y⟩,U⟩;by_cases h:i=k
   ·subst h;exact x
   exact g i U
  refine O ?_;refine bf (v:=E k) rfl rfl ⟨⟨k,rfl,⟨fun _=>⟨k,j,y.1 rfl⟩,fun _=>U⟩⟩,Y⟩
 refine O ?_;refine bf (v:=E (-1)) rfl rfl ⟨⟨-1,rfl,⟨fun h=>U,?_⟩⟩,Y⟩;rintro⟨i,u,he⟩;exact absurd (g i U) he
def ç {s:Value}{t:aa}{Ls:List J}(g:bn w0 a b c d vs t)(hv:dL w0 pv [a,b,c,d])(h:sk w0 s ss Ls) :
  Calls ai 83 #[s,.func (.func 84) #[] #[.pointer (some pv)]] w0 fun e w'=>(∃ r,e=.returned (.bool r)/\(r=true↔∃ i,i<Ls.length/\¬fi t.vars (Ls.getD i [])))/\Z w0 w' []:=by
 have Y:=Z.start w0;refine bA an Tryz.func83 ?_;refine O ?_;refine aL rfl (æ g hv h) ?_;rintro _ w' ⟨⟨r,rfl,j⟩,al⟩;refine aA ?_;clear al Y;intro Y;refine O ?_;exact bf (v:=.bool (decide (0<=r))) rfl rfl ⟨⟨_,rfl,by rw[gQ];exact j⟩,Y⟩
end
section
open Go.Sl Go
structure ot (t:aa) (Ls o q:List J):Prop where
 run:tk t Ls (ar t) o q
 cZ:aG t
 inv:∀ k,k<Ls.length->jp t.vars (Ls.getD k [])
 iZ:∀ k,k<Ls.length->br t.vars (Ls.getD k [])<=512
 len:Ls.length<=32
def è {f g:Nat->Int}{n:Nat}(h:∀ k,k<n->f k<=g k):js f n<=js g n:=by
 induction n with
 | zero=>exact dt _
 | succ n e =>
  have h1:=e fun k hk=>h k U;have j:=h n U;rw[ww,ww];omega
def é (f g:Nat->Int)(n:Nat):js (fun k=>f k+g k) n=js f n+js g n:=by
 induction n with
 | zero=>rfl
 | succ n e=>rw[ww,ww,ww,e];omega
def ê {f:Nat->Int}{n:Nat}(h:∀ k,k<n->f k=0):js f n=0:=by
 induction n with
 | zero=>rfl
 | succ n e=>rw[ww,e fun k hk=>h k U,h n U];rfl
section
variable {t:aa}{Ls o q:List J}
def ot.xS (h:ot t Ls o q){k:Nat}(hk:k<Ls.length):oD (bS t (Ls.getD k [])) (dG (ar t) q k) (br t.vars (Ls.getD k [])).toNat:=(h.run.aN (xT h.cZ) k U).xS
def ot.bU (h:ot t Ls o q)(hk:k<Ls.length):((br t.vars (Ls.getD k [])).toNat:Int)*1048576<=536870912:=by
 have:=h.iZ k hk;omega
def ot.dK (h:ot t Ls o q)(e:ab t.vars s)(hk:k<Ls.length):0<=bJ t Ls o s k/\bJ t Ls o s k<=bH:=Gn (h.inv k hk) (h.run.bT k hk) e
def ot.pD (h:ot t Ls o q){s:J}(g:ab t.vars s){k:Nat}(hk:k<Ls.length)(j:bJ t Ls o s k<bH):bJ t Ls o s k<=536870912:=by
 have e:=oF g (h.inv k hk).mem;have l:=h.run.bT k hk;have:=l.pD (h.xS hk) (C:=1048576) dc (fun x hx=>((h.run.aN (xT h.cZ) k U).dK x hx).2) (i:=(bX t.vars (Ls.getD k []) s).toNat) U (by rw[gA e.1];exact j);rw[gA e.1]at this;exact rU this (h.bU hk)
def ot.pQ (h:ot t Ls o q)(j:ab t.vars s):(gh t Ls o s<bH↔∀ k,k<Ls.length->bJ t Ls o s k<bH)/\(gh t Ls o s<bH->gh t Ls o s=js (bJ t Ls o s) Ls.length)/\0<=gh t Ls o s/\gh t Ls o s<=bH:=by
 have r:=h.len;by_cases l:∀ k,k<Ls.length->bJ t Ls o s k<bH
 ·have hv:=Od j fun k hk=>(by have:=l k hk;have e:bH=1125899906842624:=rfl;omega:bJ t Ls o s k≠1125899906842624)
  have m:=Ob (n:=Ls.length) (f:=bJ t Ls o s) (B:=536870912) fun k hk=>⟨(h.dK j hk).1,h.pD j hk (l k hk)⟩
  have e:bH=1125899906842624:=rfl;have g:gh t Ls o s<bH:=by rw[hv];omega
  exact⟨⟨fun _=>l,fun _=>g⟩,fun _=>hv,by rw[hv];exact m.1,U⟩
 obtain⟨k,hk⟩:=Classical.not_forall.1 l;obtain⟨hk,u⟩:=Classical.not_imp.1 hk;have v:=(h.dK j hk).2;have hv:=Oc j hk (show bJ t Ls o s k=1125899906842624 by have e:bH=1125899906842624:=rfl;omega);have e:bH=1125899906842624:=rfl;refine⟨⟨fun g=>U,fun m=>absurd m l⟩,fun g=>U,U,U⟩
def ot.xI (h:ot t Ls o q){op:Nat}(e:op<t.M.length):∀ k,k<=Ls.length->js (fun j=>(q.getD j []).getD op W.dflt) k+(dG (ar t) q k).getD op W.dflt=(ar t).getD op W.dflt
 | 0,_=>by rw[Vq,N8];omega
 | k+1,hk=>by
  have l:=h.xI e k U;have g:=(h.run.aN (xT h.cZ) k U).len;rw[ww,Jk (by rw[h.run.pl];omega),N6 U];omega
def ot.tb (h:ot t Ls o q){op:Nat}(r:ab t.vars s)(y:op<t.M.length)(H:jU t s op)(hk:k<Ls.length)(A:bJ t Ls o (cB t s op) k<bH) :
  bJ t Ls o s k<bH/\bJ t Ls o s k<=bJ t Ls o (cB t s op) k+(q.getD k []).getD op W.dflt:=by
 have u:=h.inv k hk;have B:=h.run.bT k hk;have F:=h.xS hk;have g:=h.run.aN (xT h.cZ) k U;have he:=RO h.cZ u r y H;have v:=uR h.cZ r y;have G:=oF r u.mem;have j:=oF v u.mem;have l:bJ t Ls o s k<bH:=by
  have m:=B.wO (bX t.vars (Ls.getD k []) (cB t s op)).toNat U (by rw[gA j.1];exact A);rw[gA j.1]at m;have K:=h.bU hk;have:=(B.pQ F (C:=1048576) dc (fun x hx=>(g.dK x hx).2) (by have e:bH=1125899906842624:=rfl;omega) (i:=(bX t.vars (Ls.getD k []) s).toNat) U).2 ⟨_,by rw[gA G.1];exact .step he m⟩
  rwa[gA G.1]at this
 refine⟨l,?_⟩;have m:qI (bS t (Ls.getD k [])) (o.getD k []) t.M.length (q.getD k []):=by
  rw[h.run.part k hk];exact Oa fun e he=>by have:=F.cK e he;rw[g.len]at this;exact this
 have:=m.low _ he l A;simp only[iC,jo]at this;unfold bJ;omega
def ot.step (h:ot t Ls o q){s:J}{op:Nat}(m:ab t.vars s)(j:op<t.M.length)(u:jU t s op)(v:gh t Ls o (cB t s op)<bH) :
  gh t Ls o s<bH/\gh t Ls o s<=(ar t).getD op W.dflt+gh t Ls o (cB t s op):=by
 have r:=uR h.cZ m j;obtain⟨x,a2,a3,a4⟩:=h.pQ m;obtain⟨y,A,B,F⟩:=h.pQ r;have hk:=y.1 v;have l:=x.2 fun k e=>(h.tb m j u e (hk k e)).1;refine⟨l,?_⟩;rw[a2 l,A v];have h1:=è (n:=Ls.length) (f:=bJ t Ls o s) (g:=fun k=>bJ t Ls o (cB t s op) k+(q.getD k []).getD op W.dflt) fun k e=>(h.tb m j u e (hk k e)).2;rw[é]at h1;have G:=h.xI j Ls.length (cD _);have H:=((h.run.aN (xT h.cZ) Ls.length (cD _)).at j).1;omega
def ot.aH (h:ot t Ls o q){s:J}(e:ab t.vars s)(I:cp s t.aH):gh t Ls o s=0:=by
 have g:∀ k,k<Ls.length->bJ t Ls o s k=0:=fun k hk=>RY (h.inv k hk) (h.run.bT k hk) e I;have j:=(h.pQ e).1.2 fun k hk=>by rw[g k hk];decide
 rw[(h.pQ e).2.1 j];exact ê g
end
section
variable {f:Int}{t:aa}{Ls o q D z:List J}
end
def iU (f:Nat->Int)(C:Nat)(n:Nat):Int:=js (fun v=>if C.testBit v then f v else 0) n
def R9 (f:Nat->Int)(C:Nat):iU f C 0=0:=rfl
def wo {f:Nat->Int}{n:Nat}(h:ib C n):iU f C (n+1)=iU f C n+f n:=by
 unfold iU;rw[ww,aM h]
def wP {f:Nat->Int}{n:Nat}(h:¬ib C n):iU f C (n+1)=iU f C n:=by
 unfold iU;rw[ww,aC h];omega
def HW {f:Nat->Int}{C:Nat}:∀ {n:Nat},(∀ k,k<n->0<=f k)->0<=iU f C n
 | 0,_=>dt _
 | n+1,h=>by
  have h1:=HW (C:=C) (n:=n) fun k hk=>h k U;have g:=h n U;by_cases e:ib C n
  ·rw[wo e];omega
  rw[wP e];exact h1
def Sa {f:Nat->Int}{C j:Nat}:∀ {n:Nat},(∀ k,k<n->0<=f k)->(∀ v,ib C v->ib j v)->iU f C n<=iU f j n
 | 0,_,_=>dt _
 | n+1,h,l=>by
  have h1:=Sa (n:=n) (fun k hk=>h k U) l;have m:=h n U;by_cases g:ib C n
  ·rw[wo g,wo (l n g)];omega
  by_cases e:ib j n
  ·rw[wP g,wo e];omega
  rw[wP g,wP e];exact h1
def Sb {f g:Nat->Int}{C:Nat}:∀ {n:Nat},(∀ k,k<n->ib C k->f k<=g k)->iU f C n<=iU g C n
 | 0,_=>dt _
 | n+1,h=>by
  have h1:=Sb (n:=n) fun k hk=>h k U;by_cases e:ib C n
  ·have:=h n U e
   rw[wo e,wo e];omega
  rw[wP e,wP e];exact h1
def Sc {f:Nat->Int}{C:Nat}:∀ {n k:Nat},(∀ k,k<n->0<=f k)->k<n->ib C k->f k<=iU f C n
 | 0,_,_,hk,_=>absurd hk (dr _)
 | n+1,k,h,hk,j=>by
  have l:=h n U;have m:=HW (C:=C) (n:=n) fun k hk=>h k U;by_cases e:k=n
  ·subst e;rw[wo j];omega
  have:=Sc (n:=n) (fun k hk=>h k U) U j;by_cases g:ib C n
  ·rw[wo g];omega
  rw[wP g];exact this
def HX {f:Nat->Int}{C:Nat}{B:Int}(g:0<=B):∀ {n:Nat},(∀ k,k<n->ib C k->f k<=B)->iU f C n<=n*B
 | 0,_=>by simp[R9]
 | n+1,h=>by
  have h1:=HX g (n:=n) fun k hk=>h k U;rw[Ci,zM];simp only[Jl,Dq];by_cases e:ib C n
  ·have:=h n U e
   rw[wo e];omega
  rw[wP e];omega
def Sd {f g:Nat->Int}{C:Nat}{c:Int}(r:0<=c):∀ {n:Nat},(∀ k,k<n->ib C k->f k=g k\/f k<=g k+c)->(∀ j k,j<n->k<n->ib C j->ib C k->f j≠g j->f k≠g k->j=k)->iU f C n<=iU g C n+c
 | 0,_,_=>by simp[R9];exact r
 | n+1,h,hu=>by
  have h1:=Sd r (n:=n) (fun k hk=>h k U) fun j k v hk=>hu j k U U;by_cases l:ib C n
  ·rw[wo l,wo l]
   by_cases e:f n=g n
   ·omega
   have x:=h n U l;have y:iU f C n<=iU g C n:=Sb fun k hk m=>by
    by_cases u:f k=g k
    ·omega
    have:=hu k n U U m l u e;omega
   omega
  rw[wP l,wP l];exact h1
def mj (f:Nat->Int)(l:J):Int:=l.foldl (fun a i=>min (a+f i.toNat) bH) 0
def O2 (f:Nat->Int)(l:J)(i:Int):mj f (l++[i])=min (mj f l+f i.toNat) bH:=by simp[mj]
def Ly {f:Nat->Int}{C:Nat}:∀ {n:Nat},(∀ k,k<n->0<=f k)->mj f (dz C n)=min (iU f C n) bH
 | 0,_=>rfl
 | n+1,h=>by
  have h1:=Ly (C:=C) (n:=n) fun k hk=>h k U;have g:=h n U;by_cases e:ib C n
  ·rw[Oi e,O2,h1,wo e,jo];omega
  rw[Oj e,wP e,h1]
def WB {f:Nat->Int}{l:J}(h:∀ i∈l,0<=f i.toNat):0<=mj f l/\mj f l<=bH:=by
 have key:∀ (l:J) (a:Int),0<=a->a<=bH->(∀ i∈l,0<=f i.toNat)->0<=l.foldl (fun a i=>min (a+f i.toNat) bH) a/\l.foldl (fun a i=>min (a+f i.toNat) bH) a<=bH:=by
  intro l
  induction l with
  | nil=>intro a g h1 _;exact⟨g,h1⟩
  | cons i l r =>
   intro a g h1 m;have:=m i gz;refine r _ ?_ ?_ fun j u=>m j (iR _ u)
   ·have e:bH=1125899906842624:=rfl
    show 0<=min (a+f i.toNat) bH;omega
   show min (a+f i.toNat) bH<=bH;omega
 exact key l 0 (dt _) dc h
def fP (f:Nat->Int)(Cs:List J):Int:=Cs.foldl (fun b l=>max b (mj f l)) 0
def JV (f:Nat->Int)(Cs:List J)(l:J):fP f (Cs++[l])=max (fP f Cs) (mj f l):=by simp[fP]
def Se {f:Nat->Int}{Cs:List J}:0<=fP f Cs/\∀ l∈Cs,mj f l<=fP f Cs:=by
 refine mP (P:=fun Cs=>0<=fP f Cs/\∀ l∈Cs,mj f l<=fP f Cs) ⟨dt _,fun l e=>by simp at e⟩ ?_ Cs;intro L x ⟨g,h1⟩;rw[JV];refine⟨U,fun l e=>?_⟩;rcases gG.1 e with e|e
 ·have:=h1 l e;omega
 rw[dp.1 e];omega
def ë {f:Nat->Int}{Cs:List J}:fP f Cs=0\/∃ l∈Cs,fP f Cs=mj f l:=by
 refine mP (P:=fun Cs=>fP f Cs=0\/∃ l∈Cs,fP f Cs=mj f l) (.inl rfl) ?_ Cs;intro L x g;rw[JV];by_cases h:fP f L<=mj f x
 ·exact .inr ⟨x,sm,U⟩
 rcases g with g|⟨l,j,e⟩
 ·exact .inl U
 exact .inr ⟨l,by simp[j],U⟩
section
variable {n:Nat}{N:Nat->Nat}{Cs:List J}{f:Nat->Int}
def Sf (g:Gr n N)(j:kG n N Cs)(e:∀ k,k<n->0<=f k)(h:tc n N C):min (iU f C n) bH<=fP f Cs:=by
 obtain⟨l,h1,m⟩:=OA g _ C h (cD _);have r:=(Se (f:=f) (Cs:=Cs)).2 _ ((j _).2 ⟨l,h1,rfl⟩);rw[Ly e]at r;have:=Sa e m;omega
def HY (j:kG n N Cs)(g:∀ k,k<n->0<=f k):∃ C,tc n N C/\fP f Cs=min (iU f C n) bH:=by
 rcases ë (f:=f) (Cs:=Cs) with h|⟨l,m,e⟩
 ·refine⟨0,⟨fun v hv=>by simp[ib]at hv,fun u v hu=>by simp[ib]at hu⟩,?_⟩
  have:iU f 0 n=0:=by
   have h1:=HW (C:=0) g;have x:=HX (f:=f) (C:=0) (B:=0) (dt _) (n:=n) fun k _ r=>by simp[ib]at r
   omega
  rw[this,h];decide
 obtain⟨C,hm,rfl⟩:=(j _).1 m;exact⟨C,⟨hm.bd,hm.tl⟩,by rw[e,Ly g]⟩
def ì (g:kG n N Cs)(h:∀ k,k<n->0<=f k):0<=fP f Cs/\fP f Cs<=bH:=by
 obtain⟨C,_,e⟩:=HY g h;exact⟨Se.1,U⟩
def í (h:Gr n N)(j:kG n N Cs)(g:∀ k,k<n->0<=f k)(hk:k<n)(hi:f k<=bH):f k<=fP f Cs:=by
 have e:tc n N (2 ^ k):=⟨fun v hv=>by
   have:k=v:=by simpa [ib,yC] using hv
   omega,fun u v hu hv l=>by
   have h1:k=u:=by simpa [ib,yC] using hu
   have m:k=v:=by simpa [ib,yC] using hv
   omega⟩
 have h1:=Sf h j g e;have m:=Sc g hk (C:=2 ^ k) (by simp[ib]);omega
end
def oT (t:aa)(op:Nat)(p:J):Prop:=∃ e∈(t.M.getD op bj).aJ,e.var∈p
def mX (t:aa)(a b:J):Prop:=∀ op,op<t.M.length->¬(oT t op a/\oT t op b)
def Sg {t:aa}{a b:J}(h:mX t a b):mX t b a:=fun op g e=>h op g ⟨e.2,e.1⟩
def î {vars:J}{v:Int}(hv:0<=v)(l:List kP):(∀ e∈l,gP vars e)->(∀ e∈l,e.var≠v)->sg (fj s l) v=sg s v:=by
 refine mP (P:=fun l=>(∀ e∈l,gP vars e)->(∀ e∈l,e.var≠v)->sg (fj s l) v=sg s v) (fun _ _=>rfl) ?_ l;intro l e h h1 g;have i1:=h (fun x hx=>h1 x (by simp[hx])) fun x hx=>g x (by simp[hx]);rw[Ew];split
 ·rw[yS (tO (h1 e sm)).1 hv (g e sm)];exact i1
 exact i1
def ï {t:aa}{p:J}{op:Nat}(I:aG t)(g:jp t.vars p)(j:op<t.M.length)(h:¬oT t op p):bX t.vars p (cB t s op)=bX t.vars p s :=
 CY fun v hv=>î (g.mem v hv).1 _ (I.op op j).mem fun e he l=>h ⟨e,he,by rw[l];exact hv⟩
structure kD (t:aa) (Ls o:List J) (N:Nat->Nat) (Cs:List J):Prop where
 cZ:aG t
 inv:∀ k,k<Ls.length->jp t.vars (Ls.getD k [])
 iZ:∀ k,k<Ls.length->br t.vars (Ls.getD k [])<=512
 len:Ls.length<=32
 bT:∀ k,k<Ls.length->cN (bS t (Ls.getD k [])) (ar t) (fq t (Ls.getD k [])) (br t.vars (Ls.getD k [])).toNat (o.getD k [])
 gr:Gr Ls.length N
 add:∀ u v,u<Ls.length->v<Ls.length->(ib (N u) v↔u≠v/\mX t (Ls.getD u []) (Ls.getD v []))
 cl:kG Ls.length N Cs
noncomputable def gB (t:aa)(Ls o Cs:List J)(s:J):Int:=fP (bJ t Ls o s) Cs
section
variable {t:aa}{Ls o Cs:List J}{N:Nat->Nat}
def kD.dK (h:kD t Ls o N Cs)(e:ab t.vars s)(hk:k<Ls.length):0<=bJ t Ls o s k/\bJ t Ls o s k<=bH:=Gn (h.inv k hk) (h.bT k hk) e
def kD.xS (h:kD t Ls o N Cs){k:Nat}:oD (bS t (Ls.getD k [])) (ar t) (br t.vars (Ls.getD k [])).toNat:=(xT h.cZ).xS
def kD.pD (h:kD t Ls o N Cs){s:J}(g:ab t.vars s){k:Nat}(hk:k<Ls.length)(j:bJ t Ls o s k<bH):bJ t Ls o s k<=536870912:=by
 have e:=oF g (h.inv k hk).mem;have l:=h.iZ k hk;have:=(h.bT k hk).pD h.xS (C:=1048576) dc (fun x hx=>((xT h.cZ).dK x hx).2) (i:=(bX t.vars (Ls.getD k []) s).toNat) U (by rw[gA e.1];exact j);rw[gA e.1]at this;exact rU this U
def kD.M6 (h:kD t Ls o N Cs)(e:ab t.vars s):0<=gB t Ls o Cs s/\gB t Ls o Cs s<=bH:=ì h.cl fun _ hk=>(h.dK e hk).1
def kD.pQ (h:kD t Ls o N Cs)(j:ab t.vars s):gB t Ls o Cs s<bH↔∀ k,k<Ls.length->bJ t Ls o s k<bH:=by
 have g:=fun k (hk:k<Ls.length)=>(h.dK j hk).1;constructor
 ·intro l k hk
  have:=í h.gr h.cl g hk (h.dK j hk).2;unfold gB at l;omega
 intro m;obtain⟨C,_,e⟩:=HY h.cl g;have r:=HX (f:=bJ t Ls o s) (C:=C) (B:=536870912) dc (n:=Ls.length) fun k hk _=>h.pD j hk (m k hk);have l:=h.len;unfold gB;rw[e];have u:bH=1125899906842624:=rfl;omega
def kD.tb (h:kD t Ls o N Cs){op:Nat}(m:ab t.vars s)(A:op<t.M.length)(G:jU t s op)(hk:k<Ls.length)(B:bJ t Ls o (cB t s op) k<bH) :
  bJ t Ls o s k<bH/\bJ t Ls o s k<=bJ t Ls o (cB t s op) k+(ar t).getD op W.dflt:=by
 have r:=h.inv k hk;have u:=h.bT k hk;have he:=RO h.cZ r m A G;have v:=uR h.cZ m A;have F:=oF m r.mem;have g:=oF v r.mem;have H:=h.iZ k hk;have j:=u.E4 h.xS he B;simp only[iC,jo]at j;have y:bJ t Ls o s k<bH:=by
  have l:=u.wO (bX t.vars (Ls.getD k []) (cB t s op)).toNat U (by rw[gA g.1];exact B);rw[gA g.1]at l;have:=(u.pQ h.xS (C:=1048576) dc (fun x hx=>((xT h.cZ).dK x hx).2) (by have e:bH=1125899906842624:=rfl;omega) (i:=(bX t.vars (Ls.getD k []) s).toNat) U).2 ⟨_,by rw[gA F.1];exact .step he l⟩
  rwa[gA F.1]at this
 exact⟨y,j⟩
def kD.step (h:kD t Ls o N Cs){s:J}{op:Nat}(r:ab t.vars s)(m:op<t.M.length)(K:jU t s op)(L:gB t Ls o Cs (cB t s op)<bH) :
  gB t Ls o Cs s<bH/\gB t Ls o Cs s<=(ar t).getD op W.dflt+gB t Ls o Cs (cB t s op):=by
 have u:=uR h.cZ r m;have v:=(h.pQ u).1 L;have y:=(h.pQ r).2 fun k hk=>(h.tb r m K hk (v k hk)).1;refine⟨y,?_⟩;have A:=fun k (hk:k<Ls.length)=>(h.dK r hk).1;have x:=fun k (hk:k<Ls.length)=>(h.dK u hk).1;obtain⟨C,P,e⟩:=HY h.cl A;have h1:=Sf h.gr h.cl x P;have R:=((xT h.cZ).at m).1
 have l:∀ k,k<Ls.length->bJ t Ls o s k≠bJ t Ls o (cB t s op) k->oT t op (Ls.getD k []):=fun k hk l=>nr fun B=>l (by
  unfold bJ;rw[ï h.cZ (h.inv k hk) m B])
 have V:=Sd (f:=bJ t Ls o s) (g:=bJ t Ls o (cB t s op)) (C:=C) R (n:=Ls.length) (fun k hk _=>.inr (h.tb r m K hk (v k hk)).2) fun j k Q hk F G S T=>nr fun H =>
   ((h.add j k Q hk).1 (P.tl j k F G H)).2 op m ⟨l j Q S,l k hk T⟩
 unfold gB at L ⊢;rw[e];omega
def kD.aH (h:kD t Ls o N Cs){s:J}(j:ab t.vars s)(I:cp s t.aH):gB t Ls o Cs s=0:=by
 have l:∀ k,k<Ls.length->bJ t Ls o s k=0:=fun k hk=>RY (h.inv k hk) (h.bT k hk) j I;have g:=fun k (hk:k<Ls.length)=>(h.dK j hk).1;obtain⟨C,_,e⟩:=HY h.cl g;have m:=HX (f:=bJ t Ls o s) (C:=C) (B:=0) (dt _) (n:=Ls.length) fun k hk _=>by rw[l k hk];exact dt _
 have r:=HW (C:=C) g;unfold gB;rw[e];have u:bH=1125899906842624:=rfl;omega
end
end
section
open Go.Sl Go
attribute [local irreducible] vc opsW opsD opV opW PureV ReadV Thn Blk
noncomputable def gp (t:aa)(Ls:List J):Int:=if bM t≠0 then bM t else if ∀ i,i<Ls.length->fi t.vars (Ls.getD i []) then 0 else 2
def VV {s:Value}{t:aa}{Ls:List J}(Q:bn w0 a b c d vs t)(y:sk w0 s ss Ls) :
  Calls ai 106 #[.agg #[a,b,c,d],s] w0 fun e w'=>e=.returned (bI (gp t Ls))/\Z w0 w' []:=by
 have A:=Q;obtain⟨V,hb,hc,hd⟩:=Q;have j':=V.bU;have B:=y.rs;have H':=y.len;have J':=B.bU;have Y:=Z.start w0;refine bA an Tryz.func106 ?_;refine eE ?_;intro R w Y;refine aL rfl (tC (A.at Y)) ?_;rintro _ w' ⟨rfl,al⟩;refine aA ?_;clear al Y;intro Y;by_cases hk:bM t=0
 ·rw[fK hk]
  refine O ?_;refine cP [4,4,7,9,17,52] (G:=Nat) (fun k=>[(17,E k)]) (fun k w=>k<=Ls.length/\(∀ i,i<k->fi t.vars (Ls.getD i []))/\Z w0 w [ak R 26 [a,b,c,d]]) (fun k=>Ls.length-k) 0 (fun _=>rfl) ⟨rfl,az⟩ ⟨bu _,fun i r=>absurd r (dr _),Y⟩ ?_;clear Y;rintro σ m w ⟨hm,g,Y⟩;refine aB ?_ ?_<;>intro h0
  ·have u:m<Ls.length:=U
   have S:=y.dJ m u;have F:=S.bU;obtain⟨L,H⟩:=À (Ls.getD m []);rw[<-H]at S F;refine O ?_;refine cP [4,4,8,9,23,51] (G:=Nat) (fun k=>[(23,E k)]) (fun k w=>k<=L.length/\(∀ i,i<k->(0<=L.getD i W.dflt/\L.getD i W.dflt<t.vars.length)/\(0<i->L.getD (i-1) W.dflt<L.getD i W.dflt))/\Z w0 w [ak R 26 [a,b,c,d]]) (fun k=>L.length-k) 0 (fun _=>rfl) ⟨rfl,az⟩ ⟨bu _,fun i r=>absurd r (dr _),Y⟩ ?_;clear Y;rintro P' k w ⟨R',l,Y⟩;refine aB ?_ ?_<;>intro h1
   ·have K:k<L.length:=U
    have T:((k:Int)-1).toNat=k-1:=U;refine aB ?_ ?_<;>intro j
    ·refine O ?_
     refine bf (v:=bI 2) rfl (by rw[cS dc];rfl) ⟨?_,Y.tail⟩;rw[gp,aC (by simp[hk]),aC];intro P;have x:=P m u;rw[<-H]at x;have h3:=x k K;rw[T]at j;rcases j with (j|j)|⟨j,h4⟩
     ·omega
     ·omega
     have:=h3.2 U;omega
    rw[T]at j;refine O ?_;refine⟨k+1,⟨rfl,az⟩,aU,⟨U,fun i r=>?_,Y⟩,U⟩;by_cases h:i=k
    ·subst h;exact⟨U,fun h0=>U⟩
    exact l i U
   refine O ?_;refine⟨m+1,⟨rfl,az⟩,aU,⟨U,fun i r=>?_,Y⟩,U⟩;by_cases h:i=m
   ·subst h;rw[<-H];intro j x;exact l j U
   exact g i U
  refine O ?_;refine bf (v:=bI 0) rfl (by rw[fK rfl];rfl) ⟨?_,Y.tail⟩;rw[gp,aC (by simp[hk]),aM];intro i r;exact g i U
 rw[cS hk];refine O ?_;refine bf (v:=bI (bM t)) rfl (by rw[cS hk];rfl) ⟨?_,Y.tail⟩;rw[gp,aM hk]
def HZ {P Q:Prop}[Decidable Q]{b:Bool}(h:b=true↔P):(b || decide Q)=true↔P\/Q:=by rw[qa,h,gQ]
def BA {n:Nat}{p:Nat->Prop}:(∃ i,i<n+1/\p i)↔(∃ i,i<n/\p i)\/p n:=by
 constructor
 ·rintro⟨i,g,h⟩
  by_cases e:i=n
  ·subst e;exact .inr h
  exact .inl ⟨i,U,h⟩
 rintro (⟨i,g,h⟩|h)
 ·exact⟨i,U,h⟩
 exact⟨n,U,h⟩
def Sh {t:aa}{op:Nat}{p:J}:oT t op p↔∃ i,i<(t.M.getD op bj).aJ.length/\((t.M.getD op bj).aJ.getD i bE).var∈p:=by
 constructor
 ·rintro⟨e,he,hv⟩
  obtain⟨i,g,rfl⟩:=A0.1 he;exact⟨i,g,by rw[am g];exact hv⟩
 rintro⟨i,g,hv⟩;exact⟨_,cH bE g,hv⟩
def VW {xa xb:Value}{t:aa}{A B:J}(ht:bn w0 a b c d vs t)(hA:RS W w0 xa A)(hB:RS W w0 xb B) :
  Calls ai 107 #[.agg #[a,b,c,d],xa,xb] w0 fun e w'=>(∃ r,e=.returned (.bool r)/\(r=true↔mX t A B))/\Z w0 w' []:=by
 obtain⟨ha,hb,hc,S⟩:=ht;have T:=S.rs;have R':=S.len;have T':=T.bU;have Y:=Z.start w0;refine bA an Tryz.func107 ?_;refine eE ?_;intro pt w Y;refine cP [6,6,8,10,12,12,16,46] (G:=Nat) (fun k=>[(16,E k)]) (fun k w=>k<=t.M.length/\(∀ op,op<k->¬(oT t op A/\oT t op B))/\Z w0 w [ak pt 26 [a,b,c,d]]) (fun k=>t.M.length-k) 0 (fun _=>rfl) ⟨rfl,az⟩ ⟨bu _,fun i V=>absurd V (dr _),Y⟩ ?_;clear Y;rintro σ k w ⟨hk,l,Y⟩;refine aB ?_ ?_<;>intro h1
 ·have K:k<t.M.length:=U
  have L:=S.dJ k K;have H':=L.one;obtain⟨es,m⟩:=L.aJ;have P:=m.rs;have J':=m.len;have P':=P.bU;refine eE ?_;intro pe w Y;refine nZ [9,10,12,12,23,41] (G:=Nat) (H:=Bool) (I':=Bool) (fun j x y=>[(23,E j),(9,.bool x),(10,.bool y)]) (fun j x y w=>j<=es.length/\(x=true↔∃ i,i<j/\((t.M.getD k bj).aJ.getD i bE).var∈A)/\(y=true↔∃ i,i<j/\((t.M.getD k bj).aJ.getD i bE).var∈B)/\Z w0 w [ak pe 44 (cd.enc (au cd vs k)),ak pt 26 [a,b,c,d]]) (fun j _ _=>es.length-j) 0 false false (fun _ _ _=>rfl) ⟨rfl,rfl,rfl,az⟩ ⟨bu _,cL (fun⟨i,V,_⟩=>by omega),cL (fun⟨i,V,_⟩=>by omega),Y⟩ ?_;clear Y;rintro V' j x y w ⟨hj,hx,Q,Y⟩;refine aB ?_ ?_<;>intro h2
  ·have u:j<(t.M.getD k bj).aJ.length:=U
   have F:=m.dJ j u;have _a:=F.one;have j':=F.var;have g:∀ R:J,(∃ i,i<j+1/\((t.M.getD k bj).aJ.getD i bE).var∈R)↔(∃ i,i<j/\((t.M.getD k bj).aJ.getD i bE).var∈R)\/(au aV es j).var∈R:=fun R=>by rw[j'];exact BA
   cases x<;>cases y
   ·refine eE ?_;intro p w Y
    refine aL rfl (wE (v:=(au aV es j).var) (hA.at Y)) ?_;rintro _ w' ⟨rfl,al⟩;refine aA ?_;clear al Y;intro Y;refine O ?_;refine aL rfl (wE (v:=(au aV es j).var) (hB.at Y)) ?_;rintro _ w' ⟨rfl,al⟩;refine aA ?_;clear al Y;intro Y;refine O ?_;exact⟨j+1,_,_,⟨rfl,rfl,rfl,az⟩,aU,⟨U,(HZ hx).trans (g A).symm,(HZ Q).trans (g B).symm,Y.aY⟩,U⟩
   ·refine eE ?_;intro p w Y
    refine aL rfl (wE (v:=(au aV es j).var) (hA.at Y)) ?_;rintro _ w' ⟨rfl,al⟩;refine aA ?_;clear al Y;intro Y;refine O ?_;exact⟨j+1,_,true,⟨rfl,rfl,rfl,az⟩,aU,⟨U,(HZ hx).trans (g A).symm,im ((g B).2 (.inl (Q.1 rfl))),Y.aY⟩,U⟩
   ·refine eE ?_;intro p w Y
    refine aL rfl (wE (v:=(au aV es j).var) (hB.at Y)) ?_;rintro _ w' ⟨rfl,al⟩;refine aA ?_;clear al Y;intro Y;refine O ?_;exact⟨j+1,true,_,⟨rfl,rfl,rfl,az⟩,aU,⟨U,im ((g A).2 (.inl (hx.1 rfl))),(HZ Q).trans (g B).symm,Y.aY⟩,U⟩
   refine eE ?_;intro p w Y;exact⟨j+1,true,true,⟨rfl,rfl,rfl,az⟩,aU,⟨U,im ((g A).2 (.inl (hx.1 rfl))),im ((g B).2 (.inl (Q.1 rfl))),Y.aY⟩,U⟩
  have u:j=(t.M.getD k bj).aJ.length:=U;subst u;have F:=hx.trans Sh.symm;have R:=Q.trans Sh.symm;have g:¬(oT t k A/\oT t k B)->∀ op,op<k+1->¬(oT t op A/\oT t op B):=fun h op ho=>by
   by_cases e:op=k
   ·subst e;exact h
   exact l op U
  cases x<;>cases y
  ·refine O ?_
   exact⟨k+1,⟨rfl,az⟩,aU,⟨U,g fun h=>(by have:=F.2 h.1;cases this),Y.aY⟩,U⟩
  ·refine O ?_
   exact⟨k+1,⟨rfl,az⟩,aU,⟨U,g fun h=>(by have:=F.2 h.1;cases this),Y.aY⟩,U⟩
  ·refine O ?_
   exact⟨k+1,⟨rfl,az⟩,aU,⟨U,g fun h=>(by have:=R.2 h.2;cases this),Y.aY⟩,U⟩
  refine O ?_;exact bf (v:=.bool false) rfl rfl ⟨⟨false,rfl,cL fun h=>h k K ⟨F.1 rfl,R.1 rfl⟩⟩,Y.aY⟩
 refine O ?_;exact bf (v:=.bool true) rfl rfl ⟨⟨true,rfl,im fun op ho=>l op U⟩,Y.aY⟩
end
section
open Go.Sl Go
open Classical in
noncomputable def ku (t:aa)(Ls:List J)(i:Nat):Nat->List kM
 | 0=>[]
 | k+1=>ku t Ls i k++if mX t (Ls.getD i []) (Ls.getD k []) then [⟨(k:Int),(i:Int),1⟩] else []
noncomputable def ga (t:aa)(Ls:List J):Nat->List kM
 | 0=>[]
 | i+1=>ga t Ls i++ku t Ls i i
def VX {t:aa}{Ls:List J}:ga t Ls i++ku t Ls i i=ga t Ls (i+1):=rfl
def JD {t:aa}{Ls:List J}(h:mX t (Ls.getD i []) (Ls.getD k [])):ku t Ls i (k+1)=ku t Ls i k++[⟨(k:Int),(i:Int),1⟩]:=by rw[ku,aM h]
def JC {t:aa}{Ls:List J}(h:¬mX t (Ls.getD i []) (Ls.getD k [])):ku t Ls i (k+1)=ku t Ls i k:=by rw[ku,aC h,fS]
def Lz {t:aa}{Ls:List J}{i:Nat}{a:kM}:∀ {k:Nat},a∈ku t Ls i k↔∃ j,j<k/\mX t (Ls.getD i []) (Ls.getD j [])/\a=⟨(j:Int),(i:Int),1⟩
 | 0=>by simp[ku]
 | k+1=>by
  by_cases h:mX t (Ls.getD i []) (Ls.getD k [])
  ·rw[JD h,gG,Lz,dp]
   constructor
   ·rintro (⟨j,m,g⟩|e)
    ·exact⟨j,U,g⟩
    exact⟨k,U,h,e⟩
   rintro⟨j,m,g,e⟩;by_cases l:j=k
   ·subst l;exact .inr e
   exact .inl ⟨j,U,g,e⟩
  rw[JC h,Lz];constructor
  ·rintro⟨j,m,g⟩
   exact⟨j,U,g⟩
  rintro⟨j,m,g,e⟩;by_cases l:j=k
  ·subst l;exact absurd g h
  exact⟨j,U,g,e⟩
def JB {t:aa}{Ls:List J}{i:Nat}:∀ k,(ku t Ls i k).length<=k
 | 0=>by simp[ku]
 | k+1=>by
  have:=JB (t:=t) (Ls:=Ls) (i:=i) k;by_cases h:mX t (Ls.getD i []) (Ls.getD k [])
  ·rw[JD h,length_append,r6];omega
  rw[JC h];omega
def Ex {t:aa}{Ls:List J}{a:kM}:∀ {n:Nat},a∈ga t Ls n↔∃ i j,i<n/\j<i/\mX t (Ls.getD i []) (Ls.getD j [])/\a=⟨(j:Int),(i:Int),1⟩
 | 0=>by simp[ga]
 | n+1=>by
  rw[ga,gG,Ex,Lz];constructor
  ·rintro (⟨i,j,l,g⟩|⟨j,h,g⟩)
   ·exact⟨i,j,U,g⟩
   exact⟨n,j,U,h,g⟩
  rintro⟨i,j,l,h,g⟩;by_cases e:i=n
  ·subst e;exact .inr ⟨j,h,g⟩
  exact .inl ⟨i,j,U,h,g⟩
def JA {t:aa}{Ls:List J}:∀ n,n<=32->(ga t Ls n).length<=n*32
 | 0,_=>by simp[ga]
 | n+1,e=>by
  have h1:=JA (t:=t) (Ls:=Ls) n U;have g:=JB (t:=t) (Ls:=Ls) (i:=n) n;rw[ga,length_append];omega
def JW {t:aa}{Ls:List J}{n:Nat}:∀ a∈ga t Ls n,fg n a:=fun a e=>by
 obtain⟨i,j,g,h,_,rfl⟩:=Ex.1 e;unfold fg;simp only;omega
def VY {t:aa}{Ls:List J}{n:Nat}(e:n<=32):cq n (ga t Ls n)=0:=by
 have:=JA (t:=t) (Ls:=Ls) n e;exact Of U U fun i g=>JW _ (cH bC.dflt g)
def WC {t:aa}{Ls:List J}{n u v:Nat}(hu:u<n)(hv:v<n):mU (ga t Ls n) u v↔u≠v/\mX t (Ls.getD u []) (Ls.getD v []):=by
 constructor
 ·rintro⟨g,a,m,l⟩
  obtain⟨i,j,x,y,e,rfl⟩:=Ex.1 m;refine⟨g,?_⟩;simp only at l;rcases l with ⟨h1,r⟩|⟨h1,r⟩
  ·obtain rfl:j=u:=U
   obtain rfl:i=v:=U;exact Sg e
  obtain rfl:j=v:=U;obtain rfl:i=u:=U;exact e
 rintro⟨g,e⟩;refine⟨g,?_⟩;rcases Nat.lt_or_gt_of_ne g with h|h
 ·exact⟨⟨(u:Int),(v:Int),1⟩,Ex.2 ⟨v,u,hv,h,Sg e,rfl⟩,.inl ⟨rfl,rfl⟩⟩
 exact⟨⟨(v:Int),(u:Int),1⟩,Ex.2 ⟨u,v,hu,h,e,rfl⟩,.inr ⟨rfl,rfl⟩⟩
end
end Go.Proofs.YtmapkjoefdgjfaaGreatDoor
