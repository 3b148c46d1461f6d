/- Several texts. -/
import Derived.Test.YtmapkjoefdgjfaaGreatDoorMW17H
set_option linter.unusedSimpArgs false
set_option linter.unusedVariables false
set_option linter.defProp false
set_option maxRecDepth 8000
set_option maxHeartbeats 16000000
open List Nat
namespace Go.Proofs.YtmapkjoefdgjfaaGreatDoor
open Go.Sl
variable {s:J}{k C i:Nat}{w0:World}{a b c d:Value}{vs:List kq}{pv:Addr}{ss:List Value}
section
open Go.Sl Go
attribute [local irreducible] vc opsW opsD opV opW PureV ReadV Thn Blk
structure tT (w:World) (s:Value) (ss:List Value) (Ls:List J):Prop where
 rs:RS aA w s ss
 len:ss.length=Ls.length
 eI:∀ i,i<Ls.length->RS W w (cL ss i) (Ls.getD i [])
def tT.at {w0 w:World}{Γ:List HP}{s:Value}{ss:List Value}{Ls:List J}(h:tT w0 s ss Ls)(Y:Z w0 w Γ):tT w s ss Ls:=⟨h.rs.at Y,h.len,fun i e=>(h.eI i e).at Y⟩
def a_ {x:Value}{t:aa}{L:J}(A:bR w0 a b c d vs t)(B:RS W w0 x L) :
  Calls ak 85 #[.agg #[a,b,c,d],x] w0 fun e w'=>(∃ r,e=.returned (.bool r)/\(r=true↔fX t.vars L))/\Z w0 w' []:=by
 obtain⟨F,S,T,V⟩:=A;have H:=F.cn;have K:=B.cn;have Y:=Z.start w0;refine bI ar Tryz.func85 ?_;refine ep ?_;intro P w Y;refine de [4,6,9,36] (G:=Nat) (fun k=>[(9,E k)]) (fun k w=>k<=L.length/\(∀ i,i<k->(0<=L.getD i W.dflt/\L.getD i W.dflt<t.vars.length)/\(0<i->L.getD (i-1) W.dflt<L.getD i W.dflt))/\Z w0 w [am P 26 [a,b,c,d]]) (fun k=>L.length-k) 0 (fun _=>rfl) ⟨rfl,az⟩ ⟨bC _,fun i l=>absurd l (eo _),Y⟩ ?_;clear Y;rintro σ k w ⟨Q,g,Y⟩;refine aC ?_ ?_<;>intro h1
 ·have m:k<L.length:=U
  have y:((k:Int)-1).toNat=k-1:=U;refine aC ?_ ?_<;>intro j
  ·refine O ?_
   refine bo (v:=.bool false) rfl rfl ⟨⟨false,rfl,dU fun u=>?_⟩,Y.tail⟩;have R:=u k m;rw[y]at j;rcases j with (j|j)|⟨j,h4⟩
   ·omega
   ·omega
   have:=R.2 U;omega
  rw[y]at j;refine O ?_;refine⟨k+1,⟨rfl,az⟩,aX,⟨U,fun i l=>?_,Y⟩,U⟩;by_cases h:i=k
  ·subst h;exact⟨U,fun u=>U⟩
  exact g i U
 refine O ?_;refine bo (v:=.bool true) rfl rfl ⟨⟨true,rfl,js fun i l=>g i U⟩,Y.tail⟩
def b_ {g:Value}{t:aa}{L:J}(h:bR w0 a b c d vs t)(hv:eJ w0 pv [a,b,c,d])(j:RS W w0 g L) :
  Calls ak 84 #[g,.pointer (some pv)] w0 fun e w'=>(∃ r,e=.returned (.bool r)/\(r=true↔¬fX t.vars L))/\Z w0 w' []:=by
 have Y:=Z.start w0;refine bI ar Tryz.func84 ?_;refine O ?_;refine aR rfl (a_ (h.at Y) (j.at Y)) ?_;rintro _ w' ⟨⟨r,rfl,l⟩,aw⟩;refine aL ?_;clear aw Y;intro Y;refine O ?_;refine bo (v:=.bool (!r)) rfl rfl ⟨⟨_,rfl,?_⟩,Y⟩;rw[<-l];simp
def c_ {s:Value}{t:aa}{Ls:List J}(A:bR w0 a b c d vs t)(hv:eJ w0 pv [a,b,c,d])(l:tT w0 s ss Ls) :
  Calls ak 111 #[s,.func (.func 84) #[] #[.pointer (some pv)]] w0 fun e w'=>(∃ r:Int,e=.returned (E r)/\(0<=r↔∃ i,i<Ls.length/\¬fX t.vars (Ls.getD i [])))/\Z w0 w' []:=by
 have m:=l.rs;have B:=l.len;have F:=m.cn;have Y:=Z.start w0;refine bI ar Tryz.func111 ?_;refine O ?_;refine de [4,5,8,18] (G:=Nat) (fun k=>[(8,E k)]) (fun k w=>k<=Ls.length/\(∀ i,i<k->fX t.vars (Ls.getD i []))/\Z w0 w []) (fun k=>Ls.length-k) 0 (fun _=>rfl) ⟨rfl,az⟩ ⟨bC _,fun i u=>absurd u (eo _),Y⟩ ?_;clear Y;rintro H k w ⟨hk,g,Y⟩;refine aC ?_ ?_<;>intro h1
 ·have j:k<Ls.length:=U
  refine O ?_;refine xK (cs:=[.pointer (some pv)]) rfl rfl (b_ (A.at Y) (hv.at Y) ((l.eI k j).at Y)) ?_;rintro _ w' ⟨⟨r,rfl,y⟩,aw⟩;refine aL ?_;clear aw Y;intro Y;cases r
  ·have x:fX t.vars (Ls.getD k []):=by
    by_cases h:fX t.vars (Ls.getD k [])
    ·exact h
    have:=y.2 h;cases this
   refine O ?_;refine⟨k+1,⟨rfl,az⟩,aX,⟨U,fun i u=>?_,Y⟩,U⟩;by_cases h:i=k
   ·subst h;exact x
   exact g i U
  refine O ?_;refine bo (v:=E k) rfl rfl ⟨⟨k,rfl,⟨fun _=>⟨k,j,y.1 rfl⟩,fun _=>U⟩⟩,Y⟩
 refine O ?_;refine bo (v:=E (-1)) rfl rfl ⟨⟨-1,rfl,⟨fun h=>U,?_⟩⟩,Y⟩;rintro⟨i,u,he⟩;exact absurd (g i U) he
def d_ {s:Value}{t:aa}{Ls:List J}(g:bR w0 a b c d vs t)(hv:eJ w0 pv [a,b,c,d])(h:tT w0 s ss Ls) :
  Calls ak 83 #[s,.func (.func 84) #[] #[.pointer (some pv)]] w0 fun e w'=>(∃ r,e=.returned (.bool r)/\(r=true↔∃ i,i<Ls.length/\¬fX t.vars (Ls.getD i [])))/\Z w0 w' []:=by
 have Y:=Z.start w0;refine bI ar Tryz.func83 ?_;refine O ?_;refine aR rfl (c_ g hv h) ?_;rintro _ w' ⟨⟨r,rfl,j⟩,aw⟩;refine aL ?_;clear aw Y;intro Y;refine O ?_;exact bo (v:=.bool (decide (0<=r))) rfl rfl ⟨⟨_,rfl,by rw[jV];exact j⟩,Y⟩
end
section
open Go.Sl Go
structure pD (t:aa) (Ls o q:List J):Prop where
 run:uM t Ls (ao t) o q
 dJ:aJ t
 inv:∀ k,k<Ls.length->jX t.vars (Ls.getD k [])
 jQ:∀ k,k<Ls.length->bG t.vars (Ls.getD k [])<=512
 len:Ls.length<=32
def e_ {f g:Nat->Int}{n:Nat}(h:∀ k,k<n->f k<=g k):kz f n<=kz g n:=by
 induction n with
 | zero=>exact iq _
 | succ n e =>
  have h1:=e fun k hk=>h k U;have j:=h n U;rw[x7,x7];omega
def f_ (f g:Nat->Int)(n:Nat):kz (fun k=>f k+g k) n=kz f n+kz g n:=by
 induction n with
 | zero=>rfl
 | succ n e=>rw[x7,x7,x7,e];omega
def g_ {f:Nat->Int}{n:Nat}(h:∀ k,k<n->f k=0):kz f n=0:=by
 induction n with
 | zero=>rfl
 | succ n e=>rw[x7,e fun k hk=>h k U,h n U];rfl
section
variable {t:aa}{Ls o q:List J}
def pD.zy (h:pD t Ls o q){k:Nat}(hk:k<Ls.length):pR (cm t (Ls.getD k [])) (eE (ao t) q k) (bG t.vars (Ls.getD k [])).toNat:=(h.run.aT (zz h.dJ) k U).zy
def pD.cn (h:pD t Ls o q)(hk:k<Ls.length):((bG t.vars (Ls.getD k [])).toNat:Int)*1048576<=536870912:=by
 have:=h.jQ k hk;omega
def pD.et (h:pD t Ls o q)(e:aj t.vars s)(hk:k<Ls.length):0<=bT t Ls o s k/\bT t Ls o s k<=bZ:=H5 (h.inv k hk) (h.run.cr k hk) e
def pD.ru (h:pD t Ls o q){s:J}(g:aj t.vars s){k:Nat}(hk:k<Ls.length)(j:bT t Ls o s k<bZ):bT t Ls o s k<=536870912:=by
 have e:=qF g (h.inv k hk).mem;have l:=h.run.cr k hk;have:=l.ru (h.zy hk) (C:=1048576) dc (fun x hx=>((h.run.aT (zz h.dJ) k U).et x hx).2) (i:=(cy t.vars (Ls.getD k []) s).toNat) U (by rw[jW e.1];exact j);rw[jW e.1]at this;exact uJ this (h.cn hk)
def pD.qE (h:pD t Ls o q)(e:aj t.vars s):(ic t Ls o s<bZ↔∀ k,k<Ls.length->bT t Ls o s k<bZ)/\(ic t Ls o s<bZ->ic t Ls o s=kz (bT t Ls o s) Ls.length)/\0<=ic t Ls o s/\ic t Ls o s<=bZ:=by
 have j:=h.len;by_cases g:∀ k,k<Ls.length->bT t Ls o s k<bZ
 ·have hv:=Qu e fun k hk=>(by grind:bT t Ls o s k≠1125899906842624)
  have l:=Qr (n:=Ls.length) (f:=bT t Ls o s) (B:=536870912) fun k hk=>⟨(h.et e hk).1,h.ru e hk (g k hk)⟩
  grind
 obtain⟨k,hk⟩:=Classical.not_forall.1 g;obtain⟨hk,l⟩:=Classical.not_imp.1 hk;have m:=(h.et e hk).2;have hv:=Qt e hk (show bT t Ls o s k=1125899906842624 by grind)
 grind
def pD.zj (h:pD t Ls o q){op:Nat}(e:op<t.M.length):∀ k,k<=Ls.length->kz (fun j=>(q.getD j []).getD op W.dflt) k+(eE (ao t) q k).getD op W.dflt=(ao t).getD op W.dflt
 | 0,_=>by rw[X5,Qo];omega
 | k+1,hk=>by
  have l:=h.zj e k U;have g:=(h.run.aT (zz h.dJ) k U).len;rw[x7,KV (by rw[h.run.pl];omega),Qm U];omega
def pD.uD (h:pD t Ls o q){op:Nat}(r:aj t.vars s)(y:op<t.M.length)(H:jZ t s op)(hk:k<Ls.length)(A:bT t Ls o (cD t s op) k<bZ) :
  bT t Ls o s k<bZ/\bT t Ls o s k<=bT t Ls o (cD t s op) k+(q.getD k []).getD op W.dflt:=by
 have u:=h.inv k hk;have B:=h.run.cr k hk;have F:=h.zy hk;have g:=h.run.aT (zz h.dJ) k U;have he:=Uy h.dJ u r y H;have v:=sb h.dJ r y;have G:=qF r u.mem;have j:=qF v u.mem;have l:bT t Ls o s k<bZ:=by
  have m:=B.ww (cy t.vars (Ls.getD k []) (cD t s op)).toNat U (by rw[jW j.1];exact A);rw[jW j.1]at m;have K:=h.cn hk;have:=(B.qE F (C:=1048576) dc (fun x hx=>(g.et x hx).2) (by grind) (i:=(cy t.vars (Ls.getD k []) s).toNat) U).2 ⟨_,by rw[jW G.1];exact .step he m⟩
  rwa[jW G.1]at this
 refine⟨l,?_⟩;have m:sk (cm t (Ls.getD k [])) (o.getD k []) t.M.length (q.getD k []):=by
  rw[h.run.part k hk];exact Qq fun e he=>by have:=F.cU e he;rw[g.len]at this;exact this
 have:=m.low _ he l A;simp only[iS,jU]at this;unfold bT;omega
def pD.step (h:pD t Ls o q){s:J}{op:Nat}(m:aj t.vars s)(j:op<t.M.length)(u:jZ t s op)(v:ic t Ls o (cD t s op)<bZ) :
  ic t Ls o s<bZ/\ic t Ls o s<=(ao t).getD op W.dflt+ic t Ls o (cD t s op):=by
 have r:=sb h.dJ m j;obtain⟨x,a2,a3,a4⟩:=h.qE m;obtain⟨y,A,B,F⟩:=h.qE r;have hk:=y.1 v;have l:=x.2 fun k e=>(h.uD m j u e (hk k e)).1;refine⟨l,?_⟩;rw[a2 l,A v];have h1:=e_ (n:=Ls.length) (f:=bT t Ls o s) (g:=fun k=>bT t Ls o (cD t s op) k+(q.getD k []).getD op W.dflt) fun k e=>(h.uD m j u e (hk k e)).2;rw[f_]at h1;have G:=h.zj j Ls.length (cP _);have H:=((h.run.aT (zz h.dJ) Ls.length (cP _)).at j).1;omega
def pD.aF (h:pD t Ls o q){s:J}(e:aj t.vars s)(I:cE s t.aF):ic t Ls o s=0:=by
 have g:∀ k,k<Ls.length->bT t Ls o s k=0:=fun k hk=>UF (h.inv k hk) (h.run.cr k hk) e I;have j:=(h.qE e).1.2 fun k hk=>by grind
 rw[(h.qE e).2.1 j];exact g_ g
end
section
variable {f:Int}{t:aa}{Ls o q z D:List J}
end
def j0 (f:Nat->Int)(C:Nat)(n:Nat):Int:=kz (fun v=>if C.testBit v then f v else 0) n
def US (f:Nat->Int)(C:Nat):j0 f C 0=0:=rfl
def xZ {f:Nat->Int}{n:Nat}(h:ib C n):j0 f C (n+1)=j0 f C n+f n:=by
 unfold j0;rw[x7,ba h]
def yr {f:Nat->Int}{n:Nat}(h:¬ib C n):j0 f C (n+1)=j0 f C n:=by
 unfold j0;rw[x7,aM h];omega
def Jv {f:Nat->Int}{C:Nat}:∀ {n:Nat},(∀ k,k<n->0<=f k)->0<=j0 f C n
 | 0,_=>iq _
 | n+1,h=>by
  have h1:=Jv (C:=C) (n:=n) fun k hk=>h k U;have g:=h n U;by_cases e:ib C n
  ·rw[xZ e];omega
  rw[yr e];exact h1
def UT {f:Nat->Int}{C j:Nat}:∀ {n:Nat},(∀ k,k<n->0<=f k)->(∀ v,ib C v->ib j v)->j0 f C n<=j0 f j n
 | 0,_,_=>iq _
 | n+1,h,l=>by
  have h1:=UT (n:=n) (fun k hk=>h k U) l;have m:=h n U;by_cases g:ib C n
  ·rw[xZ g,xZ (l n g)];omega
  by_cases e:ib j n
  ·rw[yr g,xZ e];omega
  rw[yr g,yr e];exact h1
def UU {f g:Nat->Int}{C:Nat}:∀ {n:Nat},(∀ k,k<n->ib C k->f k<=g k)->j0 f C n<=j0 g C n
 | 0,_=>iq _
 | n+1,h=>by
  have h1:=UU (n:=n) fun k hk=>h k U;by_cases e:ib C n
  ·have:=h n U e
   rw[xZ e,xZ e];omega
  rw[yr e,yr e];exact h1
def UV {f:Nat->Int}{C:Nat}:∀ {n k:Nat},(∀ k,k<n->0<=f k)->k<n->ib C k->f k<=j0 f C n
 | 0,_,_,hk,_=>absurd hk (eo _)
 | n+1,k,h,hk,j=>by
  have l:=h n U;have m:=Jv (C:=C) (n:=n) fun k hk=>h k U;by_cases e:k=n
  ·subst e;rw[xZ j];omega
  have:=UV (n:=n) (fun k hk=>h k U) U j;by_cases g:ib C n
  ·rw[xZ g];omega
  rw[yr g];exact this
def Jw {f:Nat->Int}{C:Nat}{B:Int}(g:0<=B):∀ {n:Nat},(∀ k,k<n->ib C k->f k<=B)->j0 f C n<=n*B
 | 0,_=>by simp[US]
 | n+1,h=>by
  have h1:=Jw g (n:=n) fun k hk=>h k U;rw[DC,HQ];simp only[Int.natCast_one,Int.one_mul];by_cases e:ib C n
  ·have:=h n U e
   rw[xZ e];omega
  rw[yr e];omega
def UW {f g:Nat->Int}{C:Nat}{c:Int}(m:0<=c):∀ {n:Nat},(∀ k,k<n->ib C k->f k=g k\/f k<=g k+c)->(∀ j k,j<n->k<n->ib C j->ib C k->f j≠g j->f k≠g k->j=k)->j0 f C n<=j0 g C n+c
 | 0,_,_=>by simp[US];exact m
 | n+1,h,hu=>by
  have h1:=UW m (n:=n) (fun k hk=>h k U) fun j k u hk=>hu j k U U;by_cases l:ib C n
  ·rw[xZ l,xZ l]
   by_cases e:f n=g n
   ·omega
   have v:=h n U l;have x:j0 f C n<=j0 g C n:=UU fun k hk r=>by
    grind
   omega
  rw[yr l,yr l];exact h1
def oO (f:Nat->Int)(l:J):Int:=l.foldl (fun a i=>min (a+f i.toNat) bZ) 0
def Re (f:Nat->Int)(l:J)(i:Int):oO f (l++[i])=min (oO f l+f i.toNat) bZ:=by simp[oO]
def Nv {f:Nat->Int}{C:Nat}:∀ {n:Nat},(∀ k,k<n->0<=f k)->oO f (ee C n)=min (j0 f C n) bZ
 | 0,_=>rfl
 | n+1,h=>by
  have h1:=Nv (C:=C) (n:=n) fun k hk=>h k U;have g:=h n U;by_cases e:ib C n
  ·rw[Qx e,Re,h1,xZ e,jU];omega
  rw[Qy e,yr e,h1]
def Y1 {f:Nat->Int}{l:J}(h:∀ i∈l,0<=f i.toNat):0<=oO f l/\oO f l<=bZ:=by
 have key:∀ (l:J) (a:Int),0<=a->a<=bZ->(∀ i∈l,0<=f i.toNat)->0<=l.foldl (fun a i=>min (a+f i.toNat) bZ) a/\l.foldl (fun a i=>min (a+f i.toNat) bZ) a<=bZ:=by
  intro l
  induction l with
  | nil=>grind
  | cons i l g =>
   intro a r h1 e;have:=e i ku;refine g _ ?_ ?_ fun j m=>e j (nt _ m)
   ·grind
   grind
 exact key l 0 (iq _) dc h
def ie (f:Nat->Int)(Cs:List J):Int:=Cs.foldl (fun b l=>max b (oO f l)) 0
def Ly (f:Nat->Int)(Cs:List J)(l:J):ie f (Cs++[l])=max (ie f Cs) (oO f l):=by simp[ie]
def UX {f:Nat->Int}{Cs:List J}:0<=ie f Cs/\∀ l∈Cs,oO f l<=ie f Cs:=by
 refine pE (P:=fun Cs=>0<=ie f Cs/\∀ l∈Cs,oO f l<=ie f Cs) ⟨iq _,fun l e=>by simp at e⟩ ?_ Cs;intro L x ⟨g,h1⟩;rw[Ly]
 grind
def h_ {f:Nat->Int}{Cs:List J}:ie f Cs=0\/∃ l∈Cs,ie f Cs=oO f l:=by
 refine pE (P:=fun Cs=>ie f Cs=0\/∃ l∈Cs,ie f Cs=oO f l) (.inl rfl) ?_ Cs;intro L x e;rw[Ly]
 grind
section
variable {n:Nat}{N:Nat->Nat}{Cs:List J}{f:Nat->Int}
def UY (g:Gr n N)(j:mb n N Cs)(e:∀ k,k<n->0<=f k)(h:uE n N C):min (j0 f C n) bZ<=ie f Cs:=by
 obtain⟨l,h1,m⟩:=QK g _ C h (cP _);have r:=(UX (f:=f) (Cs:=Cs)).2 _ ((j _).2 ⟨l,h1,rfl⟩);rw[Nv e]at r;have:=UT e m;omega
def Jy (j:mb n N Cs)(g:∀ k,k<n->0<=f k):∃ C,uE n N C/\ie f Cs=min (j0 f C n) bZ:=by
 rcases h_ (f:=f) (Cs:=Cs) with h|⟨l,m,e⟩
 ·refine⟨0,⟨fun v hv=>by grind,fun u v hu=>by grind⟩,?_⟩
  have:j0 f 0 n=0:=by
   have h1:=Jv (C:=0) g;have r:=Jw (f:=f) (C:=0) (B:=0) (iq _) (n:=n) fun k _ x=>by grind
   omega
  grind
 obtain⟨C,hm,rfl⟩:=(j _).1 m;exact⟨C,⟨hm.bd,hm.uN⟩,by rw[e,Nv g]⟩
def i_ (g:mb n N Cs)(h:∀ k,k<n->0<=f k):0<=ie f Cs/\ie f Cs<=bZ:=by
 obtain⟨C,_,e⟩:=Jy g h;exact⟨UX.1,U⟩
def j_ (h:Gr n N)(j:mb n N Cs)(g:∀ k,k<n->0<=f k)(hk:k<n)(hi:f k<=bZ):f k<=ie f Cs:=by
 have e:uE n N (2 ^ k):=⟨fun v hv=>by
   grind ,fun u v hu hv l=>by
   grind ⟩
 have h1:=UY h j g e;have l:=UV g hk (C:=2 ^ k) (by simp[ib]);omega
end
def q7 (t:aa)(op:Nat)(p:J):Prop:=∃ e∈(t.M.getD op bz).aQ,e.var∈p
def oP (t:aa)(a b:J):Prop:=∀ op,op<t.M.length->¬(q7 t op a/\q7 t op b)
def UZ {t:aa}{a b:J}(h:oP t a b):oP t b a:=fun op g e=>h op g ⟨e.2,e.1⟩
def k_ {vars:J}{v:Int}(hv:0<=v)(l:List mr):(∀ e∈l,iQ vars e)->(∀ e∈l,e.var≠v)->sg (fL s l) v=sg s v:=by
 refine pE (P:=fun l=>(∀ e∈l,iQ vars e)->(∀ e∈l,e.var≠v)->sg (fL s l) v=sg s v) (fun _ _=>rfl) ?_ l;intro l e h h1 g;have i1:=h (fun x hx=>h1 x (by simp[hx])) fun x hx=>g x (by simp[hx]);rw[Ex];split
 ·rw[BM (uW (h1 e sm)).1 hv (g e sm)];exact i1
 exact i1
def l_ {t:aa}{p:J}{op:Nat}(I:aJ t)(g:jX t.vars p)(j:op<t.M.length)(h:¬q7 t op p):cy t.vars p (cD t s op)=cy t.vars p s :=
 EA fun v hv=>k_ (g.mem v hv).1 _ (I.op op j).mem fun e he l=>h ⟨e,he,by grind⟩
structure l7 (t:aa) (Ls o:List J) (N:Nat->Nat) (Cs:List J):Prop where
 dJ:aJ t
 inv:∀ k,k<Ls.length->jX t.vars (Ls.getD k [])
 jQ:∀ k,k<Ls.length->bG t.vars (Ls.getD k [])<=512
 len:Ls.length<=32
 cr:∀ k,k<Ls.length->db (cm t (Ls.getD k [])) (ao t) (gg t (Ls.getD k [])) (bG t.vars (Ls.getD k [])).toNat (o.getD k [])
 gr:Gr Ls.length N
 add:∀ u v,u<Ls.length->v<Ls.length->(ib (N u) v↔u≠v/\oP t (Ls.getD u []) (Ls.getD v []))
 cl:mb Ls.length N Cs
noncomputable def iu (t:aa)(Ls o Cs:List J)(s:J):Int:=ie (bT t Ls o s) Cs
section
variable {t:aa}{Ls o Cs:List J}{N:Nat->Nat}
def l7.et (h:l7 t Ls o N Cs)(e:aj t.vars s)(hk:k<Ls.length):0<=bT t Ls o s k/\bT t Ls o s k<=bZ:=H5 (h.inv k hk) (h.cr k hk) e
def l7.zy (h:l7 t Ls o N Cs){k:Nat}:pR (cm t (Ls.getD k [])) (ao t) (bG t.vars (Ls.getD k [])).toNat:=(zz h.dJ).zy
def l7.ru (h:l7 t Ls o N Cs){s:J}(g:aj t.vars s){k:Nat}(hk:k<Ls.length)(j:bT t Ls o s k<bZ):bT t Ls o s k<=536870912:=by
 have e:=qF g (h.inv k hk).mem;have l:=h.jQ k hk;have:=(h.cr k hk).ru h.zy (C:=1048576) dc (fun x hx=>((zz h.dJ).et x hx).2) (i:=(cy t.vars (Ls.getD k []) s).toNat) U (by rw[jW e.1];exact j);rw[jW e.1]at this;exact uJ this U
def l7.Pf (h:l7 t Ls o N Cs)(e:aj t.vars s):0<=iu t Ls o Cs s/\iu t Ls o Cs s<=bZ:=i_ h.cl fun _ hk=>(h.et e hk).1
def l7.qE (h:l7 t Ls o N Cs)(j:aj t.vars s):iu t Ls o Cs s<bZ↔∀ k,k<Ls.length->bT t Ls o s k<bZ:=by
 have g:=fun k (hk:k<Ls.length)=>(h.et j hk).1;constructor
 ·intro l k hk
  have:=j_ h.gr h.cl g hk (h.et j hk).2;unfold iu at l;omega
 intro m;obtain⟨C,_,e⟩:=Jy h.cl g;have r:=Jw (f:=bT t Ls o s) (C:=C) (B:=536870912) dc (n:=Ls.length) fun k hk _=>h.ru j hk (m k hk);have l:=h.len;unfold iu
 grind
def l7.uD (h:l7 t Ls o N Cs){op:Nat}(l:aj t.vars s)(y:op<t.M.length)(F:jZ t s op)(hk:k<Ls.length)(A:bT t Ls o (cD t s op) k<bZ) :
  bT t Ls o s k<bZ/\bT t Ls o s k<=bT t Ls o (cD t s op) k+(ao t).getD op W.dflt:=by
 have m:=h.inv k hk;have r:=h.cr k hk;have he:=Uy h.dJ m l y F;have u:=sb h.dJ l y;have B:=qF l m.mem;have e:=qF u m.mem;have G:=h.jQ k hk;have g:=r.GV h.zy he A;simp only[iS,jU]at g;have v:bT t Ls o s k<bZ:=by
  have j:=r.ww (cy t.vars (Ls.getD k []) (cD t s op)).toNat U (by rw[jW e.1];exact A);rw[jW e.1]at j;have:=(r.qE h.zy (C:=1048576) dc (fun x hx=>((zz h.dJ).et x hx).2) (by grind) (i:=(cy t.vars (Ls.getD k []) s).toNat) U).2 ⟨_,by rw[jW B.1];exact .step he j⟩
  rwa[jW B.1]at this
 exact⟨v,g⟩
def l7.step (h:l7 t Ls o N Cs){s:J}{op:Nat}(r:aj t.vars s)(m:op<t.M.length)(K:jZ t s op)(L:iu t Ls o Cs (cD t s op)<bZ) :
  iu t Ls o Cs s<bZ/\iu t Ls o Cs s<=(ao t).getD op W.dflt+iu t Ls o Cs (cD t s op):=by
 have u:=sb h.dJ r m;have v:=(h.qE u).1 L;have y:=(h.qE r).2 fun k hk=>(h.uD r m K hk (v k hk)).1;refine⟨y,?_⟩;have A:=fun k (hk:k<Ls.length)=>(h.et r hk).1;have x:=fun k (hk:k<Ls.length)=>(h.et u hk).1;obtain⟨C,P,e⟩:=Jy h.cl A;have h1:=UY h.gr h.cl x P;have R:=((zz h.dJ).at m).1
 have l:∀ k,k<Ls.length->bT t Ls o s k≠bT t Ls o (cD t s op) k->q7 t op (Ls.getD k []):=fun k hk l=>oE fun B=>l (by
  unfold bT;rw[l_ h.dJ (h.inv k hk) m B])
 have V:=UW (f:=bT t Ls o s) (g:=bT t Ls o (cD t s op)) (C:=C) R (n:=Ls.length) (fun k hk _=>.inr (h.uD r m K hk (v k hk)).2) fun j k Q hk F G S T=>oE fun H =>
   ((h.add j k Q hk).1 (P.uN j k F G H)).2 op m ⟨l j Q S,l k hk T⟩
 unfold iu at L ⊢;omega
def l7.aF (h:l7 t Ls o N Cs){s:J}(j:aj t.vars s)(I:cE s t.aF):iu t Ls o Cs s=0:=by
 have l:∀ k,k<Ls.length->bT t Ls o s k=0:=fun k hk=>UF (h.inv k hk) (h.cr k hk) j I;have g:=fun k (hk:k<Ls.length)=>(h.et j hk).1;obtain⟨C,_,e⟩:=Jy h.cl g;have m:=Jw (f:=bT t Ls o s) (C:=C) (B:=0) (iq _) (n:=Ls.length) fun k hk _=>by grind
 have r:=Jv (C:=C) g;unfold iu
 grind
end
end
section
open Go.Sl Go
attribute [local irreducible] vc opsW opsD opV opW PureV ReadV Thn Blk
noncomputable def ir (t:aa)(Ls:List J):Int:=if cC t≠0 then cC t else if ∀ i,i<Ls.length->fX t.vars (Ls.getD i []) then 0 else 2
def Yp {s:Value}{t:aa}{Ls:List J}(Q:bR w0 a b c d vs t)(y:tT w0 s ss Ls) :
  Calls ak 106 #[.agg #[a,b,c,d],s] w0 fun e w'=>e=.returned (bS (ir t Ls))/\Z w0 w' []:=by
 have A:=Q;obtain⟨V,hb,hc,hd⟩:=Q;have j':=V.cn;have B:=y.rs;have H':=y.len;have J':=B.cn;have Y:=Z.start w0;refine bI ar Tryz.func106 ?_;refine ep ?_;intro R w Y;refine aR rfl (xL (A.at Y)) ?_;rintro _ w' ⟨rfl,aw⟩;refine aL ?_;clear aw Y;intro Y;by_cases hk:cC t=0
 ·rw[ff hk]
  refine O ?_;refine de [4,4,7,9,17,52] (G:=Nat) (fun k=>[(17,E k)]) (fun k w=>k<=Ls.length/\(∀ i,i<k->fX t.vars (Ls.getD i []))/\Z w0 w [am R 26 [a,b,c,d]]) (fun k=>Ls.length-k) 0 (fun _=>rfl) ⟨rfl,az⟩ ⟨bC _,fun i r=>absurd r (eo _),Y⟩ ?_;clear Y;rintro σ m w ⟨hm,g,Y⟩;refine aC ?_ ?_<;>intro h0
  ·have u:m<Ls.length:=U
   have S:=y.eI m u;have F:=S.cn;obtain⟨L,H⟩:=À (Ls.getD m []);rw[<-H]at S F;refine O ?_;refine de [4,4,8,9,23,51] (G:=Nat) (fun k=>[(23,E k)]) (fun k w=>k<=L.length/\(∀ i,i<k->(0<=L.getD i W.dflt/\L.getD i W.dflt<t.vars.length)/\(0<i->L.getD (i-1) W.dflt<L.getD i W.dflt))/\Z w0 w [am R 26 [a,b,c,d]]) (fun k=>L.length-k) 0 (fun _=>rfl) ⟨rfl,az⟩ ⟨bC _,fun i r=>absurd r (eo _),Y⟩ ?_;clear Y;rintro P' k w ⟨R',l,Y⟩;refine aC ?_ ?_<;>intro h1
   ·have K:k<L.length:=U
    have T:((k:Int)-1).toNat=k-1:=U;refine aC ?_ ?_<;>intro j
    ·refine O ?_
     refine bo (v:=bS 2) rfl (by rw[c9 dc];rfl) ⟨?_,Y.tail⟩;rw[ir,aM (by simp[hk]),aM];intro P;have x:=P m u;rw[<-H]at x;have h3:=x k K;rw[T]at j;rcases j with (j|j)|⟨j,h4⟩
     ·omega
     ·omega
     have:=h3.2 U;omega
    rw[T]at j;refine O ?_;refine⟨k+1,⟨rfl,az⟩,aX,⟨U,fun i r=>?_,Y⟩,U⟩;by_cases h:i=k
    ·subst h;exact⟨U,fun h0=>U⟩
    exact l i U
   refine O ?_;refine⟨m+1,⟨rfl,az⟩,aX,⟨U,fun i r=>?_,Y⟩,U⟩;by_cases h:i=m
   ·subst h;rw[<-H];intro j x;exact l j U
   exact g i U
  refine O ?_;refine bo (v:=bS 0) rfl (by rw[ff rfl];rfl) ⟨?_,Y.tail⟩;rw[ir,aM (by simp[hk]),ba];intro i r;exact g i U
 rw[c9 hk];refine O ?_;refine bo (v:=bS (cC t)) rfl (by rw[c9 hk];rfl) ⟨?_,Y.tail⟩;rw[ir,ba hk]
def Jz {P Q:Prop}[Decidable Q]{b:Bool}(h:b=true↔P):(b || decide Q)=true↔P\/Q:=by rw[sL,h,jV]
def CP {n:Nat}{p:Nat->Prop}:(∃ i,i<n+1/\p i)↔(∃ i,i<n/\p i)\/p n:=by
 constructor
 ·rintro⟨i,g,h⟩
  by_cases e:i=n
  ·subst e;exact .inr h
  exact .inl ⟨i,U,h⟩
 rintro (⟨i,g,h⟩|h)
 ·exact⟨i,U,h⟩
 exact⟨n,U,h⟩
def U0 {t:aa}{op:Nat}{p:J}:q7 t op p↔∃ i,i<(t.M.getD op bz).aQ.length/\((t.M.getD op bz).aQ.getD i bQ).var∈p:=by
 constructor
 ·rintro⟨e,he,hv⟩
  obtain⟨i,g,rfl⟩:=Bd.1 he;exact⟨i,g,by rw[aq g];exact hv⟩
 rintro⟨i,g,hv⟩;exact⟨_,cS bQ g,hv⟩
def Yq {xa xb:Value}{t:aa}{A B:J}(ht:bR w0 a b c d vs t)(hA:RS W w0 xa A)(hB:RS W w0 xb B) :
  Calls ak 107 #[.agg #[a,b,c,d],xa,xb] w0 fun e w'=>(∃ r,e=.returned (.bool r)/\(r=true↔oP t A B))/\Z w0 w' []:=by
 obtain⟨ha,hb,hc,S⟩:=ht;have T:=S.rs;have R':=S.len;have T':=T.cn;have Y:=Z.start w0;refine bI ar Tryz.func107 ?_;refine ep ?_;intro pt w Y;refine de [6,6,8,10,12,12,16,46] (G:=Nat) (fun k=>[(16,E k)]) (fun k w=>k<=t.M.length/\(∀ op,op<k->¬(q7 t op A/\q7 t op B))/\Z w0 w [am pt 26 [a,b,c,d]]) (fun k=>t.M.length-k) 0 (fun _=>rfl) ⟨rfl,az⟩ ⟨bC _,fun i V=>absurd V (eo _),Y⟩ ?_;clear Y;rintro σ k w ⟨hk,l,Y⟩;refine aC ?_ ?_<;>intro h1
 ·have K:k<t.M.length:=U
  have L:=S.eI k K;have H':=L.one;obtain⟨es,m⟩:=L.aQ;have P:=m.rs;have J':=m.len;have P':=P.cn;refine ep ?_;intro pe w Y;refine pu [9,10,12,12,23,41] (G:=Nat) (H:=Bool) (I':=Bool) (fun j x y=>[(23,E j),(9,.bool x),(10,.bool y)]) (fun j x y w=>j<=es.length/\(x=true↔∃ i,i<j/\((t.M.getD k bz).aQ.getD i bQ).var∈A)/\(y=true↔∃ i,i<j/\((t.M.getD k bz).aQ.getD i bQ).var∈B)/\Z w0 w [am pe 44 (cN.enc (aB cN vs k)),am pt 26 [a,b,c,d]]) (fun j _ _=>es.length-j) 0 false false (fun _ _ _=>rfl) ⟨rfl,rfl,rfl,az⟩ ⟨bC _,dU (fun⟨i,V,_⟩=>by omega),dU (fun⟨i,V,_⟩=>by omega),Y⟩ ?_;clear Y;rintro V' j x y w ⟨hj,hx,Q,Y⟩;refine aC ?_ ?_<;>intro h2
  ·have u:j<(t.M.getD k bz).aQ.length:=U
   have F:=m.eI j u;have _a:=F.one;have j':=F.var;have g:∀ R:J,(∃ i,i<j+1/\((t.M.getD k bz).aQ.getD i bQ).var∈R)↔(∃ i,i<j/\((t.M.getD k bz).aQ.getD i bQ).var∈R)\/(aB bm es j).var∈R:=fun R=>by rw[j'];exact CP
   cases x<;>cases y
   ·refine ep ?_;intro p w Y
    refine aR rfl (xR (v:=(aB bm es j).var) (hA.at Y)) ?_;rintro _ w' ⟨rfl,aw⟩;refine aL ?_;clear aw Y;intro Y;refine O ?_;refine aR rfl (xR (v:=(aB bm es j).var) (hB.at Y)) ?_;rintro _ w' ⟨rfl,aw⟩;refine aL ?_;clear aw Y;intro Y;refine O ?_;exact⟨j+1,_,_,⟨rfl,rfl,rfl,az⟩,aX,⟨U,(Jz hx).trans (g A).symm,(Jz Q).trans (g B).symm,Y.bj⟩,U⟩
   ·refine ep ?_;intro p w Y
    refine aR rfl (xR (v:=(aB bm es j).var) (hA.at Y)) ?_;rintro _ w' ⟨rfl,aw⟩;refine aL ?_;clear aw Y;intro Y;refine O ?_;exact⟨j+1,_,true,⟨rfl,rfl,rfl,az⟩,aX,⟨U,(Jz hx).trans (g A).symm,js ((g B).2 (.inl (Q.1 rfl))),Y.bj⟩,U⟩
   ·refine ep ?_;intro p w Y
    refine aR rfl (xR (v:=(aB bm es j).var) (hB.at Y)) ?_;rintro _ w' ⟨rfl,aw⟩;refine aL ?_;clear aw Y;intro Y;refine O ?_;exact⟨j+1,true,_,⟨rfl,rfl,rfl,az⟩,aX,⟨U,js ((g A).2 (.inl (hx.1 rfl))),(Jz Q).trans (g B).symm,Y.bj⟩,U⟩
   refine ep ?_;intro p w Y;exact⟨j+1,true,true,⟨rfl,rfl,rfl,az⟩,aX,⟨U,js ((g A).2 (.inl (hx.1 rfl))),js ((g B).2 (.inl (Q.1 rfl))),Y.bj⟩,U⟩
  have u:j=(t.M.getD k bz).aQ.length:=U;subst u;have F:=hx.trans U0.symm;have R:=Q.trans U0.symm;have g:¬(q7 t k A/\q7 t k B)->∀ op,op<k+1->¬(q7 t op A/\q7 t op B):=fun h op ho=>by
   by_cases e:op=k
   ·subst e;exact h
   exact l op U
  cases x<;>cases y
  ·refine O ?_
   exact⟨k+1,⟨rfl,az⟩,aX,⟨U,g fun h=>(by have:=F.2 h.1;cases this),Y.bj⟩,U⟩
  ·refine O ?_
   exact⟨k+1,⟨rfl,az⟩,aX,⟨U,g fun h=>(by have:=F.2 h.1;cases this),Y.bj⟩,U⟩
  ·refine O ?_
   exact⟨k+1,⟨rfl,az⟩,aX,⟨U,g fun h=>(by have:=R.2 h.2;cases this),Y.bj⟩,U⟩
  refine O ?_;exact bo (v:=.bool false) rfl rfl ⟨⟨false,rfl,dU fun h=>h k K ⟨F.1 rfl,R.1 rfl⟩⟩,Y.bj⟩
 refine O ?_;exact bo (v:=.bool true) rfl rfl ⟨⟨true,rfl,js fun op ho=>l op U⟩,Y.bj⟩
end
section
open Go.Sl Go
open Classical in
noncomputable def lV (t:aa)(Ls:List J)(i:Nat):Nat->List mh
 | 0=>[]
 | k+1=>lV t Ls i k++if oP t (Ls.getD i []) (Ls.getD k []) then [⟨(k:Int),(i:Int),1⟩] else []
noncomputable def gX (t:aa)(Ls:List J):Nat->List mh
 | 0=>[]
 | i+1=>gX t Ls i++lV t Ls i i
def Yr {t:aa}{Ls:List J}:gX t Ls i++lV t Ls i i=gX t Ls (i+1):=rfl
def Le {t:aa}{Ls:List J}(h:oP t (Ls.getD i []) (Ls.getD k [])):lV t Ls i (k+1)=lV t Ls i k++[⟨(k:Int),(i:Int),1⟩]:=by rw[lV,ba h]
def Ld {t:aa}{Ls:List J}(h:¬oP t (Ls.getD i []) (Ls.getD k [])):lV t Ls i (k+1)=lV t Ls i k:=by rw[lV,aM h,gj]
def Nw {t:aa}{Ls:List J}{i:Nat}{a:mh}:∀ {k:Nat},a∈lV t Ls i k↔∃ j,j<k/\oP t (Ls.getD i []) (Ls.getD j [])/\a=⟨(j:Int),(i:Int),1⟩
 | 0=>by simp[lV]
 | k+1=>by
  by_cases h:oP t (Ls.getD i []) (Ls.getD k [])
  ·rw[Le h,kK,Nw,fU]
   grind
  rw[Ld h,Nw]
  grind
def Lc {t:aa}{Ls:List J}{i:Nat}:∀ k,(lV t Ls i k).length<=k
 | 0=>by simp[lV]
 | k+1=>by
  have:=Lc (t:=t) (Ls:=Ls) (i:=i) k;by_cases h:oP t (Ls.getD i []) (Ls.getD k [])
  ·rw[Le h,length_append,w7];omega
  rw[Ld h];omega
def Gj {t:aa}{Ls:List J}{a:mh}:∀ {n:Nat},a∈gX t Ls n↔∃ i j,i<n/\j<i/\oP t (Ls.getD i []) (Ls.getD j [])/\a=⟨(j:Int),(i:Int),1⟩
 | 0=>by simp[gX]
 | n+1=>by
  rw[gX,kK,Gj,Nw]
  grind
def Lb {t:aa}{Ls:List J}:∀ n,n<=32->(gX t Ls n).length<=n*32
 | 0,_=>by simp[gX]
 | n+1,e=>by
  have h1:=Lb (t:=t) (Ls:=Ls) n U;have g:=Lc (t:=t) (Ls:=Ls) (i:=n) n;rw[gX,length_append];omega
def Lz {t:aa}{Ls:List J}{n:Nat}:∀ a∈gX t Ls n,fV n a:=fun a e=>by
 obtain⟨i,j,g,h,_,rfl⟩:=Gj.1 e;unfold fV
 grind
def Ys {t:aa}{Ls:List J}{n:Nat}(e:n<=32):cI n (gX t Ls n)=0:=by
 have:=Lb (t:=t) (Ls:=Ls) n e;exact Qv U U fun i g=>Lz _ (cS bO.dflt g)
def Y2 {t:aa}{Ls:List J}{n u v:Nat}(hu:u<n)(hv:v<n):oM (gX t Ls n) u v↔u≠v/\oP t (Ls.getD u []) (Ls.getD v []):=by
 constructor
 ·rintro⟨g,a,m,l⟩
  obtain⟨i,j,x,y,e,rfl⟩:=Gj.1 m;refine⟨g,?_⟩;simp only at l;rcases l with ⟨h1,r⟩|⟨h1,r⟩
  ·obtain rfl:j=u:=U
   obtain rfl:i=v:=U;exact UZ e
  grind
 rintro⟨g,e⟩;refine⟨g,?_⟩;rcases Nat.lt_or_gt_of_ne g with h|h
 ·exact⟨⟨(u:Int),(v:Int),1⟩,Gj.2 ⟨v,u,hv,h,UZ e,rfl⟩,.inl ⟨rfl,rfl⟩⟩
 exact⟨⟨(v:Int),(u:Int),1⟩,Gj.2 ⟨u,v,hu,h,e,rfl⟩,.inr ⟨rfl,rfl⟩⟩
end
end Go.Proofs.YtmapkjoefdgjfaaGreatDoor
