/- Several texts. -/
import Derived.Test.YtmapkjoefdgjfaaGreatDoorMW22E
set_option linter.unusedSimpArgs false
set_option linter.unusedVariables false
set_option linter.defProp false
set_option maxRecDepth 8000
set_option maxHeartbeats 16000000
open List Nat
namespace Go.Proofs.YtmapkjoefdgjfaaGreatDoor
open Go.Sl
variable {w0:World}{lv:Value}{ps:List (Option Addr)}{Hs:List (J->Int)}{b:Int}{F:List (List Bool)}{l:List bp}
section
open Go.Sl
structure nh (t:aa) (H:J->Int):Prop where
 ok:BB t H
 SK:∀ y q d,ab t.vars y->mL t y q d->H y<=d
section
variable {t:aa}
def MD (I:aG t):nh t (bP t):=⟨θ I,fun _ _ _ _ a=>(UY I a).2⟩
def Λ (I:aG t):nh t (cA t):=⟨TL I,fun _ _ _ _ a=>(UV I a).2⟩
def Μ (I:aG t):nh t (pW t):=⟨Fp I,fun _ _ _ _ a=>(ù I a).2⟩
def Ν (I:aG t)(kind:Int)(a:kind=1\/kind=2\/tU t):nh t (jP t kind):=⟨⟨I,fun _=>(NL I kind a).1,fun _=>(NL I kind a).2⟩,fun _ _ _ c d=>UL I c kind a d⟩
def Ε {Ls a Cs:List J}(h:gi t Ls a Cs):nh t (lX t Ls a Cs):=⟨h.bL,fun _ _ _ _ c=>(h.BX c).2⟩
def Ι {Ls a c:List J}(h:ot t Ls a c):nh t (lu t Ls a):=⟨h.bL,fun _ _ _ _ d=>(h.BX d).2⟩
def Η {M':Int}(I:aG t)(a:eM t M'=0):nh t (sJ t M') :=
 have h:=L_ I a
 ⟨h.1,fun _ _ _ c d=>M_ I h.2.1 h.2.2 d c⟩
end
end
section
open Go.Sl Go
attribute [local irreducible] vc opsW opsD opV opW PureV ReadV Thn Blk
def yR (ps:List (Option Addr)){i:Nat}(h:i<ps.length):cG (ps.map Value.pointer) i=.pointer (ps.getD i none):=by
 rw[l9];simp[List.getD,h]
def yQ (ps:List (Option Addr)):(ps.map Value.pointer).length=ps.length:=iz ..
def N_ (j:RS ap w0 lv (ps.map Value.pointer)) :
  Calls ai 59 #[lv,.pointer none] w0 fun e w'=>(∃ r:Int,e=.returned (E r)/\(0<=r↔none∈ps))/\Z w0 w' []:=by
 have m:=j.bU;have n:=yQ ps;have Y:=Z.start w0;refine bA an Tryz.func59 ?_;refine O ?_;refine cP [4,5,8,18] (G:=Nat) (fun k=>[(8,E k)]) (fun k w=>k<=ps.length/\(∀ i,i<k->ps.getD i none≠none)/\Z w0 w []) (fun k=>ps.length-k) 0 (fun _=>rfl) ⟨rfl,az⟩ ⟨bu _,fun i f=>absurd f (dr _),Y⟩ ?_;clear Y;rintro o k w ⟨hk,c,Y⟩;refine aB ?_ ?_<;>intro h1
 ·have d:k<ps.length:=U
  refine O ?_;rw[yR ps d];refine eY rfl (ß (a:=ps.getD k none) rfl rfl) ?_
  cases g:ps.getD k none with
  | none =>
   refine O ?_
   exact bf (v:=E k) rfl rfl ⟨⟨k,rfl,⟨fun _=>by rw[<-g];exact cH none d,fun _=>U⟩⟩,Y⟩
  | some q =>
   refine O ?_;refine⟨k+1,⟨rfl,az⟩,aU,⟨U,fun i f=>?_,Y⟩,U⟩;by_cases e:i=k
   ·rw[e,g];simp
   exact c i U
 refine O ?_;refine bf (v:=E (-1)) rfl rfl ⟨⟨-1,rfl,⟨fun h=>U,fun hx=>?_⟩⟩,Y⟩;obtain⟨i,f,he⟩:=A0.1 hx;exact absurd (by rw[am f];exact he) (c i U)
def O_ (a:RS ap w0 lv (ps.map Value.pointer)) :
  Calls ai 35 #[lv,.pointer none] w0 fun e w'=>(∃ r,e=.returned (.bool r)/\(r=true↔none∈ps))/\Z w0 w' []:=by
 have Y:=Z.start w0;refine bA an Tryz.func35 ?_;refine O ?_;refine aL rfl (N_ a) ?_;rintro _ w' ⟨⟨r,rfl,c⟩,al⟩;refine aA ?_;clear al Y;intro Y;refine O ?_;exact bf (v:=.bool (decide (0<=r))) rfl rfl ⟨⟨_,rfl,by rw[gQ];exact c⟩,Y⟩
def P_ (d:RS ap w0 lv (ps.map Value.pointer))(k:ps.length<=1048576) :
  Calls ai 38 #[lv] w0 fun e w'=>∃ s,e=.returned s/\Z w0 w' [X ap 36 s (ps.map Value.pointer)]:=by
 have f:=yQ ps;have Y:=Z.start w0;obtain⟨i,cap,j⟩:=d.shape;subst j;refine bA an Tryz.func38 ?_;refine O ?_;refine eY rfl (Gj (a:=i) (n:=(ps.map Value.pointer).length) (c:=cap) rfl) ?_
 cases i with
 | none =>
  have g:ps=[]:=by
   rcases uH ps.length with h|h
   ·exact n0 h
   obtain⟨p,c2,he,_⟩:=d.some dc (by rw[f];exact h);cases he
  subst g;refine O ?_
  exact bf (v:=nS) rfl rfl ⟨_,rfl,Y.nil⟩
 | some p =>
  refine O ?_;refine A8 ap Y ?_;clear Y;intro s1 w Y;have g:=d.at Y;refine O ?_
  refine q7 (s:=s1) (s2:=.slice (some p) (ps.map Value.pointer).length cap) inferInstance rfl rfl g rfl rfl (fun x hx v hv=>by
   obtain⟨q,_,rfl⟩:=iS.1 hx
   rw[dp.1 hv];rfl) (by simp only[length_nil];omega) (by unfold bU;simp only[length_nil];omega) Y ?_
  clear Y;intro s2 w Y;refine O ?_;rw[kL]at Y;exact bf (v:=s2) rfl rfl ⟨_,rfl,Y⟩
def bG (w:World)(ps:List (Option Addr))(t:aa)(Hs:List (J->Int)):Prop:=∀ i,i<ps.length->∃ p,ps.getD i none=some p/\bK w p t (Hs.getD i fun _=>0)
def bG.at {w0 w:World}{Γ:List HP}{ps:List (Option Addr)}{t:aa}{Hs:List (J->Int)}(h:bG w0 ps t Hs)(Y:Z w0 w Γ):bG w ps t Hs:=fun i a=>by
 obtain⟨p,h1,c⟩:=h i a;exact⟨p,h1,c.at Y⟩
noncomputable def bv (t:aa)(Hs:List (J->Int))(s:J):Int:=Hs.foldl (fun m H=>max m (gD t H s)) 0
def HQ (t:aa)(Hs:List (J->Int))(H:J->Int)(s:J):bv t (Hs++[H]) s=max (bv t Hs s) (gD t H s):=by simp[bv]
instance FR:nB ai 74 "Value" 256 := ⟨kr⟩
def Q_ {sv:Value}{t:aa}{z:J}(d:RS ap w0 lv (ps.map Value.pointer))(he:bG w0 ps t Hs)(c:Hs.length=ps.length)(f:RS W w0 sv z) :
  Calls ai 256 #[lv,sv] w0 fun e w'=>e=.returned (E (bv t Hs z))/\Z w0 w' []:=by
 have g:=yQ ps;have h:=d.bU;have Y:=Z.start w0;refine bA an Tryz.func256 ?_;refine O ?_;refine cP [5,5,7,7,10,19] (G:=Nat) (fun k=>[(10,E k),(5,E (bv t (Hs.take k) z))]) (fun k w=>k<=ps.length/\Z w0 w []) (fun k=>ps.length-k) 0 (fun _=>rfl) ⟨rfl,rfl,az⟩ ⟨bu _,Y⟩ ?_;clear Y;rintro m k w ⟨hk,Y⟩;refine aB ?_ ?_<;>intro h1
 ·have a:k<ps.length:=U
  obtain⟨p,i,j⟩:=he k a;refine O ?_;rw[yR ps a,i];refine O ?_;refine aL rfl (wM (j.at Y) (f.at Y)) ?_;rintro _ w' ⟨rfl,al⟩;refine aA ?_;clear al Y;intro Y;have e:(if gD t (Hs.getD k fun _=>0) z>bv t (Hs.take k) z then gD t (Hs.getD k fun _=>0) z else bv t (Hs.take k) z)=bv t (Hs.take (k+1)) z:=by
   rw[eC (fun _=>0) U,HQ];split<;>omega
  refine O ?_;exact⟨k+1,⟨rfl,by rw[<-e];rfl,az⟩,aU,⟨U,Y⟩,U⟩
 have a:k=ps.length:=U;rw[a,<-c,kV];refine O ?_;exact bf (v:=E (bv t Hs z)) rfl rfl ⟨rfl,Y⟩
def R_ {w:World}{t:aa}(e:RS ap w lv (ps.map Value.pointer))(he:bG w ps t Hs)(a:Hs.length=ps.length):fB w (.iface 74 lv) t (bv t Hs) :=
 ⟨_,_,_,_,rfl,Dl _,inferInstance,fun _ _ _ _ d c _=>Q_ (e.at d) (he.at d) a c⟩
def dT:aa:=⟨[],[],[],[]⟩
open Classical in
noncomputable def jV (ps:List (Option Addr))(us:List aa):Int:=if ps=[]\/none∈ps then 3 else if ∃ i,i<ps.length/\us.getD i dT≠us.getD 0 dT then 2 else 0
def S_ {α:Type}{xs:List α}{k:Nat}{d:α}:(cut xs 1 xs.length).getD k d=xs.getD (k+1) d:=by
 unfold cut;rw[kV];simp[List.getD,GU]
def HN {us:List aa}(y:RS ap w0 lv (ps.map Value.pointer))(hn:ps.length<=1048576)(N:Hs.length=ps.length)(he:∀ i,i<ps.length->∀ p,ps.getD i none=some p->bK w0 p (us.getD i dT) (Hs.getD i fun _=>0))(I:aG (us.getD 0 dT)) :
  Calls ai 14 #[lv] w0 fun e w' =>
   (jV ps us≠0/\e=.returned (.tuple #[.pointer none,bI (jV ps us)])/\Z w0 w' []) \/
   (jV ps us=0/\∃ p,e=.returned (.tuple #[.pointer (some p),.nilIface])/\Z w0 w' [aZ fun w=>bG w ps (us.getD 0 dT) Hs->bK w p (us.getD 0 dT) (bv (us.getD 0 dT) Hs)]):=by
 have z:=yQ ps;have j':=y.bU;have Y:=Z.start w0;refine bA an Tryz.func14 ?_;by_cases A:ps=[]
 ·have d:jV ps us=3:=by unfold jV;rw[aM (.inl A)]
  have j:decide (((ps.map Value.pointer).length:Int)=0)=true:=dy (by rw[z,A];rfl);refine O ?_
  try simp only[j];refine dI ?_
  refine O ?_;exact cR (v:=.pointer none) (v':=.iface 57 (E 3)) rfl rfl rfl (.inl ⟨by rw[d];decide,by rw[d,cS dc],Y.aY⟩)
 have f:0<ps.length:=Jz.2 A;have j:decide (((ps.map Value.pointer).length:Int)=0)=false:=dU U;refine O ?_
 try simp only[j];refine dI ?_
 refine O ?_;refine aL rfl (O_ (y.at Y)) ?_;rintro _ w' ⟨⟨r,rfl,B⟩,al⟩;refine aA ?_;clear al Y;intro Y;cases r;rotate_left
 ·have d:jV ps us=3:=by unfold jV;rw[aM (.inr (B.1 rfl))]
  refine O ?_;exact cR (v:=.pointer none) (v':=.iface 57 (E 3)) rfl rfl rfl (.inl ⟨by rw[d];decide,by rw[d,cS dc],Y.aY⟩)
 have m:none∉ps:=fun h=>by cases B.2 h
 have a:∀ i,i<ps.length->∃ p,ps.getD i none=some p:=fun i x=>by
  cases hx:ps.getD i none with
  | none=>exact absurd (by rw[<-hx];exact cH none x) m
  | some p=>exact⟨p,rfl⟩
 obtain⟨q0,C⟩:=a 0 f;have P:=he 0 f q0 C;obtain⟨a0,Q,R,d0,g,H',o,D,_⟩:=P;have J':=yK (xs:=ps.map Value.pointer) (lo:=1) (hi:=(ps.map Value.pointer).length) (cD _);have P':=yb (T:=ap) (lo:=1) (hi:=(ps.map Value.pointer).length) y U (cD _);have g:cG (ps.map Value.pointer) (Int.toNat 0)=.pointer (some q0):=by rw[show Int.toNat 0=0 from rfl,yR ps f,C]
 refine O ?_;refine cP [2,3,5,5,17,34] (G:=Nat) (fun k=>[(17,E k)]) (fun k w=>k+1<=ps.length/\(∀ i,i<=k->us.getD i dT=us.getD 0 dT)/\Z w0 w []) (fun k=>ps.length-k) 0 (fun _=>rfl) ⟨rfl,az⟩ ⟨U,fun i x=>by rw[show i=0 by omega],Y⟩ ?_;clear Y;rintro σ k w ⟨hk,K,Y⟩;refine aB ?_ ?_<;>intro h1
 ·have c:k+1<ps.length:=U
  obtain⟨q,hq⟩:=a (k+1) c;obtain⟨a1,b1,c1,d1,R',T',L,S,_⟩:=he (k+1) c q hq;have V:cG (cut (ps.map Value.pointer) 1 (ps.map Value.pointer).length) k=.pointer (some q):=by
   rw[l9,S_,<-l9,yR ps c,hq]
  refine O ?_;rw[V];refine fz (pl [0,1,2,3,4,5,6,7,8,9,10,11] []) Y kr ?_;clear Y;intro w Y;refine O ?_;refine qX rfl (ym (k:=0) (n:=4) (vs:=[a1,b1,c1,d1]) rfl (L.at Y) rfl rfl) ?_;refine O ?_;rw[g];refine O ?_;refine qX rfl (ym (k:=0) (n:=4) (vs:=[a0,Q,R,d0]) rfl (o.at Y) rfl rfl) ?_;refine O ?_;refine aL rfl (RC (S.at Y) (D.at Y)) ?_;rintro _ w' ⟨⟨r,rfl,B⟩,al⟩;refine aA ?_;clear al Y;intro Y;cases r
  ·have u:us.getD (k+1) dT≠us.getD 0 dT:=fun h=>by cases B.2 h
   have d:jV ps us=2:=by unfold jV;rw[aC (fun h=>h.elim A m),aM ⟨k+1,c,u⟩]
   refine O ?_;exact cR (v:=.pointer none) (v':=.iface 57 (E 2)) rfl rfl rfl (.inl ⟨by rw[d];decide,by rw[d,cS dc],Y.aY⟩)
  have heq:=B.1 rfl;refine O ?_;refine⟨k+1,⟨rfl,az⟩,aU,⟨U,fun i x=>?_,Y⟩,U⟩;by_cases e:i=k+1
  ·rw[e];exact heq
  exact K i U
 have R':k+1=ps.length:=U;have d:jV ps us=0:=by unfold jV;rw[aC (fun h=>h.elim A m),aC (by rintro⟨i,x,u⟩;exact u (K i U))]
 refine O ?_;refine fz (pl [0,1,2,3,4,5,6,7] (.cI 2::.cI 5::pl [8,9,10,11,12,13] [])) Y kr ?_;clear Y;intro w Y;refine O ?_;rw[g];refine O ?_;refine qX rfl (ym (k:=0) (n:=4) (vs:=[a0,Q,R,d0]) rfl (o.at Y) rfl rfl) ?_;refine O ?_;refine aL rfl (P_ (y.at Y) hn) ?_;rintro _ w' ⟨c,rfl,al⟩;refine aI ?_;clear al Y;intro Y;refine zW ?_;refine KR rfl (CQ (i:=Int.toNat 0) rfl (y.at Y) (by rw[z];exact f)) g.symm ?_;refine KR rfl (ym (k:=0) (n:=4) (vs:=[a0,Q,R,d0]) rfl (o.at Y) rfl rfl) rfl ?_;refine O ?_;refine aL rfl (xO (h:=.iface 74 c) (H:=bv (us.getD 0 dT) Hs) (D.at Y) I ⟨_,_,rfl⟩) ?_;rintro _ w' ⟨L,rfl,al⟩;refine aI ?_;clear al Y;intro Y;refine O ?_;have S:Z w0 w' [aZ fun w=>fB w (.iface 74 c) (us.getD 0 dT) (bv (us.getD 0 dT) Hs)->bK w L (us.getD 0 dT) (bv (us.getD 0 dT) Hs),X ap 36 c (ps.map Value.pointer)]:=Y;have V:=Z.rd (Δ:=[aZ fun w=>fB w (.iface 74 c) (us.getD 0 dT) (bv (us.getD 0 dT) Hs)->bK w L (us.getD 0 dT) (bv (us.getD 0 dT) Hs),X ap 36 c (ps.map Value.pointer)]) (φ:=fun w=>bG w ps (us.getD 0 dT) Hs->bK w L (us.getD 0 dT) (bv (us.getD 0 dT) Hs)) (fun _ w h hR=>(h.ct 0 rfl) (R_ (h.rs 1 rfl) hR N)) (Γ:=[]) S;exact cR (v:=.pointer (some L)) (v':=.nilIface) rfl rfl rfl (.inr ⟨d,L,rfl,V⟩)
end
section
open Go.Sl
def IJ {t:aa}{s:J}(Hs:List (J->Int)):bv t Hs s<=b↔0<=b/\∀ H∈Hs,gD t H s<=b:=by
 refine mP (P:=fun Hs=>bv t Hs s<=b↔0<=b/\∀ H∈Hs,gD t H s<=b) ⟨fun h=>⟨h,fun H hH=>absurd hH fI⟩,fun h=>h.1⟩ ?_ Hs;intro l H c;rw[HQ,DO,c];constructor
 ·rintro⟨⟨h1,a⟩,d⟩
  refine⟨h1,fun x hx=>?_⟩;rcases gG.1 hx with hx|hx
  ·exact a x hx
  rw[dp.1 hx];exact d
 rintro⟨h1,a⟩;exact⟨⟨h1,fun x hx=>a x (xX _ hx)⟩,a H sm⟩
def RQ {t:aa}{s:J}{Gs:List (J->Int)}(h:∀ H,H∈Hs↔H∈Gs):bv t Hs s=bv t Gs s:=by
 refine GX ((IJ Hs).2 ?_) ((IJ Gs).2 ?_)
 ·have:=(IJ (t:=t) (s:=s) (b:=bv t Gs s) Gs).1 (dt _)
  exact⟨this.1,fun H hH=>this.2 H ((h H).1 hH)⟩
 have:=(IJ (t:=t) (s:=s) (b:=bv t Hs s) Hs).1 (dt _);exact⟨this.1,fun H hH=>this.2 H ((h H).2 hH)⟩
end
section
open Go.Sl Go
attribute [local irreducible] vc opsW opsD opV opW PureV ReadV Thn Blk
structure tQ where
 op:Int
 aw:Value
 aK:bp
def jJ:Ty tQ:=⟨4,fun x=>[E x.op,x.aw,E x.aK.var,E x.aK.val],fun _=>rfl,⟨0,nS,⟨0,0⟩⟩⟩
instance Nz:nA jJ:=⟨az⟩
def sN:tS:=⟨0,[],⟨0,0⟩⟩
def Fi (w:World)(v:tQ)(u:tS):Prop:=v.op=(u.op:Int)/\v.aK=u.aK/\RS aq w v.aw u.aw
def pX (us:List tQ)(U':List tS)(w:World):Prop:=∀ i:Nat,i<U'.length->Fi w (au jJ us i) (U'.getD i sN)
def pX.at {w0 w:World}{Γ:List HP}{us:List tQ}{U':List tS}(h:pX us U' w0)(Y:Z w0 w Γ):pX us U' w:=fun i a=>by
 obtain⟨h1,c,d⟩:=h i a;exact⟨h1,c,d.at Y⟩
def pX.eQ {w:World}{us:List tQ}{U':List tS}{v:tQ}{u:tS}(h:pX us U' w)(d:us.length=U'.length)(h2:Fi w v u):pX (us++[v]) (U'++[u]) w:=fun i f=>by
 rw[length_append,r6]at f;by_cases e:i=U'.length
 ·subst e
  have a:au jJ (us++[v]) U'.length=v:=by rw[nt,List.getD,<-d,kn (cD _),r7];rfl
  have c:(U'++[u]).getD U'.length sN=u:=by rw[List.getD,kn (cD _),r7];rfl
  rw[a,c];exact h2
 have a:au jJ (us++[v]) i=au jJ us i:=by rw[nt,nt,List.getD,iX U];rfl
 have c:(U'++[u]).getD i sN=U'.getD i sN:=by rw[List.getD,iX U];rfl
 rw[a,c];exact h i U
structure oV (w:World) (pr:Addr) (t:aa) (a gv cv lv:Value) (us:List tQ):Prop where
 box:dL w pr [a,gv,cv,lv]
 vars:RS W w a t.vars
 aH:RS aq w gv t.aH
 aS:RS W w cv (ar t)
 BQ:RS jJ w lv us
 len:us.length=(l6 t).length
 un:pX us (l6 t) w
def oV.at {w0 w:World}{Γ:List HP}{c:Addr}{t:aa}{a gv cv lv:Value}{us:List tQ}(h:oV w0 c t a gv cv lv us)(Y:Z w0 w Γ):oV w c t a gv cv lv us:=⟨h.box.at Y,h.vars.at Y,h.aH.at Y,h.aS.at Y,h.BQ.at Y,h.len,h.un.at Y⟩
def LW {t:aa}(I:aG t){u:tS}(hu:u∈l6 t):u.op<t.M.length/\bN t.vars u.aK/\∀ f∈u.aw,bN t.vars f:=by
 obtain⟨k,j,hk,a,rfl⟩:=FT.1 hu;exact⟨hk,LM I hk a,SH I hk a⟩
structure T_ (w:World) (v:Value) (ss:List Value) (F:List (List Bool)):Prop where
 rs:RS ap w v ss
 len:ss.length=F.length
 row:∀ i,i<F.length->RS ah w (cG ss i) (F.getD i [])
def U_ {k:Nat}(h:lp F (l.take k)=true)(hk:k<l.length)(h2:tR F (l.getD k aq.dflt)=true):lp F (l.take (k+1))=true:=by
 unfold lp at *
 rw[G4,kN hk,all_append,h];rw[am hk]at h2;simp[h2]
def If {fv:Value}{ss:List Value}{vars:J}(i:T_ w0 fv ss F)(h:ur vars F)(j:RS aq w0 lv l)(bL:∀ x∈l,bN vars x) :
  Calls ai 291 #[fv,lv] w0 fun e w'=>e=.returned (.bool (lp F l))/\Z w0 w' []:=by
 obtain⟨m,n,f⟩:=i;have o:=j.bU;have q:=h.len;have Y:=Z.start w0;refine bA an Tryz.func291 ?_;refine O ?_;refine cP [4,4,6,6,9,23] (G:=Nat) (fun k=>[(9,E k)]) (fun k w=>k<=l.length/\lp F (l.take k)=true/\Z w0 w []) (fun k=>l.length-k) 0 (fun _=>rfl) ⟨rfl,az⟩ ⟨bu _,rfl,Y⟩ ?_;clear Y;rintro B k w ⟨hk,g,Y⟩;refine aB ?_ ?_<;>intro h1
 ·have c:k<l.length:=U
  have hm:=cH aq.dflt c;obtain⟨C,r,D,H⟩:=BD (bL _ hm);have u:=f (l.getD k aq.dflt).var.toNat U;have y:=h.row _ r;refine eE ?_;intro p w Y;by_cases d:tR F (l.getD k aq.dflt)=true
  ·have a:(F.getD (l.getD k aq.dflt).var.toNat []).getD (l.getD k aq.dflt).val.toNat ah.dflt=true:=d
   rw[a];refine O ?_;exact⟨k+1,⟨rfl,az⟩,aU,⟨U,U_ g c d,Y.aY⟩,U⟩
  have a:(F.getD (l.getD k aq.dflt).var.toNat []).getD (l.getD k aq.dflt).val.toNat ah.dflt=false:=nG.2 d;rw[a];refine O ?_;have z:lp F l=false:=by
   cases A:lp F l with
   | false=>rfl
   | true=>exact absurd (all_eq_true.1 A _ hm) d
  exact bf (v:=.bool false) rfl rfl ⟨by rw[z],Y.aY⟩
 rw[gH U]at g;refine O ?_;exact bf (v:=.bool true) rfl rfl ⟨by rw[g],Y.aY⟩
def ć :
  Calls ai 290 #[] w0 fun e w'=>e=.returned (.agg #[E (-1),E (-1)])/\Z w0 w' []:=by
 have Y:=Z.start w0;refine bA an Tryz.func290 ?_;refine eE ?_;intro p w Y;exact Cw (p:=p) (vs:=[E (-1),E (-1)]) rfl rfl rfl (Y.gn 0 rfl) ⟨rfl,Y.aY⟩
def nb (vars:J)(v:Nat):List bp:=(List.range v).flatMap fun v=>mp (vars.getD v W.dflt).toNat v
def Us (vars:J)(v:Nat):nb vars (v+1)=nb vars v++mp (vars.getD v W.dflt).toNat v:=by
 unfold nb;rw[l5,wA];simp
def V_ (n v:Nat):mp (n+1) v=mp n v++[⟨(v:Int),(n:Int)⟩]:=by
 unfold mp;rw[l5,oh];rfl
def Ig {vars:J}(a:∀ i,i<vars.length->vars.getD i W.dflt<=64):∀ v,v<=vars.length->(nb vars v).length<=64*v
 | 0,_=>by simp[nb]
 | v+1,h=>by
  have:=Ig a v U;have c:=a v U;rw[Us,length_append];have:(mp (vars.getD v W.dflt).toNat v).length=(vars.getD v W.dflt).toNat:=by simp[mp]
  omega
def Ĉ {h:Addr}{t:aa}{a gv cv:Value}{us:List tQ}(m:oV w0 h t a gv cv lv us)(I:aG t) :
  Calls ai 292 #[.pointer (some h)] w0 fun e w'=>∃ c,e=.returned c/\Z w0 w' [X aq 63 c (jk t.vars)]:=by
 obtain⟨C,hv,_,_,_,_,_⟩:=m;have o:=I.vars;have Y:=Z.start w0;refine bA an Tryz.func292 ?_;replace Y:=Y.nil (T:=aq) (e:=63);refine O ?_;refine dQ [3,6,12,28] (G:=Nat) (H:=Value) (fun k c=>[(12,E k),(3,c)]) (fun k c w=>k<=t.vars.length/\Z w0 w [X aq 63 c (nb t.vars k)]) (fun k _=>t.vars.length-k) 0 (nS) (fun _ _=>rfl) ⟨rfl,rfl,az⟩ ⟨bu _,Y⟩ ?_;clear Y;rintro D k c w ⟨hk,Y⟩;refine aB ?_ ?_<;>intro h1
 ·have f:k<t.vars.length:=U
  have q:=I.mN k f;have r:=Ig (fun i u=>(I.mN i u).2) k hk;obtain⟨n,j⟩:∃ n:Nat,t.vars.getD k W.dflt=(n:Int):=⟨(t.vars.getD k W.dflt).toNat,U⟩
  refine O ?_;rw[j];refine dQ [3,3,6,6,18,27] (G:=Nat) (H:=Value) (fun x c=>[(18,E x),(3,c)]) (fun x c w=>x<=n/\Z w0 w [X aq 63 c (nb t.vars k++mp x k)]) (fun x _=>n-x) 0 c (fun _ _=>rfl) ⟨rfl,rfl,az⟩ ⟨bu _,by simpa [mp] using Y⟩ ?_;clear Y;rintro y x z w ⟨hx,Y⟩;have A:(nb t.vars k++mp x k).length=(nb t.vars k).length+x:=by simp[mp]
  refine aB ?_ ?_<;>intro K
  ·have g:x<n:=U
   refine O ?_;refine jK aq (x1:=⟨(k:Int),(x:Int)⟩) rfl rfl rfl (fY rfl) (fe _) Y ?_;clear Y;intro B w Y;refine l7 ?_;intro s w Y;rw[fL,<-V_]at Y;exact⟨x+1,_,⟨rfl,rfl,az⟩,aU,⟨U,Y.tail⟩,U⟩
  have g:x=n:=U;have B:nb t.vars (k+1)=nb t.vars k++mp x k:=by rw[Us,j,g];rfl
  rw[<-B]at Y;refine O ?_;exact⟨k+1,_,⟨rfl,rfl,az⟩,aU,⟨U,Y⟩,U⟩
 have d:k=t.vars.length:=U;subst d;refine O ?_;exact bf (v:=c) rfl rfl ⟨c,rfl,Y⟩
def X_ {x y:Int}(hx:0<=x)(c:0<=y):Int.gcd y (x % y)=Int.gcd x y:=by
 obtain⟨a,rfl⟩:=PF hx;obtain⟨b,rfl⟩:=PF c;rw[<-Int.natCast_emod,PG,PG,gcd_comm,<-gcd_rec,gcd_comm]
def LS {a:Int}(g:0<=a)(h:0<=b)(c:a<=9223372036854775807)(d:b<=9223372036854775807) :
  Calls ai 303 #[E a,E b] w0 fun e w'=>e=.returned (E ((Int.gcd a b:Nat):Int))/\Z w0 w' []:=by
 have Y:=Z.start w0;refine bA an Tryz.func303 ?_;refine O ?_;refine dQ [0,1,5,10] (G:=Int) (H:=Int) (fun x y=>[(0,E x),(1,E y)]) (fun x y w=>0<=x/\0<=y/\x<=9223372036854775807/\y<=9223372036854775807/\Int.gcd x y=Int.gcd a b/\Z w0 w []) (fun _ y=>y.toNat) a b (fun _ _=>rfl) ⟨rfl,rfl,az⟩ ⟨g,h,c,d,rfl,Y⟩ ?_;clear Y;rintro i x y w ⟨hx,j,k,m,he,Y⟩;refine aB ?_ ?_<;>intro o
 ·have hyp:0<y:=U
  have f:x.tmod y=x % y:=Pz hx;have n:=Int.emod_nonneg x (show y≠0 by omega);have q:=PA x hyp;refine fm ?_;intro w Y;refine⟨y,x.tmod y,⟨rfl,rfl,az⟩,aU,⟨U,U,U,U,?_,Y⟩,U⟩;rw[f,<-he];exact X_ hx j
 have f:y=0:=U;subst f;refine O ?_;have n:((Int.gcd a b:Nat):Int)=x:=by rw[<-he,Int.gcd_zero_right];omega
 exact bf (v:=E x) rfl rfl ⟨by rw[n],Y⟩
def Ez {n:Int}(c : -9223372036854775807<=n)(h1:n<=9223372036854775807) :
  Calls ai 304 #[E n] w0 fun e w'=>e=.returned (E (n.natAbs:Int))/\Z w0 w' []:=by
 have Y:=Z.start w0;refine bA an Tryz.func304 ?_;refine O ?_;have a:(n.natAbs:Int)=if 0-n>n then 0-n else n:=by split<;>omega
 exact bf (v:=E (if 0-n>n then 0-n else n)) rfl rfl ⟨by rw[a],Y⟩
def kh (f:da):Value:=.agg #[E f.num,E f.den]
def oL (a b:Int):Int × da:=if b=0 then (22,⟨0,0⟩) else me a b
def vU (n d:Int):Int × da:=if 1099511627776<(n / (Int.gcd n d:Int)).natAbs\/1048576<d / (Int.gcd n d:Int) then (5,⟨0,0⟩) else (0,⟨n / (Int.gcd n d:Int),d / (Int.gcd n d:Int)⟩)
def Gq {a:Int}(u : -9223372036854775807<=a)(v:a<=9223372036854775807)(y : -9223372036854775807<=b)(z:b<=9223372036854775807) :
  Calls ai 296 #[E a,E b] w0 fun e w'=>e=.returned (.tuple #[kh (oL a b).2,bI (oL a b).1])/\Z w0 w' []:=by
 have Y:=Z.start w0;obtain⟨R,c⟩:=À (oL a b);rw[<-c];refine bA an Tryz.func296 ?_;refine mg ?_ ?_<;>intro p w Y L
 ·have q:b=0:=U
  refine O ?_;refine rW (vs:=[]) (ls:=[]) rfl rfl rfl ?_;refine fm ?_;intro w Y;rw[oL,aM q]at c;subst c;exact lM (p:=p) (vs:=[E 0,E 0]) rfl rfl rfl rfl (Y.gn 0 rfl) ⟨rfl,Y.aY⟩
 have q:b≠0:=U;rw[oL,aC q]at c;refine O ?_;refine aB ?_ ?_<;>intro A
 ·exact absurd A U
 refine aB ?_ ?_<;>intro B
 ·refine O ?_
  replace c:R=vU (0-a) (0-b):=by rw[c];unfold me vU;simp only[aM B,Int.zero_sub]
  have N : -9223372036854775807<=0-a:=U;have P:0-a<=9223372036854775807:=U;have r:0<0-b:=U;have Q:0-b<=9223372036854775807:=U;generalize 0-a=n at *
  generalize 0-b=d at *
  refine aL rfl (Ez (n:=n) U U) ?_;refine jT ?_;intro w' Y;refine aL rfl (LS (a:=(n.natAbs:Int)) (b:=d) U U U U) ?_;refine gZ ?_;clear Y;intro w' Y;have i:Int.gcd (n.natAbs:Int) d=Int.gcd n d:=by simp[Int.gcd]
  rw[i];obtain⟨g,I⟩:∃ g:Int,g=(Int.gcd n d:Int):=⟨_,rfl⟩
  rw[<-I];unfold vU at c;rw[<-I]at c;have j:0<g:=by
   have:=Pq n (show d≠0 by omega);omega
  have m:n.tdiv g=n / g:=GE (by rw[I];exact Int.gcd_dvd_left ..);have o:d.tdiv g=d / g:=GE (by rw[I];exact GF ..);refine O ?_;rw[<-m,<-o]at c;have C:(n.tdiv g).natAbs<=n.natAbs:=by rw[m];exact Pr ..
  obtain⟨k,h⟩:=À (n.tdiv g);obtain⟨d2,f⟩:=À (d.tdiv g);have D:1<=d2/\d2<=d:=by
   rw[f,o];refine⟨Pt j (by have:=Int.le_of_dvd r (show g ∣ d by rw[I];exact GF ..);omega),Kd _ U⟩
  refine sh [7,7,32,38] (G:=Addr) (fun x=>[(7,.pointer (some x))]) (fun x w=>Z w0 w [ak x 409 [E k,E d2],ak p 409 [E 0,E 0]]) (fun _=>rfl) ?_ ?_
  ·refine wu (.s [0,1,2,3,4,5] (.d 6 [] (.s [7,8] (.jE [])) (.d 7 [] (.s [6,8] (.jE [])) (.stop)))) Y kr kr ?_;clear Y;intro w Y
   refine O ?_;refine jq ?_ (jq ?_ pZ)
   ·refine db ?_;intro p w Y
    rw[<-h,<-f]at Y;exact⟨_,⟨rfl,az⟩,aU,Y⟩
   refine db ?_;intro p w Y;rw[<-h,<-f]at Y;exact⟨_,⟨rfl,az⟩,aU,Y⟩
  clear Y;rintro H x w Y;rw[<-h,<-f]at c;refine O ?_;refine aL rfl (Ez (n:=k) U U) ?_;refine AL ?_ ?_<;>intro w' Y K
  ·refine O ?_
   refine rW (vs:=[]) (ls:=[]) rfl rfl rfl ?_;refine fm ?_;intro w Y;rw[aM U]at c;subst c;exact lM (p:=p) (vs:=[E 0,E 0]) rfl rfl rfl rfl (Y.gn 1 rfl) ⟨rfl,Y.aY⟩
  refine fm ?_;intro w Y;rw[aC U]at c;subst c;exact lM (p:=p) (vs:=[E k,E d2]) rfl rfl rfl rfl (Y.gn 1 rfl) ⟨rfl,Y.aY⟩
 replace c:R=vU a b:=by rw[c];unfold me vU;simp only[aC (show ¬b<0 by omega)]
 have r:0<b:=U;obtain⟨n,rfl⟩:=À a;obtain⟨d,rfl⟩:=À b;refine O ?_;refine aL rfl (Ez (n:=n) U U) ?_;refine jT ?_;intro w' Y;refine aL rfl (LS (a:=(n.natAbs:Int)) (b:=d) U U U U) ?_;refine gZ ?_;clear Y;intro w' Y;have i:Int.gcd (n.natAbs:Int) d=Int.gcd n d:=by simp[Int.gcd]
 rw[i];obtain⟨g,I⟩:∃ g:Int,g=(Int.gcd n d:Int):=⟨_,rfl⟩
 rw[<-I];unfold vU at c;rw[<-I]at c;have j:0<g:=by
  have:=Pq n (show d≠0 by omega);omega
 have m:n.tdiv g=n / g:=GE (by rw[I];exact Int.gcd_dvd_left ..);have o:d.tdiv g=d / g:=GE (by rw[I];exact GF ..);refine O ?_;rw[<-m,<-o]at c;have C:(n.tdiv g).natAbs<=n.natAbs:=by rw[m];exact Pr ..
 obtain⟨k,h⟩:=À (n.tdiv g);obtain⟨d2,f⟩:=À (d.tdiv g);have D:1<=d2/\d2<=d:=by
  rw[f,o];refine⟨Pt j (by have:=Int.le_of_dvd r (show g ∣ d by rw[I];exact GF ..);omega),Kd _ U⟩
 refine sh [7,7,32,38] (G:=Addr) (fun x=>[(7,.pointer (some x))]) (fun x w=>Z w0 w [ak x 409 [E k,E d2],ak p 409 [E 0,E 0]]) (fun _=>rfl) ?_ ?_
 ·refine wu (.s [0,1,2,3,4,5] (.d 6 [] (.s [7,8] (.jE [])) (.d 7 [] (.s [6,8] (.jE [])) (.stop)))) Y kr kr ?_;clear Y;intro w Y
  refine O ?_;refine jq ?_ (jq ?_ pZ)
  ·refine db ?_;intro p w Y
   rw[<-h,<-f]at Y;exact⟨_,⟨rfl,az⟩,aU,Y⟩
  refine db ?_;intro p w Y;rw[<-h,<-f]at Y;exact⟨_,⟨rfl,az⟩,aU,Y⟩
 clear Y;rintro H x w Y;rw[<-h,<-f]at c;refine O ?_;refine aL rfl (Ez (n:=k) U U) ?_;refine AL ?_ ?_<;>intro w' Y K
 ·refine O ?_
  refine rW (vs:=[]) (ls:=[]) rfl rfl rfl ?_;refine fm ?_;intro w Y;rw[aM U]at c;subst c;exact lM (p:=p) (vs:=[E 0,E 0]) rfl rfl rfl rfl (Y.gn 1 rfl) ⟨rfl,Y.aY⟩
 refine fm ?_;intro w Y;rw[aC U]at c;subst c;exact lM (p:=p) (vs:=[E k,E d2]) rfl rfl rfl rfl (Y.gn 1 rfl) ⟨rfl,Y.aY⟩
end
end Go.Proofs.YtmapkjoefdgjfaaGreatDoor
