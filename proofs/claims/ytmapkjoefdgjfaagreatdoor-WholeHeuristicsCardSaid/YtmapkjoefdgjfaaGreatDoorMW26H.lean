/- Several texts. -/
import Derived.Test.YtmapkjoefdgjfaaGreatDoorMW25H
set_option linter.unusedSimpArgs false
set_option linter.unusedVariables false
set_option linter.defProp false
set_option maxRecDepth 8000
set_option maxHeartbeats 16000000
open List Nat
namespace Go.Proofs.YtmapkjoefdgjfaaGreatDoor
open Go.Sl Go
variable {w0:World}{c:J}
attribute [local irreducible] vc opsW opsD opV opW PureV ReadV Thn Blk
def NX {n d o r:Int}(K : -1099511627776<=n)(z:n<=1099511627776)(L:1<=d)(A:d<=1099511627776)(P : -1099511627776<=o)(B:o<=1099511627776)(Q:1<=r)(C:r<=1099511627776) :
  Calls ak 324 #[E n,E d,E o,E r] w0 fun e w'=>e=.returned (.tuple #[dW (jS n d o r).2,bS (jS n d o r).1])/\Z w0 w' []:=by
 have Y:=Z.start w0;obtain⟨R,f⟩:=À (jS n d o r);rw[<-f];refine bI ar Tryz.func324 ?_;refine lE ?_ ?_<;>intro p w Y F
 ·refine dD ?_;intro w Y
  have e:R=(0,⟨0,1⟩):=by rw[f];exact ba F
  subst e;exact jF (vs:=[E 0,E 1]) rfl rfl rfl rfl (Y.dA 0 rfl) ⟨rfl,Y.bj⟩
 unfold jS at f;rw[aM U]at f;simp only at f;refine O ?_;refine aR rfl (AG (n:=n) U U) ?_;refine iw ?_;intro w' Y;refine aR rfl (Gm (a:=(n.natAbs:Int)) (b:=r) U U U U) ?_;refine iw ?_;intro w' Y;refine aR rfl (AG (n:=o) U U) ?_;refine iw ?_;intro w' Y;refine aR rfl (Gm (a:=(o.natAbs:Int)) (b:=d) U U U U) ?_;refine gk ?_;clear Y;intro w' Y;have l:Int.gcd (n.natAbs:Int) r=Int.gcd n r:=by simp[Int.gcd]
 have m:Int.gcd (o.natAbs:Int) d=Int.gcd o d:=by simp[Int.gcd]
 rw[l,m];obtain⟨g,I⟩:∃ g:Int,g=(Int.gcd n r:Int):=⟨_,rfl⟩
 obtain⟨h,j⟩:∃ h:Int,h=(Int.gcd o d:Int):=⟨_,rfl⟩
 rw[<-I,<-j]at f;rw[<-I,<-j];have q:0<g:=by have:=Ij n (show r≠0 by omega);omega
 have t:0<h:=by have:=Ij o (show d≠0 by omega);omega
 have y:n.tdiv g=n / g:=Bo (by rw[I];exact FA ..);have u:r.tdiv g=r / g:=Bo (by rw[I];exact Bp ..);have v:o.tdiv h=o / h:=Bo (by rw[j];exact FA ..);have x:d.tdiv h=d / h:=Bo (by rw[j];exact Bp ..);rw[<-y,<-u,<-v,<-x]at f;have G:o.tdiv h*h=o:=by rw[v];exact Int.ediv_mul_cancel (by rw[j];exact FA ..)
 have S:1<=r.tdiv g:=by rw[u];exact Il q (by have:=Im (show 0<r by omega) (show g ∣ r by rw[I];exact Bp ..);omega)
 have T:1<=d.tdiv h:=by rw[x];exact Il t (by have:=Im (show 0<d by omega) (show h ∣ d by rw[j];exact Bp ..);omega)
 have V:(n.tdiv g).natAbs<=n.natAbs:=by rw[y];exact Ik ..
 have b3:(o.tdiv h).natAbs<=o.natAbs:=by rw[v];exact Ik ..
 have b2:r.tdiv g<=r:=by rw[u];exact FB _ U
 have b4:d.tdiv h<=d:=by rw[x];exact FB _ U
 have k5:o.tdiv h≠0:=fun e=>by rw[e,Int.zero_mul]at G;omega
 refine dD ?_;intro w Y;generalize n.tdiv g=N at *
 generalize r.tdiv g=k at *
 generalize o.tdiv h=i at *
 generalize d.tdiv h=D at *
 refine aR rfl (AG (n:=N) U U) ?_;refine iw ?_;intro w' Y;refine aR rfl (AG (n:=i) U U) ?_;refine gk ?_;clear Y;intro w' Y;have t1:(1099511627776:Int).tdiv (i.natAbs:Int)=1099511627776 / (i.natAbs:Int):=IA dc;have t2:(1048576:Int).tdiv k=1048576 / k:=IA dc;rw[<-t1,<-t2]at f;have H:0<(i.natAbs:Int):=U;refine aC ?_ ?_<;>intro hc
 ·refine O ?_
  refine mX (vs:=[]) (ls:=[]) rfl rfl rfl ?_;refine dD ?_;intro w Y;have e:R=(5,⟨0,0⟩):=by rw[f];exact ba U
  subst e;exact jF (vs:=[E 0,E 0]) rfl rfl rfl rfl (Y.dA 0 rfl) ⟨rfl,Y.bj⟩
 rw[aM U]at f;have u1:(N.natAbs:Int)*(i.natAbs:Int)<=1099511627776:=by
  have:(N.natAbs:Int)<=1099511627776 / (i.natAbs:Int):=by rw[<-t1];omega
  exact(R2 H).1 this
 have u2:D*k<=1048576:=by
  have:D<=1048576 / k:=by rw[<-t2];omega
  exact(R2 U).1 this
 have u3:0<D*k:=Ml U U;have u4:((N*i).natAbs:Int)=(N.natAbs:Int)*(i.natAbs:Int):=by rw[Int.natAbs_mul];exact D8 ..
 have u5 : -1099511627776<=N*i/\N*i<=1099511627776:=U;refine dD ?_;intro w Y;subst f;exact jF (vs:=[E (N*i),E (D*k)]) rfl rfl rfl rfl (Y.dA 0 rfl) ⟨rfl,Y.bj⟩
def Ri (a b:bY) :
  Calls ak 323 #[dW a,dW b] w0 fun e w'=>e=.returned (.tuple #[dW (fD a b).2,bS (fD a b).1])/\Z w0 w' []:=by
 have Y:=Z.start w0;obtain⟨R,f⟩:=À (fD a b);rw[<-f];refine bI ar Tryz.func323 ?_
 repeat (first|refine dS ?_|(refine iT ?_;clear Y;intro p w Y))
 refine aR rfl (xY a) ?_;refine gk ?_;clear Y;intro w' Y;by_cases g:ca a
 case neg =>
  rw[dB g];have e:R=(2,⟨0,0⟩):=by rw[f];exact ba (Or.inl g)
  refine O ?_;refine mX (vs:=[]) (ls:=[]) rfl rfl rfl ?_;refine dD ?_;intro w Y;subst e;exact jF (vs:=[E 0,E 0]) rfl rfl rfl rfl (Y.dA 0 rfl) ⟨rfl,Y.bj⟩
 rw[dH g];refine O ?_;refine aR rfl (xY b) ?_;refine gk ?_;clear Y;intro w' Y;by_cases i:ca b
 case neg =>
  rw[dB i];have e:R=(2,⟨0,0⟩):=by rw[f];exact ba (Or.inr i)
  refine O ?_;refine mX (vs:=[]) (ls:=[]) rfl rfl rfl ?_;refine dD ?_;intro w Y;subst e;exact jF (vs:=[E 0,E 0]) rfl rfl rfl rfl (Y.dA 0 rfl) ⟨rfl,Y.bj⟩
 rw[dH i];refine O ?_;have j:¬(¬ca a\/¬ca b):=fun h=>h.elim (fun h=>h g) fun h=>h i;obtain⟨k,a2,a3,a4,a5⟩:=g;obtain⟨l,m,q,t,u⟩:=i;rw[fD,aM j]at f;refine O ?_;refine aR rfl (NX (n:=a.num) (d:=a.den) (o:=b.num) (r:=b.den) U U U U U U U U) ?_;refine gk ?_;clear Y;intro w' Y;rw[<-f];refine dD ?_;intro w Y;exact jF (vs:=[E R.2.num,E R.2.den]) rfl rfl rfl rfl (Y.dA 0 rfl) ⟨rfl,Y.bj⟩
def DV (a b:bY) :
  Calls ak 320 #[dW a,dW b] w0 fun e w'=>e=.returned (.tuple #[dW (gN 22 a b).2,bS (gN 22 a b).1])/\Z w0 w' []:=by
 have Y:=Z.start w0;obtain⟨R,f⟩:=À (gN 22 a b);rw[<-f];refine bI ar Tryz.func320 ?_
 repeat (first|refine dS ?_|(refine iT ?_;clear Y;intro p w Y))
 refine aR rfl (xY a) ?_;refine gk ?_;clear Y;intro w' Y;by_cases g:ca a
 case neg =>
  rw[dB g];have e:R=(2,⟨0,0⟩):=by rw[f];exact ba (Or.inl g)
  refine O ?_;refine mX (vs:=[]) (ls:=[]) rfl rfl rfl ?_;refine dD ?_;intro w Y;subst e;exact jF (vs:=[E 0,E 0]) rfl rfl rfl rfl (Y.dA 0 rfl) ⟨rfl,Y.bj⟩
 rw[dH g];refine O ?_;refine aR rfl (xY b) ?_;refine gk ?_;clear Y;intro w' Y;by_cases i:ca b
 case neg =>
  rw[dB i];have e:R=(2,⟨0,0⟩):=by rw[f];exact ba (Or.inr i)
  refine O ?_;refine mX (vs:=[]) (ls:=[]) rfl rfl rfl ?_;refine dD ?_;intro w Y;subst e;exact jF (vs:=[E 0,E 0]) rfl rfl rfl rfl (Y.dA 0 rfl) ⟨rfl,Y.bj⟩
 rw[dH i];refine O ?_;have j:¬(¬ca a\/¬ca b):=fun h=>h.elim (fun h=>h g) fun h=>h i;obtain⟨l,a2,a3,a4,a5⟩:=g;obtain⟨m,q,t,u,v⟩:=i;rw[gN,aM j]at f;refine aC ?_ ?_<;>intro h1
 ·have e:R=(22,⟨0,0⟩):=by rw[f];exact ba h1
  refine O ?_;refine mX (vs:=[]) (ls:=[]) rfl rfl rfl ?_;refine dD ?_;intro w Y;subst e;exact jF (vs:=[E 0,E 0]) rfl rfl rfl rfl (Y.dA 0 rfl) ⟨rfl,Y.bj⟩
 rw[aM h1]at f;refine aC ?_ ?_<;>intro k
 ·rw[ba k,show -a.num=0-a.num by omega,show -b.num=0-b.num by omega]at f
  refine O ?_;refine aR rfl (NX (n:=0-a.num) (d:=a.den) (o:=b.den) (r:=0-b.num) U U U U U U U U) ?_;refine gk ?_;clear Y;intro w' Y;rw[<-f];refine dD ?_;intro w Y;exact jF (vs:=[E R.2.num,E R.2.den]) rfl rfl rfl rfl (Y.dA 0 rfl) ⟨rfl,Y.bj⟩
 rw[aM U]at f;refine O ?_;refine aR rfl (NX (n:=a.num) (d:=a.den) (o:=b.den) (r:=b.num) U U U U U U U U) ?_;refine gk ?_;clear Y;intro w' Y;rw[<-f];refine dD ?_;intro w Y;exact jF (vs:=[E R.2.num,E R.2.den]) rfl rfl rfl rfl (Y.dA 0 rfl) ⟨rfl,Y.bj⟩
def NY (a:bY) :
  Calls ak 305 #[dW a] w0 fun e w'=>e=.returned (dW (gG a))/\Z w0 w' []:=by
 have Y:=Z.start w0;obtain⟨R,d⟩:=À (gG a);rw[<-d];refine bI ar Tryz.func305 ?_
 repeat (first|refine dS ?_|(refine iT ?_;clear Y;intro p w Y))
 refine aR rfl (xY a) ?_;refine gk ?_;clear Y;intro w' Y;by_cases b:ca a
 ·rw[dH b]
  have e:R=a:=by rw[d];exact ba b
  subst e;refine dD ?_;intro w Y;exact DR (vs:=[E R.num,E R.den]) rfl rfl rfl (Y.dA 0 rfl) ⟨rfl,Y.bj⟩
 rw[dB b];have e:R=⟨0,1⟩:=by rw[d];exact aM b
 subst e;refine dD ?_;intro w Y;exact DR (vs:=[E 0,E 1]) rfl rfl rfl (Y.dA 0 rfl) ⟨rfl,Y.bj⟩
def NZ (a:bY):ca (gG a):=by
 unfold gG;split
 ·rename_i h;exact h
 exact⟨dc,dc,dc,dc,dc⟩
def Rh (a b:bY) :
  Calls ak 297 #[dW a,dW b] w0 fun e w'=>e=.returned (E (lT a b))/\Z w0 w' []:=by
 have Y:=Z.start w0;obtain⟨R,d⟩:=À (lT a b);rw[<-d];refine bI ar Tryz.func297 ?_
 repeat (first|refine dS ?_|(refine iT ?_;clear Y;intro p w Y))
 refine gi (pl [0,2,1] (.cY 2::pl [3,4,5] [])) Y kr ?_;clear Y;intro w Y;refine O ?_;refine aR rfl (NY a) ?_;refine iw ?_;intro w' Y;refine aR rfl (NY b) ?_;refine xu ?_;intro w Y;obtain⟨j,a2,a3,a4,_⟩:=NZ a;obtain⟨k,f,g,h,_⟩:=NZ b;have m1:=AH (x:=(gG a).num) (y:=(gG b).den) (X':=1099511627776) (Y':=1048576) a3 a4 U f;have m2:=AH (x:=(gG b).num) (y:=(gG a).den) (X':=1099511627776) (Y':=1048576) g h U a2;unfold lT at d;refine gi (pl [0,1,2,3,4,5,6,7,8,9,10,11] []) Y kr ?_;clear Y;intro w Y;refine O ?_;refine aC ?_ ?_<;>intro h1
 ·rw[ba h1]at d
  refine O ?_;exact bo (v:=E (-1)) rfl rfl ⟨by rw[d],Y.bj⟩
 rw[aM U]at d;refine aC ?_ ?_<;>intro i
 ·rw[ba i]at d
  refine O ?_;exact bo (v:=E 1) rfl rfl ⟨by rw[d],Y.bj⟩
 rw[aM U]at d;refine O ?_;exact bo (v:=E 0) rfl rfl ⟨by rw[d],Y.bj⟩
def Ϩ (a:bY) :
  Calls ak 301 #[dW a] w0 fun e w'=>e=.returned (E (mO a))/\Z w0 w' []:=by
 have Y:=Z.start w0;obtain⟨R,b⟩:=À (mO a);rw[<-b];refine bI ar Tryz.func301 ?_;refine ep ?_;intro p w Y;refine aR rfl (NY a) ?_;refine gk ?_;clear Y;intro w' Y;unfold mO at b;obtain⟨d,a2,a3,a4,_⟩:=NZ a;generalize gG a=v at *
 have q:((v.num.tdiv v.den).natAbs:Int)<=v.num.natAbs:=by
  rw[Int.natAbs_tdiv];exact Int.ofNat_le.2 (div_le_self ..)
 have m:=AH (x:=v.num.tdiv v.den) (y:=v.den) (X':=1099511627776) (Y':=1048576) U U U a2;refine sU ?_ ?_<;>intro w Y h1
 ·rw[ba h1]at b
  refine O ?_;exact bo (v:=E (v.num.tdiv v.den+1)) rfl rfl ⟨by rw[b],Y.bj⟩
 rw[aM U]at b;refine O ?_;exact bo (v:=E (v.num.tdiv v.den)) rfl rfl ⟨by rw[b],Y.bj⟩
def ϧ {lv:Value}{l:List bY}(i:RS aI w0 lv l) :
  Calls ak 300 #[lv] w0 fun e w'=>e=.returned (.tuple #[dW (nD ⟨0,1⟩ l).2,bS (nD ⟨0,1⟩ l).1])/\Z w0 w' []:=by
 have Y:=Z.start w0;obtain⟨R,a⟩:=À (nD ⟨0,1⟩ l);rw[<-a];refine bI ar Tryz.func300 ?_
 repeat (first|refine dS ?_|(refine iT ?_;clear Y;intro p w Y)|(refine rG ?_;clear Y;intro w Y))
 rename_i d _ _;have j:=i.cn;obtain⟨m,rfl⟩:=À p;refine dP [3,3,6,8,12,27] (G:=Nat) (H:=bY) (fun k _=>[(12,E k)]) (fun k s w=>k<=l.length/\R=nD s (l.drop k)/\Z w0 w [am m 409 [E s.num,E s.den],am d 409 [E 0,E 0]]) (fun k _=>l.length-k) 0 ⟨0,1⟩ (fun _ _=>rfl) ⟨rfl,az⟩ ⟨bC _,a,Y⟩ ?_;clear Y;rintro n k s w ⟨hk,a,Y⟩;refine aC ?_ ?_<;>intro h1
 ·have b:k<l.length:=U
  have g:l.drop k=l.getD k aI.dflt::l.drop (k+1):=by rw[aq b];exact xd b
  refine ep ?_;intro p w Y;obtain⟨f,h⟩:=À (l.getD k aI.dflt);rw[<-h]at g;rw[g]at a;refine aR rfl (Ro s (l.getD k aI.dflt)) ?_;refine gk ?_;clear Y;intro w' Y;rw[<-h];unfold nD at a;by_cases he:(jJ s f).1=0
  ·rw[ba he]at a
   rw[ff he];refine ep ?_;intro p w Y;refine⟨k+1,(jJ s f).2,⟨rfl,az⟩,aX,⟨U,a,Y.bj⟩,U⟩
  rw[aM he]at a;rw[c9 he];refine ep ?_;intro p w Y;refine mX (vs:=[]) (ls:=[]) rfl rfl rfl ?_;refine dD ?_;intro w Y;subst a;rw[c9 he];exact jF (p:=d) (vs:=[E 0,E 0]) rfl rfl rfl rfl (Y.dA 3 rfl) ⟨rfl,Y.bj⟩
 have b:k=l.length:=U;subst b;rw[Ib]at a;refine dD ?_;intro w Y;subst a;exact jF (p:=d) (vs:=[E s.num,E s.den]) rfl rfl rfl rfl (Y.dA 1 rfl) ⟨rfl,Y.bj⟩
def ϲ (left:J)(m:Int):kW left [] m=left:=by
 unfold kW;refine jB sm fun i h1 a=>?_;rw[getElem_map,tI,aM jd,aq a]
def ϳ {left:J}{m:Int}{n k:Nat}(bX:lw n c)(r:left.length=n)(hk:k<c.length):(kW left (c.take k) m).set (c.getD k W.dflt).toNat ((kW left (c.take k) m).getD (c.getD k W.dflt).toNat W.dflt-m)=kW left (c.take (k+1)) m:=by
 obtain⟨o,b⟩:=À (c.getD k W.dflt);have l:=bX k hk;have t:0<=o:=by rw[b];exact l.1
 have h1:o<n:=by rw[b];exact l.2.1
 have f:o∉c.take k:=fun h=>by
  obtain⟨j,a,e⟩:=ga h;rw[jC]at a;rw[Fm]at e;have:=Rg bX j k U hk;rw[aq U,e,b]at this;omega
 rw[<-b];have g:o.toNat<left.length:=U;have j:((o.toNat:Nat):Int)=o:=U;rw[CX g,j,aM f];refine jB (by rw[iU,AJ,AJ]) fun i h1 a=>?_;have q:i<left.length:=by rw[AJ]at a;exact a
 rw[<-aq (d:=W.dflt) h1,<-aq (d:=W.dflt) a,CX q,eX W.dflt hk,<-b];by_cases e:i=o.toNat
 ·rw[ba (kK.2 (.inr (fU.2 U))),aq h1,tS,ba e.symm,e]
 rw[aq h1,tS,aM (fun h=>e h.symm),<-aq (d:=W.dflt),CX q];by_cases h:(i:Int)∈c.take k
 ·rw[ba h,ba (kK.2 (.inl h))]
 rw[aM h,aM fun a=>by
  rcases kK.1 a with a|a
  ·exact h a
  have:=fU.1 a
  omega]
def ϴ {left:J}(a:c≠[]):qx left c=c.foldl (fun m o=>min m (left.getD o.toNat W.dflt)) (left.getD (c.getD 0 W.dflt).toNat W.dflt):=by
 cases c with
 | nil=>exact absurd rfl a
 | cons o c =>
  show _=(o::c).foldl _ (left.getD o.toNat W.dflt);rw[xe,Int.min_self];rfl
def ϵ {left:J}{a:Int}:a<=1048576->0<=a->(∀ x∈left,0<=x)->0<=c.foldl (fun m o=>min m (left.getD o.toNat W.dflt)) a/\c.foldl (fun m o=>min m (left.getD o.toNat W.dflt)) a<=1048576:=fun h1 b d =>
 ⟨N0 d b,uJ (N1 (left:=left) (c:=c) (a:=a)).1 h1⟩
def Ϸ {left:J}(b:∀ x∈left,0<=x/\x<=1048576):∀ x∈kW left c (qx left c),0<=x/\x<=1048576:=fun x hx=>by
 have f:=N2 (fun x h=>(b x h).1) x hx;obtain⟨i,e,rfl⟩:=ga hx;have a:i<left.length:=by rw[AJ]at e;exact e
 refine⟨f,?_⟩;have h1:=b _ (cS W.dflt a);have g:=VG (c:=c) fun x h=>(b x h).1;rw[<-aq (d:=W.dflt) e,CX a];split<;>omega
def ϱ {cv ov:Value}{b:J}{cs:List jo}{C:List J}(hc:RS W w0 cv b)(_e:b.length<=4096)(z:∀ x∈b,0<=x/\x<=1048576)(hC:iX w0 ov cs C) :
  Calls ak 285 #[cv,ov] w0 fun e w'=>∃ lv,e=.returned (.tuple #[lv,bS (fJ 1 b C).1])/\Z w0 w' [X aI 409 lv (fJ 1 b C).2]:=by
 have S:=hC;obtain⟨_f,_g,V⟩:=hC;obtain⟨R,q⟩:=À (fJ 1 b C);rw[<-q];unfold fJ at q;have Y:=Z.start w0;refine bI ar Tryz.func285 ?_;refine O ?_;refine aR rfl (LC (hc.at Y) z (S.at Y)) ?_;rintro _ w' ⟨rfl,aw⟩;refine aL ?_;clear aw Y;intro Y;by_cases he:na b.length C=0
 case neg =>
  rw[aM he]at q;rw[c9 he];refine O ?_;rw[q];exact dw (v:=nS) (v':=.iface 57 (E (na b.length C))) rfl rfl rfl ⟨nS,by rw[c9 he],(Y.nil (T:=aI) (e:=409)).only⟩
 rw[ba he,ba rfl]at q;rw[ff he];obtain⟨_b,A⟩:=HC he;refine O ?_;refine aR rfl (pU (hc.at Y) U) ?_;rintro _ w' ⟨Q,rfl,aw⟩;refine aO ?_;clear aw Y;intro Y;replace Y:=Y.nil (T:=aI) (e:=409);refine O ?_;refine zw [8,8,10,11,13,13,15,15,26,71] (G:=Nat) (H:=Value) (I':=List bY) (M':=J) (fun k lv _ _=>[(26,E k),(8,lv)]) (fun k lv L left w=>k<=cs.length/\L.length=k/\left.length=b.length/\(∀ x∈left,0<=x/\x<=1048576)/\R.1=0/\R.2=L++(lD left (C.drop k)).map xJ/\Z w0 w [X aI 409 lv L,X W 3 Q left]) (fun k _ _ _=>cs.length-k) 0 (nS) [] b (fun _ _ _ _=>rfl) ⟨rfl,rfl,az⟩ ⟨bC _,rfl,rfl,z,by rw[q],by rw[q];rfl,Y⟩ ?_;clear Y;rintro σ k lv L left w ⟨hk,j',f,l,B,g,Y⟩;refine aC ?_ ?_<;>intro h1
 ·have r:k<C.length:=U
  have t:=V k r;have D:=t.one;have _c:(cq.enc (aB cq cs k)).all Value.oneCell'=true:=by
   show ((aB cq cs k).M.oneCell' && ((Value.int .i64 (aB cq cs k).aT).oneCell' && true))=true;rw[D];rfl
  have H':cq.enc (aB cq cs k)=[(aB cq cs k).M,E (aB cq cs k).aT]:=rfl;obtain⟨c,J'⟩:=À (C.getD k []);obtain⟨u,bX⟩:=A (C.getD k []) (cS [] r);rw[tK [] r]at g;rw[<-J']at t u bX g;have _h:=t.cn;have P':0<c.length:=La.2 u;have n:=bX 0 P';have R':0<=c.getD 0 W.dflt/\c.getD 0 W.dflt<left.length:=⟨n.1,by rw[f];exact n.2.1⟩
  have _d:0<=c.getD (nat_lit 0) W.dflt/\c.getD (nat_lit 0) W.dflt<left.length:=R';have F:=ϴ (left:=left) u;have K:=l _ (cS W.dflt (show (c.getD 0 W.dflt).toNat<left.length by omega));obtain⟨m,hm⟩:=À (qx left c);have N:R.2=L++xJ m::(lD (kW left c m) (C.drop (k+1))).map xJ:=by rw[g,hm];rfl
  have _i:0<=m/\m<=1048576:=by rw[hm,F];exact ϵ K.2 K.1 fun x h=>(l x h).1
  refine dj ?_;intro p w Y;rw[H']at Y;obtain⟨y,rfl⟩:=À p;refine O ?_;refine dP [11,11,13,13,40,50] (G:=Nat) (H:=Int) (fun i a=>[(40,E i),(11,E a)]) (fun i a w=>i<=c.length/\a=(c.take i).foldl (fun m o=>min m (left.getD o.toNat W.dflt)) (left.getD (c.getD 0 W.dflt).toNat W.dflt)/\Z w0 w [am y 361 [(aB cq cs k).M,E (aB cq cs k).aT],X aI 409 lv L,X W 3 Q left]) (fun i _=>c.length-i) 0 _ (fun _ _=>rfl) ⟨rfl,rfl,az⟩ ⟨bC _,rfl,Y⟩ ?_;clear Y;rintro _j i a w ⟨hi,ha,Y⟩;refine aC ?_ ?_<;>intro h2
  ·have j:i<c.length:=U
   have d:=bX i j;have T':0<=c.getD i W.dflt/\c.getD i W.dflt<left.length:=⟨d.1,by rw[f];exact d.2.1⟩
   have P:(c.take (i+1)).foldl (fun m o=>min m (left.getD o.toNat W.dflt)) (left.getD (c.getD 0 W.dflt).toNat W.dflt)=min a (left.getD (c.getD i W.dflt).toNat W.dflt):=by
    rw[eX W.dflt j,u0,<-ha];rfl
   refine O ?_;refine⟨i+1,_,⟨rfl,rfl,az⟩,aX,⟨U,?_,Y⟩,U⟩;rw[P,Int.min_def];split<;>split<;>omega
  have V':a=m:=by rw[ha,io U,hm,F]
  subst V';clear ha hi h2;rw[<-ϲ left a]at Y;have P:Z w0 w [am y 361 [(aB cq cs k).M,E (aB cq cs k).aT],X aI 409 lv L,X W 3 Q (kW left (c.take 0) a)]:=Y;clear Y;have Y:=P;clear P;refine O ?_;refine de [15,15,54,65] (G:=Nat) (fun i=>[(54,E i)]) (fun i w=>i<=c.length/\Z w0 w [am y 361 [(aB cq cs k).M,E (aB cq cs k).aT],X aI 409 lv L,X W 3 Q (kW left (c.take i) a)]) (fun i=>c.length-i) 0 (fun _=>rfl) ⟨rfl,az⟩ ⟨bC _,Y⟩ ?_;clear Y;rintro _k i w ⟨hi,Y⟩;have _l:=AJ left (c.take i) a;refine aC ?_ ?_<;>intro h3
  ·have j:i<c.length:=U
   have d:=bX i j;have T':0<=c.getD i W.dflt/\c.getD i W.dflt<left.length:=⟨d.1,by rw[f];exact d.2.1⟩
   have _a:=ϳ (m:=a) bX f j;have hv : -1048576<=(kW left (c.take i) a).getD (c.getD i W.dflt).toNat W.dflt/\(kW left (c.take i) a).getD (c.getD i W.dflt).toNat W.dflt<=1048576:=by
    rw[CX U];have:=l _ (cS W.dflt (show (c.getD i W.dflt).toNat<left.length by omega));split<;>omega
   refine dD ?_;intro w Y;rw[_a]at Y;exact⟨i+1,⟨rfl,az⟩,aX,⟨U,Y⟩,U⟩
  rw[io U]at Y;refine O ?_;refine aR rfl (Gp a) ?_;rintro _ w' ⟨rfl,aw⟩;refine aL ?_;clear aw Y;intro Y;refine O ?_;refine jA aI (x1:=xJ a) rfl rfl rfl (fP rfl) (fg _) Y ?_;clear Y;intro j w Y;refine kO ?_;intro s w Y;rw[hm]at Y N;have d:=Ϸ (c:=c) l;exact⟨k+1,_,L++[xJ (qx left c)],kW left c (qx left c),⟨rfl,rfl,az⟩,aX,⟨U,by simp[j'],by rw[AJ];exact f,d,B,by rw[N,fk];rfl,Y.tail.tail⟩,U⟩
 rw[oG U]at g;have d:R.2=L:=by rw[g];simp[lD]
 refine O ?_;exact dw (v:=lv) (v':=.nilIface) rfl rfl rfl ⟨lv,by rw[ff B],by rw[d];exact Y.only⟩
end Go.Proofs.YtmapkjoefdgjfaaGreatDoor
