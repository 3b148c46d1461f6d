/- Several texts. -/
import Derived.Test.YtmapkjoefdgjfaaGreatDoorMW27H
set_option linter.unusedSimpArgs false
set_option linter.unusedVariables false
set_option linter.defProp false
set_option maxRecDepth 8000
set_option maxHeartbeats 16000000
open List Nat
namespace Go.Proofs.YtmapkjoefdgjfaaGreatDoor
open Go.Sl Go
variable {w0:World}{S:e8}{k m n:Nat}{o cv:Value}{c b:List bY}{a:List (List bY)}{ss q:List Value}{X':Int × e8}
attribute [local irreducible] vc opsW opsD opV opW PureV ReadV Thn Blk
def Uk (f:bY) :
  Calls ak 311 #[dW f] w0 fun e w'=>e=.returned (.bool (decide (0<f.num)))/\Z w0 w' []:=by
 have Y:=Z.start w0;refine bI ar Tryz.func311 ?_;refine ep ?_;intro p w Y;exact bo (v:=.bool (decide (0<f.num))) rfl rfl ⟨rfl,Y.bj⟩
def Gb :
  Calls ak 314 #[] w0 fun e w'=>e=.returned (dW jy)/\Z w0 w' []:=by
 have Y:=Z.start w0;refine bI ar Tryz.func314 ?_;refine ep ?_;intro p w Y;exact DR (p:=p) (vs:=[E 0,E 1]) rfl rfl rfl (Y.dA 0 rfl) ⟨rfl,Y.bj⟩
def Nb {lv:Value}{l:List bY}(x:RS aI w0 lv l) :
  Calls ak 318 #[lv] w0 fun e w'=>(∃ r,e=.returned (.bool r)/\(r=true↔∀ f∈l,ca f))/\Z w0 w' []:=by
 have Y:=Z.start w0;have y:=x.cn;refine bI ar Tryz.func318 ?_;refine O ?_;refine de [2,2,4,4,7,14] (G:=Nat) (fun k=>[(7,E k)]) (fun k w=>k<=l.length/\(∀ i,i<k->ca (l.getD i aI.dflt))/\Z w0 w []) (fun k=>l.length-k) 0 (fun _=>rfl) ⟨rfl,az⟩ ⟨bC _,fun i g=>absurd g (eo _),Y⟩ ?_;clear Y;rintro z k w ⟨hk,u,Y⟩;refine aC ?_ ?_<;>intro h1
 ·have t:k<l.length:=U
  refine ep ?_;intro p w Y;refine aR rfl (xY (l.getD k aI.dflt)) ?_;refine gk ?_;clear Y;intro w' Y;by_cases j:ca (l.getD k aI.dflt)
  ·rw[dH j]
   refine O ?_;refine⟨k+1,⟨rfl,az⟩,aX,⟨U,fun i g=>?_,Y.bj⟩,U⟩;by_cases e:i=k
   ·rw[e];exact j
   exact u i U
  rw[dB j];refine O ?_;exact bo (v:=.bool false) rfl rfl ⟨⟨false,rfl,dU fun h=>j (h _ (cS _ t))⟩,Y.bj⟩
 refine O ?_;refine bo (v:=.bool true) rfl rfl ⟨⟨true,rfl,js fun f j=>?_⟩,Y.bj⟩;obtain⟨i,g,rfl⟩:=ga j;rw[<-aq (d:=aI.dflt) g];exact u i U
def kI (S:e8)(k m:Nat):J:=(iR S k m).map fun i:Nat=>(i:Int)
def Ũ (S:e8)(k m:Nat):(iR S k m).length<=m:=by
 unfold iR;exact rN (wV _ _) (by rw[E8];exact cP _)
def Ul (S:e8)(k m:Nat):(kI S k m).length=(iR S k m).length:=lA _
def ũ (S:e8)(k m:Nat):kI S k (m+1)=if 0<((S.rows.getD m []).getD k aI.dflt).num then kI S k m++[(m:Int)] else kI S k m:=by
 unfold kI iR;rw[lN,CF];by_cases h:0<((S.rows.getD m []).getD k aI.dflt).num
 ·have d:0<((S.rows.getD m []).getD k dF).num:=h
  rw[ba h,L8 (by simpa using d),filter_nil];simp
 have d:¬0<((S.rows.getD m []).getD k dF).num:=h;rw[aM h,L9 (by simpa using d),filter_nil];simp
def Ū {i:Nat}{d:Int}{cM:bY}{l:List Nat}{L:Int × bY}(e:L=gN 22 (S.right.getD i aI.dflt) ((S.rows.getD i []).getD k aI.dflt)) :
  lz S k d cM (i::l)=if L.1≠0 then (L.1,0) else if d<0\/lT L.2 cM<0\/(lT L.2 cM=0/\S.bW.getD i W.dflt<S.bW.getD d.toNat W.dflt) then lz S k (i:Int) L.2 l else lz S k d cM l:=by
 subst e
 conv=>lhs;unfold lz
 rfl
def ū {pt:Addr}{n m:Int}{rv bv gv:Value}{N M':Nat}(P:iO N M' S)(hk:k<N)(hN:N<=4096)(hM:M'<=4096)(_a:ss.length=M')(hb:eJ w0 pt [E n,E m,rv,bv,o,gv,E S.value.num,E S.value.den])(_b:RS aA w0 rv ss)(r:∀ i,i<M'->RS aI w0 (cL ss i) (S.rows.getD i []))(_c:RS aI w0 bv S.right)(_d:RS W w0 o S.bW) :
  Calls ak 312 #[.pointer (some pt),E k] w0 fun e w'=>e=.returned (.tuple #[E (fY S k M').2,bS (fY S k M').1])/\Z w0 w' []:=by
 obtain⟨R,f⟩:=À (fY S k M');rw[<-f];have h1:=P.rl;have h2:=P.bl;have h3:=P.al;have B:∀ i,i<M'->(S.rows.getD i []).length=N:=fun i hi=>P.DU _ (cS [] U);have Y:=Z.start w0;refine bI ar Tryz.func312 ?_;replace Y:=Y.nil (T:=W) (e:=3);refine O ?_;refine dP [6,8,21,35] (G:=Nat) (H:=Value) (fun i A=>[(21,E i),(6,A)]) (fun i A w=>i<=M'/\Z w0 w [X W 3 A (kI S k i)]) (fun i _=>M'-i) 0 (nS) (fun _ _=>rfl) ⟨rfl,rfl,az⟩ ⟨bC _,Y⟩ ?_;clear Y;rintro σ i A w ⟨hi,Y⟩;have _e:(kI S k i).length<=i:=by rw[Ul];exact Ũ S k i
 refine aC ?_ ?_<;>intro g1
 ·have t:i<M':=U
  have j:=ũ S k i;have j':=r i t;have H':=B i t;refine O ?_;refine aR rfl (Uk ((S.rows.getD i []).getD k aI.dflt)) ?_;refine gk ?_;clear Y;intro w' Y;by_cases g:0<((S.rows.getD i []).getD k aI.dflt).num
  ·rw[dH g]
   rw[ba g]at j
   repeat (first|refine dS ?_|(refine gA ?_;clear Y;intro s w Y))
   rw[<-j]at Y;exact⟨i+1,_,⟨rfl,rfl,az⟩,aX,⟨U,Y.tail⟩,U⟩
  rw[dB g];rw[aM g]at j;rw[<-j]at Y;refine O ?_;exact⟨i+1,_,⟨rfl,rfl,az⟩,aX,⟨U,Y⟩,U⟩
 have J':M'=i:=U;subst J';have P':=Ul S k M';refine aC ?_ ?_<;>intro g2
 ·have hq:0<(kI S k M'++[-1]).length:=sm
  have j:R.1=0/\R.2=(kI S k M'++[-1]).getD 0 W.dflt:=by
   unfold fY at f;unfold kI at g2 ⊢
   cases g:iR S k M' with
   | nil=>rw[g]at f;subst f;exact⟨rfl,rfl⟩
   | cons a l =>
    cases l with
    | nil=>rw[g]at f;subst f;exact⟨rfl,rfl⟩
    | cons b l=>rw[g]at g2;simp at g2;omega
  repeat (first|refine dS ?_|(refine gA ?_;clear Y;intro s w Y))
  rw[<-j.2];exact dw (v:=E R.2) (v':=.nilIface) rfl rfl rfl ⟨by rw[ff j.1],iH Y⟩
 have C:R=lz S k (-1) jy ((iR S k M').drop 0):=by
  unfold fY at f;unfold kI at g2
  cases g:iR S k M' with
  | nil=>rw[g]at g2;simp at g2
  | cons a l =>
   cases l with
   | nil=>rw[g]at g2;simp at g2
   | cons b l=>rw[g]at f;exact f
 clear f;have R':∀ j,j<(iR S k M').length->∃ i,i<M'/\(kI S k M').getD j W.dflt=(i:Int)/\(iR S k M').drop j=i::(iR S k M').drop (j+1):=fun j Q=>by
  refine⟨(iR S k M')[j],(Gc.1 (zq Q)).1,?_,xd Q⟩;rw[aq (by rw[P'];exact Q)];exact getElem_map _
 generalize iR S k M'=V at *
 generalize kI S k M'=ci at *
 refine O ?_;refine aR rfl Gb ?_;refine GT ?_;intro p w Y;obtain⟨D,rfl⟩:=À p;refine pu [4,5,9,9,12,15,47,107] (G:=Nat) (H:=Int) (I':=bY) (fun j b _=>[(47,E j),(9,E b)]) (fun j b l w=>j<=V.length/\b<M'/\R=lz S k b l (V.drop j)/\Z w0 w [am D 409 [E l.num,E l.den],X W 3 A ci]) (fun j _ _=>V.length-j) 0 (-1) jy (fun _ _ _=>rfl) ⟨rfl,rfl,az⟩ ⟨bC _,U,C,Y⟩ ?_;clear Y C;rintro _f j b l w ⟨Q,_g,f,Y⟩;refine aC ?_ ?_<;>intro g3
 ·obtain⟨i,t,T',V'⟩:=R' j U
  obtain⟨L,hL⟩:=À (gN 22 (S.right.getD i aI.dflt) ((S.rows.getD i []).getD k aI.dflt));rw[V',Ū hL]at f;have j':=r i t;have H':=B i t;refine O ?_;rw[T'];refine rJ [13,14,51,71] (G:=Addr) (fun x=>[(13,.pointer (some x)),(14,bS L.1)]) (fun x w=>Z w0 w [am x 409 [E L.2.num,E L.2.den],am D 409 [E l.num,E l.den],X W 3 A ci]) (fun _=>rfl) ?_ ?_
  ·refine u7 (.s [0,1,2,4,7,8,9,11,14,3,5,6,10,12,13,15,16] (.d 17 [] (.s [18,19,20] (.c 21 [3,6,10,13,16] (.s [22,23] (.jz [])))) (.d 21 [3,6,10,13,16] (.s [17,18,19,20,22,23] (.jz [])) (.stop)))) Y kr kr ?_;clear Y;intro w Y
   refine O ?_;refine jl ?_ (jl ?_ pP)
   ·refine O ?_
    refine aR rfl (DV (S.right.getD i aI.dflt) ((S.rows.getD i []).getD k aI.dflt)) ?_;refine AN ?_;intro p w Y;rw[<-hL]at Y ⊢;exact⟨_,⟨rfl,rfl,az⟩,aX,Y⟩
   refine dj ?_;intro p w Y;refine aR rfl (DV (S.right.getD i aI.dflt) ((S.rows.getD i []).getD k aI.dflt)) ?_;refine xu ?_;intro w Y;rw[<-hL]at Y ⊢;exact⟨_,⟨rfl,rfl,az⟩,aX,Y⟩
  clear Y;rintro _h _i w Y;by_cases he:L.1=0
  case neg =>
   rw[ba he]at f;rw[c9 he];refine O ?_;rw[f];exact dw (v:=E 0) (v':=.iface 57 (E L.1)) rfl rfl rfl ⟨by rw[c9 he],iH Y⟩
  rw[aM (z7.2 he)]at f;rw[ff he];refine O ?_;refine aR rfl (Rh L.2 l) ?_;refine gk ?_;clear Y;intro w' Y;generalize lT L.2 l=c at *
  refine O ?_;by_cases F:b<0
  ·have g:decide (b<0)=true:=dH F
   rw[ba (Or.inl F)]at f;refine qM ?_;clear Y;intro w Y;refine O ?_
   try simp only[g];refine kt ?_
   refine dD ?_;intro w Y;exact⟨j+1,(i:Int),L.2,⟨rfl,rfl,az⟩,aX,⟨U,U,f,Y.tail⟩,U⟩
  have g:decide (b<0)=false:=dB F;by_cases K:c<0
  ·have u:decide (c<0)=true:=dH K
   rw[ba (Or.inr (Or.inl K))]at f;refine qM ?_;clear Y;intro w Y;refine O ?_
   try simp only[g];refine kt ?_
   refine O ?_
   try simp only[u];refine kt ?_
   refine dD ?_;intro w Y;exact⟨j+1,(i:Int),L.2,⟨rfl,rfl,az⟩,aX,⟨U,U,f,Y.tail⟩,U⟩
  have u:decide (c<0)=false:=dB K;by_cases q3:c=0
  ·have y:decide (c=0)=true:=dH q3
   by_cases q4:S.bW.getD i W.dflt<S.bW.getD b.toNat W.dflt
   ·have z:=dH q4
    rw[ba (Or.inr (Or.inr ⟨q3,q4⟩))]at f;refine qM ?_;clear Y;intro w Y;refine O ?_
    try simp only[g];refine kt ?_
    refine O ?_
    try simp only[u];refine kt ?_
    refine O ?_
    try simp only[y];refine kt ?_
    refine O ?_
    try simp only[z];refine kt ?_
    refine dD ?_;intro w Y;exact⟨j+1,(i:Int),L.2,⟨rfl,rfl,az⟩,aX,⟨U,U,f,Y.tail⟩,U⟩
   have z:=dB q4;rw[aM fun h=>h.elim F fun h=>h.elim K fun h=>q4 h.2]at f;refine qM ?_;clear Y;intro w Y;refine O ?_
   try simp only[g];refine kt ?_
   refine O ?_
   try simp only[u];refine kt ?_
   refine O ?_
   try simp only[y];refine kt ?_
   refine O ?_
   try simp only[z];refine kt ?_
   refine O ?_;exact⟨j+1,b,l,⟨rfl,rfl,az⟩,aX,⟨U,U,f,Y.tail⟩,U⟩
  have y:decide (c=0)=false:=dB q3;rw[aM fun h=>h.elim F fun h=>h.elim K fun h=>q3 h.1]at f;refine qM ?_;clear Y;intro w Y;refine O ?_
  try simp only[g];refine kt ?_
  refine O ?_
  try simp only[u];refine kt ?_
  refine O ?_
  try simp only[y];refine kt ?_
  refine O ?_;exact⟨j+1,b,l,⟨rfl,rfl,az⟩,aX,⟨U,U,f,Y.tail⟩,U⟩
 have g:V.length=j:=U;rw[oG U]at f;refine O ?_;rw[f];exact dw (v:=E b) (v':=.nilIface) rfl rfl rfl ⟨by rw[lz,ff rfl],iH Y⟩
def Nc {a:Value}{xs:List bY}(d:RS aI w0 a xs)(j:xs.length<=1099511627776) :
  Calls ak 319 #[a] w0 fun e w'=>∃ s,e=.returned s/\Z w0 w' [X aI 409 s xs]:=by
 have Y:=Z.start w0;obtain⟨f,cap,g⟩:=d.shape;subst g;refine bI ar Tryz.func319 ?_;refine O ?_;refine fR rfl (Fg (a:=f) (n:=xs.length) (c:=cap) rfl) ?_
 cases f with
 | none =>
  have i:xs=[]:=by
   rcases wg xs.length with h|h
   ·exact qD h
   obtain⟨p,c2,he,_⟩:=d.some dc h;cases he
  subst i;refine O ?_
  exact bo (v:=nS) rfl rfl ⟨_,rfl,Y.nil⟩
 | some p =>
  refine O ?_;refine zU aI Y ?_;clear Y;intro s1 w Y;refine kO ?_;intro s w Y;rw[lQ]at Y;exact bo (v:=s) rfl rfl ⟨_,rfl,Y⟩
structure xz (w:World) (v:Value) (ss:List Value) (a:List (List bY)):Prop where
 rs:RS aA w v ss
 len:ss.length=a.length
 row:∀ i,i<a.length->RS aI w (cL ss i) (a.getD i [])
def xz.at {w0 w:World}{Γ:List HP}{v:Value}{ss:List Value}{a:List (List bY)}(h:xz w0 v ss a)(Y:Z w0 w Γ):xz w v ss a:=⟨h.rs.at Y,h.len,fun i d=>(h.row i d).at Y⟩
def Ŭ {bv:Value}(h:kn c a b)(A:RS aI w0 cv c)(B:xz w0 o ss a)(C:RS aI w0 bv b)(D:c.length<=24) :
  Calls ak 308 #[cv,o,bv] w0 fun e w'=>e=.returned (bS (if 24<a.length then 5 else 0))/\Z w0 w' []:=by
 have Y:=Z.start w0;obtain⟨F,H,f⟩:=B;have K:=h.ab;have l:decide ((24:Int)<(c.length:Int))=false:=dB U;have t:∀ i,i<a.length->(a.getD i []).length=c.length:=fun i L=>h.ac _ (cS [] L);refine bI ar Tryz.func308 ?_;refine O ?_;by_cases y:24<a.length
 ·have g:decide ((24:Int)<(ss.length:Int))=true:=dH U
  try simp only[l,g];refine kt ?_
  refine O ?_;rw[ba y];exact bo (v:=.iface 57 (E 5)) rfl rfl ⟨by rw[c9 dc],Y⟩
 have g:decide ((24:Int)<(ss.length:Int))=false:=dB U;have u:decide ((24:Int)<(b.length:Int))=false:=dB U
 try simp only[l,g,u];refine kt ?_
 refine aC ?_ ?_<;>intro N
 ·exact absurd N U
 refine O ?_;refine de [6,6,8,8,35,45] (G:=Nat) (fun k=>[(35,E k)]) (fun k w=>k<=a.length/\Z w0 w []) (fun k=>a.length-k) 0 (fun _=>rfl) ⟨rfl,az⟩ ⟨bC _,Y⟩ ?_;clear Y;rintro z k w ⟨hk,Y⟩;refine aC ?_ ?_<;>intro g1
 ·have d:k<a.length:=U
  have j:=f k d;have x:=t k d;refine aC ?_ ?_<;>intro P
  ·exact absurd P U
  refine O ?_;exact⟨k+1,⟨rfl,az⟩,aX,⟨U,Y⟩,U⟩
 refine O ?_;refine aR rfl (Nb (A.at Y)) ?_;rintro _ w' ⟨⟨r,rfl,j⟩,aw⟩;refine aL ?_;clear aw Y;intro Y;obtain rfl:r=true:=j.2 h.cp;refine O ?_;refine aR rfl (Nb (C.at Y)) ?_;rintro _ w' ⟨⟨r,rfl,j⟩,aw⟩;refine aL ?_;clear aw Y;intro Y;obtain rfl:r=true:=j.2 h.bp;refine O ?_;refine de [6,6,10,10,57,65] (G:=Nat) (fun k=>[(57,E k)]) (fun k w=>k<=a.length/\Z w0 w []) (fun k=>a.length-k) 0 (fun _=>rfl) ⟨rfl,az⟩ ⟨bC _,Y⟩ ?_;clear Y;rintro z k w ⟨hk,Y⟩;refine aC ?_ ?_<;>intro g2
 ·have d:k<a.length:=U
  have x:=f k d;refine O ?_;refine aR rfl (Nb (x.at Y)) ?_;rintro _ w' ⟨⟨r,rfl,j⟩,aw⟩;refine aL ?_;clear aw Y;intro Y;obtain rfl:r=true:=j.2 (h.ap _ (cS [] d));refine O ?_;exact⟨k+1,⟨rfl,az⟩,aX,⟨U,Y⟩,U⟩
 refine O ?_;refine de [6,6,12,12,68,76] (G:=Nat) (fun k=>[(68,E k)]) (fun k w=>k<=b.length/\Z w0 w []) (fun k=>b.length-k) 0 (fun _=>rfl) ⟨rfl,az⟩ ⟨bC _,Y⟩ ?_;clear Y;rintro z k w ⟨hk,Y⟩;refine aC ?_ ?_<;>intro g3
 ·have d:k<b.length:=U
  have P:=h.bn _ (cS aI.dflt d);refine lE ?_ ?_<;>intro p w Y x
  ·exact absurd x U
  refine O ?_;exact⟨k+1,⟨rfl,az⟩,aX,⟨U,Y.bj⟩,U⟩
 refine O ?_;exact bo (v:=.nilIface) rfl rfl ⟨by rw[aM y,ff rfl],Y⟩
def qY (a:List (List bY))(i:Nat):List (List bY):=(List.range i).map fun i=>a.getD i []++pL a.length i
def qZ (n i:Nat):J:=(List.range i).map fun (i:Nat)=>((n+i:Nat):Int)
def pM (i k:Nat):List bY:=(List.range k).map fun k=>if k=i then tZ else jy
def ŭ (a:List (List bY))(i:Nat):qY a (i+1)=qY a i++[a.getD i []++pL a.length i]:=by unfold qY;rw[lN,qG];rfl
def Ů (n i:Nat):qZ n (i+1)=qZ n i++[((n+i:Nat):Int)]:=by unfold qZ;rw[lN,qG];rfl
def ů (i k:Nat):pM i (k+1)=pM i k++[if k=i then tZ else jy]:=by unfold pM;rw[lN,qG];rfl
def Ű {x:Value}(V:RS aI w0 cv c)(ha:xz w0 o q a)(hb:RS aI w0 x b)(j':c.length<=4096)(H':a.length<=4096)(J':a.length=b.length)(B:∀ r∈a,r.length=c.length) :
  Calls ak 309 #[cv,o,x] w0 fun e w'=>∃ g rv bv h gv ss,e=.returned (.pointer (some g))/\Z w0 w' (GN g c.length a.length rv bv h gv ss (jt c a b)):=by
 have Y:=Z.start w0;obtain⟨P',C,y⟩:=ha;have D:∀ i,i<a.length->(a.getD i []).length=c.length:=fun i P=>B _ (cS [] P);refine bI ar Tryz.func309 ?_;refine O ?_;refine aR rfl (Nc (hb.at Y) U) ?_;rintro _ w' ⟨bv,rfl,aw⟩;refine aO ?_;clear aw Y;intro Y;have F:=(bB (s:=bv) Y).one;refine O ?_;refine aR rfl (Nc (V.at Y) U) ?_;rintro _ w' ⟨gv,rfl,aw⟩;refine aO ?_;clear aw Y;intro Y;have K:=(bB (s:=gv) Y).one;refine O ?_;refine aR rfl Gb ?_;refine iw ?_;intro w' Y;rw[C];refine mX (vs:=[(0,E c.length),(1,E a.length),(3,bv),(5,gv),(6,.agg #[E 0,E 1])]) (ls:=[(0,[E c.length]),(1,[E a.length]),(3,[bv]),(5,[gv]),(6,[E 0,E 1])]) rfl (by simp only[pV,uL,BB F,BB K];rfl) rfl ?_;refine zx (vs:=[E c.length,E a.length,nS,bv,nS,gv,E 0,E 1]) rfl Y ?_;clear Y;intro g w Y;replace Y:Z w0 w [am g 431 [E c.length,E a.length,(nS),bv,(nS),gv,E 0,E 1],X aI 409 gv (c++replicate 0 jy),X aI 409 bv b]:=by simpa using Y
 refine O ?_;refine dP [26,38] (G:=Nat) (H:=Value) (fun k _=>[(26,E k)]) (fun k gv w=>k<=a.length/\Z w0 w [am g 431 [E c.length,E a.length,(nS),bv,(nS),gv,E 0,E 1],X aI 409 gv (c++replicate k jy),X aI 409 bv b]) (fun k _=>a.length-k) 0 gv (fun _ _=>rfl) ⟨rfl,az⟩ ⟨bC _,Y⟩ ?_;clear Y;rintro σ k d w ⟨hk,Y⟩;have R':(c++replicate k jy).length=c.length+k:=sm;refine aC ?_ ?_<;>intro g1
 ·have f:k<a.length:=U
  refine O ?_;refine gi (pl [0,1,2,3,4,5] (.cY 4::pl [6] (.cY 4::pl [7,8,9,10] []))) Y kr ?_;clear Y;intro w Y;refine O ?_;refine aR rfl Gb ?_;refine iw ?_;intro w' Y;refine jA aI (x1:=jy) rfl rfl rfl (fP rfl) (fg _) Y ?_;clear Y;intro u w Y;refine qJ ?_;intro s w Y;simp only[mY,lO]at Y;rw[fk,<-CI (n:=k)]at Y;exact⟨k+1,_,⟨rfl,az⟩,aX,⟨U,Y.tail⟩,U⟩
 have t:k=a.length:=U;subst t;replace Y:=(Y.nil (T:=aA) (e:=388)).pH (T:=aI) (e:=409);replace Y:=Y.nil (T:=W) (e:=3);replace Y:Z w0 w [am g 431 [E c.length,E a.length,(nS),bv,(nS),d,E 0,E 1],X aA 388 (nS) [],ai aI 409 [] [],X W 3 (nS) [],X aI 409 d (c++replicate a.length jy),X aI 409 bv b]:=Y.bj;refine O ?_;refine zw [8,12,41,88] (G:=Nat) (H:=Value) (I':=Value) (M':=List Value) (fun i _ _ _=>[(41,E i)]) (fun i rv h ss w=>i<=a.length/\Z w0 w [am g 431 [E c.length,E a.length,rv,bv,h,d,E 0,E 1],X aA 388 rv ss,ai aI 409 ss (qY a i),X W 3 h (qZ c.length i),X aI 409 d (c++replicate a.length jy),X aI 409 bv b]) (fun i _ _ _=>a.length-i) 0 (nS) (nS) [] (fun _ _ _ _=>rfl) ⟨rfl,az⟩ ⟨bC _,Y⟩ ?_;clear Y;rintro T' i rv h ss w ⟨P,Y⟩;refine aC ?_ ?_<;>intro g2
 ·have z:i<a.length:=U
  have L:=y i z;have N:=D i z;refine O ?_;refine aR rfl (Nc (L.at Y) U) ?_;rintro _ w' ⟨r,rfl,aw⟩;refine aO ?_;clear aw Y;intro Y;refine O ?_;refine dP [10,12,50,62] (G:=Nat) (H:=Value) (fun k r=>[(50,E k),(10,r)]) (fun k r w=>k<=a.length/\Z w0 w [X aI 409 r (a.getD i []++pM i k),am g 431 [E c.length,E a.length,rv,bv,h,d,E 0,E 1],X aA 388 rv ss,ai aI 409 ss (qY a i),X W 3 h (qZ c.length i),X aI 409 d (c++replicate a.length jy),X aI 409 bv b]) (fun k _=>a.length-k) 0 r (fun _ _=>rfl) ⟨rfl,rfl,az⟩ ⟨bC _,by simpa [pM] using Y⟩ ?_;clear Y;rintro V' k l w ⟨hk,Y⟩;have _a:(a.getD i []++pM i k).length=c.length+k:=by rw[length_append,N];simp[pM]
  have j:=ů i k;refine aC ?_ ?_<;>intro g3
  ·have f:k<a.length:=U
   refine O ?_;refine aR rfl Gb ?_;refine GT ?_;intro p w Y;obtain⟨A,rfl⟩:=À p;refine j2 ?_ ?_<;>intro g4
   ·rw[ba (show k=i by omega)]at j
    refine dD ?_;intro w Y;simp only[mY,lO]at Y;refine jA aI (x1:=tZ) rfl rfl rfl (fP rfl) (fg _) Y ?_;clear Y;intro u w Y;refine kO ?_;intro s w Y;rw[fk,<-j]at Y;exact⟨k+1,_,⟨rfl,rfl,az⟩,aX,⟨U,Y.tail.tail⟩,U⟩
   rw[aM (show ¬k=i by omega)]at j;refine O ?_;refine jA aI (x1:=jy) rfl rfl rfl (fP rfl) (fg _) Y ?_;clear Y;intro u w Y;refine kO ?_;intro s w Y;rw[fk,<-j]at Y;exact⟨k+1,_,⟨rfl,rfl,az⟩,aX,⟨U,Y.tail.tail⟩,U⟩
  have t:k=a.length:=U;subst t;have _b:=(bB (s:=l) Y).one;have Q:=(Y.bN 3 rfl).bU;have _c:(qY a i).length=i:=by simp[qY]
  have R:(qZ c.length i).length=i:=by simp[qZ]
  repeat (first|refine dS ?_|(refine rG ?_;clear Y;intro w Y)|(refine gA ?_;clear Y;intro s w Y))
  simp only[mY,lO]at Y;obtain⟨f,rfl⟩:=À s;replace Y:Z w0 w [X aI 409 l (a.getD i []++pL a.length i),ai aI 409 ss (qY a i),am g 431 [E c.length,E a.length,f,bv,h,d,E 0,E 1],X aA 388 f (ss++[l]),X W 3 h (qZ c.length i),X aI 409 d (c++replicate a.length jy),X aI 409 bv b]:=Y.bj (Δ:=[X aI 409 l (a.getD i []++pM i a.length),ai aI 409 ss (qY a i),am g 431 [E c.length,E a.length,f,bv,h,d,E 0,E 1],X aA 388 f (ss++[l]),X W 3 h (qZ c.length i),X aI 409 d (c++replicate a.length jy),X aI 409 bv b]);replace Y:=Y.jv;rw[<-ŭ]at Y;refine O ?_;refine gi (pl [0,1,2,3,4,5,6,7,8,9,10,11] (.cY 4::pl [12,13,14,15] [])) Y kr ?_;clear Y;intro w Y
  repeat (first|refine dS ?_|(refine uP ?_;clear Y;intro w Y)|(refine gA ?_;clear Y;intro s w Y))
  simp only[mY,lO]at Y;obtain⟨u,rfl⟩:=À s;have A:=Ů c.length i;rw[show ((c.length+i:Nat):Int)=(c.length:Int)+(i:Int) by omega]at A;rw[<-A]at Y;replace Y:Z w0 w [am g 431 [E c.length,E a.length,f,bv,u,d,E 0,E 1],X aA 388 f (ss++[l]),ai aI 409 (ss++[l]) (qY a (i+1)),X W 3 u (qZ c.length (i+1)),X aI 409 d (c++replicate a.length jy),X aI 409 bv b]:=Y.bj;exact⟨i+1,f,u,ss++[l],⟨rfl,az⟩,aX,⟨U,Y⟩,U⟩
 have f:i=a.length:=U;subst f;refine O ?_;exact bo (v:=.pointer (some g)) rfl rfl ⟨g,rv,bv,h,d,ss,rfl,Y.bj (Δ:=[am g 431 [E c.length,E a.length,rv,bv,h,d,E 0,E 1],X aA 388 rv ss,ai aI 409 ss (qY a a.length),X aI 409 bv b,X W 3 h (qZ c.length a.length),X aI 409 d (c++replicate a.length jy)])⟩
def Um:∀ {l:List bY}{i k:Nat},(∀ j,j<k->¬0<(l.getD j aI.dflt).num)->k<=l.length->qq i l=qq (i+k) (l.drop k)
 | _,i,0,_,_=>rfl
 | [],_,_+1,_,hk=>absurd hk sm
 | f::l,i,k+1,h,hk=>by
  have d:¬0<f.num:=h 0 (Fz _);have e:=Um (l:=l) (i:=i+1) (k:=k) (fun j g=>by have:=h (j+1) U;rwa[getD_cons_succ]at this) (by simpa using hk);rw[drop_succ_cons,show i+(k+1)=i+1+k by omega,<-e]
  conv=>lhs;unfold qq
  rw[aM d]
def ű {lv:Value}{l:List bY}(r:RS aI w0 lv l) :
  Calls ak 310 #[lv,.func (.func 311) #[] #[]] w0 fun e w'=>e=.returned (E (qq 0 l))/\Z w0 w' []:=by
 have t:=r.cn;have Y:=Z.start w0;refine bI ar Tryz.func310 ?_;refine O ?_;refine de [4,5,8,18] (G:=Nat) (fun k=>[(8,E k)]) (fun k w=>k<=l.length/\(∀ i,i<k->¬0<(l.getD i aI.dflt).num)/\Z w0 w []) (fun k=>l.length-k) 0 (fun _=>rfl) ⟨rfl,az⟩ ⟨bC _,fun i j=>absurd j (eo _),Y⟩ ?_;clear Y;rintro u k w ⟨hk,f,Y⟩;have d:=Um (i:=0) f hk;refine aC ?_ ?_<;>intro h1
 ·have h:k<l.length:=U
  refine O ?_;refine xK (cs:=[]) rfl rfl (Uk (l.getD k aI.dflt)) ?_;refine gk ?_;clear Y;intro w' Y;rw[tK aI.dflt h]at d;by_cases g:0<(l.getD k aI.dflt).num
  ·rw[dH g]
   refine O ?_;exact bo (v:=E k) rfl rfl ⟨by rw[d,qq,ba g,xT],Y⟩
  rw[dB g];refine O ?_;refine⟨k+1,⟨rfl,az⟩,aX,⟨U,fun i j=>?_,Y⟩,U⟩;by_cases e:i=k
  ·rw[e];exact g
  exact f i U
 have g:k=l.length:=U;rw[g,Ib]at d;refine O ?_;exact bo (v:=E (-1)) rfl rfl ⟨by rw[d,qq],Y⟩
def Ų (hk:fF S<0)(h:kV m n S=some X'):X'=(0,S):=by
 cases n with
 | zero=>exact absurd h (by simp[kV])
 | succ n =>
  unfold kV at h;rw[ba hk]at h;exact(zD h).symm
def ų {α:Type}{x y:α}:(replicate k x++replicate (m+1) y).set k x=replicate (k+1) x++replicate m y:=by
 rw[xQ _ _ sm,mp,pW,Cz (n:=m),lO,CI (n:=k),fk];rfl
def Ŵ {k:Int}{B:J}{f:bY}{R x:List bY}:kc n (k::B) (f::R) x=kc n B R (if k<(n:Int) then x.set k.toNat f else x):=by
 conv=>lhs;unfold kc
def ŵ {L:Int × Int}{Q:Int × e8}(hk:fF S=(k:Int))(g:L=fY S k m)(i:0<=L.2->Q=nH S L.2.toNat k)(h:kV m n S=some X'):∃ f,n=f+1/\((L.1≠0/\X'=(L.1,S))\/(L.1=0/\L.2<0/\X'=(3,S))\/(L.1=0/\0<=L.2/\Q.1≠0/\X'=(Q.1,S))\/(L.1=0/\0<=L.2/\Q.1=0/\kV m f Q.2=some X')):=by
 cases n with
 | zero=>exact absurd h (by simp[kV])
 | succ n =>
  refine⟨n,rfl,?_⟩;have j:(fF S).toNat=k:=by rw[hk];rfl
  unfold kV pN at h;rw[aM U,j,<-g]at h;split at h
  ·rename_i h1
   exact .inl ⟨h1,(zD h).symm⟩
  rename_i h1;have h1:=z7.1 h1;split at h
  ·rename_i d
   exact .inr (.inl ⟨h1,d,(zD h).symm⟩)
  rename_i d;have d:0<=L.2:=U;rw[<-i d]at h;split at h
  ·rename_i e
   exact .inr (.inr (.inl ⟨h1,d,e,(zD h).symm⟩))
  rename_i e;exact .inr (.inr (.inr ⟨h1,d,z7.1 e,h⟩))
def Ŷ {R:Value}(h:kn c a b)(hc:RS aI w0 cv c)(ha:xz w0 o q a)(hb:RS aI w0 R b)(T':c.length<=24) :
  Calls ak 299 #[cv,o,R] w0 fun e w'=>∃ f x y,e=.returned (.tuple #[dW f,x,y,bS (kw c a b).1])/\Z w0 w' [X aI 409 x (kw c a b).2]:=by
 have Y:=Z.start w0;have V':=h.ab;refine bI ar Tryz.func299 ?_;refine ep ?_;clear Y;intro p w Y;obtain⟨C,rfl⟩:=À p;refine aR rfl (Ŭ h (hc.at Y) (ha.at Y) (hb.at Y) T') ?_;refine gk ?_;clear Y;intro w' Y;by_cases V:24<a.length
 ·have z:(kw c a b).1=5:=by unfold kw;rw[ba V]
  have A:(kw c a b).2=[]:=by unfold kw;rw[ba V]
  rw[z,A,ba V,c9 dc];refine O ?_;refine mX (vs:=[]) (ls:=[]) rfl rfl rfl ?_;refine dD ?_;clear Y;intro w Y;exact Ge (vs:=[E 0,E 0]) (v2:=nS) (v3:=nS) (v4:=.iface 57 (E 5)) rfl rfl rfl rfl rfl rfl (Y.dA 0 rfl) ⟨⟨0,0⟩,nS,nS,rfl,(Y.nil (T:=aI) (e:=409)).only⟩
 rw[aM V,ff rfl];refine O ?_;refine aR rfl (Ű (hc.at Y) (ha.at Y) (hb.at Y) U U V' h.ac) ?_;rintro _ w' ⟨F,t,bv,u,gv,ss,rfl,aw⟩;refine rm ?_;clear aw Y;intro Y;obtain⟨X',N⟩:=PM (HD h) (Kz h)
 have D:kw c a b=if X'.1=0 then (0,kc c.length X'.2.bW X'.2.right (replicate c.length jy)) else (X'.1,[]):=by
  unfold kw;rw[aM V,N]
 replace Y:Z w0 w' (am F 431 [E c.length,E a.length,t,bv,u,gv,E (jt c a b).value.num,E (jt c a b).value.den]::X aA 388 t ss::ai aI 409 ss (jt c a b).rows::X aI 409 bv (jt c a b).right::X W 3 u (jt c a b).bW::X aI 409 gv (jt c a b).aF::[am C 409 [E 0,E 0]]):=Y;refine O ?_;refine dP [7,9,12,15,33,61] (G:=Nat) (H:=e8) (fun _ _=>[]) (fun n S w=>iO (c.length+a.length) a.length S/\kV a.length n S=some X'/\Z w0 w (am F 431 [E c.length,E a.length,t,bv,u,gv,E S.value.num,E S.value.den]::X aA 388 t ss::ai aI 409 ss S.rows::X aI 409 bv S.right::X W 3 u S.bW::X aI 409 gv S.aF::[am C 409 [E 0,E 0]])) (fun n _=>n) ((c.length+a.length) ^ a.length) (jt c a b) (fun _ _=>rfl) trivial ⟨HD h,N,Y⟩ ?_;clear Y N;rintro σ n S w ⟨v,N,Y⟩;refine O ?_;refine aR rfl (ű (bB (s:=gv) Y)) ?_;refine gk ?_;clear Y;intro w' Y;have _a:qq 0 S.aF=fF S:=rfl;rw[_a];refine aC ?_ ?_<;>intro hk
 ·have j':=Ų hk N
  have z:(kw c a b).1=0:=by rw[D,j',ba rfl]
  have A:(kw c a b).2=kc c.length S.bW S.right (replicate c.length jy):=by rw[D,j',ba rfl]
  obtain⟨W_,g⟩:=À (kc c.length S.bW S.right (replicate c.length jy));rw[z,A,ff rfl,<-g];have _f:=v.bl;have _e:=v.al;have _g:=v.gl;have P':=v.gp;have R':=v.an;refine O ?_;refine rJ [7,8,62,71] (G:=Value × Value) (fun x=>[(7,x.1),(8,x.2)]) (fun x w=>Z w0 w (X aI 409 x.1 (replicate c.length dF)::X aI 409 x.2 (replicate a.length dF)::am F 431 [E c.length,E a.length,t,bv,u,gv,E S.value.num,E S.value.den]::X aA 388 t ss::ai aI 409 ss S.rows::X aI 409 bv S.right::X W 3 u S.bW::X aI 409 gv S.aF::[am C 409 [E 0,E 0]])) (fun _=>rfl) ?_ ?_
  ·refine u7 (.s [0,1,2,5,6,7,3,8] (.d 4 [8] (.s [10] (.c 9 [3] (.s [11] (.jz [])))) (.d 9 [3] (.c 4 [8] (.s [10,11] (.jz []))) (.stop)))) Y kr kr ?_;clear Y;intro w Y
   repeat' (first|refine dS ?_|(refine Ct aI ⟨0,0⟩ rfl rfl rfl rfl U U U Y ?_;clear Y;intro s w Y)|refine jl ?_ ?_|exact pP)
   all_goals exact⟨(_,_),⟨rfl,rfl,az⟩,aX,by first|exact Y|exact Y.swap⟩
  clear Y;rintro _h ⟨B,P⟩ w Y;simp only at Y;have _i:(replicate c.length dF).length=c.length:=mp;have _j:(replicate a.length dF).length=a.length:=mp;refine O ?_;refine de [16,16,74,81] (G:=Nat) (fun i=>[(74,E i)]) (fun i w=>i<=c.length/\Z w0 w (X aI 409 B (replicate i jy++replicate (c.length-i) dF)::X aI 409 P (replicate a.length dF)::am F 431 [E c.length,E a.length,t,bv,u,gv,E S.value.num,E S.value.den]::X aA 388 t ss::ai aI 409 ss S.rows::X aI 409 bv S.right::X W 3 u S.bW::X aI 409 gv S.aF::[am C 409 [E 0,E 0]])) (fun i=>c.length-i) 0 (fun _=>rfl) ⟨rfl,az⟩ ⟨bC _,Y⟩ ?_;clear Y;rintro _k i w ⟨hi,Y⟩;have _b:(replicate i jy++replicate (c.length-i) dF).length=c.length:=by simp;omega
  refine aC ?_ ?_<;>intro g1
  ·have l:i<c.length:=U
   refine O ?_;refine aR rfl Gb ?_;refine iw ?_;clear Y;intro w' Y;refine vW (T:=aI) (s:=B) (xs:=replicate i jy++replicate (c.length-i) dF) (j:=i) (x':=jy) rfl rfl rfl rfl Y inferInstance U ?_;clear Y;intro w Y;rw[show c.length-i=(c.length-(i+1))+1 by omega,ų]at Y;refine O ?_;exact⟨i+1,⟨rfl,az⟩,aX,⟨U,Y⟩,U⟩
  have l:i=c.length:=U;rw[l,pW,Bk,gj]at Y;clear _b l hi g1;have _l:(replicate c.length jy).length=c.length:=mp;refine O ?_;refine dP [17,18,87,108] (G:=Nat) (H:=List bY) (fun i _=>[(87,E i)]) (fun i x w=>i<=a.length/\x.length=c.length/\W_=kc c.length (S.bW.drop i) (S.right.drop i) x/\Z w0 w (X aI 409 B x::X aI 409 P (replicate a.length dF)::am F 431 [E c.length,E a.length,t,bv,u,gv,E S.value.num,E S.value.den]::X aA 388 t ss::ai aI 409 ss S.rows::X aI 409 bv S.right::X W 3 u S.bW::X aI 409 gv S.aF::[am C 409 [E 0,E 0]])) (fun i _=>a.length-i) 0 _ (fun _ _=>rfl) ⟨rfl,az⟩ ⟨bC _,mp,g,Y⟩ ?_;clear Y g;rintro _m i x w ⟨hi,K,g,Y⟩;refine aC ?_ ?_<;>intro g2
  ·have H':i<a.length:=U
   rw[tK W.dflt (show i<S.bW.length by omega),tK aI.dflt (show i<S.right.length by omega),Ŵ]at g;have J':0<=S.bW.getD i W.dflt:=R' i H';refine aC ?_ ?_<;>intro g3
   ·rw[ba g3]at g
    refine O ?_;refine vW (T:=aI) (s:=B) (xs:=x) (j:=(S.bW.getD i W.dflt).toNat) (x':=S.right.getD i aI.dflt) rfl rfl rfl rfl Y inferInstance U ?_;clear Y;intro w Y;refine O ?_;exact⟨i+1,_,⟨rfl,az⟩,aX,⟨U,by rw[iU];exact K,g,Y⟩,U⟩
   rw[aM U]at g;refine O ?_;exact⟨i+1,_,⟨rfl,az⟩,aX,⟨U,K,g,Y⟩,U⟩
  have l:i=a.length:=U;have J':W_=x:=by
   rw[g,oG (show S.bW.length<=i by omega)];simp[kc]
  rw[<-J']at Y;clear g J' l hi g2 K;refine O ?_;refine dP [19,20,111,135] (G:=Nat) (H:=List bY) (fun i _=>[(111,E i)]) (fun i y w=>i<=a.length/\y.length=a.length/\Z w0 w (X aI 409 B W_::X aI 409 P y::am F 431 [E c.length,E a.length,t,bv,u,gv,E S.value.num,E S.value.den]::X aA 388 t ss::ai aI 409 ss S.rows::X aI 409 bv S.right::X W 3 u S.bW::X aI 409 gv S.aF::[am C 409 [E 0,E 0]])) (fun i _=>a.length-i) 0 _ (fun _ _=>rfl) ⟨rfl,az⟩ ⟨bC _,mp,Y⟩ ?_;clear Y;rintro _n i y w ⟨hi,_c,Y⟩;refine aC ?_ ?_<;>intro g4
  ·have H':i<a.length:=U
   have _d:ca (S.aF.getD (c.length+i) aI.dflt):=P' (c.length+i) U;obtain⟨f1,f2,f3,f4,f5⟩:=_d;refine O ?_;refine gi (pl [0,1,2,3,4,5,6,7,8,9,10,11,12] (.cY 3::.cY 7::.cY 11::pl [13] [])) Y kr ?_;clear Y;intro w Y;refine dj ?_;clear Y;intro p w Y;refine vW (T:=aI) (s:=P) (xs:=y) (j:=i) (x':=⟨0-(S.aF.getD (c.length+i) aI.dflt).num,(S.aF.getD (c.length+i) aI.dflt).den⟩) rfl rfl rfl rfl Y inferInstance U ?_;clear Y;intro w Y;refine O ?_;exact⟨i+1,_,⟨rfl,az⟩,aX,⟨U,by rw[iU];exact _c,Y.tail⟩,U⟩
  refine O ?_;refine r7 rfl (zC (k:=6) (n:=2) (vs:=[E S.value.num,E S.value.den]) rfl (Y.dA 2 rfl) rfl rfl) ?_;refine dD ?_;clear Y;intro w Y;exact Ge (vs:=[E S.value.num,E S.value.den]) (v2:=B) (v3:=P) (v4:=.nilIface) rfl rfl rfl rfl rfl rfl (Y.dA 8 rfl) ⟨S.value,B,P,rfl,Y.only⟩
 have _b:=Uo v U;obtain⟨P,j'⟩:∃ P:Nat,fF S=(P:Int):=⟨(fF S).toNat,U⟩
 have B:P<c.length+a.length:=by have:=_b.1;omega
 obtain⟨L,hL⟩:=À (fY S P a.length);obtain⟨Q,hQ⟩:=À (nH S L.2.toNat P);obtain⟨n',rfl,g⟩:=ŵ j' hL (fun _=>hQ) N;rw[j'];have K:=Y.bN 2 rfl;have _e:=K.bU;have _f:=v.rl;refine O ?_;refine aR rfl (ū v B U U U (Y.dA 0 rfl) (Y.rs 1 rfl) (fun i hi=>K.row U) (Y.rs 3 rfl) (Y.rs 4 rfl)) ?_;refine gk ?_;clear Y;intro w' Y;rw[<-hL];clear K;rcases g with ⟨he,l⟩|⟨he,hr,l⟩|g
 ·have z:(kw c a b).1=L.1:=by rw[D,l,aM he]
  have A:(kw c a b).2=[]:=by rw[D,l,aM he]
  rw[z,A,c9 he];refine O ?_;refine mX (vs:=[]) (ls:=[]) rfl rfl rfl ?_;refine dD ?_;clear Y;intro w Y;exact Ge (vs:=[E 0,E 0]) (v2:=nS) (v3:=nS) (v4:=.iface 57 (E L.1)) rfl rfl rfl rfl rfl rfl (Y.dA 6 rfl) ⟨⟨0,0⟩,nS,nS,rfl,(Y.nil (T:=aI) (e:=409)).only⟩
 ·have z:(kw c a b).1=3:=by rw[D,l,aM (show ¬(3:Int)=0 by decide)]
  have A:(kw c a b).2=[]:=by rw[D,l,aM (show ¬(3:Int)=0 by decide)]
  rw[z,A,ff he,c9 dc];refine aC ?_ ?_<;>intro q1
  ·refine O ?_
   refine mX (vs:=[]) (ls:=[]) rfl rfl rfl ?_;refine dD ?_;clear Y;intro w Y;exact Ge (vs:=[E 0,E 0]) (v2:=nS) (v3:=nS) (v4:=.iface 57 (E 3)) rfl rfl rfl rfl rfl rfl (Y.dA 6 rfl) ⟨⟨0,0⟩,nS,nS,rfl,(Y.nil (T:=aI) (e:=409)).only⟩
  exact absurd hr U
 have he:L.1=0:=by rcases g with h|h<;>exact h.1
 have hr:0<=L.2:=by rcases g with h|h<;>exact h.2.1
 obtain⟨r,H'⟩:∃ r:Nat,L.2=(r:Int):=⟨L.2.toNat,U⟩
 have _c:=Up (r:=L.2) v B (by rw[<-hL];exact HE he rfl) hr;have J':r<a.length:=by have:=_c.1;omega
 rw[H',jU]at hQ;rw[H',ff he];refine O ?_;refine aR rfl (Zp (Γ:=[am C 409 [E 0,E 0]]) v J' B U U Y) ?_;clear Y;rintro _ w ⟨rfl,P',R'⟩;refine⟨_,rfl,?_⟩;rw[<-hQ]at P' R' ⊢;rcases g with ⟨_,_,hq,l⟩|⟨_,_,hq,_d⟩
 ·have Y:=P' hq
  have z:(kw c a b).1=Q.1:=by rw[D,l,aM hq]
  have A:(kw c a b).2=[]:=by rw[D,l,aM hq]
  rw[z,A,c9 hq];refine O ?_;refine mX (vs:=[]) (ls:=[]) rfl rfl rfl ?_;refine dD ?_;clear Y;intro w Y;exact Ge (vs:=[E 0,E 0]) (v2:=nS) (v3:=nS) (v4:=.iface 57 (E Q.1)) rfl rfl rfl rfl rfl rfl (Y.dA 0 rfl) ⟨⟨0,0⟩,nS,nS,rfl,(Y.nil (T:=aI) (e:=409)).only⟩
 have Y:Z w0 w (am F 431 [E c.length,E a.length,t,bv,u,gv,E Q.2.value.num,E Q.2.value.den]::X aA 388 t ss::ai aI 409 ss Q.2.rows::X aI 409 bv Q.2.right::X W 3 u Q.2.bW::X aI 409 gv Q.2.aF::[am C 409 [E 0,E 0]]):=R' hq;have z:=(Uq (S':=Q.2) v J' B (by rw[<-hQ];exact HE hq rfl)).1;rw[ff hq];refine O ?_;exact⟨n',Q.2,az,aX,⟨z,_d,Y⟩,Mp n'⟩
end Go.Proofs.YtmapkjoefdgjfaaGreatDoor
