/- Several texts. -/
import Derived.Test.YtmapkjoefdgjfaaGreatDoorMW22H
set_option linter.unusedSimpArgs false
set_option linter.unusedVariables false
set_option linter.defProp false
set_option maxRecDepth 8000
set_option maxHeartbeats 16000000
open List Nat
namespace Go.Proofs.YtmapkjoefdgjfaaGreatDoor
open Go.Sl
variable {w0:World}{lv:Value}{ps:List (Option Addr)}{Hs:List (J->Int)}{F:List (List Bool)}{l:List bE}
section
open Go.Sl
structure sY (t:aa) (H:J->Int):Prop where
 ok:CQ t H
 Ft:∀ y q d,aj t.vars y->mg t y q d->H y<=d
section
variable {t:aa}
def Ã (I:aJ t):sY t (cX t):=⟨PZ I,fun _ _ _ _ a=>(XG I a).2⟩
def Ä (I:aJ t):sY t (dC t):=⟨Wg I,fun _ _ _ _ a=>(XE I a).2⟩
def Å (I:aJ t):sY t (pX t):=⟨Hd I,fun _ _ _ _ a=>(RG I a).2⟩
def LQ (I:aJ t)(kind:Int)(a:kind=1\/kind=2\/vu t):sY t (gC t kind):=⟨⟨I,fun _=>(PV I kind a).1,fun _=>(PV I kind a).2⟩,fun _ _ _ b c=>Xy I b kind a c⟩
def Z7 {Ls a Cs:List J}(h:gz t Ls a Cs):sY t (lZ t Ls a Cs):=⟨h.bX,fun _ _ _ _ b=>(h.Dg b).2⟩
def Z9 {Ls a b:List J}(h:pD t Ls a b):sY t (l5 t Ls a):=⟨h.bX,fun _ _ _ _ c=>(h.Dg c).2⟩
def Æ {M':Int}(I:aJ t)(a:fa t M'=0):sY t (oQ t M') :=
 have h:=RC I a
 ⟨h.1,fun _ _ _ b c=>qwi I h.2.1 h.2.2 c b⟩
end
end
section
open Go.Sl Go
attribute [local irreducible] vc opsW opsD opV opW PureV ReadV Thn Blk
def Fu (ps:List (Option Addr)){i:Nat}(h:i<ps.length):cL (ps.map Value.pointer) i=.pointer (ps.getD i none):=by
 rw[qL];simp[List.getD,h]
def Fp (ps:List (Option Addr)):(ps.map Value.pointer).length=ps.length:=lA ..
def qla (g:RS aA w0 lv (ps.map Value.pointer)) :
  Calls ak 59 #[lv,.pointer none] w0 fun e w'=>(∃ r:Int,e=.returned (E r)/\(0<=r↔none∈ps))/\Z w0 w' []:=by
 have j:=g.cn;have m:=Fp ps;have Y:=Z.start w0;refine bI ar Tryz.func59 ?_;refine O ?_;refine de [4,5,8,18] (G:=Nat) (fun k=>[(8,E k)]) (fun k w=>k<=ps.length/\(∀ i,i<k->ps.getD i none≠none)/\Z w0 w []) (fun k=>ps.length-k) 0 (fun _=>rfl) ⟨rfl,az⟩ ⟨bC _,fun i d=>absurd d (eo _),Y⟩ ?_;clear Y;rintro n k w ⟨hk,b,Y⟩;refine aC ?_ ?_<;>intro h1
 ·have c:k<ps.length:=U
  refine O ?_;rw[Fu ps c];refine fR rfl (Ϗ (a:=ps.getD k none) rfl rfl) ?_
  cases f:ps.getD k none with
  | none =>
   refine O ?_
   exact bo (v:=E k) rfl rfl ⟨⟨k,rfl,⟨fun _=>by rw[<-f];exact cS none c,fun _=>U⟩⟩,Y⟩
  | some q =>
   refine O ?_;refine⟨k+1,⟨rfl,az⟩,aX,⟨U,fun i d=>?_,Y⟩,U⟩;by_cases e:i=k
   ·rw[e,f];simp
   exact b i U
 refine O ?_;refine bo (v:=E (-1)) rfl rfl ⟨⟨-1,rfl,⟨fun h=>U,fun hx=>?_⟩⟩,Y⟩;obtain⟨i,d,he⟩:=Bd.1 hx;exact absurd (by rw[aq d];exact he) (b i U)
def qgv (a:RS aA w0 lv (ps.map Value.pointer)) :
  Calls ak 35 #[lv,.pointer none] w0 fun e w'=>(∃ r,e=.returned (.bool r)/\(r=true↔none∈ps))/\Z w0 w' []:=by
 have Y:=Z.start w0;refine bI ar Tryz.func35 ?_;refine O ?_;refine aR rfl (qla a) ?_;rintro _ w' ⟨⟨r,rfl,b⟩,aw⟩;refine aL ?_;clear aw Y;intro Y;refine O ?_;exact bo (v:=.bool (decide (0<=r))) rfl rfl ⟨⟨_,rfl,by rw[jV];exact b⟩,Y⟩
def qlb (b:RS aA w0 lv (ps.map Value.pointer))(j:ps.length<=1048576) :
  Calls ak 38 #[lv] w0 fun e w'=>∃ s,e=.returned s/\Z w0 w' [X aA 36 s (ps.map Value.pointer)]:=by
 have d:=Fp ps;have Y:=Z.start w0;obtain⟨g,cap,i⟩:=b.shape;subst i;refine bI ar Tryz.func38 ?_;refine O ?_;refine fR rfl (Fg (a:=g) (n:=(ps.map Value.pointer).length) (c:=cap) rfl) ?_
 cases g with
 | none =>
  have f:ps=[]:=by
   rcases wg ps.length with h|h
   ·exact qD h
   obtain⟨p,c2,he,_⟩:=b.some dc (by rw[d];exact h);cases he
  subst f;refine O ?_
  exact bo (v:=nS) rfl rfl ⟨_,rfl,Y.nil⟩
 | some p =>
  refine O ?_;refine zU aA Y ?_;clear Y;intro s1 w Y;have f:=b.at Y;refine O ?_
  refine sF (s:=s1) (s2:=.slice (some p) (ps.map Value.pointer).length cap) inferInstance rfl rfl f rfl rfl (fun x hx v hv=>by
   obtain⟨q,_,rfl⟩:=iG.1 hx
   rw[fU.1 hv];rfl) (by simp only[length_nil];omega) (by unfold cn;simp only[length_nil];omega) Y ?_
  clear Y;intro s2 w Y;refine O ?_;rw[lQ]at Y;exact bo (v:=s2) rfl rfl ⟨_,rfl,Y⟩
def ig (w:World)(ps:List (Option Addr))(t:aa)(Hs:List (J->Int)):Prop:=∀ i,i<ps.length->∃ p,ps.getD i none=some p/\cF w p t (Hs.getD i fun _=>0)
def ig.at {w0 w:World}{Γ:List HP}{ps:List (Option Addr)}{t:aa}{Hs:List (J->Int)}(h:ig w0 ps t Hs)(Y:Z w0 w Γ):ig w ps t Hs:=fun i a=>by
 obtain⟨p,h1,b⟩:=h i a;exact⟨p,h1,b.at Y⟩
noncomputable def eG (t:aa)(Hs:List (J->Int))(s:J):Int:=Hs.foldl (fun m H=>max m (kS t H s)) 0
def Rr (t:aa)(Hs:List (J->Int))(H:J->Int)(s:J):eG t (Hs++[H]) s=max (eG t Hs s) (kS t H s):=by simp[eG]
instance HB:rn ak 74 "Value" 256 := ⟨kr⟩
def qrW {sv:Value}{t:aa}{z:J}(c:RS aA w0 lv (ps.map Value.pointer))(he:ig w0 ps t Hs)(b:Hs.length=ps.length)(d:RS W w0 sv z) :
  Calls ak 256 #[lv,sv] w0 fun e w'=>e=.returned (E (eG t Hs z))/\Z w0 w' []:=by
 have f:=Fp ps;have g:=c.cn;have Y:=Z.start w0;refine bI ar Tryz.func256 ?_;refine O ?_;refine de [5,5,7,7,10,19] (G:=Nat) (fun k=>[(10,E k),(5,E (eG t (Hs.take k) z))]) (fun k w=>k<=ps.length/\Z w0 w []) (fun k=>ps.length-k) 0 (fun _=>rfl) ⟨rfl,rfl,az⟩ ⟨bC _,Y⟩ ?_;clear Y;rintro j k w ⟨hk,Y⟩;refine aC ?_ ?_<;>intro h1
 ·have a:k<ps.length:=U
  obtain⟨p,h,i⟩:=he k a;refine O ?_;rw[Fu ps a,h];refine O ?_;refine aR rfl (DX (i.at Y) (d.at Y)) ?_;rintro _ w' ⟨rfl,aw⟩;refine aL ?_;clear aw Y;intro Y;have e:(if kS t (Hs.getD k fun _=>0) z>eG t (Hs.take k) z then kS t (Hs.getD k fun _=>0) z else eG t (Hs.take k) z)=eG t (Hs.take (k+1)) z:=by
   rw[eX (fun _=>0) U,Rr];split<;>omega
  refine O ?_;exact⟨k+1,⟨rfl,by rw[<-e];rfl,az⟩,aX,⟨U,Y⟩,U⟩
 have a:k=ps.length:=U;rw[a,<-b,mK];refine O ?_;exact bo (v:=E (eG t Hs z)) rfl rfl ⟨rfl,Y⟩
def quQ {w:World}{t:aa}(d:RS aA w lv (ps.map Value.pointer))(he:ig w ps t Hs)(a:Hs.length=ps.length):gW w (.iface 74 lv) t (eG t Hs) :=
 ⟨_,_,_,_,rfl,HH _,inferInstance,fun _ _ _ _ c b _=>qrW (d.at c) (he.at c) a b⟩
def dT:aa:=⟨[],[],[],[]⟩
open Classical in
noncomputable def oU (ps:List (Option Addr))(us:List aa):Int:=if ps=[]\/none∈ps then 3 else if ∃ i,i<ps.length/\us.getD i dT≠us.getD 0 dT then 2 else 0
def qBg {α:Type}{xs:List α}{k:Nat}{d:α}:(cut xs 1 xs.length).getD k d=xs.getD (k+1) d:=by
 unfold cut;rw[mK];simp[List.getD,Iy]
def Η {us:List aa}(x:RS aA w0 lv (ps.map Value.pointer))(hn:ps.length<=1048576)(L:Hs.length=ps.length)(he:∀ i,i<ps.length->∀ p,ps.getD i none=some p->cF w0 p (us.getD i dT) (Hs.getD i fun _=>0))(I:aJ (us.getD 0 dT)) :
  Calls ak 14 #[lv] w0 fun e w' =>
   (oU ps us≠0/\e=.returned (.tuple #[.pointer none,bS (oU ps us)])/\Z w0 w' []) \/
   (oU ps us=0/\∃ p,e=.returned (.tuple #[.pointer (some p),.nilIface])/\Z w0 w' [bA fun w=>ig w ps (us.getD 0 dT) Hs->cF w p (us.getD 0 dT) (eG (us.getD 0 dT) Hs)]):=by
 have y:=Fp ps;have j':=x.cn;have Y:=Z.start w0;refine bI ar Tryz.func14 ?_;by_cases z:ps=[]
 ·have c:oU ps us=3:=by unfold oU;rw[ba (.inl z)]
  have g:decide (((ps.map Value.pointer).length:Int)=0)=true:=dH (by rw[y,z];rfl);refine O ?_
  try simp only[g];refine eW ?_
  refine O ?_;exact dw (v:=.pointer none) (v':=.iface 57 (E 3)) rfl rfl rfl (.inl ⟨by rw[c];decide,by rw[c,c9 dc],Y.bj⟩)
 have d:0<ps.length:=La.2 z;have g:decide (((ps.map Value.pointer).length:Int)=0)=false:=dB U;refine O ?_
 try simp only[g];refine eW ?_
 refine O ?_;refine aR rfl (qgv (x.at Y)) ?_;rintro _ w' ⟨⟨r,rfl,A⟩,aw⟩;refine aL ?_;clear aw Y;intro Y;cases r;rotate_left
 ·have c:oU ps us=3:=by unfold oU;rw[ba (.inr (A.1 rfl))]
  refine O ?_;exact dw (v:=.pointer none) (v':=.iface 57 (E 3)) rfl rfl rfl (.inl ⟨by rw[c];decide,by rw[c,c9 dc],Y.bj⟩)
 have j:none∉ps:=fun h=>by cases A.2 h
 have a:∀ i,i<ps.length->∃ p,ps.getD i none=some p:=fun i u=>by
  cases hx:ps.getD i none with
  | none=>exact absurd (by rw[<-hx];exact cS none u) j
  | some p=>exact⟨p,rfl⟩
 obtain⟨V,B⟩:=a 0 d;have N:=he 0 d V B;obtain⟨a0,P,Q,d0,f,H',m,C,_⟩:=N;have J':=Ar (xs:=ps.map Value.pointer) (lo:=1) (hi:=(ps.map Value.pointer).length) (cP _);have P':=zJ (T:=aA) (lo:=1) (hi:=(ps.map Value.pointer).length) x U (cP _);have f:cL (ps.map Value.pointer) (Int.toNat 0)=.pointer (some V):=by rw[show Int.toNat 0=0 from rfl,Fu ps d,B]
 refine O ?_;refine de [2,3,5,5,17,34] (G:=Nat) (fun k=>[(17,E k)]) (fun k w=>k+1<=ps.length/\(∀ i,i<=k->us.getD i dT=us.getD 0 dT)/\Z w0 w []) (fun k=>ps.length-k) 0 (fun _=>rfl) ⟨rfl,az⟩ ⟨U,fun i u=>by rw[show i=0 by omega],Y⟩ ?_;clear Y;rintro σ k w ⟨hk,D,Y⟩;refine aC ?_ ?_<;>intro h1
 ·have b:k+1<ps.length:=U
  obtain⟨q,hq⟩:=a (k+1) b;obtain⟨a1,b1,c1,d1,R',T',K,R,_⟩:=he (k+1) b q hq;have S:cL (cut (ps.map Value.pointer) 1 (ps.map Value.pointer).length) k=.pointer (some q):=by
   rw[qL,qBg,<-qL,Fu ps b,hq]
  refine O ?_;rw[S];refine gi (pl [0,1,2,3,4,5,6,7,8,9,10,11] []) Y kr ?_;clear Y;intro w Y;refine O ?_;refine r7 rfl (zC (k:=0) (n:=4) (vs:=[a1,b1,c1,d1]) rfl (K.at Y) rfl rfl) ?_;refine O ?_;rw[f];refine O ?_;refine r7 rfl (zC (k:=0) (n:=4) (vs:=[a0,P,Q,d0]) rfl (m.at Y) rfl rfl) ?_;refine O ?_;refine aR rfl (Ub (R.at Y) (C.at Y)) ?_;rintro _ w' ⟨⟨r,rfl,A⟩,aw⟩;refine aL ?_;clear aw Y;intro Y;cases r
  ·have o:us.getD (k+1) dT≠us.getD 0 dT:=fun h=>by cases A.2 h
   have c:oU ps us=2:=by unfold oU;rw[aM (fun h=>h.elim z j),ba ⟨k+1,b,o⟩]
   refine O ?_;exact dw (v:=.pointer none) (v':=.iface 57 (E 2)) rfl rfl rfl (.inl ⟨by rw[c];decide,by rw[c,c9 dc],Y.bj⟩)
  have heq:=A.1 rfl;refine O ?_;refine⟨k+1,⟨rfl,az⟩,aX,⟨U,fun i u=>?_,Y⟩,U⟩;by_cases e:i=k+1
  ·rw[e];exact heq
  exact D i U
 have R':k+1=ps.length:=U;have c:oU ps us=0:=by unfold oU;rw[aM (fun h=>h.elim z j),aM (by rintro⟨i,u,o⟩;exact o (D i U))]
 refine O ?_;refine gi (pl [0,1,2,3,4,5,6,7] (.cY 2::.cY 5::pl [8,9,10,11,12,13] [])) Y kr ?_;clear Y;intro w Y;refine O ?_;rw[f];refine O ?_;refine r7 rfl (zC (k:=0) (n:=4) (vs:=[a0,P,Q,d0]) rfl (m.at Y) rfl rfl) ?_;refine O ?_;refine aR rfl (qlb (x.at Y) hn) ?_;rintro _ w' ⟨b,rfl,aw⟩;refine aO ?_;clear aw Y;intro Y;refine Bn ?_;refine MJ rfl (Ep (i:=Int.toNat 0) rfl (x.at Y) (by rw[y];exact d)) f.symm ?_;refine MJ rfl (zC (k:=0) (n:=4) (vs:=[a0,P,Q,d0]) rfl (m.at Y) rfl rfl) rfl ?_;refine O ?_;refine aR rfl (zT (h:=.iface 74 b) (H:=eG (us.getD 0 dT) Hs) (C.at Y) I ⟨_,_,rfl⟩) ?_;rintro _ w' ⟨K,rfl,aw⟩;refine aO ?_;clear aw Y;intro Y;refine O ?_;have R:Z w0 w' [bA fun w=>gW w (.iface 74 b) (us.getD 0 dT) (eG (us.getD 0 dT) Hs)->cF w K (us.getD 0 dT) (eG (us.getD 0 dT) Hs),X aA 36 b (ps.map Value.pointer)]:=Y;have S:=Z.rd (Δ:=[bA fun w=>gW w (.iface 74 b) (us.getD 0 dT) (eG (us.getD 0 dT) Hs)->cF w K (us.getD 0 dT) (eG (us.getD 0 dT) Hs),X aA 36 b (ps.map Value.pointer)]) (φ:=fun w=>ig w ps (us.getD 0 dT) Hs->cF w K (us.getD 0 dT) (eG (us.getD 0 dT) Hs)) (fun _ w h hR=>(h.dQ 0 rfl) (quQ (h.rs 1 rfl) hR L)) (Γ:=[]) R;exact dw (v:=.pointer (some K)) (v':=.nilIface) rfl rfl rfl (.inr ⟨c,K,rfl,S⟩)
end
section
open Go.Sl

end
section
open Go.Sl Go
attribute [local irreducible] vc opsW opsD opV opW PureV ReadV Thn Blk
structure vn where
 op:Int
 aG:Value
 aU:bE
def kN:Ty vn:=⟨4,fun x=>[E x.op,x.aG,E x.aU.var,E x.aU.val],fun _=>rfl,⟨0,nS,⟨0,0⟩⟩⟩
instance PI:nR kN:=⟨az⟩
def uj:vr:=⟨0,[],⟨0,0⟩⟩
def G5 (w:World)(v:vn)(u:vr):Prop:=v.op=(u.op:Int)/\v.aU=u.aU/\RS aD w v.aG u.aG
def rI (us:List vn)(U':List vr)(w:World):Prop:=∀ i:Nat,i<U'.length->G5 w (aB kN us i) (U'.getD i uj)
def rI.at {w0 w:World}{Γ:List HP}{us:List vn}{U':List vr}(h:rI us U' w0)(Y:Z w0 w Γ):rI us U' w:=fun i a=>by
 obtain⟨h1,b,c⟩:=h i a;exact⟨h1,b,c.at Y⟩
def rI.gD {w:World}{us:List vn}{U':List vr}{v:vn}{u:vr}(h:rI us U' w)(c:us.length=U'.length)(h2:G5 w v u):rI (us++[v]) (U'++[u]) w:=fun i d=>by
 rw[length_append,w7]at d;by_cases e:i=U'.length
 ·subst e
  have a:aB kN (us++[v]) U'.length=v:=by rw[oz,List.getD,<-c,lP (cP _),pW];rfl
  have b:(U'++[u]).getD U'.length uj=u:=by rw[List.getD,lP (cP _),pW];rfl
  rw[a,b];exact h2
 have a:aB kN (us++[v]) i=aB kN us i:=by rw[oz,oz,List.getD,mu U];rfl
 have b:(U'++[u]).getD i uj=U'.getD i uj:=by rw[List.getD,mu U];rfl
 rw[a,b];exact h i U
structure q9 (w:World) (pr:Addr) (t:aa) (a gv cv lv:Value) (us:List vn):Prop where
 box:eJ w pr [a,gv,cv,lv]
 vars:RS W w a t.vars
 aF:RS aD w gv t.aF
 aN:RS W w cv (ao t)
 C9:RS kN w lv us
 len:us.length=(nA t).length
 un:rI us (nA t) w
def q9.at {w0 w:World}{Γ:List HP}{b:Addr}{t:aa}{a gv cv lv:Value}{us:List vn}(h:q9 w0 b t a gv cv lv us)(Y:Z w0 w Γ):q9 w b t a gv cv lv us:=⟨h.box.at Y,h.vars.at Y,h.aF.at Y,h.aN.at Y,h.C9.at Y,h.len,h.un.at Y⟩
def NM {t:aa}(I:aJ t){u:vr}(hu:u∈nA t):u.op<t.M.length/\bV t.vars u.aU/\∀ f∈u.aG,bV t.vars f:=by
 obtain⟨k,j,hk,a,rfl⟩:=HG.1 hu;exact⟨hk,NE I hk a,Vk I hk a⟩
structure RBm (w:World) (v:Value) (ss:List Value) (F:List (List Bool)):Prop where
 rs:RS aA w v ss
 len:ss.length=F.length
 row:∀ i,i<F.length->RS ah w (cL ss i) (F.getD i [])
def qvc {k:Nat}(h:mH F (l.take k)=true)(hk:k<l.length)(h2:vq F (l.getD k aD.dflt)=true):mH F (l.take (k+1))=true:=by
 unfold mH at *
 rw[IF,mL hk,all_append,h];rw[aq hk]at h2;simp[h2]
def JH {fv:Value}{ss:List Value}{vars:J}(h:RBm w0 fv ss F)(g:vS vars F)(i:RS aD w0 lv l)(bX:∀ x∈l,bV vars x) :
  Calls ak 291 #[fv,lv] w0 fun e w'=>e=.returned (.bool (mH F l))/\Z w0 w' []:=by
 obtain⟨j,m,d⟩:=h;have n:=i.cn;have o:=g.len;have Y:=Z.start w0;refine bI ar Tryz.func291 ?_;refine O ?_;refine de [4,4,6,6,9,23] (G:=Nat) (fun k=>[(9,E k)]) (fun k w=>k<=l.length/\mH F (l.take k)=true/\Z w0 w []) (fun k=>l.length-k) 0 (fun _=>rfl) ⟨rfl,az⟩ ⟨bC _,rfl,Y⟩ ?_;clear Y;rintro A k w ⟨hk,f,Y⟩;refine aC ?_ ?_<;>intro h1
 ·have b:k<l.length:=U
  have hm:=cS aD.dflt b;obtain⟨B,q,C,D⟩:=CU (bX _ hm);have r:=d (l.getD k aD.dflt).var.toNat U;have u:=g.row _ q;refine ep ?_;intro p w Y;by_cases c:vq F (l.getD k aD.dflt)=true
  ·have a:(F.getD (l.getD k aD.dflt).var.toNat []).getD (l.getD k aD.dflt).val.toNat ah.dflt=true:=c
   rw[a];refine O ?_;exact⟨k+1,⟨rfl,az⟩,aX,⟨U,qvc f b c,Y.bj⟩,U⟩
  have a:(F.getD (l.getD k aD.dflt).var.toNat []).getD (l.getD k aD.dflt).val.toNat ah.dflt=false:=vZ.2 c;rw[a];refine O ?_;have y:mH F l=false:=by
   cases z:mH F l with
   | false=>rfl
   | true=>exact absurd (all_eq_true.1 z _ hm) c
  exact bo (v:=.bool false) rfl rfl ⟨by rw[y],Y.bj⟩
 rw[io U]at f;refine O ?_;exact bo (v:=.bool true) rfl rfl ⟨by rw[f],Y.bj⟩
def F_ :
  Calls ak 290 #[] w0 fun e w'=>e=.returned (.agg #[E (-1),E (-1)])/\Z w0 w' []:=by
 have Y:=Z.start w0;refine bI ar Tryz.func290 ?_;refine ep ?_;intro p w Y;exact DR (p:=p) (vs:=[E (-1),E (-1)]) rfl rfl rfl (Y.dA 0 rfl) ⟨rfl,Y.bj⟩
def oW (vars:J)(v:Nat):List bE:=(List.range v).flatMap fun v=>nN (vars.getD v W.dflt).toNat v
def Xh (vars:J)(v:Nat):oW vars (v+1)=oW vars v++nN (vars.getD v W.dflt).toNat v:=by
 unfold oW;rw[lN,ya];simp
def qvd (n v:Nat):nN (n+1) v=nN n v++[⟨(v:Int),(n:Int)⟩]:=by
 unfold nN;rw[lN,qG];rfl
def JI {vars:J}(a:∀ i,i<vars.length->vars.getD i W.dflt<=64):∀ v,v<=vars.length->(oW vars v).length<=64*v
 | 0,_=>by simp[oW]
 | v+1,h=>by
  have:=JI a v U;have b:=a v U;rw[Xh,length_append];have:(nN (vars.getD v W.dflt).toNat v).length=(vars.getD v W.dflt).toNat:=by simp[nN]
  omega
def G_ {g:Addr}{t:aa}{a gv cv:Value}{us:List vn}(j:q9 w0 g t a gv cv lv us)(I:aJ t) :
  Calls ak 292 #[.pointer (some g)] w0 fun e w'=>∃ b,e=.returned b/\Z w0 w' [X aD 63 b (ki t.vars)]:=by
 obtain⟨B,hv,_,_,_,_,_⟩:=j;have m:=I.vars;have Y:=Z.start w0;refine bI ar Tryz.func292 ?_;replace Y:=Y.nil (T:=aD) (e:=63);refine O ?_;refine dP [3,6,12,28] (G:=Nat) (H:=Value) (fun k b=>[(12,E k),(3,b)]) (fun k b w=>k<=t.vars.length/\Z w0 w [X aD 63 b (oW t.vars k)]) (fun k _=>t.vars.length-k) 0 (nS) (fun _ _=>rfl) ⟨rfl,rfl,az⟩ ⟨bC _,Y⟩ ?_;clear Y;rintro C k b w ⟨hk,Y⟩;refine aC ?_ ?_<;>intro h1
 ·have d:k<t.vars.length:=U
  have o:=I.pC k d;have q:=JI (fun i r=>(I.pC i r).2) k hk;obtain⟨n,h⟩:∃ n:Nat,t.vars.getD k W.dflt=(n:Int):=⟨(t.vars.getD k W.dflt).toNat,U⟩
  refine O ?_;rw[h];refine dP [3,3,6,6,18,27] (G:=Nat) (H:=Value) (fun x b=>[(18,E x),(3,b)]) (fun x b w=>x<=n/\Z w0 w [X aD 63 b (oW t.vars k++nN x k)]) (fun x _=>n-x) 0 b (fun _ _=>rfl) ⟨rfl,rfl,az⟩ ⟨bC _,by simpa [nN] using Y⟩ ?_;clear Y;rintro u x y w ⟨hx,Y⟩;have z:(oW t.vars k++nN x k).length=(oW t.vars k).length+x:=by simp[nN]
  refine aC ?_ ?_<;>intro D
  ·have f:x<n:=U
   refine O ?_;refine jA aD (x1:=⟨(k:Int),(x:Int)⟩) rfl rfl rfl (fP rfl) (fg _) Y ?_;clear Y;intro A w Y;refine kO ?_;intro s w Y;rw[fk,<-qvd]at Y;exact⟨x+1,_,⟨rfl,rfl,az⟩,aX,⟨U,Y.tail⟩,U⟩
  have f:x=n:=U;have A:oW t.vars (k+1)=oW t.vars k++nN x k:=by rw[Xh,h,f];rfl
  rw[<-A]at Y;refine O ?_;exact⟨k+1,_,⟨rfl,rfl,az⟩,aX,⟨U,Y⟩,U⟩
 have c:k=t.vars.length:=U;subst c;refine O ?_;exact bo (v:=b) rfl rfl ⟨b,rfl,Y⟩
def qxI {x y:Int}(hx:0<=x)(c:0<=y):Int.gcd y (x % y)=Int.gcd x y:=by
 obtain⟨a,rfl⟩:=R7 hx;obtain⟨b,rfl⟩:=R7 c;rw[<-Int.natCast_emod,R8,R8,gcd_comm,<-gcd_rec,gcd_comm]
def Gm {a b:Int}(g:0<=a)(h:0<=b)(c:a<=9223372036854775807)(d:b<=9223372036854775807) :
  Calls ak 303 #[E a,E b] w0 fun e w'=>e=.returned (E ((Int.gcd a b:Nat):Int))/\Z w0 w' []:=by
 have Y:=Z.start w0;refine bI ar Tryz.func303 ?_;refine O ?_;refine dP [0,1,5,10] (G:=Int) (H:=Int) (fun x y=>[(0,E x),(1,E y)]) (fun x y w=>0<=x/\0<=y/\x<=9223372036854775807/\y<=9223372036854775807/\Int.gcd x y=Int.gcd a b/\Z w0 w []) (fun _ y=>y.toNat) a b (fun _ _=>rfl) ⟨rfl,rfl,az⟩ ⟨g,h,c,d,rfl,Y⟩ ?_;clear Y;rintro i x y w ⟨hx,j,k,m,he,Y⟩;refine aC ?_ ?_<;>intro o
 ·have hyp:0<y:=U
  have f:x.tmod y=x % y:=RZ hx;have n:=Int.emod_nonneg x (show y≠0 by omega);have q:=R0 x hyp;refine dD ?_;intro w Y;refine⟨y,x.tmod y,⟨rfl,rfl,az⟩,aX,⟨U,U,U,U,?_,Y⟩,U⟩;rw[f,<-he];exact qxI hx j
 have f:y=0:=U;subst f;refine O ?_;have n:((Int.gcd a b:Nat):Int)=x:=by rw[<-he,Int.gcd_zero_right];omega
 exact bo (v:=E x) rfl rfl ⟨by rw[n],Y⟩
def AG {n:Int}(b : -9223372036854775807<=n)(h1:n<=9223372036854775807) :
  Calls ak 304 #[E n] w0 fun e w'=>e=.returned (E (n.natAbs:Int))/\Z w0 w' []:=by
 have Y:=Z.start w0;refine bI ar Tryz.func304 ?_;refine O ?_;have a:(n.natAbs:Int)=if 0-n>n then 0-n else n:=by split<;>omega
 exact bo (v:=E (if 0-n>n then 0-n else n)) rfl rfl ⟨by rw[a],Y⟩
def dW (f:bY):Value:=.agg #[E f.num,E f.den]
def nf (a b:Int):Int × bY:=if b=0 then (22,⟨0,0⟩) else nC a b
def xE (n d:Int):Int × bY:=if 1099511627776<(n / (Int.gcd n d:Int)).natAbs\/1048576<d / (Int.gcd n d:Int) then (5,⟨0,0⟩) else (0,⟨n / (Int.gcd n d:Int),d / (Int.gcd n d:Int)⟩)
def DS {a b:Int}(u : -9223372036854775807<=a)(v:a<=9223372036854775807)(y : -9223372036854775807<=b)(z:b<=9223372036854775807) :
  Calls ak 296 #[E a,E b] w0 fun e w'=>e=.returned (.tuple #[dW (nf a b).2,bS (nf a b).1])/\Z w0 w' []:=by
 have Y:=Z.start w0;obtain⟨R,c⟩:=À (nf a b);rw[<-c];refine bI ar Tryz.func296 ?_;refine lE ?_ ?_<;>intro p w Y L
 ·have q:b=0:=U
  refine O ?_;refine mX (vs:=[]) (ls:=[]) rfl rfl rfl ?_;refine dD ?_;intro w Y;rw[nf,ba q]at c;subst c;exact jF (p:=p) (vs:=[E 0,E 0]) rfl rfl rfl rfl (Y.dA 0 rfl) ⟨rfl,Y.bj⟩
 have q:b≠0:=U;rw[nf,aM q]at c;refine O ?_;refine aC ?_ ?_<;>intro A
 ·exact absurd A U
 refine aC ?_ ?_<;>intro B
 ·refine O ?_
  replace c:R=xE (0-a) (0-b):=by rw[c];unfold nC xE;simp only[ba B,Int.zero_sub]
  have N : -9223372036854775807<=0-a:=U;have P:0-a<=9223372036854775807:=U;have r:0<0-b:=U;have Q:0-b<=9223372036854775807:=U;generalize 0-a=n at *
  generalize 0-b=d at *
  refine aR rfl (AG (n:=n) U U) ?_;refine iw ?_;intro w' Y;refine aR rfl (Gm (a:=(n.natAbs:Int)) (b:=d) U U U U) ?_;refine gk ?_;clear Y;intro w' Y;have i:Int.gcd (n.natAbs:Int) d=Int.gcd n d:=by simp[Int.gcd]
  rw[i];obtain⟨g,I⟩:∃ g:Int,g=(Int.gcd n d:Int):=⟨_,rfl⟩
  rw[<-I];unfold xE at c;rw[<-I]at c;have j:0<g:=by
   have:=Ij n (show d≠0 by omega);omega
  have m:n.tdiv g=n / g:=Bo (by rw[I];exact FA ..);have o:d.tdiv g=d / g:=Bo (by rw[I];exact Bp ..);refine O ?_;rw[<-m,<-o]at c;have C:(n.tdiv g).natAbs<=n.natAbs:=by rw[m];exact Ik ..
  obtain⟨k,h⟩:=À (n.tdiv g);obtain⟨d2,f⟩:=À (d.tdiv g);have D:1<=d2/\d2<=d:=by
   rw[f,o];refine⟨Il j (by have:=Im r (show g ∣ d by rw[I];exact Bp ..);omega),FB _ U⟩
  refine rJ [7,7,32,38] (G:=Addr) (fun x=>[(7,.pointer (some x))]) (fun x w=>Z w0 w [am x 409 [E k,E d2],am p 409 [E 0,E 0]]) (fun _=>rfl) ?_ ?_
  ·refine u7 (.s [0,1,2,3,4,5] (.d 6 [] (.s [7,8] (.jz [])) (.d 7 [] (.s [6,8] (.jz [])) (.stop)))) Y kr kr ?_;clear Y;intro w Y
   refine O ?_;refine jl ?_ (jl ?_ pP)
   ·refine dj ?_;intro p w Y
    rw[<-h,<-f]at Y;exact⟨_,⟨rfl,az⟩,aX,Y⟩
   refine dj ?_;intro p w Y;rw[<-h,<-f]at Y;exact⟨_,⟨rfl,az⟩,aX,Y⟩
  clear Y;rintro H x w Y;rw[<-h,<-f]at c;refine O ?_;refine aR rfl (AG (n:=k) U U) ?_;refine B6 ?_ ?_<;>intro w' Y K
  ·refine O ?_
   refine mX (vs:=[]) (ls:=[]) rfl rfl rfl ?_;refine dD ?_;intro w Y;rw[ba U]at c;subst c;exact jF (p:=p) (vs:=[E 0,E 0]) rfl rfl rfl rfl (Y.dA 1 rfl) ⟨rfl,Y.bj⟩
  refine dD ?_;intro w Y;rw[aM U]at c;subst c;exact jF (p:=p) (vs:=[E k,E d2]) rfl rfl rfl rfl (Y.dA 1 rfl) ⟨rfl,Y.bj⟩
 replace c:R=xE a b:=by rw[c];unfold nC xE;simp only[aM (show ¬b<0 by omega)]
 have r:0<b:=U;obtain⟨n,rfl⟩:=À a;obtain⟨d,rfl⟩:=À b;refine O ?_;refine aR rfl (AG (n:=n) U U) ?_;refine iw ?_;intro w' Y;refine aR rfl (Gm (a:=(n.natAbs:Int)) (b:=d) U U U U) ?_;refine gk ?_;clear Y;intro w' Y;have i:Int.gcd (n.natAbs:Int) d=Int.gcd n d:=by simp[Int.gcd]
 rw[i];obtain⟨g,I⟩:∃ g:Int,g=(Int.gcd n d:Int):=⟨_,rfl⟩
 rw[<-I];unfold xE at c;rw[<-I]at c;have j:0<g:=by
  have:=Ij n (show d≠0 by omega);omega
 have m:n.tdiv g=n / g:=Bo (by rw[I];exact FA ..);have o:d.tdiv g=d / g:=Bo (by rw[I];exact Bp ..);refine O ?_;rw[<-m,<-o]at c;have C:(n.tdiv g).natAbs<=n.natAbs:=by rw[m];exact Ik ..
 obtain⟨k,h⟩:=À (n.tdiv g);obtain⟨d2,f⟩:=À (d.tdiv g);have D:1<=d2/\d2<=d:=by
  rw[f,o];refine⟨Il j (by have:=Im r (show g ∣ d by rw[I];exact Bp ..);omega),FB _ U⟩
 refine rJ [7,7,32,38] (G:=Addr) (fun x=>[(7,.pointer (some x))]) (fun x w=>Z w0 w [am x 409 [E k,E d2],am p 409 [E 0,E 0]]) (fun _=>rfl) ?_ ?_
 ·refine u7 (.s [0,1,2,3,4,5] (.d 6 [] (.s [7,8] (.jz [])) (.d 7 [] (.s [6,8] (.jz [])) (.stop)))) Y kr kr ?_;clear Y;intro w Y
  refine O ?_;refine jl ?_ (jl ?_ pP)
  ·refine dj ?_;intro p w Y
   rw[<-h,<-f]at Y;exact⟨_,⟨rfl,az⟩,aX,Y⟩
  refine dj ?_;intro p w Y;rw[<-h,<-f]at Y;exact⟨_,⟨rfl,az⟩,aX,Y⟩
 clear Y;rintro H x w Y;rw[<-h,<-f]at c;refine O ?_;refine aR rfl (AG (n:=k) U U) ?_;refine B6 ?_ ?_<;>intro w' Y K
 ·refine O ?_
  refine mX (vs:=[]) (ls:=[]) rfl rfl rfl ?_;refine dD ?_;intro w Y;rw[ba U]at c;subst c;exact jF (p:=p) (vs:=[E 0,E 0]) rfl rfl rfl rfl (Y.dA 1 rfl) ⟨rfl,Y.bj⟩
 refine dD ?_;intro w Y;rw[aM U]at c;subst c;exact jF (p:=p) (vs:=[E k,E d2]) rfl rfl rfl rfl (Y.dA 1 rfl) ⟨rfl,Y.bj⟩
end
end Go.Proofs.YtmapkjoefdgjfaaGreatDoor
