/- Several texts. -/
import Derived.Test.YtmapkjoefdgjfaaGreatDoorMW22D
set_option linter.unusedSimpArgs false
set_option linter.unusedVariables false
set_option linter.defProp false
set_option maxRecDepth 8000
set_option maxHeartbeats 16000000
open List Nat
namespace Go.Proofs.YtmapkjoefdgjfaaGreatDoor
open Go.Sl
variable {w0:World}{lv:Value}{ps:List (Option Addr)}{Hs:List (J->Int)}{F:List (List Bool)}{l:List bo}
section
open Go.Sl
structure mp (t:aa) (H:J->Int):Prop where
 ok:Bs t H
 Lu:∀ y q d,ab t.vars y->lu t y q d->H y<=d
section
variable {t:aa}
def Mo (I:aC t):mp t (bR t):=⟨Κ I,fun _ _ _ _ a=>(UG I a).2⟩
def Ű (I:aC t):mp t (cw t):=⟨Tw I,fun _ _ _ _ a=>(UD I a).2⟩
def ű (I:aC t):mp t (pR t):=⟨Fc I,fun _ _ _ _ a=>(Þ I a).2⟩
def Ų (I:aC t)(kind:Int)(a:kind=1\/kind=2\/tS t):mp t (jQ t kind):=⟨⟨I,fun _=>(Nw I kind a).1,fun _=>(Nw I kind a).2⟩,fun _ _ _ b c=>Uy I b kind a c⟩
def Ū {Ls a Cs:List J}(h:gk t Ls a Cs):mp t (lZ t Ls a Cs):=⟨h.bI,fun _ _ _ _ b=>(h.BP b).2⟩
def Ů {Ls a b:List J}(h:n0 t Ls a b):mp t (lq t Ls a):=⟨h.bI,fun _ _ _ _ c=>(h.BP c).2⟩
def Ŭ {M':Int}(I:aC t)(a:eL t M'=0):mp t (sH t M') :=
 have h:=u_ I a
 ⟨h.1,fun _ _ _ b c=>v_ I h.2.1 h.2.2 c b⟩
end
end
section
open Go.Sl Go
attribute [local irreducible] vc opsW opsD opV opW PureV ReadV Thn Blk
def CW (ps:List (Option Addr)){i:Nat}(h:i<ps.length):cF (ps.map Value.pointer) i=.pointer (ps.getD i none):=by
 rw[l9];simp[List.getD,h]
def Bx (ps:List (Option Addr)):(ps.map Value.pointer).length=ps.length:=iW ..
def w_ (g:RS ar w0 lv (ps.map Value.pointer)) :
  Calls aj 59 #[lv,.pointer none] w0 fun e w'=>(∃ r:Int,e=.returned (E r)/\(0<=r↔none∈ps))/\M w0 w' []:=by
 have j:=g.bT;have m:=Bx ps;have Y:=M.start w0;refine bB ao Tryz.func59 ?_;refine W ?_;refine cN [4,5,8,18] (G:=Nat) (fun k=>[(8,E k)]) (fun k w=>k<=ps.length/\(∀ i,i<k->ps.getD i none≠none)/\M w0 w []) (fun k=>ps.length-k) 0 (fun _=>rfl) ⟨rfl,au⟩ ⟨br _,fun i d=>absurd d (dx _),Y⟩ ?_;clear Y;rintro n k w ⟨hk,b,Y⟩;refine aA ?_ ?_<;>intro h1
 ·have c:k<ps.length:=U
  refine W ?_;rw[CW ps c];refine fi rfl (Ä (a:=ps.getD k none) rfl rfl) ?_
  cases f:ps.getD k none with
  | none =>
   refine W ?_
   exact bk (v:=E k) rfl rfl ⟨⟨k,rfl,⟨fun _=>by rw[<-f];exact cD none c,fun _=>U⟩⟩,Y⟩
  | some q =>
   refine W ?_;refine⟨k+1,⟨rfl,au⟩,aV,⟨U,fun i d=>?_,Y⟩,U⟩;by_cases e:i=k
   ·rw[e,f];simp
   exact b i U
 refine W ?_;refine bk (v:=E (-1)) rfl rfl ⟨⟨-1,rfl,⟨fun h=>U,fun hx=>?_⟩⟩,Y⟩;obtain⟨i,d,he⟩:=AU.1 hx;exact absurd (by rw[al d];exact he) (b i U)
def x_ (a:RS ar w0 lv (ps.map Value.pointer)) :
  Calls aj 35 #[lv,.pointer none] w0 fun e w'=>(∃ r,e=.returned (.bool r)/\(r=true↔none∈ps))/\M w0 w' []:=by
 have Y:=M.start w0;refine bB ao Tryz.func35 ?_;refine W ?_;refine aU rfl (w_ a) ?_;rintro _ w' ⟨⟨r,rfl,b⟩,an⟩;refine aI ?_;clear an Y;intro Y;refine W ?_;exact bk (v:=.bool (decide (0<=r))) rfl rfl ⟨⟨_,rfl,by rw[gR];exact b⟩,Y⟩
def y_ (b:RS ar w0 lv (ps.map Value.pointer))(j:ps.length<=1048576) :
  Calls aj 38 #[lv] w0 fun e w'=>∃ s,e=.returned s/\M w0 w' [X ar 36 s (ps.map Value.pointer)]:=by
 have d:=Bx ps;have Y:=M.start w0;obtain⟨g,cap,i⟩:=b.shape;subst i;refine bB ao Tryz.func38 ?_;refine W ?_;refine fi rfl (F6 (a:=g) (n:=(ps.map Value.pointer).length) (c:=cap) rfl) ?_
 cases g with
 | none =>
  have f:ps=[]:=by
   rcases uC ps.length with h|h
   ·exact nY h
   obtain⟨p,c2,he,_⟩:=b.some dc (by rw[d];exact h);cases he
  subst f;refine W ?_
  exact bk (v:=nS) rfl rfl ⟨_,rfl,Y.nil⟩
 | some p =>
  refine W ?_;refine zB ar Y ?_;clear Y;intro s1 w Y;have f:=b.at Y;refine W ?_
  refine rV (s:=s1) (s2:=.slice (some p) (ps.map Value.pointer).length cap) inferInstance rfl rfl f rfl rfl (fun x hx v hv=>by
   obtain⟨q,_,rfl⟩:=iQ.1 hx
   rw[dp.1 hv];rfl) (by simp only[length_nil];omega) (by unfold bT;simp only[length_nil];omega) Y ?_
  clear Y;intro s2 w Y;refine W ?_;rw[kq]at Y;exact bk (v:=s2) rfl rfl ⟨_,rfl,Y⟩
def eo (w:World)(ps:List (Option Addr))(t:aa)(Hs:List (J->Int)):Prop:=∀ i,i<ps.length->∃ p,ps.getD i none=some p/\cy w p t (Hs.getD i fun _=>0)
def eo.at {w0 w:World}{Γ:List HP}{ps:List (Option Addr)}{t:aa}{Hs:List (J->Int)}(h:eo w0 ps t Hs)(Y:M w0 w Γ):eo w ps t Hs:=fun i a=>by
 obtain⟨p,h1,b⟩:=h i a;exact⟨p,h1,b.at Y⟩
noncomputable def fp (t:aa)(Hs:List (J->Int))(s:J):Int:=Hs.foldl (fun m H=>max m (jT t H s)) 0
def z_ (t:aa)(Hs:List (J->Int))(H:J->Int)(s:J):fp t (Hs++[H]) s=max (fp t Hs s) (jT t H s):=by simp[fp]
instance FE:pu aj 74 "Value" 256 := ⟨kr⟩
def A_ {sv:Value}{t:aa}{z:J}(c:RS ar w0 lv (ps.map Value.pointer))(he:eo w0 ps t Hs)(b:Hs.length=ps.length)(d:RS O w0 sv z) :
  Calls aj 256 #[lv,sv] w0 fun e w'=>e=.returned (E (fp t Hs z))/\M w0 w' []:=by
 have f:=Bx ps;have g:=c.bT;have Y:=M.start w0;refine bB ao Tryz.func256 ?_;refine W ?_;refine cN [5,5,7,7,10,19] (G:=Nat) (fun k=>[(10,E k),(5,E (fp t (Hs.take k) z))]) (fun k w=>k<=ps.length/\M w0 w []) (fun k=>ps.length-k) 0 (fun _=>rfl) ⟨rfl,rfl,au⟩ ⟨br _,Y⟩ ?_;clear Y;rintro j k w ⟨hk,Y⟩;refine aA ?_ ?_<;>intro h1
 ·have a:k<ps.length:=U
  obtain⟨p,h,i⟩:=he k a;refine W ?_;rw[CW ps a,h];refine W ?_;refine aU rfl (CO (i.at Y) (d.at Y)) ?_;rintro _ w' ⟨rfl,an⟩;refine aI ?_;clear an Y;intro Y;have e:(if jT t (Hs.getD k fun _=>0) z>fp t (Hs.take k) z then jT t (Hs.getD k fun _=>0) z else fp t (Hs.take k) z)=fp t (Hs.take (k+1)) z:=by
   rw[eD (fun _=>0) U,z_];split<;>omega
  refine W ?_;exact⟨k+1,⟨rfl,by rw[<-e];rfl,au⟩,aV,⟨U,Y⟩,U⟩
 have a:k=ps.length:=U;rw[a,<-b,lL];refine W ?_;exact bk (v:=E (fp t Hs z)) rfl rfl ⟨rfl,Y⟩
def B_ {w:World}{t:aa}(d:RS ar w lv (ps.map Value.pointer))(he:eo w ps t Hs)(a:Hs.length=ps.length):gb w (.iface 74 lv) t (fp t Hs) :=
 ⟨_,_,_,_,rfl,FH _,inferInstance,fun _ _ _ _ c b _=>A_ (d.at c) (he.at c) a b⟩
def dT:aa:=⟨[],[],[],[]⟩
open Classical in
noncomputable def nc (ps:List (Option Addr))(us:List aa):Int:=if ps=[]\/none∈ps then 3 else if ∃ i,i<ps.length/\us.getD i dT≠us.getD 0 dT then 2 else 0
def C_ {α:Type}{xs:List α}{k:Nat}{d:α}:(cut xs 1 xs.length).getD k d=xs.getD (k+1) d:=by
 unfold cut;rw[lL];simp[List.getD,GI]
def ŷ {us:List aa}(x:RS ar w0 lv (ps.map Value.pointer))(hn:ps.length<=1048576)(L:Hs.length=ps.length)(he:∀ i,i<ps.length->∀ p,ps.getD i none=some p->cy w0 p (us.getD i dT) (Hs.getD i fun _=>0))(I:aC (us.getD 0 dT)) :
  Calls aj 14 #[lv] w0 fun e w' =>
   (nc ps us≠0/\e=.returned (.tuple #[.pointer none,bO (nc ps us)])/\M w0 w' []) \/
   (nc ps us=0/\∃ p,e=.returned (.tuple #[.pointer (some p),.nilIface])/\M w0 w' [bj fun w=>eo w ps (us.getD 0 dT) Hs->cy w p (us.getD 0 dT) (fp (us.getD 0 dT) Hs)]):=by
 have y:=Bx ps;have j':=x.bT;have Y:=M.start w0;refine bB ao Tryz.func14 ?_;by_cases z:ps=[]
 ·have c:nc ps us=3:=by unfold nc;rw[aP (.inl z)]
  have g:decide (((ps.map Value.pointer).length:Int)=0)=true:=dY (by rw[y,z];rfl);refine W ?_
  try simp only[g];refine eG ?_
  refine W ?_;exact cX (v:=.pointer none) (v':=.iface 57 (E 3)) rfl rfl rfl (.inl ⟨by rw[c];decide,by rw[c,dq dc],Y.bb⟩)
 have d:0<ps.length:=Jf.2 z;have g:decide (((ps.map Value.pointer).length:Int)=0)=false:=eA U;refine W ?_
 try simp only[g];refine eG ?_
 refine W ?_;refine aU rfl (x_ (x.at Y)) ?_;rintro _ w' ⟨⟨r,rfl,A⟩,an⟩;refine aI ?_;clear an Y;intro Y;cases r;rotate_left
 ·have c:nc ps us=3:=by unfold nc;rw[aP (.inr (A.1 rfl))]
  refine W ?_;exact cX (v:=.pointer none) (v':=.iface 57 (E 3)) rfl rfl rfl (.inl ⟨by rw[c];decide,by rw[c,dq dc],Y.bb⟩)
 have j:none∉ps:=fun h=>by cases A.2 h
 have a:∀ i,i<ps.length->∃ p,ps.getD i none=some p:=fun i u=>by
  cases hx:ps.getD i none with
  | none=>exact absurd (by rw[<-hx];exact cD none u) j
  | some p=>exact⟨p,rfl⟩
 obtain⟨V,B⟩:=a 0 d;have N:=he 0 d V B;obtain⟨a0,P,Q,d0,f,H',m,C,_⟩:=N;have J':=yI (xs:=ps.map Value.pointer) (lo:=1) (hi:=(ps.map Value.pointer).length) (cz _);have P':=xY (T:=ar) (lo:=1) (hi:=(ps.map Value.pointer).length) x U (cz _);have f:cF (ps.map Value.pointer) (Int.toNat 0)=.pointer (some V):=by rw[show Int.toNat 0=0 from rfl,CW ps d,B]
 refine W ?_;refine cN [2,3,5,5,17,34] (G:=Nat) (fun k=>[(17,E k)]) (fun k w=>k+1<=ps.length/\(∀ i,i<=k->us.getD i dT=us.getD 0 dT)/\M w0 w []) (fun k=>ps.length-k) 0 (fun _=>rfl) ⟨rfl,au⟩ ⟨U,fun i u=>by rw[show i=0 by omega],Y⟩ ?_;clear Y;rintro σ k w ⟨hk,D,Y⟩;refine aA ?_ ?_<;>intro h1
 ·have b:k+1<ps.length:=U
  obtain⟨q,hq⟩:=a (k+1) b;obtain⟨a1,b1,c1,d1,R',T',K,R,_⟩:=he (k+1) b q hq;have S:cF (cut (ps.map Value.pointer) 1 (ps.map Value.pointer).length) k=.pointer (some q):=by
   rw[l9,C_,<-l9,CW ps b,hq]
  refine W ?_;rw[S];refine fQ (pl [0,1,2,3,4,5,6,7,8,9,10,11] []) Y kr ?_;clear Y;intro w Y;refine W ?_;refine rW rfl (z8 (k:=0) (n:=4) (vs:=[a1,b1,c1,d1]) rfl (K.at Y) rfl rfl) ?_;refine W ?_;rw[f];refine W ?_;refine rW rfl (z8 (k:=0) (n:=4) (vs:=[a0,P,Q,d0]) rfl (m.at Y) rfl rfl) ?_;refine W ?_;refine aU rfl (Rn (R.at Y) (C.at Y)) ?_;rintro _ w' ⟨⟨r,rfl,A⟩,an⟩;refine aI ?_;clear an Y;intro Y;cases r
  ·have o:us.getD (k+1) dT≠us.getD 0 dT:=fun h=>by cases A.2 h
   have c:nc ps us=2:=by unfold nc;rw[aH (fun h=>h.elim z j),aP ⟨k+1,b,o⟩]
   refine W ?_;exact cX (v:=.pointer none) (v':=.iface 57 (E 2)) rfl rfl rfl (.inl ⟨by rw[c];decide,by rw[c,dq dc],Y.bb⟩)
  have heq:=A.1 rfl;refine W ?_;refine⟨k+1,⟨rfl,au⟩,aV,⟨U,fun i u=>?_,Y⟩,U⟩;by_cases e:i=k+1
  ·rw[e];exact heq
  exact D i U
 have R':k+1=ps.length:=U;have c:nc ps us=0:=by unfold nc;rw[aH (fun h=>h.elim z j),aH (by rintro⟨i,u,o⟩;exact o (D i U))]
 refine W ?_;refine fQ (pl [0,1,2,3,4,5,6,7] (.cJ 2::.cJ 5::pl [8,9,10,11,12,13] [])) Y kr ?_;clear Y;intro w Y;refine W ?_;rw[f];refine W ?_;refine rW rfl (z8 (k:=0) (n:=4) (vs:=[a0,P,Q,d0]) rfl (m.at Y) rfl rfl) ?_;refine W ?_;refine aU rfl (y_ (x.at Y) hn) ?_;rintro _ w' ⟨b,rfl,an⟩;refine aL ?_;clear an Y;intro Y;refine zO ?_;refine Kt rfl (CG (i:=Int.toNat 0) rfl (x.at Y) (by rw[y];exact d)) f.symm ?_;refine Kt rfl (z8 (k:=0) (n:=4) (vs:=[a0,P,Q,d0]) rfl (m.at Y) rfl rfl) rfl ?_;refine W ?_;refine aU rfl (yf (h:=.iface 74 b) (H:=fp (us.getD 0 dT) Hs) (C.at Y) I ⟨_,_,rfl⟩) ?_;rintro _ w' ⟨K,rfl,an⟩;refine aL ?_;clear an Y;intro Y;refine W ?_;have R:M w0 w' [bj fun w=>gb w (.iface 74 b) (us.getD 0 dT) (fp (us.getD 0 dT) Hs)->cy w K (us.getD 0 dT) (fp (us.getD 0 dT) Hs),X ar 36 b (ps.map Value.pointer)]:=Y;have S:=M.rd (Δ:=[bj fun w=>gb w (.iface 74 b) (us.getD 0 dT) (fp (us.getD 0 dT) Hs)->cy w K (us.getD 0 dT) (fp (us.getD 0 dT) Hs),X ar 36 b (ps.map Value.pointer)]) (φ:=fun w=>eo w ps (us.getD 0 dT) Hs->cy w K (us.getD 0 dT) (fp (us.getD 0 dT) Hs)) (fun _ w h hR=>(h.cU 0 rfl) (B_ (h.rs 1 rfl) hR L)) (Γ:=[]) R;exact cX (v:=.pointer (some K)) (v':=.nilIface) rfl rfl rfl (.inr ⟨c,K,rfl,S⟩)
end
section
open Go.Sl

end
section
open Go.Sl Go
attribute [local irreducible] vc opsW opsD opV opW PureV ReadV Thn Blk
structure tO where
 op:Int
 aw:Value
 aK:bo
def jL:Ty tO:=⟨4,fun x=>[E x.op,x.aw,E x.aK.var,E x.aK.val],fun _=>rfl,⟨0,nS,⟨0,0⟩⟩⟩
instance Nj:nB jL:=⟨au⟩
def sM:tQ:=⟨0,[],⟨0,0⟩⟩
def E6 (w:World)(v:tO)(u:tQ):Prop:=v.op=(u.op:Int)/\v.aK=u.aK/\RS aq w v.aw u.aw
def pS (us:List tO)(U':List tQ)(w:World):Prop:=∀ i:Nat,i<U'.length->E6 w (az jL us i) (U'.getD i sM)
def pS.at {w0 w:World}{Γ:List HP}{us:List tO}{U':List tQ}(h:pS us U' w0)(Y:M w0 w Γ):pS us U' w:=fun i a=>by
 obtain⟨h1,b,c⟩:=h i a;exact⟨h1,b,c.at Y⟩
def pS.fe {w:World}{us:List tO}{U':List tQ}{v:tO}{u:tQ}(h:pS us U' w)(c:us.length=U'.length)(h2:E6 w v u):pS (us++[v]) (U'++[u]) w:=fun i d=>by
 rw[length_append,tr]at d;by_cases e:i=U'.length
 ·subst e
  have a:az jL (us++[v]) U'.length=v:=by rw[nr,List.getD,<-c,kp (cz _),rZ];rfl
  have b:(U'++[u]).getD U'.length sM=u:=by rw[List.getD,kp (cz _),rZ];rfl
  rw[a,b];exact h2
 have a:az jL (us++[v]) i=az jL us i:=by rw[nr,nr,List.getD,js U];rfl
 have b:(U'++[u]).getD i sM=U'.getD i sM:=by rw[List.getD,js U];rfl
 rw[a,b];exact h i U
structure oR (w:World) (pr:Addr) (t:aa) (a gv cv lv:Value) (us:List tO):Prop where
 box:dO w pr [a,gv,cv,lv]
 vars:RS O w a t.vars
 aG:RS aq w gv t.aG
 aT:RS O w cv (am t)
 BH:RS jL w lv us
 len:us.length=(l7 t).length
 un:pS us (l7 t) w
def oR.at {w0 w:World}{Γ:List HP}{b:Addr}{t:aa}{a gv cv lv:Value}{us:List tO}(h:oR w0 b t a gv cv lv us)(Y:M w0 w Γ):oR w b t a gv cv lv us:=⟨h.box.at Y,h.vars.at Y,h.aG.at Y,h.aT.at Y,h.BH.at Y,h.len,h.un.at Y⟩
def LC {t:aa}(I:aC t){u:tQ}(hu:u∈l7 t):u.op<t.Z.length/\bH t.vars u.aK/\∀ f∈u.aw,bH t.vars f:=by
 obtain⟨k,j,hk,a,rfl⟩:=FG.1 hu;exact⟨hk,Lp I hk a,Sv I hk a⟩
structure D_ (w:World) (v:Value) (ss:List Value) (F:List (List Bool)):Prop where
 rs:RS ar w v ss
 len:ss.length=F.length
 row:∀ i,i<F.length->RS ah w (cF ss i) (F.getD i [])
def F_ {k:Nat}(h:ln F (l.take k)=true)(hk:k<l.length)(h2:tP F (l.getD k aq.dflt)=true):ln F (l.take (k+1))=true:=by
 unfold ln at *
 rw[GP,kP hk,all_append,h];rw[al hk]at h2;simp[h2]
def HT {fv:Value}{ss:List Value}{vars:J}(h:D_ w0 fv ss F)(g:uo vars F)(i:RS aq w0 lv l)(bI:∀ x∈l,bH vars x) :
  Calls aj 291 #[fv,lv] w0 fun e w'=>e=.returned (.bool (ln F l))/\M w0 w' []:=by
 obtain⟨j,m,d⟩:=h;have n:=i.bT;have o:=g.len;have Y:=M.start w0;refine bB ao Tryz.func291 ?_;refine W ?_;refine cN [4,4,6,6,9,23] (G:=Nat) (fun k=>[(9,E k)]) (fun k w=>k<=l.length/\ln F (l.take k)=true/\M w0 w []) (fun k=>l.length-k) 0 (fun _=>rfl) ⟨rfl,au⟩ ⟨br _,rfl,Y⟩ ?_;clear Y;rintro A k w ⟨hk,f,Y⟩;refine aA ?_ ?_<;>intro h1
 ·have b:k<l.length:=U
  have hm:=cD aq.dflt b;obtain⟨B,q,C,D⟩:=Bu (bI _ hm);have r:=d (l.getD k aq.dflt).var.toNat U;have u:=g.row _ q;refine eB ?_;intro p w Y;by_cases c:tP F (l.getD k aq.dflt)=true
  ·have a:(F.getD (l.getD k aq.dflt).var.toNat []).getD (l.getD k aq.dflt).val.toNat ah.dflt=true:=c
   rw[a];refine W ?_;exact⟨k+1,⟨rfl,au⟩,aV,⟨U,F_ f b c,Y.bb⟩,U⟩
  have a:(F.getD (l.getD k aq.dflt).var.toNat []).getD (l.getD k aq.dflt).val.toNat ah.dflt=false:=qX.2 c;rw[a];refine W ?_;have y:ln F l=false:=by
   cases z:ln F l with
   | false=>rfl
   | true=>exact absurd (all_eq_true.1 z _ hm) c
  exact bk (v:=.bool false) rfl rfl ⟨by rw[y],Y.bb⟩
 rw[gH U]at f;refine W ?_;exact bk (v:=.bool true) rfl rfl ⟨by rw[f],Y.bb⟩
def ì :
  Calls aj 290 #[] w0 fun e w'=>e=.returned (.agg #[E (-1),E (-1)])/\M w0 w' []:=by
 have Y:=M.start w0;refine bB ao Tryz.func290 ?_;refine eB ?_;intro p w Y;exact Cl (p:=p) (vs:=[E (-1),E (-1)]) rfl rfl rfl (Y.gB 0 rfl) ⟨rfl,Y.bb⟩
def mY (vars:J)(v:Nat):List bo:=(List.range v).flatMap fun v=>mo (vars.getD v O.dflt).toNat v
def Ue (vars:J)(v:Nat):mY vars (v+1)=mY vars v++mo (vars.getD v O.dflt).toNat v:=by
 unfold mY;rw[lz,wy];simp
def G_ (n v:Nat):mo (n+1) v=mo n v++[⟨(v:Int),(n:Int)⟩]:=by
 unfold mo;rw[lz,pX];rfl
def HU {vars:J}(a:∀ i,i<vars.length->vars.getD i O.dflt<=64):∀ v,v<=vars.length->(mY vars v).length<=64*v
 | 0,_=>by simp[mY]
 | v+1,h=>by
  have:=HU a v U;have b:=a v U;rw[Ue,length_append];have:(mo (vars.getD v O.dflt).toNat v).length=(vars.getD v O.dflt).toNat:=by simp[mo]
  omega
def í {g:Addr}{t:aa}{a gv cv:Value}{us:List tO}(j:oR w0 g t a gv cv lv us)(I:aC t) :
  Calls aj 292 #[.pointer (some g)] w0 fun e w'=>∃ b,e=.returned b/\M w0 w' [X aq 63 b (jm t.vars)]:=by
 obtain⟨B,hv,_,_,_,_,_⟩:=j;have m:=I.vars;have Y:=M.start w0;refine bB ao Tryz.func292 ?_;replace Y:=Y.nil (T:=aq) (e:=63);refine W ?_;refine dN [3,6,12,28] (G:=Nat) (H:=Value) (fun k b=>[(12,E k),(3,b)]) (fun k b w=>k<=t.vars.length/\M w0 w [X aq 63 b (mY t.vars k)]) (fun k _=>t.vars.length-k) 0 (nS) (fun _ _=>rfl) ⟨rfl,rfl,au⟩ ⟨br _,Y⟩ ?_;clear Y;rintro C k b w ⟨hk,Y⟩;refine aA ?_ ?_<;>intro h1
 ·have d:k<t.vars.length:=U
  have o:=I.nt k d;have q:=HU (fun i r=>(I.nt i r).2) k hk;obtain⟨n,h⟩:∃ n:Nat,t.vars.getD k O.dflt=(n:Int):=⟨(t.vars.getD k O.dflt).toNat,U⟩
  refine W ?_;rw[h];refine dN [3,3,6,6,18,27] (G:=Nat) (H:=Value) (fun x b=>[(18,E x),(3,b)]) (fun x b w=>x<=n/\M w0 w [X aq 63 b (mY t.vars k++mo x k)]) (fun x _=>n-x) 0 b (fun _ _=>rfl) ⟨rfl,rfl,au⟩ ⟨br _,by simpa [mo] using Y⟩ ?_;clear Y;rintro u x y w ⟨hx,Y⟩;have z:(mY t.vars k++mo x k).length=(mY t.vars k).length+x:=by simp[mo]
  refine aA ?_ ?_<;>intro D
  ·have f:x<n:=U
   refine W ?_;refine jG aq (x1:=⟨(k:Int),(x:Int)⟩) rfl rfl rfl (fX rfl) (fb _) Y ?_;clear Y;intro A w Y;refine lw ?_;intro s w Y;rw[fG,<-G_]at Y;exact⟨x+1,_,⟨rfl,rfl,au⟩,aV,⟨U,Y.tail⟩,U⟩
  have f:x=n:=U;have A:mY t.vars (k+1)=mY t.vars k++mo x k:=by rw[Ue,h,f];rfl
  rw[<-A]at Y;refine W ?_;exact⟨k+1,_,⟨rfl,rfl,au⟩,aV,⟨U,Y⟩,U⟩
 have c:k=t.vars.length:=U;subst c;refine W ?_;exact bk (v:=b) rfl rfl ⟨b,rfl,Y⟩
def H_ {x y:Int}(hx:0<=x)(c:0<=y):Int.gcd y (x % y)=Int.gcd x y:=by
 obtain⟨a,rfl⟩:=Pm hx;obtain⟨b,rfl⟩:=Pm c;rw[<-Int.natCast_emod,Pn,Pn,gcd_comm,<-gcd_rec,gcd_comm]
def Lx {a b:Int}(g:0<=a)(h:0<=b)(c:a<=9223372036854775807)(d:b<=9223372036854775807) :
  Calls aj 303 #[E a,E b] w0 fun e w'=>e=.returned (E ((Int.gcd a b:Nat):Int))/\M w0 w' []:=by
 have Y:=M.start w0;refine bB ao Tryz.func303 ?_;refine W ?_;refine dN [0,1,5,10] (G:=Int) (H:=Int) (fun x y=>[(0,E x),(1,E y)]) (fun x y w=>0<=x/\0<=y/\x<=9223372036854775807/\y<=9223372036854775807/\Int.gcd x y=Int.gcd a b/\M w0 w []) (fun _ y=>y.toNat) a b (fun _ _=>rfl) ⟨rfl,rfl,au⟩ ⟨g,h,c,d,rfl,Y⟩ ?_;clear Y;rintro i x y w ⟨hx,j,k,m,he,Y⟩;refine aA ?_ ?_<;>intro o
 ·have hyp:0<y:=U
  have f:x.tmod y=x % y:=Pg hx;have n:=Int.emod_nonneg x (show y≠0 by omega);have q:=Ph x hyp;refine eQ ?_;intro w Y;refine⟨y,x.tmod y,⟨rfl,rfl,au⟩,aV,⟨U,U,U,U,?_,Y⟩,U⟩;rw[f,<-he];exact H_ hx j
 have f:y=0:=U;subst f;refine W ?_;have n:((Int.gcd a b:Nat):Int)=x:=by rw[<-he,Int.gcd_zero_right];omega
 exact bk (v:=E x) rfl rfl ⟨by rw[n],Y⟩
def En {n:Int}(b : -9223372036854775807<=n)(h1:n<=9223372036854775807) :
  Calls aj 304 #[E n] w0 fun e w'=>e=.returned (E (n.natAbs:Int))/\M w0 w' []:=by
 have Y:=M.start w0;refine bB ao Tryz.func304 ?_;refine W ?_;have a:(n.natAbs:Int)=if 0-n>n then 0-n else n:=by split<;>omega
 exact bk (v:=E (if 0-n>n then 0-n else n)) rfl rfl ⟨by rw[a],Y⟩
def kj (f:cZ):Value:=.agg #[E f.num,E f.den]
def oI (a b:Int):Int × cZ:=if b=0 then (22,⟨0,0⟩) else me a b
def vS (n d:Int):Int × cZ:=if 1099511627776<(n / (Int.gcd n d:Int)).natAbs\/1048576<d / (Int.gcd n d:Int) then (5,⟨0,0⟩) else (0,⟨n / (Int.gcd n d:Int),d / (Int.gcd n d:Int)⟩)
def Ge {a b:Int}(u : -9223372036854775807<=a)(v:a<=9223372036854775807)(y : -9223372036854775807<=b)(z:b<=9223372036854775807) :
  Calls aj 296 #[E a,E b] w0 fun e w'=>e=.returned (.tuple #[kj (oI a b).2,bO (oI a b).1])/\M w0 w' []:=by
 have Y:=M.start w0;obtain⟨R,c⟩:=À (oI a b);rw[<-c];refine bB ao Tryz.func296 ?_;refine lR ?_ ?_<;>intro p w Y L
 ·have q:b=0:=U
  refine W ?_;refine sd (vs:=[]) (ls:=[]) rfl rfl rfl ?_;refine eQ ?_;intro w Y;rw[oI,aP q]at c;subst c;exact lO (p:=p) (vs:=[E 0,E 0]) rfl rfl rfl rfl (Y.gB 0 rfl) ⟨rfl,Y.bb⟩
 have q:b≠0:=U;rw[oI,aH q]at c;refine W ?_;refine aA ?_ ?_<;>intro A
 ·exact absurd A U
 refine aA ?_ ?_<;>intro B
 ·refine W ?_
  replace c:R=vS (0-a) (0-b):=by rw[c];unfold me vS;simp only[aP B,Int.zero_sub]
  have N : -9223372036854775807<=0-a:=U;have P:0-a<=9223372036854775807:=U;have r:0<0-b:=U;have Q:0-b<=9223372036854775807:=U;generalize 0-a=n at *
  generalize 0-b=d at *
  refine aU rfl (En (n:=n) U U) ?_;refine lU ?_;intro w' Y;refine aU rfl (Lx (a:=(n.natAbs:Int)) (b:=d) U U U U) ?_;refine j7 ?_;clear Y;intro w' Y;have i:Int.gcd (n.natAbs:Int) d=Int.gcd n d:=by simp[Int.gcd]
  rw[i];obtain⟨g,I⟩:∃ g:Int,g=(Int.gcd n d:Int):=⟨_,rfl⟩
  rw[<-I];unfold vS at c;rw[<-I]at c;have j:0<g:=by
   have:=O8 n (show d≠0 by omega);omega
  have m:n.tdiv g=n / g:=Gp (by rw[I];exact Int.gcd_dvd_left ..);have o:d.tdiv g=d / g:=Gp (by rw[I];exact Gq ..);refine W ?_;rw[<-m,<-o]at c;have C:(n.tdiv g).natAbs<=n.natAbs:=by rw[m];exact O9 ..
  obtain⟨k,h⟩:=À (n.tdiv g);obtain⟨d2,f⟩:=À (d.tdiv g);have D:1<=d2/\d2<=d:=by
   rw[f,o];refine⟨Pa j (by have:=Int.le_of_dvd r (show g ∣ d by rw[I];exact Gq ..);omega),JQ _ U⟩
  refine th [7,7,32,38] (G:=Addr) (fun x=>[(7,.pointer (some x))]) (fun x w=>M w0 w [ak x 409 [E k,E d2],ak p 409 [E 0,E 0]]) (fun _=>rfl) ?_ ?_
  ·refine xL (.s [0,1,2,3,4,5] (.d 6 [] (.s [7,8] (.j6 [])) (.d 7 [] (.s [6,8] (.j6 [])) (.stop)))) Y kr kr ?_;clear Y;intro w Y
   refine W ?_;refine jF ?_ (jF ?_ qt)
   ·refine c9 ?_;intro p w Y
    rw[<-h,<-f]at Y;exact⟨_,⟨rfl,au⟩,aV,Y⟩
   refine c9 ?_;intro p w Y;rw[<-h,<-f]at Y;exact⟨_,⟨rfl,au⟩,aV,Y⟩
  clear Y;rintro H x w Y;rw[<-h,<-f]at c;refine W ?_;refine aU rfl (En (n:=k) U U) ?_;refine AE ?_ ?_<;>intro w' Y K
  ·refine W ?_
   refine sd (vs:=[]) (ls:=[]) rfl rfl rfl ?_;refine eQ ?_;intro w Y;rw[aP U]at c;subst c;exact lO (p:=p) (vs:=[E 0,E 0]) rfl rfl rfl rfl (Y.gB 1 rfl) ⟨rfl,Y.bb⟩
  refine eQ ?_;intro w Y;rw[aH U]at c;subst c;exact lO (p:=p) (vs:=[E k,E d2]) rfl rfl rfl rfl (Y.gB 1 rfl) ⟨rfl,Y.bb⟩
 replace c:R=vS a b:=by rw[c];unfold me vS;simp only[aH (show ¬b<0 by omega)]
 have r:0<b:=U;obtain⟨n,rfl⟩:=À a;obtain⟨d,rfl⟩:=À b;refine W ?_;refine aU rfl (En (n:=n) U U) ?_;refine lU ?_;intro w' Y;refine aU rfl (Lx (a:=(n.natAbs:Int)) (b:=d) U U U U) ?_;refine j7 ?_;clear Y;intro w' Y;have i:Int.gcd (n.natAbs:Int) d=Int.gcd n d:=by simp[Int.gcd]
 rw[i];obtain⟨g,I⟩:∃ g:Int,g=(Int.gcd n d:Int):=⟨_,rfl⟩
 rw[<-I];unfold vS at c;rw[<-I]at c;have j:0<g:=by
  have:=O8 n (show d≠0 by omega);omega
 have m:n.tdiv g=n / g:=Gp (by rw[I];exact Int.gcd_dvd_left ..);have o:d.tdiv g=d / g:=Gp (by rw[I];exact Gq ..);refine W ?_;rw[<-m,<-o]at c;have C:(n.tdiv g).natAbs<=n.natAbs:=by rw[m];exact O9 ..
 obtain⟨k,h⟩:=À (n.tdiv g);obtain⟨d2,f⟩:=À (d.tdiv g);have D:1<=d2/\d2<=d:=by
  rw[f,o];refine⟨Pa j (by have:=Int.le_of_dvd r (show g ∣ d by rw[I];exact Gq ..);omega),JQ _ U⟩
 refine th [7,7,32,38] (G:=Addr) (fun x=>[(7,.pointer (some x))]) (fun x w=>M w0 w [ak x 409 [E k,E d2],ak p 409 [E 0,E 0]]) (fun _=>rfl) ?_ ?_
 ·refine xL (.s [0,1,2,3,4,5] (.d 6 [] (.s [7,8] (.j6 [])) (.d 7 [] (.s [6,8] (.j6 [])) (.stop)))) Y kr kr ?_;clear Y;intro w Y
  refine W ?_;refine jF ?_ (jF ?_ qt)
  ·refine c9 ?_;intro p w Y
   rw[<-h,<-f]at Y;exact⟨_,⟨rfl,au⟩,aV,Y⟩
  refine c9 ?_;intro p w Y;rw[<-h,<-f]at Y;exact⟨_,⟨rfl,au⟩,aV,Y⟩
 clear Y;rintro H x w Y;rw[<-h,<-f]at c;refine W ?_;refine aU rfl (En (n:=k) U U) ?_;refine AE ?_ ?_<;>intro w' Y K
 ·refine W ?_
  refine sd (vs:=[]) (ls:=[]) rfl rfl rfl ?_;refine eQ ?_;intro w Y;rw[aP U]at c;subst c;exact lO (p:=p) (vs:=[E 0,E 0]) rfl rfl rfl rfl (Y.gB 1 rfl) ⟨rfl,Y.bb⟩
 refine eQ ?_;intro w Y;rw[aH U]at c;subst c;exact lO (p:=p) (vs:=[E k,E d2]) rfl rfl rfl rfl (Y.gB 1 rfl) ⟨rfl,Y.bb⟩
end
end Go.Proofs.YtmapkjoefdgjfaaGreatDoor
