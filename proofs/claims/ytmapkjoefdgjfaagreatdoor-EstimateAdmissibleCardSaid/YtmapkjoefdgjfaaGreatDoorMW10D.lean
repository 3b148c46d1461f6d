/- Several texts. -/
import Derived.Test.YtmapkjoefdgjfaaGreatDoorMW9D
set_option linter.unusedSimpArgs false
set_option linter.unusedVariables false
set_option linter.defProp false
set_option maxRecDepth 8000
set_option maxHeartbeats 16000000
open List Nat
namespace Go.Proofs.YtmapkjoefdgjfaaGreatDoor
open Go.Sl
variable {t:aa}{w0 w:World}{a b c d h:Value}{vs:List iX}{H:J->Int}{s cs L:J}{p:Addr}{i:Nat}
section
open Go.Sl Go
attribute [local irreducible] vc opsW opsD opV opW PureV ReadV Thn Blk
instance Fv:pu aj 89 "Value" 260 := ⟨kr⟩
def gb (w:World)(h:Value)(t:aa)(H:J->Int):Prop :=
 ∃ (T:Nat) (v u:Value) (f:Nat),h=.iface T v/\nh aj T v "Value" f u /\ ap aj f /\ ∀ (g : World) (k : List HP) (j : Value) (s : J), M w g k -> RS O g j s -> ab t.vars s ->
  Calls aj f #[u,j] g fun e l=>e=.returned (E (H s))/\M g l []
def gb.at {Γ:List HP}(k:gb w0 h t H)(Y:M w0 w Γ):gb w h t H:=by
 obtain⟨T,v,u,f,h1,e,g,j⟩:=k;exact⟨T,v,u,f,h1,e,g,fun l m n s o=>j l (m++Γ) n s (Y.call o)⟩
def cy (w:World)(p:Addr)(t:aa)(H:J->Int):Prop:=∃ a b c d h vs,dO w p [a,b,c,d,h]/\bz w a b c d vs t/\gb w h t H
def cy.at {w0 w:World}{Γ:List HP}{p:Addr}{t:aa}{H:J->Int}(k:cy w0 p t H)(Y:M w0 w Γ):cy w p t H:=by
 obtain⟨a,b,c,d,h,vs,h1,e,f⟩:=k;exact⟨a,b,c,d,h,vs,h1.at Y,e.at Y,f.at Y⟩
open Classical in
noncomputable def jT (t:aa)(H:J->Int)(s:J):Int:=if ab t.vars s then H s else bD
def CO {sv:Value}(he:cy w0 p t H)(j:RS O w0 sv s) :
  Calls aj 12 #[.pointer (some p),sv] w0 fun e w'=>e=.returned (E (jT t H s))/\M w0 w' []:=by
 obtain⟨a,b,c,d,h,vs,h1,l,m⟩:=he;have n:=l.vars;have Y:=M.start w0;refine bB ao Tryz.func12 ?_;refine W ?_;refine aU rfl (yi (n.at Y) (j.at Y)) ?_;rintro _ w' ⟨⟨r,rfl,k⟩,an⟩;refine aI ?_;clear an Y;intro Y;cases r
 ·have g:jT t H s=bD:=aH fun h=>(by cases k.2 h)
  refine W ?_;exact bk (v:=E 1125899906842624) rfl rfl ⟨by rw[g],Y⟩
 have bI:=k.1 rfl;have g:jT t H s=H s:=aP bI;obtain⟨T,v,u,f,rfl,m1,m2,m3⟩:=m.at Y;refine W ?_;refine Zl m1 m2 rfl rfl (m3 _ [] sv s (M.start _) (j.at Y) bI) ?_;rintro _ w' ⟨rfl,an⟩;refine aI ?_;clear an Y;intro Y;refine W ?_;exact bk (v:=E (H s)) rfl rfl ⟨by rw[g],Y⟩
def Zm {u:aa}(he:cy w0 p u H)(f:bz w0 a b c d vs t) :
  Calls aj 17 #[.pointer (some p),.agg #[a,b,c,d]] w0 fun e w'=>(∃ r,e=.returned (.bool r)/\(r=true↔u=t))/\M w0 w' []:=by
 obtain⟨a2,g,c2,d2,h,us,h1,j,m⟩:=he;have Y:=M.start w0;refine bB ao Tryz.func17 ?_;refine c9 ?_;intro p w Y;refine fQ (pl [0,1,2,3,4,5,6,7,8,9,10] []) Y kr ?_;clear Y;intro w Y;refine W ?_;refine rW rfl (z8 (k:=0) (n:=4) (vs:=[a2,g,c2,d2]) rfl (h1.at Y) rfl rfl) ?_;refine W ?_;refine aU rfl (Rn (j.at Y) (f.at Y)) ?_;rintro _ w' ⟨⟨r,rfl,l⟩,an⟩;refine aI ?_;clear an Y;intro Y;refine W ?_;exact bk (v:=.bool r) rfl rfl ⟨⟨r,rfl,l⟩,Y.bb⟩
def jV (t:aa)(k:Nat):Int:=(t.Z.take k).foldl (fun m o=>min m o.aO) bD
def gl (t:aa):Int:=jV t t.Z.length
def bR (t:aa)(s:J):Int:=if bZ s t.aG then 0 else gl t
def UC {gv sv:Value}{g:List bo}{n:Int}(I:RS aq w0 gv g)(j:RS O w0 sv s) :
  Calls aj 260 #[.agg #[gv,E n],sv] w0 fun e w'=>e=.returned (E (if bZ s g then 0 else n))/\M w0 w' []:=by
 have Y:=M.start w0;refine bB ao Tryz.func260 ?_;refine eB ?_;intro p w Y;refine aU rfl (Q8 (I.at Y) (j.at Y)) ?_;rintro _ w' ⟨⟨r,rfl,f⟩,an⟩;refine aI ?_;clear an Y;intro Y;cases r
 ·have k:¬bZ s g:=fun h=>by have:=f.2 h;cases this
  rw[aH k];refine W ?_;exact bk (v:=E n) rfl rfl ⟨rfl,Y.bb⟩
 rw[aP (f.1 rfl)];refine W ?_;exact bk (v:=E 0) rfl rfl ⟨rfl,Y.bb⟩
def yf (o:bz w0 a b c d vs t)(I:aC t)(l:∃ T v,h=.iface T v) :
  Calls aj 37 #[.agg #[a,b,c,d],h,.nilIface] w0 fun e w'=>∃ p,e=.returned (.tuple #[.pointer (some p),.nilIface])/\M w0 w' [bj fun w=>gb w h t H->cy w p t H]:=by
 obtain⟨T,v,rfl⟩:=l;have Y:=M.start w0;refine bB ao Tryz.func37 ?_;refine eB ?_;intro p w Y;refine aU rfl (F7 (o.at Y) I) ?_;rintro _ w' ⟨a2,g,c2,d2,j,rfl,an⟩;refine aL ?_;clear an Y;intro Y;have f:=Y.cU 0 rfl;have q:=f.vars.eJ;have r:=f.cE.eJ;have u:=f.aG.eJ;have x:=f.Z.rs.eJ;refine W ?_;refine sd (vs:=[(0,.agg #[a2,g,c2,d2]),(1,.iface T v)]) (ls:=[(0,[a2,g,c2,d2]),(1,[.iface T v])]) rfl rfl rfl ?_;refine yj (vs:=[a2,g,c2,d2,.iface T v]) rfl Y ?_;clear Y;intro k w Y;refine W ?_;have m:M w0 w [bj fun w=>gb w (.iface T v) t H->cy w k t H]:=by
  have n:M w0 w [ak k 69 [a2,g,c2,d2,.iface T v],bj fun w=>bz w a2 g c2 d2 j t,ak p 26 (Value.agg #[a,b,c,d]).cells.toList]:=Y;exact(M.rd (Δ:=[ak k 69 [a2,g,c2,d2,.iface T v],bj fun w=>bz w a2 g c2 d2 j t]) (φ:=fun w=>gb w (.iface T v) t H->cy w k t H) (fun _ w h l=>⟨a2,g,c2,d2,.iface T v,j,h.gB 0 rfl,h.cU 1 rfl,l⟩) n).bb
 exact cX (v:=.pointer (some k)) (v':=.nilIface) rfl rfl rfl ⟨k,rfl,m⟩
open Classical in
noncomputable def sH (t:aa)(M':Int)(s:J):Int:=(tU t M').getD (nZ s (re t M')).toNat O.dflt
def Zn {M':Int}(h:vJ w p t (re t M') (tU t M'))(f:Aw t (re t M') (tU t M')):gb w (.iface 111 (.pointer (some p))) t (sH t M') :=
 ⟨_,_,_,_,rfl,Hv _,inferInstance,fun _ _ _ s Y e bI=>Zo (h.at Y) f.1 (f.2 s bI) e bI⟩
def Zp {v:Value}{T:Nat} :
  Calls aj 37 #[.agg #[a,b,c,d],h,.iface T v] w0 fun e w'=>e=.returned (.tuple #[.pointer none,.iface T v])/\M w0 w' []:=by
 have Y:=M.start w0;refine bB ao Tryz.func37 ?_;refine eB ?_;intro p w Y;exact cX (v:=.pointer none) (v':=.iface T v) rfl rfl rfl ⟨rfl,iY Y⟩
def Zq {M':Int}(m:bz w0 a b c d vs t)(I:aC t)(r:lT w0) :
  Calls aj 32 #[.agg #[a,b,c,d],E M'] w0 fun e w'=>(eL t M'≠0/\e=.returned (.tuple #[.pointer none,bO (eL t M')])/\M w0 w' [])\/(eL t M'=0/\∃ p,e=.returned (.tuple #[.pointer (some p),.nilIface])/\M w0 w' [bj fun w=>cy w p t (sH t M')]):=by
 have u:=I.vars;have Y:=M.start w0;refine bB ao Tryz.func32 ?_;have x:=m.1;refine c9 ?_;intro q w Y;have Y:M w0 w [ak q 26 [a,b,c,d]]:=Y;refine dN [6,7,13,20] (G:=Nat) (H:=Value) (fun k f=>[(13,E k),(6,f)]) (fun k f w=>k<=t.vars.length/\M w0 w [X O 3 f (cY k),ak q 26 [a,b,c,d]]) (fun k _=>t.vars.length-k) 0 (nS) (fun _ _=>rfl) ⟨rfl,rfl,au⟩ ⟨br _,Y.nil⟩ ?_;clear Y;rintro _ k f w ⟨hk,Y⟩;refine aA ?_ ?_<;>intro g1
 ·have g:k<t.vars.length:=U
  have j:(cY k).length<=64:=by rw[Ci];omega
  repeat (first|refine dB ?_|(refine fR ?_;clear Y;intro s w Y))
  rw[<-Rx]at Y;exact⟨k+1,s,⟨rfl,rfl,au⟩,aV,⟨U,Y.bb⟩,U⟩
 have g:k=t.vars.length:=U;subst g;refine W ?_;refine aU rfl (VL (M':=M') (r.at Y) I (m.at Y) (bm (s:=f) Y)) ?_;rintro _ w' j;rcases j with ⟨l,rfl,an⟩|⟨l,y,pm,rfl,an⟩
 ·refine aI ?_;clear an Y;intro Y
  rw[dq l];refine W ?_;refine aU rfl Zp ?_;refine lU ?_;intro w' Y;exact cX (v:=.pointer none) (v':=.iface 57 (E (eL t M'))) rfl rfl rfl (.inl ⟨l,rfl,Y.bb⟩)
 refine aL ?_;clear an Y;intro Y;refine W ?_;refine aU rfl (yf (h:=.iface 111 (.pointer (some pm))) (H:=sH t M') (m.at Y) I ⟨_,_,rfl⟩) ?_;rintro _ w' ⟨n,rfl,an⟩;refine aL ?_;clear an Y;intro Y;refine W ?_;have o:=M.rd (Δ:=[_,_]) (φ:=fun w=>cy w n t (sH t M')) (fun _ w h=>(h.cU 0 rfl) (Zn (h.cU 1 rfl) y)) Y;exact cX (v:=.pointer (some n)) (v':=.nilIface) rfl rfl rfl (.inr ⟨l,n,rfl,o.bb⟩)
end
section
open Go.Sl
attribute [local irreducible] vc opsW opsD opV opW PureV ReadV Thn Blk
def j5 (l:List J)(k:Int)(i:Nat):List J:=je (l.take i) k
def pw (s:J)(x:Nat):List J:=(List.range x).map fun (x:Nat)=>s++[(x:Int)]
def Zr {l:List J}{k:Int}(hi:i<l.length):j5 l k (i+1)=j5 l k i++pw (l.getD i []) k.toNat:=by
 unfold j5 je pw;rw[eD [] hi];simp
def Zt (l:List J)(k:Int):j5 l k l.length=je l k:=by unfold j5;rw[lL]
def Zu (s:J)(x:Nat):pw s (x+1)=pw s x++[s++[(x:Int)]]:=by simp[pw,lz]
def Zv {vars:J}(hi:i<(aF vars).length):((aF vars).getD i []).length=vars.length:=(Hz.1 (cD [] hi)).1
def Zw {n k:Nat}{p:Int}(h:i<n)(f:((n:Int)*k)<=p):(i:Int)*k+k<=p:=by
 have h1:(i+1)*k<=n*k:=uF k h;rw[yp]at h1;have e:((i*k+k:Nat):Int)<=((n*k:Nat):Int):=by exact_mod_cast h1
 simp only[B7,JV]at e;omega
def KX {vars:J}(ha:RS O w0 a vars)(q:∀ x∈vars,1<=x)(hn:vars.length<=64)(hB:cC vars<=65536) :
  Calls aj 11 #[a] w0 fun e w'=>∃ s ss,e=.returned s/\M w0 w' [ai O 3 ss (aF vars),X ar 22 s ss]:=by
 have J':=ha.bT;have Y:=M.start w0;refine bB ao Tryz.func11 ?_;refine W ?_;refine zB O Y ?_;clear Y;intro s w Y;refine lw ?_;intro s w Y;replace Y:=(Y.swap.qH (T:=O) (e:=3)).swap.j0;refine nE [3,3,5,6,8,9,14,40] (G:=Nat) (H:=Value) (I':=List Value) (fun k s _=>[(14,E k),(3,s)]) (fun k s ss w=>k<=vars.length/\M w0 w [ai O 3 ss (aF (vars.take k)),X ar 22 s ss]) (fun k _ _=>vars.length-k) 0 _ _ (fun _ _ _=>rfl) ⟨rfl,rfl,au⟩ ⟨br _,Y⟩ ?_;clear Y;rintro σ k s ss w ⟨hk,Y⟩;refine aA ?_ ?_<;>intro h1
 ·have j:k<vars.length:=U
  have l:∀ x∈vars.take k,1<=x:=fun x hx=>q x (pU hx);have F:=q _ (cD O.dflt j);have K:aF (vars.take (k+1))=je (aF (vars.take k)) (vars.getD k O.dflt):=by rw[eD O.dflt j,KY]
  have N:((aF (vars.take k)).length:Int)*(vars.getD k O.dflt).toNat<=65536:=by
   have r:=DA q (k+1);rw[eD O.dflt j,Ah]at r;have P:=Ag l;rw[wL l,fZ U,fZ U];omega
  have Q:((aF (vars.take k)).length:Int)<=65536:=by
   have r:=DA q k;rw[wL l];omega
  have hV:vars.getD k O.dflt<=65536:=by
   have r:=DA q (k+1);rw[eD O.dflt j,Ah]at r;have P:=Ag l;have f:1*vars.getD k O.dflt<=cC (vars.take k)*vars.getD k O.dflt:=yt P U;omega
  obtain⟨V,u⟩:=À (vars.getD k O.dflt);obtain⟨L,y⟩:=À (aF (vars.take k));have z:∀ i,i<L.length->(L.getD i []).length<=64:=fun i hi=>by
   subst y;rw[Zv hi,jf];omega
  have R:ss.length=(aF (vars.take k)).length:=Y.bP;rw[<-y]at K N Q Y R;rw[<-u]at K N hV F;refine W ?_;have D:=Y;have A:RS ar w s ss:=bm D;have S:=ha.at Y;obtain⟨w1,m⟩:=À w;rw[<-m]at D A S;replace Y:=M.start w;rw[<-m]at Y;rw[<-u];refine nE [6,6,8,9,20,38] (G:=Nat) (H:=Value) (I':=List Value) (fun i s _=>[(20,E i),(6,s)]) (fun i B f w=>i<=L.length/\f.length=i*V.toNat/\M w1 w [ai O 3 f (j5 L V i),X ar 22 B f]) (fun i _ _=>L.length-i) 0 _ [] (fun _ _ _=>rfl) ⟨rfl,rfl,au⟩ ⟨br _,sm,m ▸ Y.nil.qH⟩ ?_;clear Y m;rintro P' i B f w ⟨hi,g,Y⟩;refine aA ?_ ?_<;>intro r
  ·have n:i<L.length:=U
   have hr:=D.row n;have R':=z i n;have hmul:=Zw n N;have o:(f.length:Int)=(i:Int)*V.toNat:=by rw[g];simp
   refine W ?_;refine nE [6,6,9,9,25,37] (G:=Nat) (H:=Value) (I':=List Value) (fun x s _=>[(25,E x),(6,s)]) (fun x B f w=>x<=V.toNat/\f.length=i*V.toNat+x/\M w1 w [ai O 3 f (j5 L V i++pw (L.getD i []) x),X ar 22 B f]) (fun x _ _=>V.toNat-x) 0 B f (fun _ _ _=>rfl) ⟨rfl,rfl,au⟩ ⟨br _,g,by simpa [pw] using Y⟩ ?_;clear Y g o;rintro T' x s2 C w ⟨hx,j',Y⟩;have V':(C.length:Int)=(i:Int)*V.toNat+x:=by rw[j'];simp
   refine aA ?_ ?_<;>intro P
   ·refine W ?_
    refine zB O Y ?_;clear Y;intro e1 w Y
    repeat (first|refine dB ?_|(refine fR ?_;clear Y;intro s w Y))
    replace Y:=Y.tail.tail.j0;rw[kq,fG,<-Zu]at Y;exact⟨x+1,_,_,⟨rfl,rfl,au⟩,aV,⟨U,by simp;omega,Y⟩,U⟩
   have H':x=V.toNat:=U;subst H';rw[<-Zr n]at Y;refine W ?_;exact⟨i+1,_,C,⟨rfl,rfl,au⟩,aV,⟨U,by rw[yp];omega,Y⟩,U⟩
  have n:i=L.length:=U;subst n;rw[Zt,<-K]at Y;refine W ?_;exact⟨k+1,_,f,⟨rfl,rfl,au⟩,aV,⟨U,(D.call Y).comm.tail.tail⟩,U⟩
 rw[gH U]at Y;refine W ?_;exact bk (v:=s) rfl rfl ⟨s,ss,rfl,Y⟩
def Zx (y:bz w0 a b c d vs t)(I:aC t)(F:cC t.vars<=65536) :
  Calls aj 13 #[.agg #[a,b,c,d]] w0 fun e w'=>∃ s,e=.returned s/\M w0 w' [X aM 41 s (ct t)]:=by
 have m:=y;obtain⟨z,V,hc,A⟩:=y;have n:=A.rs;have K:=A.len;have N:=n.bT;have o:=I.Z;have hlen:(aF t.vars).length<=65536:=by rw[wL I.pos];omega
 have Y:=M.start w0;refine bB ao Tryz.func13 ?_;refine eB ?_;intro B w Y;refine aU rfl (KX (z.at Y) I.pos I.vars F) ?_;rintro _ w' ⟨C,l,rfl,an⟩;replace Y:=Y.uQ an;clear an;have P:=Y.bP;refine⟨_,rfl,?_⟩;refine W ?_;refine dN [3,8,13,43] (G:=Nat) (H:=Value) (fun i s=>[(13,E i),(3,s)]) (fun i s w=>i<=(aF t.vars).length/\M w0 w [X aM 41 s (jY t i),ai O 3 l (aF t.vars),X ar 22 C l,ak B 26 [a,b,c,d]]) (fun i _=>(aF t.vars).length-i) 0 _ (fun _ _=>rfl) ⟨rfl,rfl,au⟩ ⟨br _,Y.nil⟩ ?_;clear Y;rintro σ i s w ⟨hi,Y⟩;refine aA ?_ ?_<;>intro h1
 ·have f:i<(aF t.vars).length:=U
  have g:=Eg I.pos f;have Q:=Ry t i;have D:i*t.Z.length<=65536*4096:=xQ U o;refine W ?_;refine dN [3,3,6,8,21,42] (G:=Nat) (H:=Value) (fun j s=>[(21,E j),(3,s)]) (fun j s w=>j<=t.Z.length/\M w0 w [X aM 41 s (jY t i++jp t ((aF t.vars).getD i []) i j),ai O 3 l (aF t.vars),X ar 22 C l,ak B 26 [a,b,c,d]]) (fun j _=>t.Z.length-j) 0 s (fun _ _=>rfl) ⟨rfl,rfl,au⟩ ⟨br _,by rw[Zy,fI];exact Y⟩ ?_;clear Y;rintro R j s1 w ⟨hj,Y⟩;refine aA ?_ ?_<;>intro h2
  ·have q:j<t.Z.length:=U
   have S:=Rz t ((aF t.vars).getD i []) i j;refine W ?_;refine aU rfl (YY (m.at Y) ((Y.bJ 1 rfl).row f) I g.1) ?_;rintro _ w' ⟨r,T,rfl,u,an⟩;refine aL ?_;clear an Y;intro Y;rw[gY]at u Y
   cases r with
   | false =>
    refine W ?_;refine⟨j+1,s1,⟨rfl,rfl,au⟩,aV,⟨U,?_⟩,U⟩;rw[KZ,pz,aH (fun h=>by have:=u.2 ⟨U,U,h⟩;cases this),fI]
    exact Y.tail
   | true =>
    have k:=(u.1 rfl).2.2;have x:=r6 I g.1 q;rw[aP rfl]at Y;refine W ?_;refine aU rfl (Rf (a:=a) (b:=T) (z.at Y) (bm Y) x I.pos U) ?_;rintro _ w' ⟨rfl,an⟩;refine aI ?_;clear an Y;intro Y;refine W ?_;refine jG aM (x1:=⟨i,j,cQ t.vars (cd t ((aF t.vars).getD i []) j)⟩) rfl rfl rfl (fX rfl) (fb _) Y ?_;clear Y;intro s2 w Y;refine lw ?_;intro s w Y;refine⟨j+1,_,⟨rfl,rfl,au⟩,aV,⟨U,?_⟩,U⟩;rw[KZ,pz,aP k,<-fG];exact Y.tail.tail
  have k:j=t.Z.length:=U;subst k;rw[<-RA]at Y;refine W ?_;exact⟨i+1,_,⟨rfl,rfl,au⟩,aV,⟨U,Y⟩,U⟩
 have f:i=(aF t.vars).length:=U;subst f;refine W ?_;exact bk (v:=s) rfl rfl ⟨s,rfl,Y.only⟩
end
section
open Go.Sl Go
attribute [local irreducible] vc opsW opsD opV opW PureV ReadV Thn Blk
def ja (t:aa)(i:Int):Prop:=bZ ((aF t.vars).getD i.toNat []) t.aG
inductive mH (w:World) (t:aa) (kv:Value) (cs:J):Prop
 | own:kv=nS->cs=am t->mH w t kv cs
 | new:(∃ p n k,kv=.slice (some p) n k)->RS O w kv cs->cs.length=t.Z.length->(∀ x∈cs,0<=x/\x<=1099511627776)->mH w t kv cs
def mH.ok {kv:Value}(h:mH w t kv cs)(I:aC t):cs.length=t.Z.length/\∀ x∈cs,0<=x/\x<=1099511627776:=by
 rcases h with ⟨h1,e⟩|⟨h1,e,g,j⟩
 ·subst e
  refine⟨by simp[am],fun x hx=>?_⟩;obtain⟨o,k,rfl⟩:=iQ.1 hx;obtain⟨i,f,rfl⟩:=fF k;have:=I.op i f;rw[al f]at this;have h1:=this.kI;have e:=this.nz;omega
 exact⟨g,j⟩
def AH (I:aC t)(h:cs.length=t.Z.length/\∀ x∈cs,0<=x/\x<=1099511627776):nD (ct t) cs (aF t.vars).length:=by
 have key:∀ e∈ct t,(0<=e.ba/\e.ba<(aF t.vars).length)/\(0<=e.dst/\e.dst<(aF t.vars).length)/\0<=e.cG/\e.cG<cs.length:=by
  intro e he;obtain⟨i,op,g,j,k,rfl⟩:=K0.1 he;have f:=r6 I (Eg I.pos g).1 j;have h1:=wK f;have l:=(Eh I.pos f).1;exact⟨⟨by simp only;omega,by simp only;omega⟩,⟨h1.1,by simp only;omega⟩,by simp only;omega,by simp only;omega⟩
 exact⟨fun e he=>(key e he).1,fun e he=>(key e he).2.1,fun e he=>(key e he).2.2,h.2⟩
def Zz {kv:Value}(ht:bz w0 a b c d vs t)(hk:mH w0 t kv cs)(I:aC t)(hB:cC t.vars<=65536) :
  Calls aj 15 #[.agg #[a,b,c,d],kv] w0 fun e w'=>∃ s D,e=.returned s/\cH (ct t) cs (ja t) (aF t.vars).length D/\M w0 w' [X O 3 s D]:=by
 have V:=ht;obtain⟨ha,hb,hc,hd⟩:=ht;have V':=hd.rs;have _a:=hd.len;have j':=I.Z;have hlen:(aF t.vars).length<=65536:=by rw[wL I.pos];omega
 have T:=AH I (hk.ok I);have _b:=(hk.ok I).1;have _c:(ct t).length<=65536*4096:=oD (Ry t _) (xQ hlen j');have H':(replicate (aF t.vars).length (0:Int)).length=(aF t.vars).length:=np;have Y:=M.start w0;refine bB ao Tryz.func15 ?_;refine eB ?_;intro pt w Y;refine aU rfl (KX (ha.at Y) I.pos I.vars hB) ?_;rintro _ w' ⟨sv,B,rfl,an⟩;replace Y:=Y.uQ an;clear an;have J':=Y.bP;refine⟨_,rfl,?_⟩;refine lw ?_;intro s w Y;obtain⟨C,rfl⟩:=À s;rw[J',gY,<-NI (ja t)]at Y;have F:∀ k,(dh (ja t) (aF t.vars).length k).length=(aF t.vars).length:=fun k=>NJ _ _ k;refine cN [7,8,22,37] (G:=Nat) (fun k=>[(22,E k)]) (fun k w=>k<=(aF t.vars).length/\M w0 w [X O 3 C (dh (ja t) (aF t.vars).length k),ai O 3 B (aF t.vars),X ar 22 sv B,ak pt 26 [a,b,c,d]]) (fun k=>(aF t.vars).length-k) 0 (fun _=>rfl) ⟨rfl,au⟩ ⟨br _,Y⟩ ?_;clear Y;rintro σ k w ⟨_d,Y⟩;have q:=F k;refine aA ?_ ?_<;>intro h1
 ·have o:k<(aF t.vars).length:=U
  refine eQ ?_;intro w Y;refine aU rfl (KL (a:=c) (hc.at Y) ((Y.bJ 1 rfl).row o)) ?_;rintro _ w' ⟨⟨r,rfl,g⟩,an⟩;refine aI ?_;clear an Y;intro Y;have f:ja t (k:Int)↔bZ ((aF t.vars).getD k []) t.aG:=by unfold ja;rw[gY]
  have j:((dh (ja t) (aF t.vars).length k).set k 1125899906842624).length=(aF t.vars).length:=by rw[gS,q]
  cases r
  ·refine W ?_
   rw[NL (G:=ja t) (k:=k) (fun h=>by have:=g.2 (f.1 h);cases this)]at Y;exact⟨k+1,⟨rfl,au⟩,aV,⟨U,Y⟩,U⟩
  refine eQ ?_;intro w Y;rw[NK (f.2 (g.1 rfl))]at Y;exact⟨k+1,⟨rfl,au⟩,aV,⟨U,Y⟩,U⟩
 have P':k=(aF t.vars).length:=U;subst P';rw[NM]at Y;clear q F H';refine W ?_;refine aU rfl (Zx (V.at Y) I hB) ?_;rintro _ w' ⟨es,rfl,an⟩;refine aL ?_;clear an Y;intro Y;replace Y:=Y.swap;refine W ?_;refine dN [10,10,12,13,40,93] (G:=Bool) (H:=J) (fun f _=>[(10,.bool f)]) (fun f D w=>ru (ct t) cs (ja t) (aF t.vars).length D/\(f=false->∀ e∈ct t,vN cs D e)/\M w0 w [X O 3 C D,X aM 41 es (ct t),ai O 3 B (aF t.vars),X ar 22 sv B,ak pt 26 [a,b,c,d]]) (fun f D=>2*fT D+(bif f then 1 else 0)) true _ (fun _ _=>rfl) ⟨rfl,au⟩ ⟨RB _ _ _ _,(fun h=>by cases h),Y⟩ ?_;clear Y;rintro _e f D w ⟨hD,K,Y⟩;cases f
 ·refine W ?_
  exact bk (v:=C) rfl rfl ⟨C,D,rfl,hD.bN T (K rfl),Y.only⟩
 clear K;refine W ?_;refine nE [10,10,12,13,43,93] (G:=Nat) (H:=Bool) (I':=J) (fun k f _=>[(43,E k),(10,.bool f)]) (fun k f g w=>k<=(ct t).length/\ru (ct t) cs (ja t) (aF t.vars).length g/\fT g<=fT D/\(f=true->fT g<fT D)/\(f=false->∀ i,i<k->vN cs g ((ct t).getD i aM.dflt))/\M w0 w [X O 3 C g,X aM 41 es (ct t),ai O 3 B (aF t.vars),X ar 22 sv B,ak pt 26 [a,b,c,d]]) (fun k _ _=>(ct t).length-k) 0 false D (fun _ _ _=>rfl) ⟨rfl,rfl,au⟩ ⟨br _,hD,cz _,(fun h=>by cases h),fun _ i N=>absurd N (dx _),Y⟩ ?_;clear Y;rintro _f k f g w ⟨_g,j,P,x,y,Y⟩;refine aA ?_ ?_<;>intro h3
 ·have o:k<(ct t).length:=U
  obtain⟨e1,e2,e3,e4⟩:=T.getD o;have Q:=cD aM.dflt o;have _h:=j.len;have r1:=j.dC ((ct t).getD k aM.dflt).dst.toNat U;rw[fZ e2.1]at r1;simp only[dg,gG]at r1 e4;have u:((ct t).getD k aM.dflt).cG.toNat<t.Z.length:=U;have R:=(hd.dK _ u).aO;refine eB ?_;intro p w Y;rcases hk with ⟨z,S⟩|⟨⟨pk,nk,ck,z⟩,S,_i,_j⟩
  ·have R':(az cp vs ((ct t).getD k aM.dflt).cG.toNat).aO=cs.getD ((ct t).getD k aM.dflt).cG.toNat O.dflt:=by rw[R,S,tC u]
   refine fi rfl (RC (a:=none) (n:=0) (c:=0) z) ?_;rw[R'];refine sC ?_ ?_<;>intro w Y A
   ·have l:=j.o0 T Q A.1 A.2
    simp only[dg,gG]at l;refine eQ ?_;intro w Y;exact⟨k+1,true,_,⟨rfl,rfl,au⟩,aV,⟨U,l.1,U,fun _=>U,(fun h=>by cases h),Y.tail⟩,U⟩
   refine W ?_;refine⟨k+1,f,g,⟨rfl,rfl,au⟩,aV,⟨U,j,P,x,fun m i N=>?_,Y.tail⟩,U⟩;by_cases e:i=k
   ·subst e
    intro T';have:bD<=dg g ((ct t).getD i aM.dflt).dst\/dg g ((ct t).getD i aM.dflt).ba<=dg g ((ct t).getD i aM.dflt).dst+gG cs ((ct t).getD i aM.dflt):=A;omega
   exact y m i U
  refine fi rfl (RC (a:=some pk) (n:=nk) (c:=ck) z) ?_;refine sC ?_ ?_<;>intro w Y A
  ·have l:=j.o0 T Q A.1 A.2
   simp only[dg,gG]at l;refine eQ ?_;intro w Y;exact⟨k+1,true,_,⟨rfl,rfl,au⟩,aV,⟨U,l.1,U,fun _=>U,(fun h=>by cases h),Y.tail⟩,U⟩
  refine W ?_;refine⟨k+1,f,g,⟨rfl,rfl,au⟩,aV,⟨U,j,P,x,fun m i N=>?_,Y.tail⟩,U⟩;by_cases e:i=k
  ·subst e
   intro T';have:bD<=dg g ((ct t).getD i aM.dflt).dst\/dg g ((ct t).getD i aM.dflt).ba<=dg g ((ct t).getD i aM.dflt).dst+gG cs ((ct t).getD i aM.dflt):=A;omega
  exact y m i U
 refine W ?_;refine⟨f,g,⟨rfl,au⟩,aV,⟨j,fun m e he=>?_,Y⟩,?_⟩
 ·obtain⟨i,N,rfl⟩:=fF he
  have:=y m i U
  rwa[al N]at this
 cases f
 ·simp only[cond_true,cond_false];omega
 have:=x rfl;simp only[cond_true];omega
end
section
open Go.Sl Go
def fx (t:aa)(L:J)(i:Int):Prop:=(ep t L (bp t.vars L).toNat).getD i.toNat ah.dflt=true
def ZA {i:Int}(e:0<=i)(h1:i<bp t.vars L):fx t L i↔uW t L i:=by
 unfold fx;rw[<-K1,show (ep t L (bp t.vars L).toNat).getD i.toNat ah.dflt=mD t L (i.toNat:Int) from RD U,fZ e]
def E7 (h:cs.length=t.Z.length/\∀ x∈cs,0<=x/\x<=1099511627776):nD (bM t L) cs (bp t.vars L).toNat:=by
 have key:∀ e∈bM t L,(0<=e.ba/\e.ba<(bp t.vars L).toNat)/\(0<=e.dst/\e.dst<(bp t.vars L).toNat)/\0<=e.cG/\e.cG<cs.length:=by
  intro e he;obtain⟨x,op,y,hx,f,g,j,rfl⟩:=FN.1 he;exact⟨⟨by simp only;omega,by simp only;omega⟩,⟨by simp only;omega,by simp only;omega⟩,by simp only;omega,by simp only;omega⟩
 exact⟨fun e he=>(key e he).1,fun e he=>(key e he).2.1,fun e he=>(key e he).2.2,h.2⟩
def RE (I:aC t)(f:jr t.vars L){op:Nat}(e:ab t.vars s)(g:op<t.Z.length)(j:iT t s op):(⟨bU t.vars L s,op,bU t.vars L (cd t s op)⟩:cS)∈bM t L :=
 FN.2 ⟨_,op,_,oz e f.mem,g,oz (r6 I e g) f.mem,⟨s,e,rfl,j,rfl⟩,rfl⟩
def ZB (g:jr t.vars L)(e:ab t.vars s)(h:bZ s t.aG):fx t L (bU t.vars L s):=by
 have f:=oz e g.mem;rw[ZA f.1 f.2];exact⟨s,e,rfl,wM.2 fun x hx=>wM.1 h x (rP.1 hx).1⟩
end
section
open Go.Sl Go
attribute [local irreducible] vc opsW opsD opV opW PureV ReadV Thn Blk
def K2 {vars:J}(j:∀ x∈vars,1<=x):∀ (m:Nat) (q:J),m<=vars.length->jr vars q->(∀ v∈q,v<m)->bp vars q<=cC (vars.take m)
 | 0,q,_,hq,hm=>by
  cases q with
  | nil=>simp[bp,fO,cC]
  | cons v q=>have:=hm v sm;have:=(hq.mem v sm).1;omega
 | m+1,q,B,hq,hm=>by
  have f:m<vars.length:=U;have hx:1<=vars.getD m O.dflt:=j _ (cD _ f);have o:1<=cC (vars.take m):=Ag fun x hx=>j x (pU hx);rw[eD O.dflt f,Ah];rcases eq_nil_or_concat q with rfl|⟨l,v,rfl⟩
  ·have:bp vars []=1:=rfl
   have:=zP o hx U U;omega
  simp only[concat_eq_append]at hq hm ⊢;obtain⟨k,⟨r,y⟩,z⟩:=hq.cE;have g:∀ u∈l,u<v:=fun u hu=>(Cp.1 hq.Ei).2.2 u hu v sm;have A:=hm v sm;by_cases e:v=m
  ·subst e
   have n:=K2 j m l U k fun u hu=>g u hu;rw[JN,uX];exact yt n U
  have n:=K2 j m (l++[v]) U hq fun u hu=>by
   rcases gK.1 hu with h|h
   ·have:=g u h;omega
   rw[dp.1 h];omega
  have C:cC (vars.take m)*1<=cC (vars.take m)*vars.getD m O.dflt:=Gl hx U;omega
def HA {vars q:J}(e:∀ x∈vars,1<=x)(hq:jr vars q):bp vars q<=cC vars:=by
 have:=K2 e vars.length q (cz _) hq fun v hv=>(hq.mem v hv).2
 rwa[lL]at this
def Fa {p:J}(e:∀ x∈t.vars,1<=x)(h:cC t.vars<=4096):¬rL t p:=fun⟨op,_,f⟩=>by
 have:=HA e (Ej t.vars (jJ t op) p);unfold jN at f;omega
instance (vars s:J):Decidable (ab vars s):=by unfold ab;infer_instance
instance (vars:J) (x:bo):Decidable (bH vars x):=by unfold bH;infer_instance
instance (vars:J) (f:List bo):Decidable (dj vars f):=by unfold dj;infer_instance
end
end Go.Proofs.YtmapkjoefdgjfaaGreatDoor
