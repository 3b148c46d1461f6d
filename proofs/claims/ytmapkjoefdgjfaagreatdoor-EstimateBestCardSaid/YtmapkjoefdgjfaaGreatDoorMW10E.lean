/- Several texts. -/
import Derived.Test.YtmapkjoefdgjfaaGreatDoorMW9E
set_option linter.unusedSimpArgs false
set_option linter.unusedVariables false
set_option linter.defProp false
set_option maxRecDepth 8000
set_option maxHeartbeats 16000000
open List Nat
namespace Go.Proofs.YtmapkjoefdgjfaaGreatDoor
open Go.Sl
variable {t:aa}{w0:World}{a b c d h:Value}{H:J->Int}{s L:J}{p:Addr}{vs:List iW}{i:Nat}
section
open Go.Sl Go
attribute [local irreducible] vc opsW opsD opV opW PureV ReadV Thn Blk
instance FG:nB ai 89 "Value" 260 := ⟨kr⟩
instance FH:nB ai 86 "Value" 257 := ⟨kr⟩
def fB (w:World)(h:Value)(t:aa)(H:J->Int):Prop :=
 ∃ (T:Nat) (v u:Value) (f:Nat),h=.iface T v/\np ai T v "Value" f u /\ ao ai f /\ ∀ (g : World) (k : List HP) (j : Value) (s : J), Z w g k -> RS W g j s -> ab t.vars s ->
  Calls ai f #[u,j] g fun e l=>e=.returned (E (H s))/\Z g l []
def fB.at {w:World}{Γ:List HP}(k:fB w0 h t H)(Y:Z w0 w Γ):fB w h t H:=by
 obtain⟨T,v,u,f,h1,e,g,j⟩:=k;exact⟨T,v,u,f,h1,e,g,fun l m n s o=>j l (m++Γ) n s (Y.call o)⟩
def bK (w:World)(p:Addr)(t:aa)(H:J->Int):Prop:=∃ a b c d h vs,dL w p [a,b,c,d,h]/\bn w a b c d vs t/\fB w h t H
def bK.at {w0 w:World}{Γ:List HP}{p:Addr}{t:aa}{H:J->Int}(k:bK w0 p t H)(Y:Z w0 w Γ):bK w p t H:=by
 obtain⟨a,b,c,d,h,vs,h1,e,f⟩:=k;exact⟨a,b,c,d,h,vs,h1.at Y,e.at Y,f.at Y⟩
open Classical in
noncomputable def gD (t:aa)(H:J->Int)(s:J):Int:=if ab t.vars s then H s else bH
def wM {sv:Value}(he:bK w0 p t H)(j:RS W w0 sv s) :
  Calls ai 12 #[.pointer (some p),sv] w0 fun e w'=>e=.returned (E (gD t H s))/\Z w0 w' []:=by
 obtain⟨a,b,c,d,h,vs,h1,l,m⟩:=he;have n:=l.vars;have Y:=Z.start w0;refine bA an Tryz.func12 ?_;refine O ?_;refine aL rfl (xR (n.at Y) (j.at Y)) ?_;rintro _ w' ⟨⟨r,rfl,k⟩,al⟩;refine aA ?_;clear al Y;intro Y;cases r
 ·have g:gD t H s=bH:=aC fun h=>(by cases k.2 h)
  refine O ?_;exact bf (v:=E 1125899906842624) rfl rfl ⟨by rw[g],Y⟩
 have bL:=k.1 rfl;have g:gD t H s=H s:=aM bL;obtain⟨T,v,u,f,rfl,m1,m2,m3⟩:=m.at Y;refine O ?_;refine ZO m1 m2 rfl rfl (m3 _ [] sv s (Z.start _) (j.at Y) bL) ?_;rintro _ w' ⟨rfl,al⟩;refine aA ?_;clear al Y;intro Y;refine O ?_;exact bf (v:=E (H s)) rfl rfl ⟨by rw[g],Y⟩
def yP {u:aa}(he:bK w0 p u H)(f:bn w0 a b c d vs t) :
  Calls ai 17 #[.pointer (some p),.agg #[a,b,c,d]] w0 fun e w'=>(∃ r,e=.returned (.bool r)/\(r=true↔u=t))/\Z w0 w' []:=by
 obtain⟨a2,g,c2,d2,h,us,h1,j,m⟩:=he;have Y:=Z.start w0;refine bA an Tryz.func17 ?_;refine db ?_;intro p w Y;refine fz (pl [0,1,2,3,4,5,6,7,8,9,10] []) Y kr ?_;clear Y;intro w Y;refine O ?_;refine qX rfl (ym (k:=0) (n:=4) (vs:=[a2,g,c2,d2]) rfl (h1.at Y) rfl rfl) ?_;refine O ?_;refine aL rfl (RC (j.at Y) (f.at Y)) ?_;rintro _ w' ⟨⟨r,rfl,l⟩,al⟩;refine aA ?_;clear al Y;intro Y;refine O ?_;exact bf (v:=.bool r) rfl rfl ⟨⟨r,rfl,l⟩,Y.aY⟩
def jX (t:aa)(k:Nat):Int:=(t.M.take k).foldl (fun m o=>min m o.aN) bH
def gj (t:aa):Int:=jX t t.M.length
def bP (t:aa)(s:J):Int:=if cp s t.aH then 0 else gj t
def UO {gv sv:Value}{g:List bp}{n:Int}(I:RS aq w0 gv g)(j:RS W w0 sv s) :
  Calls ai 260 #[.agg #[gv,E n],sv] w0 fun e w'=>e=.returned (E (if cp s g then 0 else n))/\Z w0 w' []:=by
 have Y:=Z.start w0;refine bA an Tryz.func260 ?_;refine eE ?_;intro p w Y;refine aL rfl (Rr (I.at Y) (j.at Y)) ?_;rintro _ w' ⟨⟨r,rfl,f⟩,al⟩;refine aA ?_;clear al Y;intro Y;cases r
 ·have k:¬cp s g:=fun h=>by have:=f.2 h;cases this
  rw[aC k];refine O ?_;exact bf (v:=E n) rfl rfl ⟨rfl,Y.aY⟩
 rw[aM (f.1 rfl)];refine O ?_;exact bf (v:=E 0) rfl rfl ⟨rfl,Y.aY⟩
def xO (o:bn w0 a b c d vs t)(I:aG t)(l:∃ T v,h=.iface T v) :
  Calls ai 37 #[.agg #[a,b,c,d],h,.nilIface] w0 fun e w'=>∃ p,e=.returned (.tuple #[.pointer (some p),.nilIface])/\Z w0 w' [aZ fun w=>fB w h t H->bK w p t H]:=by
 obtain⟨T,v,rfl⟩:=l;have Y:=Z.start w0;refine bA an Tryz.func37 ?_;refine eE ?_;intro p w Y;refine aL rfl (Dm (o.at Y) I) ?_;rintro _ w' ⟨a2,g,c2,d2,j,rfl,al⟩;refine aI ?_;clear al Y;intro Y;have f:=Y.ct 0 rfl;have q:=f.vars.et;have r:=f.cC.et;have u:=f.aH.et;have x:=f.M.rs.et;refine O ?_;refine rW (vs:=[(0,.agg #[a2,g,c2,d2]),(1,.iface T v)]) (ls:=[(0,[a2,g,c2,d2]),(1,[.iface T v])]) rfl rfl rfl ?_;refine yo (vs:=[a2,g,c2,d2,.iface T v]) rfl Y ?_;clear Y;intro k w Y;refine O ?_;have m:Z w0 w [aZ fun w=>fB w (.iface T v) t H->bK w k t H]:=by
  have n:Z w0 w [ak k 69 [a2,g,c2,d2,.iface T v],aZ fun w=>bn w a2 g c2 d2 j t,ak p 26 (Value.agg #[a,b,c,d]).cells.toList]:=Y;exact(Z.rd (Δ:=[ak k 69 [a2,g,c2,d2,.iface T v],aZ fun w=>bn w a2 g c2 d2 j t]) (φ:=fun w=>fB w (.iface T v) t H->bK w k t H) (fun _ w h l=>⟨a2,g,c2,d2,.iface T v,j,h.gn 0 rfl,h.ct 1 rfl,l⟩) n).aY
 exact cR (v:=.pointer (some k)) (v':=.nilIface) rfl rfl rfl ⟨k,rfl,m⟩
open Classical in
noncomputable def sJ (t:aa)(M':Int)(s:J):Int:=(tW t M').getD (oo s (rk t M')).toNat W.dflt
def ZP {w:World}{M':Int}(h:vM w p t (rk t M') (tW t M'))(f:AD t (rk t M') (tW t M')):fB w (.iface 111 (.pointer (some p))) t (sJ t M') :=
 ⟨_,_,_,_,rfl,HH _,inferInstance,fun _ _ _ s Y e bL=>ZQ (h.at Y) f.1 (f.2 s bL) e bL⟩
def ZR {v:Value}{T:Nat} :
  Calls ai 37 #[.agg #[a,b,c,d],h,.iface T v] w0 fun e w'=>e=.returned (.tuple #[.pointer none,.iface T v])/\Z w0 w' []:=by
 have Y:=Z.start w0;refine bA an Tryz.func37 ?_;refine eE ?_;intro p w Y;exact cR (v:=.pointer none) (v':=.iface T v) rfl rfl rfl ⟨rfl,gm Y⟩
def ZU {M':Int}(m:bn w0 a b c d vs t)(I:aG t)(r:lR w0) :
  Calls ai 32 #[.agg #[a,b,c,d],E M'] w0 fun e w'=>(eM t M'≠0/\e=.returned (.tuple #[.pointer none,bI (eM t M')])/\Z w0 w' [])\/(eM t M'=0/\∃ p,e=.returned (.tuple #[.pointer (some p),.nilIface])/\Z w0 w' [aZ fun w=>bK w p t (sJ t M')]):=by
 have u:=I.vars;have Y:=Z.start w0;refine bA an Tryz.func32 ?_;have x:=m.1;refine db ?_;intro q w Y;have Y:Z w0 w [ak q 26 [a,b,c,d]]:=Y;refine dQ [6,7,13,20] (G:=Nat) (H:=Value) (fun k f=>[(13,E k),(6,f)]) (fun k f w=>k<=t.vars.length/\Z w0 w [X W 3 f (c9 k),ak q 26 [a,b,c,d]]) (fun k _=>t.vars.length-k) 0 (nS) (fun _ _=>rfl) ⟨rfl,rfl,az⟩ ⟨bu _,Y.nil⟩ ?_;clear Y;rintro _ k f w ⟨hk,Y⟩;refine aB ?_ ?_<;>intro g1
 ·have g:k<t.vars.length:=U
  have j:(c9 k).length<=64:=by rw[Ct];omega
  repeat (first|refine du ?_|(refine fA ?_;clear Y;intro s w Y))
  rw[<-RM]at Y;exact⟨k+1,s,⟨rfl,rfl,az⟩,aU,⟨U,Y.aY⟩,U⟩
 have g:k=t.vars.length:=U;subst g;refine O ?_;refine aL rfl (Wi (M':=M') (r.at Y) I (m.at Y) (bk (s:=f) Y)) ?_;rintro _ w' j;rcases j with ⟨l,rfl,al⟩|⟨l,y,pm,rfl,al⟩
 ·refine aA ?_;clear al Y;intro Y
  rw[cS l];refine O ?_;refine aL rfl ZR ?_;refine jT ?_;intro w' Y;exact cR (v:=.pointer none) (v':=.iface 57 (E (eM t M'))) rfl rfl rfl (.inl ⟨l,rfl,Y.aY⟩)
 refine aI ?_;clear al Y;intro Y;refine O ?_;refine aL rfl (xO (h:=.iface 111 (.pointer (some pm))) (H:=sJ t M') (m.at Y) I ⟨_,_,rfl⟩) ?_;rintro _ w' ⟨n,rfl,al⟩;refine aI ?_;clear al Y;intro Y;refine O ?_;have o:=Z.rd (Δ:=[_,_]) (φ:=fun w=>bK w n t (sJ t M')) (fun _ w h=>(h.ct 0 rfl) (ZP (h.ct 1 rfl) y)) Y;exact cR (v:=.pointer (some n)) (v':=.nilIface) rfl rfl rfl (.inr ⟨l,n,rfl,o.aY⟩)
end
section
open Go.Sl
attribute [local irreducible] vc opsW opsD opV opW PureV ReadV Thn Blk
def j6 (l:List J)(k:Int)(i:Nat):List J:=jc (l.take i) k
def pC (s:J)(x:Nat):List J:=(List.range x).map fun (x:Nat)=>s++[(x:Int)]
def ZV {l:List J}{k:Int}(hi:i<l.length):j6 l k (i+1)=j6 l k i++pC (l.getD i []) k.toNat:=by
 unfold j6 jc pC;rw[eC [] hi];simp
def ZW (l:List J)(k:Int):j6 l k l.length=jc l k:=by unfold j6;rw[kV]
def ZX (s:J)(x:Nat):pC s (x+1)=pC s x++[s++[(x:Int)]]:=by simp[pC,l5]
def ZY {vars:J}(hi:i<(ba vars).length):((ba vars).getD i []).length=vars.length:=(HK.1 (cH [] hi)).1
def ZZ {n k:Nat}{p:Int}(h:i<n)(f:((n:Int)*k)<=p):(i:Int)*k+k<=p:=by
 have h1:(i+1)*k<=n*k:=uL k h;rw[zO]at h1;have e:((i*k+k:Nat):Int)<=((n*k:Nat):Int):=by exact_mod_cast h1
 simp only[Ci,Ki]at e;omega
def Z0 {vars:J}(ha:RS W w0 a vars)(q:∀ x∈vars,1<=x)(hn:vars.length<=64)(hB:bY vars<=65536) :
  Calls ai 11 #[a] w0 fun e w'=>∃ s ss,e=.returned s/\Z w0 w' [aj W 3 ss (ba vars),X ap 22 s ss]:=by
 have J':=ha.bU;have Y:=Z.start w0;refine bA an Tryz.func11 ?_;refine O ?_;refine A8 W Y ?_;clear Y;intro s w Y;refine l7 ?_;intro s w Y;replace Y:=(Y.swap.qK (T:=W) (e:=3)).swap.j1;refine nZ [3,3,5,6,8,9,14,40] (G:=Nat) (H:=Value) (I':=List Value) (fun k s _=>[(14,E k),(3,s)]) (fun k s ss w=>k<=vars.length/\Z w0 w [aj W 3 ss (ba (vars.take k)),X ap 22 s ss]) (fun k _ _=>vars.length-k) 0 _ _ (fun _ _ _=>rfl) ⟨rfl,rfl,az⟩ ⟨bu _,Y⟩ ?_;clear Y;rintro σ k s ss w ⟨hk,Y⟩;refine aB ?_ ?_<;>intro h1
 ·have j:k<vars.length:=U
  have l:∀ x∈vars.take k,1<=x:=fun x hx=>q x (pO hx);have F:=q _ (cH W.dflt j);have K:ba (vars.take (k+1))=jc (ba (vars.take k)) (vars.getD k W.dflt):=by rw[eC W.dflt j,Li]
  have N:((ba (vars.take k)).length:Int)*(vars.getD k W.dflt).toNat<=65536:=by
   have r:=DI q (k+1);rw[eC W.dflt j,yz]at r;have P:=yy l;rw[Aq l,gA U,gA U];omega
  have Q:((ba (vars.take k)).length:Int)<=65536:=by
   have r:=DI q k;rw[Aq l];omega
  have hV:vars.getD k W.dflt<=65536:=by
   have r:=DI q (k+1);rw[eC W.dflt j,yz]at r;have P:=yy l;have f:1*vars.getD k W.dflt<=bY (vars.take k)*vars.getD k W.dflt:=xV P U;omega
  obtain⟨V,u⟩:=À (vars.getD k W.dflt);obtain⟨L,y⟩:=À (ba (vars.take k));have z:∀ i,i<L.length->(L.getD i []).length<=64:=fun i hi=>by
   subst y;rw[ZY hi,jd];omega
  have R:ss.length=(ba (vars.take k)).length:=Y.cb;rw[<-y]at K N Q Y R;rw[<-u]at K N hV F;refine O ?_;have D:=Y;have A:RS ap w s ss:=bk D;have S:=ha.at Y;obtain⟨w1,m⟩:=À w;rw[<-m]at D A S;replace Y:=Z.start w;rw[<-m]at Y;rw[<-u];refine nZ [6,6,8,9,20,38] (G:=Nat) (H:=Value) (I':=List Value) (fun i s _=>[(20,E i),(6,s)]) (fun i B f w=>i<=L.length/\f.length=i*V.toNat/\Z w1 w [aj W 3 f (j6 L V i),X ap 22 B f]) (fun i _ _=>L.length-i) 0 _ [] (fun _ _ _=>rfl) ⟨rfl,rfl,az⟩ ⟨bu _,sm,m ▸ Y.nil.qK⟩ ?_;clear Y m;rintro P' i B f w ⟨hi,g,Y⟩;refine aB ?_ ?_<;>intro r
  ·have n:i<L.length:=U
   have hr:=D.row n;have R':=z i n;have hmul:=ZZ n N;have o:(f.length:Int)=(i:Int)*V.toNat:=by rw[g];simp
   refine O ?_;refine nZ [6,6,9,9,25,37] (G:=Nat) (H:=Value) (I':=List Value) (fun x s _=>[(25,E x),(6,s)]) (fun x B f w=>x<=V.toNat/\f.length=i*V.toNat+x/\Z w1 w [aj W 3 f (j6 L V i++pC (L.getD i []) x),X ap 22 B f]) (fun x _ _=>V.toNat-x) 0 B f (fun _ _ _=>rfl) ⟨rfl,rfl,az⟩ ⟨bu _,g,by simpa [pC] using Y⟩ ?_;clear Y g o;rintro T' x s2 C w ⟨hx,j',Y⟩;have V':(C.length:Int)=(i:Int)*V.toNat+x:=by rw[j'];simp
   refine aB ?_ ?_<;>intro P
   ·refine O ?_
    refine A8 W Y ?_;clear Y;intro e1 w Y
    repeat (first|refine du ?_|(refine fA ?_;clear Y;intro s w Y))
    replace Y:=Y.tail.tail.j1;rw[kL,fL,<-ZX]at Y;exact⟨x+1,_,_,⟨rfl,rfl,az⟩,aU,⟨U,by simp;omega,Y⟩,U⟩
   have H':x=V.toNat:=U;subst H';rw[<-ZV n]at Y;refine O ?_;exact⟨i+1,_,C,⟨rfl,rfl,az⟩,aU,⟨U,by rw[zO];omega,Y⟩,U⟩
  have n:i=L.length:=U;subst n;rw[ZW,<-K]at Y;refine O ?_;exact⟨k+1,_,f,⟨rfl,rfl,az⟩,aU,⟨U,(D.call Y).comm.tail.tail⟩,U⟩
 rw[gH U]at Y;refine O ?_;exact bf (v:=s) rfl rfl ⟨s,ss,rfl,Y⟩
end
section
open Go.Sl Go
attribute [local irreducible] vc opsW opsD opV opW PureV ReadV Thn Blk

end
section
open Go.Sl Go
def fq (t:aa)(L:J)(i:Int):Prop:=(eu t L (br t.vars L).toNat).getD i.toNat ah.dflt=true
def Z1 {i:Int}(e:0<=i)(h1:i<br t.vars L):fq t L i↔u7 t L i:=by
 unfold fq;rw[<-Lj,show (eu t L (br t.vars L).toNat).getD i.toNat ah.dflt=mD t L (i.toNat:Int) from RN U,gA e]
def Fj {cs:J}(h:cs.length=t.M.length/\∀ x∈cs,0<=x/\x<=1099511627776):oD (bS t L) cs (br t.vars L).toNat:=by
 have key:∀ e∈bS t L,(0<=e.bh/\e.bh<(br t.vars L).toNat)/\(0<=e.dst/\e.dst<(br t.vars L).toNat)/\0<=e.cK/\e.cK<cs.length:=by
  intro e he;obtain⟨x,op,y,hx,f,g,j,rfl⟩:=FZ.1 he;exact⟨⟨by simp only;omega,by simp only;omega⟩,⟨by simp only;omega,by simp only;omega⟩,by simp only;omega,by simp only;omega⟩
 exact⟨fun e he=>(key e he).1,fun e he=>(key e he).2.1,fun e he=>(key e he).2.2,h.2⟩
def RO (I:aG t)(f:jp t.vars L){op:Nat}(e:ab t.vars s)(g:op<t.M.length)(j:jU t s op):(⟨bX t.vars L s,op,bX t.vars L (cB t s op)⟩:de)∈bS t L :=
 FZ.2 ⟨_,op,_,oF e f.mem,g,oF (uR I e g) f.mem,⟨s,e,rfl,j,rfl⟩,rfl⟩
def Z2 (g:jp t.vars L)(e:ab t.vars s)(h:cp s t.aH):fq t L (bX t.vars L s):=by
 have f:=oF e g.mem;rw[Z1 f.1 f.2];exact⟨s,e,rfl,wN.2 fun x hx=>wN.1 h x (rV.1 hx).1⟩
end
section
open Go.Sl Go
attribute [local irreducible] vc opsW opsD opV opW PureV ReadV Thn Blk
def Lk {vars:J}(j:∀ x∈vars,1<=x):∀ (m:Nat) (q:J),m<=vars.length->jp vars q->(∀ v∈q,v<m)->br vars q<=bY (vars.take m)
 | 0,q,_,hq,hm=>by
  cases q with
  | nil=>simp[br,fQ,bY]
  | cons v q=>have:=hm v sm;have:=(hq.mem v sm).1;omega
 | m+1,q,B,hq,hm=>by
  have f:m<vars.length:=U;have hx:1<=vars.getD m W.dflt:=j _ (cH _ f);have o:1<=bY (vars.take m):=yy fun x hx=>j x (pO hx);rw[eC W.dflt f,yz];rcases eq_nil_or_concat q with rfl|⟨l,v,rfl⟩
  ·have:br vars []=1:=rfl
   have:=yx o hx U U;omega
  simp only[concat_eq_append]at hq hm ⊢;obtain⟨k,⟨r,y⟩,z⟩:=hq.cC;have g:∀ u∈l,u<v:=fun u hu=>(CA.1 hq.Er).2.2 u hu v sm;have A:=hm v sm;by_cases e:v=m
  ·subst e
   have n:=Lk j m l U k fun u hu=>g u hu;rw[Ka,u9];exact xV n U
  have n:=Lk j m (l++[v]) U hq fun u hu=>by
   rcases gG.1 hu with h|h
   ·have:=g u h;omega
   rw[dp.1 h];omega
  have C:bY (vars.take m)*1<=bY (vars.take m)*vars.getD m W.dflt:=GB hx U;omega
def HL {vars q:J}(e:∀ x∈vars,1<=x)(hq:jp vars q):br vars q<=bY vars:=by
 have:=Lk e vars.length q (cD _) hq fun v hv=>(hq.mem v hv).2
 rwa[kV]at this
def Fm {p:J}(e:∀ x∈t.vars,1<=x)(h:bY t.vars<=4096):¬rR t p:=fun⟨op,_,f⟩=>by
 have:=HL e (Es t.vars (jH t op) p);unfold jM at f;omega
instance (vars s:J):Decidable (ab vars s):=by unfold ab;infer_instance
instance (vars:J) (x:bp):Decidable (bN vars x):=by unfold bN;infer_instance
instance (vars:J) (f:List bp):Decidable (dm vars f):=by unfold dm;infer_instance
end
end Go.Proofs.YtmapkjoefdgjfaaGreatDoor
