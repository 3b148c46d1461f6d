/- Several texts. -/
import Derived.Test.YtmapkjoefdgjfaaGreatDoorMW16H
set_option linter.unusedSimpArgs false
set_option linter.unusedVariables false
set_option linter.defProp false
set_option maxRecDepth 8000
set_option maxHeartbeats 16000000
open List Nat
namespace Go.Proofs.YtmapkjoefdgjfaaGreatDoor
open Go.Sl
variable {w0 w:World}{t:aa}{Γ:List HP}{h a:Value}{xs:List cV}{L c s cs D b:J}{i j n k:Nat}{q p:Addr}{Ls A z:List J}{C:Int}
section
open Go.Sl Go
def XE (I:aJ t){y q:J}{d:Int}(f:mg t y q d):dC t y<bZ/\dC t y<=d:=by
 refine⟨?_,XF I f⟩;have e:bZ=1125899906842624:=rfl
 induction f with
 | aF m=>rw[KD I m];omega
 | @step y op q d g o _ r =>
  by_cases l:aj t.vars y
  ·have g1:=HI I l g o
   have g2:=PX I _ r;have g3:=x6 I g;omega
  rw[Cm l];omega
def PY {op:Nat}(d:op<t.M.length):gH t<=oF t op:=by
 have key:∀ k,k<=t.M.length->op<k->kX t k<=oF t op:=by
  intro k
  induction k with
  | zero=>omega
  | succ k f =>
   intro h1 g;rw[KC U];by_cases e:op=k
   ·subst e;exact Int.min_le_right _ _
   omega
 exact key _ (cP _) d
def XG (I:aJ t){y q:J}{d:Int}(f:mg t y q d):cX t y<bZ/\cX t y<=d:=by
 have e:bZ=1125899906842624:=rfl;have l:=f.nn I;unfold cX;split
 ·omega
 rename_i m
 cases f with
 | aF o=>grind
 | step g r f =>
  have h1:=PY g;have u:=x6 I g;have v:=f.nn I;omega
def XH (I:aJ t):vw t (cX t):=fun s op _ d _=>by
 have h1:=PY d;have e:=x6 I d;have f:=(PZ I).nn (cD t s op);have g:cX t s=0\/cX t s=gH t:=by
  unfold cX;split
  ·omega
  omega
 omega
end
section
open Go.Sl
attribute [local irreducible] vc opsW opsD opV opW PureV ReadV Thn Blk
def EV {ii:Int}(hx:RS aK w0 h xs)(d:ii=i)(f:C=j)(hi:i<xs.length)(g:j<xs.length) :
  Calls ak 333 #[h,E ii,E C] w0 fun e w'=>e=.returned (.bool (iA (I aK.dflt xs i) (I aK.dflt xs j)))/\Z w0 w' []:=by
 subst d f;have Y:=Z.start w0;refine bI ar Tryz.func333 ?_;refine dD ?_;intro w Y;exact bo (v:=.bool (iA (I aK.dflt xs i) (I aK.dflt xs j))) rfl rfl ⟨rfl,Y⟩
def EW {ii:Int}(d:ii=i)(f:C=j)(hi:i<xs.length)(g:j<xs.length)(Y:Z w0 w (X aK 239 h xs::Γ)) :
  Calls ak 336 #[h,E ii,E C] w fun e w'=>e=.returned (.tuple #[])/\Z w0 w' (X aK 239 h (sw aK.dflt xs i j)::Γ):=by
 subst d f;refine bI ar Tryz.func336 ?_;refine dD ?_;intro w Y;refine vW (s:=h) (j:=i) (x':=I aK.dflt xs j) rfl rfl rfl rfl Y inferInstance U ?_;clear Y;intro w Y;have l:(xs.set i (I aK.dflt xs j)).length=xs.length:=sm;refine O ?_;refine vW (s:=h) (j:=j) (x':=I aK.dflt xs i) rfl rfl rfl rfl Y inferInstance U ?_;clear Y;intro w Y;refine O ?_;exact uK rfl ⟨rfl,Y⟩
def XI {v:cV}(f:xs.length<1048576)(Y:Z w0 w (X aK 239 h xs::am q 236 [h]::Γ)) :
  Calls ak 335 #[.pointer (some q),.iface 239 (.agg #[E v.cr,E v.aY])] w fun e w'=>e=.returned (.tuple #[])/\∃ d,Z w0 w' (X aK 239 d (xs++[v])::am q 236 [d]::Γ):=by
 refine bI ar Tryz.func335 ?_;refine dj ?_;intro p w Y;refine gi (pl [0,1,2,3,4,5] (.cY 3::pl [6,7,8] [])) Y kr ?_;clear Y;intro w Y;refine O ?_;refine jA aK (x1:=v) rfl rfl rfl (fP rfl) (fg _) Y ?_;clear Y;intro s w Y;refine qJ ?_;intro s w Y;exact uK rfl ⟨rfl,_,Y.tail.tail⟩
def XJ (f:0<xs.length)(g:xs.length<=1048576)(Y:Z w0 w (X aK 239 h xs::am q 236 [h]::Γ)) :
  Calls ak 334 #[.pointer (some q)] w fun e w'=>e=.returned (.iface 239 ((.agg #[E (I aK.dflt xs (xs.length-1)).cr,E (I aK.dflt xs (xs.length-1)).aY])))/\∃ d,Z w0 w' (X aK 239 d (xs.take (xs.length-1))::am q 236 [d]::Γ):=by
 refine bI ar Tryz.func334 ?_;refine ep ?_;intro p w Y;have hk:(((xs.length:Nat):Int)-1).toNat=xs.length-1:=U;replace Y:=Z.sub (s:=h) (xs:=xs) Y inferInstance 0 (((xs.length:Nat):Int)-1).toNat U U;refine dD ?_;intro w Y;refine bo (v:=.iface 239 ((.agg #[E (I aK.dflt xs (((xs.length:Nat):Int)-1).toNat).cr,E (I aK.dflt xs (((xs.length:Nat):Int)-1).toNat).aY]))) rfl rfl ⟨by rw[hk],ssub h aK.sz 0 (((xs.length:Nat):Int)-1).toNat,?_⟩;have d:cut xs 0 (((xs.length:Nat):Int)-1).toNat=xs.take (xs.length-1):=by rw[hk];simp[cut]
 rw[d]at Y;exact Y.tail
def KE (hx:RS aK w0 h xs) :
  Calls ak 143 #[h] w0 fun e w'=>e=.returned (E xs.length)/\Z w0 w' []:=by
 have Y:=Z.start w0;refine bI ar Tryz.func143 ?_;refine O ?_;exact bo (v:=E xs.length) rfl rfl ⟨rfl,Y⟩
def XK (o:C=j)(U':zt aK.dflt iA xs j)(v:xs.length<=1048576)(Y:Z w0 w (X aK 239 h xs::am q 236 [h]::Γ)) :
  Calls ak 166 #[.iface 234 (.pointer (some q)),E C] w fun e w'=>e=.returned (.tuple #[])/\∃ ys,dz aK.dflt iA ys/\ys.Perm xs/\Z w0 w' (X aK 239 h ys::am q 236 [h]::Γ):=by
 subst o;refine bI ar Tryz.func166 ?_;refine O ?_;refine dP [1,1,4,22] (G:=Nat) (H:=List cV) (fun j ys=>[(1,E j)]) (fun j ys w=>zt aK.dflt iA ys j/\ys.Perm xs/\Z w0 w (X aK 239 h ys::am q 236 [h]::Γ)) (fun j ys=>j) j xs (fun _ _=>rfl) ⟨rfl,az⟩ ⟨U',.refl _,Y⟩ ?_;clear Y U';rintro x j ys w ⟨U',l,Y⟩;have f:=U'.KF;have r:=l.length_eq;refine O ?_;simp only[P0];by_cases g:(j-1) / 2=j
 ·have d:decide ((((j-1) / 2:Nat):Int)=(j:Int))=true:=dH U
  simp only[d];refine O ?_;exact uK rfl ⟨rfl,ys,U'.done (.inl g),l,Y⟩
 have d:decide ((((j-1) / 2:Nat):Int)=(j:Int))=false:=dB U;simp only[d,xm];refine O ?_;refine qC (u:=h) rfl rfl (Y.jn inferInstance rfl) (EV (bB Y) rfl rfl f (show (j-1) / 2<ys.length by omega)) ?_;rintro _ w' ⟨rfl,hk⟩;replace Y:=Y.cH hk;clear hk
 cases m:iA (I aK.dflt ys j) (I aK.dflt ys ((j-1) / 2)) with
 | false =>
  refine⟨_,rfl,?_⟩;refine O ?_
  exact uK rfl ⟨rfl,ys,U'.done (.inr m),l,Y⟩
 | true =>
  refine⟨_,rfl,?_⟩;refine O ?_;refine qC (u:=h) rfl rfl (Y.jn inferInstance rfl) (EW rfl rfl (show (j-1) / 2<ys.length by omega) f Y) ?_;clear Y;rintro _ w ⟨rfl,Y⟩;refine⟨_,rfl,?_⟩;refine O ?_;exact⟨(j-1) / 2,_,⟨rfl,az⟩,aX,⟨U'.step g m,(zu U f).trans l,Y⟩,U⟩
def XL {nn:Int}(N:nn=n)(D:xM aK.dflt iA xs n 0)(S:xs.length<=1048576)(Y:Z w0 w (X aK 239 h xs::am q 236 [h]::Γ)) :
  Calls ak 167 #[.iface 234 (.pointer (some q)),E 0,E nn] w fun e w'=>∃ b ys,e=.returned (.bool b)/\uo aK.dflt iA ys n/\ys.Perm xs/\(∀ k,n<=k->I aK.dflt ys k=I aK.dflt xs k)/\Z w0 w' (X aK 239 h ys::am q 236 [h]::Γ):=by
 subst N;refine bI ar Tryz.func167 ?_;refine O ?_;refine dP [7,10,12,44] (G:=Nat) (H:=List cV) (fun i ys=>[(7,E i)]) (fun i ys w=>xM aK.dflt iA ys n i/\i<=n/\ys.Perm xs/\(∀ k,n<=k->I aK.dflt ys k=I aK.dflt xs k)/\Z w0 w (X aK 239 h ys::am q 236 [h]::Γ)) (fun i ys=>n-i) 0 xs (fun _ _=>rfl) ⟨rfl,az⟩ ⟨D,bC _,.refl _,fun _ _=>rfl,Y⟩ ?_;clear Y D;rintro T i ys w ⟨D,P,o,d,Y⟩;have B:=D.le;have Q:=o.length_eq;refine aC ?_ ?_<;>intro h1
 ·refine O ?_
  exact bo (v:=.bool _) rfl rfl ⟨_,ys,rfl,D.leaf U,o,d,Y⟩
 have r:2*i+1<n:=U;refine O ?_;by_cases R:2*i+2<n
 ·have g:decide (2*(i:Int)+1+1<(n:Int))=true:=dH U
  simp only[g,xn];refine O ?_;refine qC (u:=h) rfl rfl (Y.jn inferInstance rfl) (EV (i:=2*i+2) (j:=2*i+1) (bB Y) U U U U) ?_;rintro _ w' ⟨rfl,hk⟩;replace Y:=Y.cH hk;clear hk
  cases l:iA (I aK.dflt ys (2*i+2)) (I aK.dflt ys (2*i+1)) with
  | true =>
   refine⟨_,rfl,?_⟩;refine rK ?_;refine rJ [9,9,34,34] (G:=Nat) (fun j=>[(9,E j)]) (fun j w=>(j=2*i+1\/j=2*i+2)/\j<n/\(∀ c,0<c->c<n->(c-1) / 2=i->fh iA (I aK.dflt ys j) (I aK.dflt ys c))/\Z w0 w (X aK 239 h ys::am q 236 [h]::Γ)) (fun _=>rfl) ?_ ?_
   ·refine O ?_
    refine⟨2*i+2,⟨?_,az⟩,aX,.inr rfl,R,fun c F h1 K=>?_,Y⟩
    ·show Value.int .i64 (2*(i:Int)+1+1)=_
     congr 1
    have:c=2*i+1\/c=2*i+2:=U;rcases this with rfl|rfl
    ·exact HJ l
    exact Cn _
   clear Y;rintro x j w ⟨y,m,f,Y⟩;refine O ?_;refine qC (u:=h) rfl rfl (Y.jn inferInstance rfl) (EV (bB Y) rfl rfl (show j<ys.length by omega) (show i<ys.length by omega)) ?_;rintro _ w' ⟨rfl,hk⟩;replace Y:=Y.cH hk;clear hk
   cases l:iA (I aK.dflt ys j) (I aK.dflt ys i) with
   | false =>
    refine⟨_,rfl,?_⟩;refine O ?_
    exact bo (v:=.bool _) rfl rfl ⟨_,ys,rfl,D.done f l,o,d,Y⟩
   | true =>
    refine⟨_,rfl,?_⟩;refine O ?_;refine qC (u:=h) rfl rfl (Y.jn inferInstance rfl) (EW rfl rfl (show i<ys.length by omega) (show j<ys.length by omega) Y) ?_;clear Y;rintro _ w ⟨rfl,Y⟩;refine⟨_,rfl,?_⟩;refine O ?_;refine⟨j,_,⟨rfl,az⟩,aX,⟨D.step y m f l,U,(zu U U).trans o,fun k hk=>?_,Y⟩,U⟩;rw[tF U U,aM U,aM U]
    exact d k hk
  | false =>
   refine⟨_,rfl,?_⟩;refine rK ?_;refine rJ [9,9,34,34] (G:=Nat) (fun j=>[(9,E j)]) (fun j w=>(j=2*i+1\/j=2*i+2)/\j<n/\(∀ c,0<c->c<n->(c-1) / 2=i->fh iA (I aK.dflt ys j) (I aK.dflt ys c))/\Z w0 w (X aK 239 h ys::am q 236 [h]::Γ)) (fun _=>rfl) ?_ ?_
   ·refine O ?_
    refine⟨2*i+1,⟨?_,az⟩,aX,.inl rfl,r,fun c F h1 K=>?_,Y⟩
    ·show Value.int .i64 (2*(i:Int)+1)=_
     congr 1
    have:c=2*i+1\/c=2*i+2:=U;rcases this with rfl|rfl
    ·exact Cn _
    exact l
   clear Y;rintro x j w ⟨y,m,f,Y⟩;refine O ?_;refine qC (u:=h) rfl rfl (Y.jn inferInstance rfl) (EV (bB Y) rfl rfl (show j<ys.length by omega) (show i<ys.length by omega)) ?_;rintro _ w' ⟨rfl,hk⟩;replace Y:=Y.cH hk;clear hk
   cases l:iA (I aK.dflt ys j) (I aK.dflt ys i) with
   | false =>
    refine⟨_,rfl,?_⟩;refine O ?_
    exact bo (v:=.bool _) rfl rfl ⟨_,ys,rfl,D.done f l,o,d,Y⟩
   | true =>
    refine⟨_,rfl,?_⟩;refine O ?_;refine qC (u:=h) rfl rfl (Y.jn inferInstance rfl) (EW rfl rfl (show i<ys.length by omega) (show j<ys.length by omega) Y) ?_;clear Y;rintro _ w ⟨rfl,Y⟩;refine⟨_,rfl,?_⟩;refine O ?_;refine⟨j,_,⟨rfl,az⟩,aX,⟨D.step y m f l,U,(zu U U).trans o,fun k hk=>?_,Y⟩,U⟩;rw[tF U U,aM U,aM U];exact d k hk
 have g:decide (2*(i:Int)+1+1<(n:Int))=false:=dB U;simp only[g];refine rK ?_;refine rJ [9,9,34,34] (G:=Nat) (fun j=>[(9,E j)]) (fun j w=>(j=2*i+1\/j=2*i+2)/\j<n/\(∀ c,0<c->c<n->(c-1) / 2=i->fh iA (I aK.dflt ys j) (I aK.dflt ys c))/\Z w0 w (X aK 239 h ys::am q 236 [h]::Γ)) (fun _=>rfl) ?_ ?_
 ·refine O ?_
  refine⟨2*i+1,⟨?_,az⟩,aX,.inl rfl,r,fun c F h1 K=>?_,Y⟩
  ·show Value.int .i64 (2*(i:Int)+1)=_
   congr 1
  have:c=2*i+1:=U;subst this;exact Cn _
 clear Y;rintro x j w ⟨y,m,f,Y⟩;refine O ?_;refine qC (u:=h) rfl rfl (Y.jn inferInstance rfl) (EV (bB Y) rfl rfl (show j<ys.length by omega) (show i<ys.length by omega)) ?_;rintro _ w' ⟨rfl,hk⟩;replace Y:=Y.cH hk;clear hk
 cases l:iA (I aK.dflt ys j) (I aK.dflt ys i) with
 | false =>
  refine⟨_,rfl,?_⟩;refine O ?_
  exact bo (v:=.bool _) rfl rfl ⟨_,ys,rfl,D.done f l,o,d,Y⟩
 | true =>
  refine⟨_,rfl,?_⟩;refine O ?_;refine qC (u:=h) rfl rfl (Y.jn inferInstance rfl) (EW rfl rfl (show i<ys.length by omega) (show j<ys.length by omega) Y) ?_;clear Y;rintro _ w ⟨rfl,Y⟩;refine⟨_,rfl,?_⟩;refine O ?_;refine⟨j,_,⟨rfl,az⟩,aX,⟨D.step y m f l,U,(zu U U).trans o,fun k hk=>?_,Y⟩,U⟩;rw[tF U U,aM U,aM U];exact d k hk
def P3 {v:cV}(H:dz aK.dflt iA xs)(l:xs.length<1048576)(Y:Z w0 w (X aK 239 h xs::am q 236 [h]::Γ)) :
  Calls ak 142 #[.iface 234 (.pointer (some q)),.iface 239 (.agg #[E v.cr,E v.aY])] w fun e w'=>e=.returned (.tuple #[])/\∃ d ys,dz aK.dflt iA ys/\ys.Perm (v::xs)/\Z w0 w' (X aK 239 d ys::am q 236 [d]::Γ):=by
 refine bI ar Tryz.func142 ?_;refine O ?_;refine HK rfl rfl (XI (v:=v) U Y) ?_;clear Y;rintro _ w ⟨rfl,d,Y⟩;refine⟨_,rfl,?_⟩;refine O ?_;refine qC (u:=d) rfl rfl (Y.jn inferInstance rfl) (KE (bB Y)) ?_;rintro _ w' ⟨rfl,hk⟩;replace Y:=Y.cH hk;clear hk;refine⟨_,rfl,?_⟩;have f:(xs++[v]).length=xs.length+1:=sm;refine O ?_;refine aR rfl (XK (j:=xs.length) (by rw[f];omega) (P4 H) U Y) ?_;clear Y;rintro _ w ⟨rfl,ys,h1,g,Y⟩;refine⟨_,rfl,?_⟩;refine O ?_;exact uK rfl ⟨rfl,d,ys,h1,g.trans (KG (l₁:=xs) (l₂:=[v])),Y⟩
def XM (H:dz aK.dflt iA xs)(f:0<xs.length)(r:xs.length<=1048576)(Y:Z w0 w (X aK 239 h xs::am q 236 [h]::Γ)) :
  Calls ak 144 #[.iface 234 (.pointer (some q))] w fun e w'=>∃ v l ys,e=.returned (.iface 239 (.agg #[E v.cr,E v.aY]))/\dz aK.dflt iA ys/\xs.Perm (v::ys)/\(∀ x∈xs,fh iA v x)/\Z w0 w' (X aK 239 l ys::am q 236 [l]::Γ):=by
 refine bI ar Tryz.func144 ?_;refine O ?_;refine qC (u:=h) rfl rfl (Y.jn inferInstance rfl) (KE (bB Y)) ?_;rintro _ w' ⟨rfl,hk⟩;replace Y:=Y.cH hk;clear hk;refine⟨_,rfl,?_⟩;refine O ?_;refine qC (u:=h) rfl rfl (Y.jn inferInstance rfl) (EW (i:=0) (j:=xs.length-1) rfl U f U Y) ?_;clear Y;rintro _ w ⟨rfl,Y⟩;refine⟨_,rfl,?_⟩;refine O ?_;refine aR rfl (XL (n:=xs.length-1) U (P5 H f) (by rw[Co];exact r) Y) ?_;clear Y;rintro _ w ⟨b,ys,rfl,h1,y,B,Y⟩;have o:=y.trans (zu f (show xs.length-1<xs.length by omega));have g:=o.length_eq;refine⟨_,rfl,?_⟩;refine O ?_;refine HK rfl rfl (XJ U U Y) ?_;clear Y;rintro _ w ⟨rfl,l,Y⟩;refine⟨_,rfl,?_⟩;refine O ?_;have d:I aK.dflt ys (xs.length-1)=I aK.dflt xs 0:=by
  rw[B _ (cP _),tF f U,ba rfl]
 obtain⟨F,m⟩:=P6 f o h1 d;rw[g]at Y;refine bo (v:=.iface 239 ((.agg #[E (I aK.dflt ys (ys.length-1)).cr,E (I aK.dflt ys (ys.length-1)).aY]))) rfl rfl ⟨I aK.dflt xs 0,l,_,by rw[g,d],F,m,fun x hx=>P7 H hx,Y⟩
end
section
open Go.Sl Go
attribute [local irreducible] vc opsW opsD opV opW PureV ReadV Thn Blk
instance Ck:lU aV:=⟨fun x v hv=>by simp only[aV,gT,jd,pQ]at hv;rcases hv with rfl|rfl|rfl<;>rfl⟩
def jG (E_:List dr)(n:Nat):List (List dr):=(List.range n).map fun (u:Nat)=>dL E_ (u:Int)
def P8 (E_:List dr)(n:Nat):(jG E_ n).length=n:=by simp[jG]
def XN (n:Nat):jG [] n=replicate n []:=by
 apply jB (by simp[jG]);intro i h1 d;simp[jG,dL]
def KH {E_:List dr}{u:Nat}(h:u<n):(jG E_ n).getD u []=dL E_ (u:Int):=by simp[jG,List.getD,h]
def XO {E_:List dr}{e:dr}(d:0<=e.dst)(h:e.dst<n):(jG E_ n).set e.dst.toNat ((jG E_ n).getD e.dst.toNat []++[e])=jG (E_++[e]) n:=by
 rw[KH U];apply jB (by simp[jG]);intro i h1 f;rw[tS];have l:i<n:=by simpa [jG] using f
 have g:(jG (E_++[e]) n)[i]=dL (E_++[e]) (i:Int):=by simp[jG]
 rw[g];split
 ·rename_i he
  subst he;rw[jW d];simp[dL]
 rename_i he;have:¬e.dst=(i:Int):=U;simp[jG,dL,this]
def P9 (E_:List dr)(u:Int):(dL E_ u).length<=E_.length:=wV _ _
def XP {cv ev gv kv:Value}{S:ct}(h:dE w0 cv ev gv S)(hk:RS W w0 kv cs)(_x:0<=S.st)(_y:S.st<=4096)(_C:(S.aW.length:Int)=S.st)(_D:S.aH.length<=65536)(hE:pR S.aH cs S.st.toNat) :
  Calls ak 110 #[df S cv ev gv,kv] w0 fun e w'=>∃ s D,e=.returned s/\db S.aH cs (fun i=>S.aW.getD i.toNat ah.dflt=true) S.st.toNat D/\Z w0 w' [X W 3 s D]:=by
 obtain⟨hc,he,I⟩:=h;have le:=he.cn;have lk:=hk.cn;have Y:=Z.start w0;refine bI ar Tryz.func110 ?_
 repeat (first|refine dS ?_|(refine iT ?_;clear Y;intro p w Y)|(refine gA ?_;clear Y;intro s w Y))
 obtain⟨px,rfl⟩:=À p;obtain⟨tv,rfl⟩:=À s;have Y:=Y.iJ (T:=aV) (e:=190) S.st.toNat;rw[<-XN]at Y;refine dP [7,7,23,39] (G:=Nat) (H:=List Value) (fun k _=>[(23,E k)]) (fun k r w=>k<=S.aH.length/\r.length=S.st.toNat/\Z w0 w [ai aV 190 r (jG (S.aH.take k) S.st.toNat),X aA 139 tv r,am px 142 [E S.st,E S.cj,cv,ev,gv]]) (fun k _=>S.aH.length-k) 0 _ (fun _ _=>rfl) ⟨rfl,az⟩ ⟨bC _,sm,Y⟩ ?_;clear Y;rintro σ k r w ⟨_E,_h,Y⟩;refine aC ?_ ?_<;>intro h1
 ·have B:k<S.aH.length:=U
  obtain⟨e1,d,e3,e4⟩:=hE.getD B;have _i:=P8 (S.aH.take k) S.st.toNat;refine dj ?_;intro f w Y;have u:(S.aH.getD k aV.dflt).dst.toNat<(jG (S.aH.take k) S.st.toNat).length:=U;replace Y:=Y.swap.ja u;have V':((jG (S.aH.take k) S.st.toNat).getD (S.aH.getD k aV.dflt).dst.toNat []).length<=65536:=by
   rw[KH U];have:=P9 (S.aH.take k) ((S.aH.getD k aV.dflt).dst.toNat:Int);simp only[jC]at this;omega
  refine gi (pl [0,1,2,3,4,5,6,7,8,9] (.cY 2::.cY 5::.cY 7::pl [10] (.cY 2::pl [11,12] []))) Y kr ?_;clear Y;intro w Y;refine O ?_;refine jA aV (x1:=S.aH.getD k aV.dflt) rfl rfl rfl (fP rfl) (fg _) Y ?_;clear Y;intro s w Y;refine kO ?_;intro s w Y;replace Y:=Z.re u U Y.tail;replace Y:=Y.swap.tail;rw[XO d.1 U,<-eX aV.dflt B]at Y;exact⟨k+1,_,⟨rfl,az⟩,aX,⟨U,by simpa using _h,Y⟩,U⟩
 have J':k=S.aH.length:=U;subst J';rw[mK]at Y;have _i:=P8 S.aH S.st.toNat;have V':(replicate S.st.toNat (0:Int)).length=S.st.toNat:=mp;refine kO ?_;intro s w Y;obtain⟨ov,rfl⟩:=À s;refine zU aK Y ?_;clear Y;intro s w Y;refine ep ?_;intro pq w Y;have _j:s.cells.toList=[s]:=((Y.rs 1 rfl).fu)
 rw[_j,<-Qa (fun i=>S.aW.getD i.toNat ah.dflt=true)]at Y;have _a:Z w0 w [X aK 239 s [],am pq 236 [s],X W 3 ov (dM (fun i=>S.aW.getD i.toNat ah.dflt=true) S.st.toNat 0),ai aV 190 r (jG S.aH S.st.toNat),X aA 139 tv r,am px 142 [E S.st,E S.cj,cv,ev,gv]]:=Y.swap;clear Y;have hlen:∀ k,(dM (fun i=>S.aW.getD i.toNat ah.dflt=true) S.st.toNat k).length=S.st.toNat:=fun k=>Qb _ _ k;refine pu [10,11,48,66] (G:=Nat) (H:=Value) (I':=List cV) (fun k _ _=>[(48,E k)]) (fun k hv xs w=>k<=S.st.toNat/\dz aK.dflt iA xs/\xs.length<=k/\xs.Nodup/\(∀ x,x∈xs↔∃ i:Nat,i<k/\(fun i=>S.aW.getD i.toNat ah.dflt=true) (i:Int)/\x=⟨0,i⟩)/\Z w0 w [X aK 239 hv xs,am pq 236 [hv],X W 3 ov (dM (fun i=>S.aW.getD i.toNat ah.dflt=true) S.st.toNat k),ai aV 190 r (jG S.aH S.st.toNat),X aA 139 tv r,am px 142 [E S.st,E S.cj,cv,ev,gv]]) (fun k _ _=>S.st.toNat-k) 0 s [] (fun _ _ _=>rfl) ⟨rfl,az⟩ ⟨bC _,XQ,cP _,Be,(fun x=>by simp),_a⟩ ?_;clear _a;rintro _F k hv xs w ⟨_G,hH,_k,Q,f,Y⟩;have _b:=hlen k;have _l:((dM (fun i=>S.aW.getD i.toNat ah.dflt=true) S.st.toNat k).set k 1125899906842624).length=S.st.toNat:=by rw[iU,_b]
 refine aC ?_ ?_<;>intro h2
 ·have B:k<S.st.toNat:=U
  refine sU ?_ ?_<;>intro w Y o
  ·refine dD ?_;intro w Y
   rw[Qc (G:=(fun i=>S.aW.getD i.toNat ah.dflt=true)) (k:=k) (by simp only[jU];exact o)]at Y;refine aR rfl (P3 (v:=⟨0,k⟩) hH U Y) ?_;clear Y;rintro _ w ⟨rfl,R,ys,V,hp,Y⟩;refine⟨_,rfl,?_⟩;refine O ?_;have l:(⟨0,k⟩:cV)∉xs:=fun hx=>by
    obtain⟨i,u,_,d⟩:=(f _).1 hx;simp only[cV.mk.injEq,true_and]at d;omega
   refine⟨k+1,R,ys,⟨rfl,az⟩,aX,⟨U,V,by rw[hp.length_eq];simp;omega,hp.nodup_iff.2 (wW.2 ⟨l,Q⟩),fun x=>?_,Y⟩,U⟩;rw[hp.mem_iff,gT,f];constructor
   ·rintro (rfl|⟨i,u,d,g⟩)
    ·exact⟨k,U,by simp only[jU];exact o,rfl⟩
    exact⟨i,U,d,g⟩
   rintro⟨i,u,d,g⟩;by_cases F:i=k
   ·subst F;exact .inl g
   exact .inr ⟨i,U,d,g⟩
  refine O ?_;rw[Qd (G:=(fun i=>S.aW.getD i.toNat ah.dflt=true)) (k:=k) (by simp only[jU];rw[o];decide)]at Y;refine⟨k+1,hv,xs,⟨rfl,az⟩,aX,⟨U,hH,U,Q,fun x=>?_,Y⟩,U⟩;rw[f];constructor
  ·rintro⟨i,u,d,g⟩;exact⟨i,U,d,g⟩
  rintro⟨i,u,d,g⟩;by_cases F:i=k
  ·subst F;simp only[jU]at d;rw[o]at d;cases d
  exact⟨i,U,d,g⟩
 have J':k=S.st.toNat:=U;subst J';rw[Qe]at Y;have _c:=DJ.start S.aH cs (fun i=>S.aW.getD i.toNat ah.dflt=true) S.st.toNat f Q;have _m:=XR S.aH [];clear _b _l hlen V';refine O ?_;refine de [12,13,15,16,67,125] (G:=J × Value × List cV × J × Int) (fun _=>[]) (fun x w=>Bf S.aH cs (fun i=>S.aW.getD i.toNat ah.dflt=true) S.st.toNat x.1 x.2.2.1 x.2.2.2.1 x.2.2.2.2/\dz aK.dflt iA x.2.2.1/\x.2.2.1.length+sj S.aH x.2.2.2.1<=4096+65536/\Z w0 w [X aK 239 x.2.1 x.2.2.1,am pq 236 [x.2.1],X W 3 ov x.1,ai aV 190 r (jG S.aH S.st.toNat),X aA 139 tv r,am px 142 [E S.st,E S.cj,cv,ev,gv]]) (fun x=>x.2.2.1.length+sj S.aH x.2.2.2.1) (_,hv,xs,[],0) (fun _=>rfl) trivial ⟨_c,hH,by simp only;omega,Y⟩ ?_;clear Y _c _m hH f Q _k;rintro _H ⟨D,hv,xs,Sn,m⟩ w ⟨hD,hH,hb,Y⟩;simp only at hD hH hb Y;refine O ?_;refine aR rfl (KE (h:=hv) (bB Y)) ?_;rintro _ w' ⟨rfl,aw⟩;refine aL ?_;clear aw Y;intro Y;refine aC ?_ ?_<;>intro h4
 ·have _n:0<xs.length:=U
  refine O ?_;refine aR rfl (XM hH _n U Y) ?_;clear Y;rintro _ w ⟨x,R,ys,rfl,V,hp,_d,Y⟩;have _o:=hp.length_eq;simp only[length_cons]at _o;refine⟨_,rfl,?_⟩;refine ep ?_;intro pi w Y;have P':Bf S.aH cs (fun i=>S.aW.getD i.toNat ah.dflt=true) S.st.toNat D (x::ys) Sn m:=hD.qa hp.symm;obtain⟨f1,f2,f3,f4,f5⟩:=P'.pS x sm;have _I:=hD.inv.len;have _p:=hD.inv.et x.aY.toNat U;rw[jW f1.1]at _p;have _J:=hD.m0;refine aC ?_ ?_<;>intro h5
  ·refine O ?_
   refine⟨(D,R,ys,Sn,m),az,aX,⟨P'.skip h5,V,by simp only;omega,Y.bj⟩,by simp only;omega⟩
  have _q:¬dg D x.aY<x.cr:=by simp only[dg];omega
  obtain⟨l,_r,_s,_,_e⟩:=P'.take _q (fun y hy=>by
   have:=_d y (hp.mem_iff.2 (by simp[hy]));simp only[fh,iA,rL]at this
   omega)
  have _K:=Qf _r S.aH;have _z:x.cr<1125899906842624:=_e;have _A:=P9 S.aH x.aY;have _f:(jG S.aH S.st.toNat).getD x.aY.toNat []=dL S.aH x.aY:=by
   rw[KH U,jW f1.1]
  have d:=(Y.bN 4 rfl).row (i:=x.aY.toNat) U;rw[_f]at d;have _t:=d;refine O ?_;refine zw [15,16,93,125] (G:=Nat) (H:=J) (I':=Value) (M':=List cV) (fun k _ _ _=>[(93,E k)]) (fun k D' K o w=>k<=(dL S.aH x.aY).length/\DJ S.aH cs (fun i=>S.aW.getD i.toNat ah.dflt=true) S.st.toNat D' o (x.aY::Sn) x.cr (fun e=>e.dst∈Sn\/∃ i,i<k/\(dL S.aH x.aY).getD i aV.dflt=e)/\dg D' x.aY=x.cr/\dz aK.dflt iA o/\o.length<=ys.length+k/\Z w0 w [X aK 239 K o,am pq 236 [K],am pi 239 [E x.cr,E x.aY],X W 3 ov D',ai aV 190 r (jG S.aH S.st.toNat),X aA 139 tv r,am px 142 [E S.st,E S.cj,cv,ev,gv]]) (fun k _ _ _=>(dL S.aH x.aY).length-k) 0 D R ys (fun _ _ _ _=>rfl) ⟨rfl,az⟩ ⟨bC _,?_,_s,V,U,Y.bj⟩ ?_
  ·refine⟨l.inv,l.pS,l.nd,l.set,l.qK,fun e he hm hd=>l.zV e he hm ?_,l.m0⟩
   rcases hd with hd|⟨i,u,_⟩
   ·exact hd
   exact absurd u (eo _)
  clear Y d;rintro _L k D' K o w ⟨_M,N,g,R',_N,Y⟩;have d:=(Y.bN 4 rfl).row (i:=x.aY.toNat) U;rw[_f]at d;have _B:=N.inv.len;refine aC ?_ ?_<;>intro h6
  ·have B:k<(dL S.aH x.aY).length:=U
   obtain⟨j',T'⟩:=Qg.1 (cS aV.dflt B);have e1:=hE.br _ j';have e3:=hE.cU _ j';have e4:=hE.iS j';simp only[iS]at e4;have r1:=N.inv.et ((dL S.aH x.aY).getD k aV.dflt).br.toNat U;rw[jW e1.1]at r1;simp only[dg]at r1;have P:∀ {c D xs},DJ S.aH cs (fun i=>S.aW.getD i.toNat ah.dflt=true) S.st.toNat D xs (x.aY::Sn) x.cr (fun e=>(e.dst∈Sn\/∃ i,i<k/\(dL S.aH x.aY).getD i aV.dflt=e)\/e=c)->c=(dL S.aH x.aY).getD k aV.dflt->DJ S.aH cs (fun i=>S.aW.getD i.toNat ah.dflt=true) S.st.toNat D xs (x.aY::Sn) x.cr (fun e=>e.dst∈Sn\/∃ i,i<k+1/\(dL S.aH x.aY).getD i aV.dflt=e):=by
    intro c D xs hh hc;refine⟨hh.inv,hh.pS,hh.nd,hh.set,hh.qK,fun e he hm hd=>hh.zV e he hm ?_,hh.m0⟩;rcases hd with hd|⟨i,u,H'⟩
    ·exact .inl (.inl hd)
    by_cases F:i=k
    ·subst F;exact .inr (by rw[hc,H'])
    exact .inl (.inr ⟨i,U,H'⟩)
   refine lE ?_ ?_<;>intro p w Y h7
   ·have F:=N.rf hE j' (by rw[T'];simp) (by rw[T'];exact g) _e (by simp only[dg,iS];exact h7)
    simp only[iS]at F;refine dD ?_;intro w Y;refine aR rfl (P3 (v:=⟨x.cr+cs.getD ((dL S.aH x.aY).getD k aV.dflt).cU.toNat W.dflt,((dL S.aH x.aY).getD k aV.dflt).br⟩) R' U Y.tail) ?_;clear Y;rintro _ w ⟨rfl,_u,zs,_v,_g,Y⟩;refine⟨_,rfl,?_⟩;refine O ?_;have _w:x.aY≠((dL S.aH x.aY).getD k aV.dflt).br:=fun he=>by
     have h8:=g;rw[he]at h8;simp only[dg]at h8;omega
    refine⟨k+1,_,_u,zs,⟨rfl,az⟩,aX,⟨U,(P F rfl).qa _g,?_,_v,by rw[_g.length_eq];simp;omega,Y.bj⟩,U⟩;rw[DB f1.1 e1.1 U,aM _w];exact g
   refine O ?_;refine⟨k+1,D',K,o,⟨rfl,az⟩,aX,⟨U,P (N.keep (e:=(dL S.aH x.aY).getD k aV.dflt) fun F=>?_) rfl,g,R',U,Y.bj⟩,U⟩;rw[T',g];simp only[dg,iS];omega
  refine O ?_;refine⟨(D',K,o,x.aY::Sn,x.cr),az,aX,⟨N.close fun e he hm=>?_,R',by simp only;omega,Y.bj⟩,by simp only;omega⟩;rcases gT.1 hm with hm|hm
  ·obtain⟨i,u,H'⟩:=ga (Qg.2 ⟨he,hm⟩)
   exact .inr ⟨i,U,by rw[aq u];exact H'⟩
  exact .inl hm
 have d:xs=[]:=qD U;subst d;refine O ?_;exact bo (v:=ov) rfl rfl ⟨ov,D,rfl,hD.qE hE,Y.bj⟩
structure tG where
 vars:J
 rM:J
 nu:ct
 sE:J
def HL (X':tG)(vv pv cv ev gv tv:Value):List Value:=[vv,pv,E X'.nu.st,E X'.nu.cj,cv,ev,gv,tv]
def KJ (p:Addr)(X':tG)(vv pv cv ev gv tv:Value):List HP:=[am p 196 (HL X' vv pv cv ev gv tv),X W 3 vv X'.vars,X W 3 pv X'.rM,X W 3 cv X'.nu.aN,X aV 190 ev X'.nu.aH,X ah 4 gv X'.nu.aW,X W 3 tv X'.sE]
@[irreducible] def tH (p:Addr)(X':tG):HP:=fun h=>∃ d e f g gv l,cB (KJ p X' d e f g gv l) h
def xF {X':tG}(Y:Z w0 w (tH p X'::Γ)):∃ vv pv cv ev gv tv,Z w0 w (KJ p X' vv pv cv ev gv tv++Γ):=by
 unfold tH at Y;obtain⟨h1,e,d,s1,s2,⟨vv,pv,cv,ev,gv,tv,a⟩,g⟩:=Y.kP;exact⟨vv,pv,cv,ev,gv,tv,Y.below,cB.Cp _ d s1 s2 a g⟩
def xG {X':tG}{vv pv cv ev gv tv:Value}(Y:Z w0 w (KJ p X' vv pv cv ev gv tv++Γ)):Z w0 w (tH p X'::Γ):=by
 unfold tH;obtain⟨h1,e,d,s1,s2,a,g⟩:=cB.split _ Y.kP;exact⟨Y.below,h1,e,d,s1,s2,⟨vv,pv,cv,ev,gv,tv,a⟩,g⟩
def xN (w:World)(p:Addr)(X':tG):Prop:=∃ d e f g gv l,eJ w p (HL X' d e f g gv l)/\RS W w d X'.vars/\RS W w e X'.rM/\RS W w f X'.nu.aN/\RS aV w g X'.nu.aH/\RS ah w gv X'.nu.aW/\RS W w l X'.sE
def xN.at {w0 w:World}{Γ:List HP}{p:Addr}{X':tG}(h:xN w0 p X')(Y:Z w0 w Γ):xN w p X':=by
 obtain⟨d,e,f,g,gv,l,m,h1,o,r,u,v,x⟩:=h;exact⟨d,e,f,g,gv,l,m.at Y,h1.at Y,o.at Y,r.at Y,u.at Y,v.at Y,x.at Y⟩
def tj {X':tG}(Y:Z w0 w Γ)(i:Nat)(hi:Γ[i]? = some (tH p X')):xN w p X':=by
 obtain⟨d,e,f,g,gv,l,h⟩:=xF (Y.bN i hi);exact⟨d,e,f,g,gv,l,h.dA 0 rfl,h.rs 1 rfl,h.rs 2 rfl,h.rs 3 rfl,h.rs 4 rfl,h.rs 5 rfl,h.rs 6 rfl⟩
class GL (Γ:List HP) (p:Addr) (X':outParam tG):Prop where
 ok:∃ i:Nat,Γ[i]? = some (tH p X')
instance (priority:=high) db_here {p:Addr}{X':tG}{Γ:List HP}:GL (tH p X'::Γ) p X':=⟨0,rfl⟩
def O1 {X':tG}[h:GL Γ p X'](Y:Z w0 w Γ):xN w p X':=by
 obtain⟨i,d⟩:=h.ok;exact tj Y i d
structure C4 (X':tG):Prop where
 pos:∀ x∈X'.vars,1<=x
 mem:∀ v∈X'.rM,0<=v/\v<X'.vars.length
 EX:bG X'.vars X'.rM<=4096
 sE:X'.sE.length=(bG X'.vars X'.rM).toNat
 cU:∀ e∈X'.nu.aH,0<=e.cU/\e.cU<X'.nu.aN.length
 br:∀ e∈X'.nu.aH,0<=e.br/\e.br<X'.sE.length
 dst:∀ e∈X'.nu.aH,0<=e.dst/\e.dst<X'.sE.length
 et:∀ i:Nat,i<X'.sE.length->0<=dg X'.sE i/\dg X'.sE i<=bZ
 qBl:X'.vars.length<=64
 O2:X'.nu.aN.length<=4096
 O3:X'.nu.aH.length<=65536
open Classical in
noncomputable def yx (X':tG)(s:J):Int:=if aj X'.vars s then dg X'.sE (cy X'.vars X'.rM s) else 1125899906842624
def KK {X':tG}(h:aj X'.vars s):yx X' s=dg X'.sE (cy X'.vars X'.rM s):=ba h
def XS {X':tG}(h:¬aj X'.vars s):yx X' s=1125899906842624:=aM h
def Qh {X':tG}{sv:Value}(u:xN w0 p X')(d:C4 X')(x:RS W w0 sv s) :
  Calls ak 327 #[.pointer (some p),sv] w0 fun e w'=>e=.returned (E (yx X' s))/\Z w0 w' []:=by
 obtain⟨Q,R,S,T,gv,V,h0,h1,y,h3,h4,h5,h6⟩:=u;have B:=y.cn;have F:=d.sE;have K:=d.EX;have Y:=Z.start w0;refine bI ar Tryz.func327 ?_;refine O ?_;refine aR rfl (zW h1 (x.at Y)) ?_;rintro _ w' ⟨⟨r,rfl,g⟩,aw⟩;refine aL ?_;clear aw Y;intro Y;cases r
 ·rw[XS (fun h=>by have:=g.2 h;cases this)]
  refine O ?_;exact bo (v:=E 1125899906842624) rfl rfl ⟨rfl,Y⟩
 have bX:=g.1 rfl;have N:=bX.1;rw[KK bX];refine O ?_;refine dP [5,5,7,7,22,40] (G:=Nat) (H:=Int) (fun k n=>[(22,E k),(5,E n)]) (fun k n w=>k<=X'.rM.length/\n=cy X'.vars (X'.rM.take k) s/\Z w0 w []) (fun k _=>X'.rM.length-k) 0 0 (fun _ _=>rfl) ⟨rfl,rfl,az⟩ ⟨bC _,rfl,Y⟩ ?_;clear Y;rintro σ k n w ⟨hk,l,Y⟩;refine aC ?_ ?_<;>intro h7
 ·have f:k<X'.rM.length:=U
  have hv:=d.mem _ (cS W.dflt f);have g:=bX.et hv.1 hv.2;have m:=qF (p:=X'.rM.take k) bX fun v hv=>d.mem v (rZ hv);have P:=qF (p:=X'.rM.take (k+1)) bX fun v hv=>d.mem v (rZ hv);have fh:=KL d.pos d.mem (k+1);have o:=Qi (vars:=X'.vars) (s:=s) f;rw[<-l]at m o;simp only[sg]at o g;have b0:0<=n*X'.vars.getD (X'.rM.getD k W.dflt).toNat W.dflt:=vX U U;refine dD ?_;intro w Y;exact⟨k+1,_,⟨rfl,rfl,az⟩,aX,⟨U,o.symm,Y⟩,U⟩
 rw[io U]at l;have f:=qF bX d.mem;subst l;refine O ?_;exact bo (v:=E (dg X'.sE (cy X'.vars X'.rM s))) rfl rfl ⟨rfl,Y⟩
def XT {X':tG}(x:xN w0 p X')(f:C4 X') :
  Calls ak 86 #[.pointer (some p)] w0 fun e w'=>∃ s,e=.returned s/\Z w0 w' [X W 3 s (qd X'.nu.aH X'.sE X'.nu.aN.length)]:=by
 obtain⟨R,S,T,V,gv,tv,h0,h1,h2,h3,h4,h5,h6⟩:=x;have y:=f.sE;have B:=f.EX;have F:=f.O2;have H:=f.O3;have Y:=Z.start w0;refine bI ar Tryz.func86 ?_;refine kO ?_;intro s w Y;obtain⟨o,rfl⟩:=À s;rw[jU,<-XU X'.nu.aH X'.sE X'.nu.aN.length]at Y;refine de [5,7,23,62] (G:=Nat) (fun k=>[(23,E k)]) (fun k w=>k<=X'.nu.aH.length/\Z w0 w [X W 3 o (oK X'.nu.aH X'.sE X'.nu.aN.length k)]) (fun k=>X'.nu.aH.length-k) 0 (fun _=>rfl) ⟨rfl,az⟩ ⟨bC _,Y⟩ ?_;clear Y;rintro σ k w ⟨hk,Y⟩;have K:=KM (E_:=X'.nu.aH) (D:=X'.sE) (m:=X'.nu.aN.length) k hk;refine aC ?_ ?_<;>intro h7
 ·have l:k<X'.nu.aH.length:=U
  have g:=cS aV.dflt l;have e1:=f.cU _ g;have N:=f.br _ g;have P:=f.dst _ g;have r:=f.et (X'.nu.aH.getD k aV.dflt).br.toNat U;have u:=f.et (X'.nu.aH.getD k aV.dflt).dst.toNat U;rw[jW N.1]at r;rw[jW P.1]at u;have d:=KN (D:=X'.sE) (m:=X'.nu.aN.length) l;simp only[mn,dg,iS,bZ]at d r u;refine O4 ?_ ?_<;>intro p w Y Q
  ·rw[ba Q]at d
   refine dD ?_;intro w Y;rw[<-d]at Y;exact⟨k+1,⟨rfl,az⟩,aX,⟨U,Y.tail⟩,U⟩
  rw[aM U]at d;refine O ?_;rw[<-d]at Y;exact⟨k+1,⟨rfl,az⟩,aX,⟨U,Y.tail⟩,U⟩
 have d:k=X'.nu.aH.length:=U;subst d;refine O ?_;exact bo (v:=o) rfl rfl ⟨o,rfl,Y⟩
def oL (x:Int):Prop:=x<0\/1048576<x
instance (x:Int):Decidable (oL x):=inferInstanceAs (Decidable (_\/_))
def XV {x:Int} :
  Calls ak 109 #[E x] w0 fun e w'=>e=.returned (.bool (decide (oL x)))/\Z w0 w' []:=by
 have Y:=Z.start w0;refine bI ar Tryz.func109 ?_;refine O ?_;refine bo (v:=.bool (decide (x<0) || decide (1048576<x))) rfl rfl ⟨?_,Y⟩;rw[<-Bool.decide_or];rfl
def XW {xs:J}(m:RS W w0 a xs) :
  Calls ak 71 #[a,.func (.func 109) #[] #[]] w0 fun e w'=>(∃ r:Int,e=.returned (E r)/\(0<=r↔∃ x∈xs,oL x))/\Z w0 w' []:=by
 have o:=m.cn;have Y:=Z.start w0;refine bI ar Tryz.func71 ?_;refine O ?_;refine de [4,5,8,18] (G:=Nat) (fun k=>[(8,E k)]) (fun k w=>k<=xs.length/\(∀ i,i<k->¬oL (xs.getD i W.dflt))/\Z w0 w []) (fun k=>xs.length-k) 0 (fun _=>rfl) ⟨rfl,az⟩ ⟨bC _,fun i f=>absurd f (eo _),Y⟩ ?_;clear Y;rintro u k w ⟨hk,d,Y⟩;refine aC ?_ ?_<;>intro h1
 ·have l:k<xs.length:=U
  refine O ?_;refine xK (cs:=[]) rfl rfl (XV (x:=xs.getD k W.dflt)) ?_;rintro _ w' ⟨rfl,aw⟩;refine aL ?_;clear aw Y;intro Y;by_cases g:oL (xs.getD k W.dflt)
  ·rw[dH g]
   refine O ?_;refine bo (v:=E k) rfl rfl ⟨⟨k,rfl,⟨fun _=>⟨_,cS W.dflt l,g⟩,fun _=>U⟩⟩,Y⟩
  rw[dB g];refine O ?_;refine⟨k+1,⟨rfl,az⟩,aX,⟨U,fun i f=>?_,Y⟩,U⟩;by_cases h:i=k
  ·subst h;exact g
  exact d i U
 refine O ?_;refine bo (v:=E (-1)) rfl rfl ⟨⟨-1,rfl,⟨fun h=>U,?_⟩⟩,Y⟩;rintro⟨x,hx,he⟩;obtain⟨i,f,rfl⟩:=Bd.1 hx;exact absurd (by rw[aq f];exact he) (d i U)
def XX {xs:J}(d:RS W w0 a xs) :
  Calls ak 44 #[a,.func (.func 109) #[] #[]] w0 fun e w'=>(∃ r,e=.returned (.bool r)/\(r=true↔∃ x∈xs,oL x))/\Z w0 w' []:=by
 have Y:=Z.start w0;refine bI ar Tryz.func44 ?_;refine O ?_;refine aR rfl (XW d) ?_;rintro _ w' ⟨⟨r,rfl,f⟩,aw⟩;refine aL ?_;clear aw Y;intro Y;refine O ?_;exact bo (v:=.bool (decide (0<=r))) rfl rfl ⟨⟨_,rfl,by rw[jV];exact f⟩,Y⟩
open Classical in
noncomputable def jH (t:aa)(L cs:J):Int:=if cC t≠0 then cC t else if 0<cs.length/\cs.length≠t.M.length then 11 else if ∃ x∈cs,oL x then 1 else dh t L
def vY (t:aa)(cs:J):J:=if cs.length=0 then ao t else cs
noncomputable def pT (t:aa)(L D:J):tG:=⟨t.vars,L,dY t L,D⟩
def HM (h:dh t L=0):aJ t/\jX t.vars L/\bG t.vars L<=4096/\(cm t L).length<=65536:=by
 by_cases hk:nb t L=0
 ·rw[KO hk]at h
  obtain⟨I,d⟩:=KP.1 hk;unfold lu at h;split at h
  ·cases h
  split at h
  ·cases h
  split at h
  ·cases h
  exact⟨I,d.Qj,U,U⟩
 unfold dh at h;rw[ba hk]at h;exact absurd h hk
def Qk (I:aJ t):∀ x∈ao t,0<=x/\x<=1048576:=by
 intro x hx;obtain⟨o,e,rfl⟩:=iG.1 hx;obtain⟨i,d,rfl⟩:=ga e;have:=I.op i d;rw[aq d]at this;have h1:=this.l9;have f:=this.pG;omega
def XY (I:aJ t)(h1:¬(0<cs.length/\cs.length≠t.M.length))(h2:¬∃ x∈cs,oL x):(vY t cs).length=t.M.length/\∀ x∈vY t cs,0<=x/\x<=1048576:=by
 unfold vY;split
 ·exact⟨by simp[ao],Qk I⟩
 refine⟨U,fun x hx=>?_⟩;have:¬oL x:=fun d=>h2 ⟨x,hx,d⟩;unfold oL at this;omega
def BW (h:cs.length=t.M.length/\∀ x∈cs,0<=x/\x<=1048576):pR (cm t L) cs (bG t.vars L).toNat :=
 G6 ⟨h.1,fun x hx=>by have:=h.2 x hx;omega⟩
def KQ (l:dh t L=0)(g:db (cm t L) cs (gg t L) (bG t.vars L).toNat D):C4 (pT t L D):=by
 obtain⟨I,m,o,r⟩:=HM l;have d:=g.len;have u:=I.M;have f:=I.vars;have key:∀ e∈cm t L,(0<=e.br/\e.br<(bG t.vars L).toNat)/\(0<=e.dst/\e.dst<(bG t.vars L).toNat)/\0<=e.cU/\e.cU<t.M.length:=by
  intro e he;obtain⟨x,op,y,hx,v,B,F,rfl⟩:=EY.1 he;exact⟨⟨by simp only;omega,by simp only;omega⟩,⟨by simp only;omega,by simp only;omega⟩,by simp only;omega,by simp only;omega⟩
 refine⟨I.pos,m.mem,o,d,fun e he=>?_,fun e he=>?_,fun e he=>?_,fun i v=>g.et i (by rw[<-d];exact v),f,?_,r⟩
 ·have:=(key e he).2.2
  simp only[pT,dY,ao,lA];omega
 ·have:=(key e he).1
  show 0<=e.br/\e.br<D.length;omega
 ·have:=(key e he).2.1
  show 0<=e.dst/\e.dst<D.length;omega
 simp only[pT,dY,ao,lA];omega
def KR {b c d vp kv:Value}{vs:List kq}(ht:bR w0 a b c d vs t)(hp:RS W w0 vp L)(hk:RS W w0 kv cs) :
  Calls ak 82 #[.agg #[a,b,c,d],vp,kv] w0 fun e w' =>
   (jH t L cs≠0/\e=.returned (.tuple #[.pointer none,bS (jH t L cs)])/\Z w0 w' []) \/
   (jH t L cs=0/\dh t L=0/\(vY t cs).length=t.M.length/\(∀ x∈vY t cs,0<=x/\x<=1048576)/\∃ p D,e=.returned (.tuple #[.pointer (some p),.nilIface])/\db (cm t L) (vY t cs) (gg t L) (bG t.vars L).toNat D/\Z w0 w' [tH p (pT t L D)]):=by
 have F:=ht;obtain⟨ha,hb,hc,hd⟩:=ht;have H':=hd.rs;have J':=hd.len;have P':=hk.cn;have Y:=Z.start w0;refine bI ar Tryz.func82 ?_;refine ep ?_;intro pt w Y;refine aR rfl (xL (F.at Y)) ?_;rintro _ w' ⟨rfl,aw⟩;refine aL ?_;clear aw Y;intro Y;by_cases h1:cC t=0;rotate_left
 ·have f:jH t L cs=cC t:=ba h1
  rw[c9 h1];refine O ?_;exact dw (v:=.pointer none) (v':=.iface 57 (E (cC t))) rfl rfl rfl (.inl ⟨by rw[f];exact h1,by rw[f,c9 h1],Y.bj⟩)
 rw[ff h1];have I:=(tE t).1 h1;refine aC ?_ ?_<;>intro h2
 ·have f:jH t L cs=11:=by
   unfold jH;rw[aM (by simp[h1]),ba ⟨U,U⟩]
  refine O ?_;exact dw (v:=.pointer none) (v':=.iface 57 (E 11)) rfl rfl rfl (.inl ⟨by rw[f];decide,by rw[f,c9 dc],Y.bj⟩)
 have y:¬(0<cs.length/\cs.length≠t.M.length):=U;refine O ?_;refine aR rfl (XX (hk.at Y)) ?_;rintro _ w' ⟨⟨r,rfl,hr⟩,aw⟩;refine aL ?_;clear aw Y;intro Y;cases r;rotate_left
 ·have f:jH t L cs=1:=by
   unfold jH;rw[aM (by simp[h1]),aM y,ba (hr.1 rfl)]
  refine O ?_;exact dw (v:=.pointer none) (v':=.iface 57 (E 1)) rfl rfl rfl (.inl ⟨by rw[f];decide,by rw[f,c9 dc],Y.bj⟩)
 have h3:¬∃ x∈cs,oL x:=fun h=>by have:=hr.2 h;cases this
 have f:jH t L cs=dh t L:=by
  unfold jH;rw[aM (by simp[h1]),aM y,aM h3]
 obtain⟨H,K⟩:=XY I y h3;refine O ?_;refine aR rfl (HN (F.at Y) (hp.at Y)) ?_;rintro _ w' ⟨l,m,gv,rfl,aw⟩;by_cases u:dh t L=0;rotate_left
 ·have B:kQ t L (dh t L)=cT:=aM u
  rw[B]at aw;rw[B,c9 u];have o:=Y.call aw;clear Y;have Y:=o;clear o;refine⟨_,rfl,?_⟩;have N:=(Y.rs 0 rfl).one;have P:=(Y.rs 1 rfl).one;have Q:=(Y.rs 2 rfl).one;refine KS ?_;intro p w Y;refine lm (n:=5) (p:=p) (vs:=[E 0,E 0,l,m,gv]) rfl rfl Y inferInstance rfl rfl (by simp only[fo,fB,N,P,Q];rfl) ?_;clear Y;intro w Y;refine O ?_;exact dw (v:=.pointer none) (v':=.iface 57 (E (dh t L))) rfl rfl rfl (.inl ⟨by rw[f];exact u,by rw[f,c9 u],Y.bj⟩)
 obtain⟨_,hL,hB,R⟩:=HM u;rw[u,HO]at aw;rw[u,ff rfl,HO,Ql];have o:=Y.call aw;clear aw Y;have Y:=o;clear o;refine⟨_,rfl,?_⟩;have N:=(Y.rs 0 rfl).one;have P:=(Y.rs 1 rfl).one;have Q:=(Y.rs 2 rfl).one;refine KS ?_;intro p w Y;refine lm (n:=5) (p:=p) (vs:=[E (bG t.vars L),E (cy t.vars L t.dt),l,m,gv]) rfl rfl Y inferInstance rfl rfl (by simp only[fo,fB,N,P,Q];rfl) ?_;clear Y;intro w Y;obtain⟨px,rfl⟩:=À p;have R':=EZ I.pos hL.mem;have T':=KU t L (bG t.vars L).toNat;have V':(ao t).length=t.M.length:=by simp[ao]
 refine O ?_;refine rJ [2,2,43,44] (G:=Value) (fun g=>[(2,g)]) (fun g w=>(∀ w',Z w0 w' [am px 142 [E (bG t.vars L),E (cy t.vars L t.dt),l,m,gv],X W 3 l (ao t),X aV 190 m (cm t L),X ah 4 gv (eT t L (bG t.vars L).toNat),am pt 26 [a,b,c,d]]->RS W w' g (vY t cs))/\Z w0 w [am px 142 [E (bG t.vars L),E (cy t.vars L t.dt),l,m,gv],X W 3 l (ao t),X aV 190 m (cm t L),X ah 4 gv (eT t L (bG t.vars L).toNat),am pt 26 [a,b,c,d]]) (fun _=>rfl) ?_ ?_
 ·refine j2 ?_ ?_<;>intro V
  ·have T:vY t cs=ao t:=ba U
   refine O ?_;exact⟨l,⟨rfl,az⟩,aX,fun w' B=>by rw[T];exact B.rs 1 rfl,Y⟩
  have T:vY t cs=cs:=aM U;refine O ?_;exact⟨kv,⟨rfl,az⟩,aX,fun w' B=>by rw[T];exact hk.at B,Y⟩
 clear Y;rintro σ g w ⟨T,Y⟩;have V:t.vars.length<=1099511627776:=by have:=I.vars;omega
 have j':L.length<=1099511627776:=by
  have:=hL.len;have:=I.vars;omega
 have B:=BW (L:=L) ⟨H,K⟩;refine O ?_;refine gi (pl [0,1,3,5,6,7,2] (.cY 5::.cY 6::pl [4] (.cY 5::.cY 6::pl [8] (.cY 5::pl [9,10,11,12] [])))) Y kr ?_;clear Y;intro w Y;refine O ?_;refine aR rfl (pU (ha.at Y) V) ?_;rintro _ w' ⟨v1,rfl,aw⟩;refine aO ?_;clear aw Y;intro Y;refine O ?_;refine aR rfl (pU (hp.at Y) j') ?_;rintro _ w' ⟨v2,rfl,aw⟩;refine aO ?_;clear aw Y;intro Y;refine O ?_;refine aR rfl (XP (kv:=g) (S:=dY t L) (cv:=l) (ev:=m) (gv:=gv) ⟨bB Y,bB Y,bB Y⟩ (T _ Y.bj) (by show 0<=bG t.vars L;omega) (by show bG t.vars L<=_;omega) (by show ((eT t L _).length:Int)=bG t.vars L;omega) R B) ?_;rintro _ w' ⟨v3,D,rfl,hD,aw⟩;refine aO ?_;clear aw Y;intro Y;refine O ?_;have c1:=(bB (s:=v1) Y).fu;have c2:=(bB (s:=v2) Y).fu;have c3:=(bB (s:=v3) Y).fu;refine mX (parts:=[(0,.tmp 47),(1,.tmp 49),(2,.tmp 50),(3,.tmp 53)]) (vs:=[(0,v1),(1,v2),(2,.agg #[E (bG t.vars L),E (cy t.vars L t.dt),l,m,gv]),(3,v3)]) (ls:=[(0,[v1]),(1,[v2]),(2,[E (bG t.vars L),E (cy t.vars L t.dt),l,m,gv]),(3,[v3])]) rfl (by simp only[pV,uL,c1,c2,c3];rfl) rfl ?_;refine dS ?_;refine zx (vs:=HL (pT t L D) v1 v2 l m gv v3) rfl Y ?_;clear Y;intro p w Y;have Y:=xG (p:=p) (X':=pT t L D) (vv:=v1) (pv:=v2) (cv:=l) (ev:=m) (gv:=gv) (tv:=v3) (Γ:=[]) (show Z w0 w [am p 196 (HL (pT t L D) v1 v2 l m gv v3),X W 3 v1 t.vars,X W 3 v2 L,X W 3 l (ao t),X aV 190 m (cm t L),X ah 4 gv (eT t L (bG t.vars L).toNat),X W 3 v3 D] from Y.bj)
 refine O ?_;exact dw (v:=.pointer (some p)) (v':=.nilIface) rfl rfl rfl (.inr ⟨by rw[f];exact u,rfl,H,K,p,D,rfl,hD,Y⟩)
end
section
open Go.Sl Go
def qN (a b:J):J:=(List.range a.length).map fun i=>a.getD i W.dflt-b.getD i W.dflt
def XZ (a b:J):(qN a b).length=a.length:=by simp[qN]
def Qm {a:J}(h:i<a.length):(qN a b).getD i W.dflt=a.getD i W.dflt-b.getD i W.dflt:=by simp[qN,List.getD,h]
def mB (a b:J)(j:Nat):J:=(List.range a.length).map fun i=>if i<j then a.getD i W.dflt-b.getD i W.dflt else a.getD i W.dflt
def Qn (a b:J)(j:Nat):(mB a b j).length=a.length:=by simp[mB]
def X0 (a b:J):mB a b 0=a:=by
 apply jB (by simp[mB]);intro i h1 d;simp[mB,List.getD,d]
def X2 (a b:J):mB a b a.length=qN a b:=by
 unfold mB qN
 simp_all
def X3 {a:J}(h:j<a.length):(mB a b j).getD j W.dflt=a.getD j W.dflt:=by simp[mB,List.getD,h]
def X4 {a:J}:(mB a b j).set j (a.getD j W.dflt-b.getD j W.dflt)=mB a b (j+1):=by
 apply jB (by simp[mB]);intro i h1 d;rw[tS];simp only[mB,getElem_map,tI]
 grind
def eE (c:J)(z:List J)(k:Nat):J:=(z.take k).foldl qN c
def Qo (c:J)(z:List J):eE c z 0=c:=rfl
def KV (h:k<z.length):eE c z (k+1)=qN (eE c z k) (z.getD k []):=by
 unfold eE;rw[eX [] h,u0];rfl
def Qp {d:List J}(h:k<=z.length):eE c (z++d) k=eE c z k:=by
 unfold eE;grind
structure uM (t:aa) (Ls:List J) (c:J) (A z:List J):Prop where
 dl:A.length=Ls.length
 pl:z.length=Ls.length
 cr:∀ k,k<Ls.length->db (cm t (Ls.getD k [])) (eE c z k) (gg t (Ls.getD k [])) (bG t.vars (Ls.getD k [])).toNat (A.getD k [])
 part:∀ k,k<Ls.length->z.getD k []=qd (cm t (Ls.getD k [])) (A.getD k []) t.M.length
def Cq {α:Type}{l m:List α}{d:α}(h:i<l.length):(l++m).getD i d=l.getD i d:=by grind
def KW {α:Type}{l:List α}{x:α}{d:α}(h:i=l.length):(l++[x]).getD i d=x:=by grind
def uM.nil (t:aa)(c:J):uM t [] c [] []:=⟨rfl,rfl,fun k hk=>absurd hk (eo _),fun k hk=>absurd hk (eo _)⟩
def uM.gD (h:uM t Ls c A z)(g:db (cm t L) (eE c z Ls.length) (gg t L) (bG t.vars L).toNat D) :
  uM t (Ls++[L]) c (A++[D]) (z++[qd (cm t L) D t.M.length]):=by
 have d:=h.dl;have f:=h.pl;refine⟨by simp[h.dl],by simp[h.pl],fun k hk=>?_,fun k hk=>?_⟩
 ·simp only[length_append,length_cons,length_nil]at hk
  rw[Qp U];by_cases e:k<Ls.length
  ·rw[Cq e,Cq U];exact h.cr k e
  grind
 simp only[length_append,length_cons,length_nil]at hk;by_cases e:k<Ls.length
 ·rw[Cq e,Cq U,Cq U];exact h.part k e
 grind
structure fc (t:aa) (c:J):Prop where
 len:c.length=t.M.length
 et:∀ x∈c,0<=x/\x<=1048576
def fc.at (h:fc t c)(hi:i<t.M.length):0<=c.getD i W.dflt/\c.getD i W.dflt<=1048576:=h.et _ (cS W.dflt (by rw[h.len];exact hi))
def fc.of (d:c.length=t.M.length)(h:∀ i,i<t.M.length->0<=c.getD i W.dflt/\c.getD i W.dflt<=1048576):fc t c :=
 ⟨d,fun x hx=>by obtain⟨i,e,rfl⟩:=ga hx;grind⟩
def fc.zy (h:fc t c):pR (cm t L) c (bG t.vars L).toNat:=BW ⟨h.len,h.et⟩
def zz (I:aJ t):fc t (ao t):=⟨by simp[ao],Qk I⟩
def fc.sub (h:fc t c)(g:db (cm t L) c (gg t L) (bG t.vars L).toNat D):fc t (qN c (qd (cm t L) D t.M.length))/\∀ i,i<t.M.length->0<=(qd (cm t L) D t.M.length).getD i W.dflt/\(qd (cm t L) D t.M.length).getD i W.dflt<=c.getD i W.dflt:=by
 have f:=h.zy (L:=L);have e:sk (cm t L) D c.length (qd (cm t L) D t.M.length):=by rw[<-h.len];exact Qq f.cU
 have fh:=fun i (d:i<t.M.length)=>e.le f g (i:=i) (by rw[h.len];exact d);refine⟨.of (by rw[XZ];exact h.len) fun i d=>?_,fh⟩;rw[Qm (by rw[h.len];exact d)];have h1:=fh i d;have l:=h.at d;omega
def uM.aT {t:aa}{Ls:List J}{c:J}{A z:List J}(h:uM t Ls c A z)(d:fc t c):∀ k,k<=Ls.length->fc t (eE c z k)
 | 0,_=>d
 | k+1,hk=>by
  rw[KV (by rw[h.pl];omega),h.part k U];exact((h.aT d k U).sub (h.cr k U)).1
def bT (t:aa)(Ls A:List J)(s:J)(k:Nat):Int:=dg (A.getD k []) (cy t.vars (Ls.getD k []) s)
def kz (f:Nat->Int)(k:Nat):Int:=((List.range k).map f).sum
def X5 (f:Nat->Int):kz f 0=0:=rfl
def x7 (f:Nat->Int)(k:Nat):kz f (k+1)=kz f k+f k:=by simp[kz,lN]
def Qr {f:Nat->Int}{B:Int}(h:∀ k,k<n->0<=f k/\f k<=B):0<=kz f n/\kz f n<=n*B:=by
 induction n with
 | zero=>simp[kz]
 | succ n d =>
  have h1:=d fun k hk=>h k U;have e:=h n U;rw[x7,DC,HQ];omega
open Classical in
noncomputable def ic (t:aa)(Ls A:List J)(s:J):Int :=
 if ¬aj t.vars s then 1125899906842624 else if ∃ k,k<Ls.length/\bT t Ls A s k=1125899906842624 then 1125899906842624 else kz (bT t Ls A s) Ls.length
def X6 (h:¬aj t.vars s):ic t Ls A s=1125899906842624:=ba h
def Qt (h:aj t.vars s)(hk:k<Ls.length)(hv:bT t Ls A s k=1125899906842624):ic t Ls A s=1125899906842624:=by
 unfold ic;rw[aM (fun d=>d h),ba ⟨k,hk,hv⟩]
def Qu (h:aj t.vars s)(hv:∀ k,k<Ls.length->bT t Ls A s k≠1125899906842624):ic t Ls A s=kz (bT t Ls A s) Ls.length:=by
 unfold ic;grind
end
end Go.Proofs.YtmapkjoefdgjfaaGreatDoor
