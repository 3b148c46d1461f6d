/- Several texts. -/
import Derived.Test.YtmapkjoefdgjfaaGreatDoorMW16E
set_option linter.unusedSimpArgs false
set_option linter.unusedVariables false
set_option linter.defProp false
set_option maxRecDepth 8000
set_option maxHeartbeats 16000000
open List Nat
namespace Go.Proofs.YtmapkjoefdgjfaaGreatDoor
open Go.Sl
variable {w0 w:World}{t:aa}{Γ:List HP}{h a:Value}{xs:List cF}{L c s cs D b:J}{i j n k:Nat}{q p:Addr}{Ls A z:List J}{C:Int}
section
open Go.Sl Go
def UV (I:aG t){y q:J}{d:Int}(f:mL t y q d):cA t y<bH/\cA t y<=d:=by
 refine⟨?_,UW I f⟩;have e:bH=1125899906842624:=rfl
 induction f with
 | aH m=>rw[I4 I m];omega
 | @step y op q d g o _ r =>
  by_cases l:ab t.vars y
  ·have g1:=I5 I l g o
   have g2:=NP I _ r;have g3:=Ce I g;omega
  rw[A5 l];omega
def UX {op:Nat}(d:op<t.M.length):gj t<=qz t op:=by
 have key:∀ k,k<=t.M.length->op<k->jX t k<=qz t op:=by
  intro k
  induction k with
  | zero=>intro _ h;exact absurd h (dr _)
  | succ k f =>
   intro h1 g;rw[I3 U];by_cases e:op=k
   ·subst e;exact Int.min_le_right _ _
   exact rU (Int.min_le_left _ _) (f U U)
 exact key _ (cD _) d
def UY (I:aG t){y q:J}{d:Int}(f:mL t y q d):bP t y<bH/\bP t y<=d:=by
 have e:bH=1125899906842624:=rfl;have m:=f.nn I;unfold bP;split
 ·omega
 rename_i g
 cases f with
 | aH o=>exact absurd o g
 | step l r f =>
  have h1:=UX l;have u:=Ce I l;have v:=f.nn I;omega
end
section
open Go.Sl
attribute [local irreducible] vc opsW opsD opV opW PureV ReadV Thn Blk
def Dn {ii:Int}(hx:RS aF w0 h xs)(d:ii=i)(f:C=j)(hi:i<xs.length)(g:j<xs.length) :
  Calls ai 333 #[h,E ii,E C] w0 fun e w'=>e=.returned (.bool (gy (I aF.dflt xs i) (I aF.dflt xs j)))/\Z w0 w' []:=by
 subst d f;have Y:=Z.start w0;refine bA an Tryz.func333 ?_;refine fm ?_;intro w Y;exact bf (v:=.bool (gy (I aF.dflt xs i) (I aF.dflt xs j))) rfl rfl ⟨rfl,Y⟩
def Do {ii:Int}(d:ii=i)(f:C=j)(hi:i<xs.length)(g:j<xs.length)(Y:Z w0 w (X aF 239 h xs::Γ)) :
  Calls ai 336 #[h,E ii,E C] w fun e w'=>e=.returned (.tuple #[])/\Z w0 w' (X aF 239 h (sw aF.dflt xs i j)::Γ):=by
 subst d f;refine bA an Tryz.func336 ?_;refine fm ?_;intro w Y;refine Cf (s:=h) (j:=i) (x':=I aF.dflt xs j) rfl rfl rfl rfl Y inferInstance U ?_;clear Y;intro w Y;have l:(xs.set i (I aF.dflt xs j)).length=xs.length:=sm;refine O ?_;refine Cf (s:=h) (j:=j) (x':=I aF.dflt xs i) rfl rfl rfl rfl Y inferInstance U ?_;clear Y;intro w Y;refine O ?_;exact tj rfl ⟨rfl,Y⟩
def UZ {v:cF}(f:xs.length<1048576)(Y:Z w0 w (X aF 239 h xs::ak q 236 [h]::Γ)) :
  Calls ai 335 #[.pointer (some q),.iface 239 (.agg #[E v.bT,E v.aP])] w fun e w'=>e=.returned (.tuple #[])/\∃ d,Z w0 w' (X aF 239 d (xs++[v])::ak q 236 [d]::Γ):=by
 refine bA an Tryz.func335 ?_;refine db ?_;intro p w Y;refine fz (pl [0,1,2,3,4,5] (.cI 3::pl [6,7,8] [])) Y kr ?_;clear Y;intro w Y;refine O ?_;refine jK aF (x1:=v) rfl rfl rfl (fY rfl) (fe _) Y ?_;clear Y;intro s w Y;refine nX ?_;intro s w Y;exact tj rfl ⟨rfl,_,Y.tail.tail⟩
def U0 (f:0<xs.length)(g:xs.length<=1048576)(Y:Z w0 w (X aF 239 h xs::ak q 236 [h]::Γ)) :
  Calls ai 334 #[.pointer (some q)] w fun e w'=>e=.returned (.iface 239 ((.agg #[E (I aF.dflt xs (xs.length-1)).bT,E (I aF.dflt xs (xs.length-1)).aP])))/\∃ d,Z w0 w' (X aF 239 d (xs.take (xs.length-1))::ak q 236 [d]::Γ):=by
 refine bA an Tryz.func334 ?_;refine eE ?_;intro p w Y;have hk:(((xs.length:Nat):Int)-1).toNat=xs.length-1:=U;replace Y:=Z.sub (s:=h) (xs:=xs) Y inferInstance 0 (((xs.length:Nat):Int)-1).toNat U U;refine fm ?_;intro w Y;refine bf (v:=.iface 239 ((.agg #[E (I aF.dflt xs (((xs.length:Nat):Int)-1).toNat).bT,E (I aF.dflt xs (((xs.length:Nat):Int)-1).toNat).aP]))) rfl rfl ⟨by rw[hk],ssub h aF.sz 0 (((xs.length:Nat):Int)-1).toNat,?_⟩;have d:cut xs 0 (((xs.length:Nat):Int)-1).toNat=xs.take (xs.length-1):=by rw[hk];simp[cut]
 rw[d]at Y;exact Y.tail
def I6 (hx:RS aF w0 h xs) :
  Calls ai 143 #[h] w0 fun e w'=>e=.returned (E xs.length)/\Z w0 w' []:=by
 have Y:=Z.start w0;refine bA an Tryz.func143 ?_;refine O ?_;exact bf (v:=E xs.length) rfl rfl ⟨rfl,Y⟩
def U1 (o:C=j)(U':xP aF.dflt gy xs j)(v:xs.length<=1048576)(Y:Z w0 w (X aF 239 h xs::ak q 236 [h]::Γ)) :
  Calls ai 166 #[.iface 234 (.pointer (some q)),E C] w fun e w'=>e=.returned (.tuple #[])/\∃ ys,cV aF.dflt gy ys/\ys.Perm xs/\Z w0 w' (X aF 239 h ys::ak q 236 [h]::Γ):=by
 subst o;refine bA an Tryz.func166 ?_;refine O ?_;refine dQ [1,1,4,22] (G:=Nat) (H:=List cF) (fun j ys=>[(1,E j)]) (fun j ys w=>xP aF.dflt gy ys j/\ys.Perm xs/\Z w0 w (X aF 239 h ys::ak q 236 [h]::Γ)) (fun j ys=>j) j xs (fun _ _=>rfl) ⟨rfl,az⟩ ⟨U',.refl _,Y⟩ ?_;clear Y U';rintro x j ys w ⟨U',l,Y⟩;have f:=U'.I7;have r:=l.length_eq;refine O ?_;simp only[NQ];by_cases g:(j-1) / 2=j
 ·have d:decide ((((j-1) / 2:Nat):Int)=(j:Int))=true:=dy U
  simp only[d];refine O ?_;exact tj rfl ⟨rfl,ys,U'.done (.inl g),l,Y⟩
 have d:decide ((((j-1) / 2:Nat):Int)=(j:Int))=false:=dU U;simp only[d,zd];refine O ?_;refine nY (u:=h) rfl rfl (Y.ik inferInstance rfl) (Dn (bk Y) rfl rfl f (show (j-1) / 2<ys.length by omega)) ?_;rintro _ w' ⟨rfl,hk⟩;replace Y:=Y.cy hk;clear hk
 cases m:gy (I aF.dflt ys j) (I aF.dflt ys ((j-1) / 2)) with
 | false =>
  refine⟨_,rfl,?_⟩;refine O ?_
  exact tj rfl ⟨rfl,ys,U'.done (.inr m),l,Y⟩
 | true =>
  refine⟨_,rfl,?_⟩;refine O ?_;refine nY (u:=h) rfl rfl (Y.ik inferInstance rfl) (Do rfl rfl (show (j-1) / 2<ys.length by omega) f Y) ?_;clear Y;rintro _ w ⟨rfl,Y⟩;refine⟨_,rfl,?_⟩;refine O ?_;exact⟨(j-1) / 2,_,⟨rfl,az⟩,aU,⟨U'.step g m,(xQ U f).trans l,Y⟩,U⟩
def U2 {nn:Int}(N:nn=n)(D:v6 aF.dflt gy xs n 0)(S:xs.length<=1048576)(Y:Z w0 w (X aF 239 h xs::ak q 236 [h]::Γ)) :
  Calls ai 167 #[.iface 234 (.pointer (some q)),E 0,E nn] w fun e w'=>∃ b ys,e=.returned (.bool b)/\sT aF.dflt gy ys n/\ys.Perm xs/\(∀ k,n<=k->I aF.dflt ys k=I aF.dflt xs k)/\Z w0 w' (X aF 239 h ys::ak q 236 [h]::Γ):=by
 subst N;refine bA an Tryz.func167 ?_;refine O ?_;refine dQ [7,10,12,44] (G:=Nat) (H:=List cF) (fun i ys=>[(7,E i)]) (fun i ys w=>v6 aF.dflt gy ys n i/\i<=n/\ys.Perm xs/\(∀ k,n<=k->I aF.dflt ys k=I aF.dflt xs k)/\Z w0 w (X aF 239 h ys::ak q 236 [h]::Γ)) (fun i ys=>n-i) 0 xs (fun _ _=>rfl) ⟨rfl,az⟩ ⟨D,bu _,.refl _,fun _ _=>rfl,Y⟩ ?_;clear Y D;rintro T i ys w ⟨D,P,o,d,Y⟩;have B:=D.le;have Q:=o.length_eq;refine aB ?_ ?_<;>intro h1
 ·refine O ?_
  exact bf (v:=.bool _) rfl rfl ⟨_,ys,rfl,D.leaf U,o,d,Y⟩
 have r:2*i+1<n:=U;refine O ?_;by_cases R:2*i+2<n
 ·have g:decide (2*(i:Int)+1+1<(n:Int))=true:=dy U
  simp only[g,zf];refine O ?_;refine nY (u:=h) rfl rfl (Y.ik inferInstance rfl) (Dn (i:=2*i+2) (j:=2*i+1) (bk Y) U U U U) ?_;rintro _ w' ⟨rfl,hk⟩;replace Y:=Y.cy hk;clear hk
  cases l:gy (I aF.dflt ys (2*i+2)) (I aF.dflt ys (2*i+1)) with
  | true =>
   refine⟨_,rfl,?_⟩;refine oC ?_;refine sh [9,9,34,34] (G:=Nat) (fun j=>[(9,E j)]) (fun j w=>(j=2*i+1\/j=2*i+2)/\j<n/\(∀ c,0<c->c<n->(c-1) / 2=i->eI gy (I aF.dflt ys j) (I aF.dflt ys c))/\Z w0 w (X aF 239 h ys::ak q 236 [h]::Γ)) (fun _=>rfl) ?_ ?_
   ·refine O ?_
    refine⟨2*i+2,⟨?_,az⟩,aU,.inr rfl,R,fun c F h1 K=>?_,Y⟩
    ·show Value.int .i64 (2*(i:Int)+1+1)=_
     congr 1
    have:c=2*i+1\/c=2*i+2:=U;rcases this with rfl|rfl
    ·exact FV l
    exact A6 _
   clear Y;rintro x j w ⟨y,m,f,Y⟩;refine O ?_;refine nY (u:=h) rfl rfl (Y.ik inferInstance rfl) (Dn (bk Y) rfl rfl (show j<ys.length by omega) (show i<ys.length by omega)) ?_;rintro _ w' ⟨rfl,hk⟩;replace Y:=Y.cy hk;clear hk
   cases l:gy (I aF.dflt ys j) (I aF.dflt ys i) with
   | false =>
    refine⟨_,rfl,?_⟩;refine O ?_
    exact bf (v:=.bool _) rfl rfl ⟨_,ys,rfl,D.done f l,o,d,Y⟩
   | true =>
    refine⟨_,rfl,?_⟩;refine O ?_;refine nY (u:=h) rfl rfl (Y.ik inferInstance rfl) (Do rfl rfl (show i<ys.length by omega) (show j<ys.length by omega) Y) ?_;clear Y;rintro _ w ⟨rfl,Y⟩;refine⟨_,rfl,?_⟩;refine O ?_;refine⟨j,_,⟨rfl,az⟩,aU,⟨D.step y m f l,U,(xQ U U).trans o,fun k hk=>?_,Y⟩,U⟩;rw[rX U U,aC U,aC U]
    exact d k hk
  | false =>
   refine⟨_,rfl,?_⟩;refine oC ?_;refine sh [9,9,34,34] (G:=Nat) (fun j=>[(9,E j)]) (fun j w=>(j=2*i+1\/j=2*i+2)/\j<n/\(∀ c,0<c->c<n->(c-1) / 2=i->eI gy (I aF.dflt ys j) (I aF.dflt ys c))/\Z w0 w (X aF 239 h ys::ak q 236 [h]::Γ)) (fun _=>rfl) ?_ ?_
   ·refine O ?_
    refine⟨2*i+1,⟨?_,az⟩,aU,.inl rfl,r,fun c F h1 K=>?_,Y⟩
    ·show Value.int .i64 (2*(i:Int)+1)=_
     congr 1
    have:c=2*i+1\/c=2*i+2:=U;rcases this with rfl|rfl
    ·exact A6 _
    exact l
   clear Y;rintro x j w ⟨y,m,f,Y⟩;refine O ?_;refine nY (u:=h) rfl rfl (Y.ik inferInstance rfl) (Dn (bk Y) rfl rfl (show j<ys.length by omega) (show i<ys.length by omega)) ?_;rintro _ w' ⟨rfl,hk⟩;replace Y:=Y.cy hk;clear hk
   cases l:gy (I aF.dflt ys j) (I aF.dflt ys i) with
   | false =>
    refine⟨_,rfl,?_⟩;refine O ?_
    exact bf (v:=.bool _) rfl rfl ⟨_,ys,rfl,D.done f l,o,d,Y⟩
   | true =>
    refine⟨_,rfl,?_⟩;refine O ?_;refine nY (u:=h) rfl rfl (Y.ik inferInstance rfl) (Do rfl rfl (show i<ys.length by omega) (show j<ys.length by omega) Y) ?_;clear Y;rintro _ w ⟨rfl,Y⟩;refine⟨_,rfl,?_⟩;refine O ?_;refine⟨j,_,⟨rfl,az⟩,aU,⟨D.step y m f l,U,(xQ U U).trans o,fun k hk=>?_,Y⟩,U⟩;rw[rX U U,aC U,aC U];exact d k hk
 have g:decide (2*(i:Int)+1+1<(n:Int))=false:=dU U;simp only[g];refine oC ?_;refine sh [9,9,34,34] (G:=Nat) (fun j=>[(9,E j)]) (fun j w=>(j=2*i+1\/j=2*i+2)/\j<n/\(∀ c,0<c->c<n->(c-1) / 2=i->eI gy (I aF.dflt ys j) (I aF.dflt ys c))/\Z w0 w (X aF 239 h ys::ak q 236 [h]::Γ)) (fun _=>rfl) ?_ ?_
 ·refine O ?_
  refine⟨2*i+1,⟨?_,az⟩,aU,.inl rfl,r,fun c F h1 K=>?_,Y⟩
  ·show Value.int .i64 (2*(i:Int)+1)=_
   congr 1
  have:c=2*i+1:=U;subst this;exact A6 _
 clear Y;rintro x j w ⟨y,m,f,Y⟩;refine O ?_;refine nY (u:=h) rfl rfl (Y.ik inferInstance rfl) (Dn (bk Y) rfl rfl (show j<ys.length by omega) (show i<ys.length by omega)) ?_;rintro _ w' ⟨rfl,hk⟩;replace Y:=Y.cy hk;clear hk
 cases l:gy (I aF.dflt ys j) (I aF.dflt ys i) with
 | false =>
  refine⟨_,rfl,?_⟩;refine O ?_
  exact bf (v:=.bool _) rfl rfl ⟨_,ys,rfl,D.done f l,o,d,Y⟩
 | true =>
  refine⟨_,rfl,?_⟩;refine O ?_;refine nY (u:=h) rfl rfl (Y.ik inferInstance rfl) (Do rfl rfl (show i<ys.length by omega) (show j<ys.length by omega) Y) ?_;clear Y;rintro _ w ⟨rfl,Y⟩;refine⟨_,rfl,?_⟩;refine O ?_;refine⟨j,_,⟨rfl,az⟩,aU,⟨D.step y m f l,U,(xQ U U).trans o,fun k hk=>?_,Y⟩,U⟩;rw[rX U U,aC U,aC U];exact d k hk
def NR {v:cF}(H:cV aF.dflt gy xs)(l:xs.length<1048576)(Y:Z w0 w (X aF 239 h xs::ak q 236 [h]::Γ)) :
  Calls ai 142 #[.iface 234 (.pointer (some q)),.iface 239 (.agg #[E v.bT,E v.aP])] w fun e w'=>e=.returned (.tuple #[])/\∃ d ys,cV aF.dflt gy ys/\ys.Perm (v::xs)/\Z w0 w' (X aF 239 d ys::ak q 236 [d]::Γ):=by
 refine bA an Tryz.func142 ?_;refine O ?_;refine FW rfl rfl (UZ (v:=v) U Y) ?_;clear Y;rintro _ w ⟨rfl,d,Y⟩;refine⟨_,rfl,?_⟩;refine O ?_;refine nY (u:=d) rfl rfl (Y.ik inferInstance rfl) (I6 (bk Y)) ?_;rintro _ w' ⟨rfl,hk⟩;replace Y:=Y.cy hk;clear hk;refine⟨_,rfl,?_⟩;have f:(xs++[v]).length=xs.length+1:=sm;refine O ?_;refine aL rfl (U1 (j:=xs.length) (by rw[f];omega) (NS H) U Y) ?_;clear Y;rintro _ w ⟨rfl,ys,h1,g,Y⟩;refine⟨_,rfl,?_⟩;refine O ?_;exact tj rfl ⟨rfl,d,ys,h1,g.trans (I8 (l₁:=xs) (l₂:=[v])),Y⟩
def U3 (H:cV aF.dflt gy xs)(f:0<xs.length)(r:xs.length<=1048576)(Y:Z w0 w (X aF 239 h xs::ak q 236 [h]::Γ)) :
  Calls ai 144 #[.iface 234 (.pointer (some q))] w fun e w'=>∃ v l ys,e=.returned (.iface 239 (.agg #[E v.bT,E v.aP]))/\cV aF.dflt gy ys/\xs.Perm (v::ys)/\(∀ x∈xs,eI gy v x)/\Z w0 w' (X aF 239 l ys::ak q 236 [l]::Γ):=by
 refine bA an Tryz.func144 ?_;refine O ?_;refine nY (u:=h) rfl rfl (Y.ik inferInstance rfl) (I6 (bk Y)) ?_;rintro _ w' ⟨rfl,hk⟩;replace Y:=Y.cy hk;clear hk;refine⟨_,rfl,?_⟩;refine O ?_;refine nY (u:=h) rfl rfl (Y.ik inferInstance rfl) (Do (i:=0) (j:=xs.length-1) rfl U f U Y) ?_;clear Y;rintro _ w ⟨rfl,Y⟩;refine⟨_,rfl,?_⟩;refine O ?_;refine aL rfl (U2 (n:=xs.length-1) U (NT H f) (by rw[A7];exact r) Y) ?_;clear Y;rintro _ w ⟨b,ys,rfl,h1,y,B,Y⟩;have o:=y.trans (xQ f (show xs.length-1<xs.length by omega));have g:=o.length_eq;refine⟨_,rfl,?_⟩;refine O ?_;refine FW rfl rfl (U0 U U Y) ?_;clear Y;rintro _ w ⟨rfl,l,Y⟩;refine⟨_,rfl,?_⟩;refine O ?_;have d:I aF.dflt ys (xs.length-1)=I aF.dflt xs 0:=by
  rw[B _ (cD _),rX f U,aM rfl]
 obtain⟨F,m⟩:=NU f o h1 d;rw[g]at Y;refine bf (v:=.iface 239 ((.agg #[E (I aF.dflt ys (ys.length-1)).bT,E (I aF.dflt ys (ys.length-1)).aP]))) rfl rfl ⟨I aF.dflt xs 0,l,_,by rw[g,d],F,m,fun x hx=>NV H hx,Y⟩
end
section
open Go.Sl Go
attribute [local irreducible] vc opsW opsD opV opW PureV ReadV Thn Blk
instance AY:kq aT:=⟨fun x v hv=>by simp only[aT,ee,fI,pP]at hv;rcases hv with rfl|rfl|rfl<;>rfl⟩
def iF (E_:List de)(n:Nat):List (List de):=(List.range n).map fun (u:Nat)=>dj E_ (u:Int)
def NW (E_:List de)(n:Nat):(iF E_ n).length=n:=by simp[iF]
def U4 (n:Nat):iF [] n=replicate n []:=by
 apply iB (by simp[iF]);intro i h1 d;simp[iF,dj]
def I9 {E_:List de}{u:Nat}(h:u<n):(iF E_ n).getD u []=dj E_ (u:Int):=by simp[iF,List.getD,h]
def U5 {E_:List de}{e:de}(d:0<=e.dst)(h:e.dst<n):(iF E_ n).set e.dst.toNat ((iF E_ n).getD e.dst.toNat []++[e])=iF (E_++[e]) n:=by
 rw[I9 U];apply iB (by simp[iF]);intro i h1 f;rw[si];have l:i<n:=by simpa [iF] using f
 have g:(iF (E_++[e]) n)[i]=dj (E_++[e]) (i:Int):=by simp[iF]
 rw[g];split
 ·rename_i he
  subst he;rw[gA d];simp[dj]
 rename_i he;have:¬e.dst=(i:Int):=U;simp[iF,dj,this]
def NX (E_:List de)(u:Int):(dj E_ u).length<=E_.length:=uC _ _
def U6 {cv ev gv kv:Value}{S:bZ}(h:cX w0 cv ev gv S)(hk:RS W w0 kv cs)(_x:0<=S.st)(_y:S.st<=4096)(_C:(S.aQ.length:Int)=S.st)(_D:S.aD.length<=65536)(hE:oD S.aD cs S.st.toNat) :
  Calls ai 110 #[cM S cv ev gv,kv] w0 fun e w'=>∃ s D,e=.returned s/\cN S.aD cs (fun i=>S.aQ.getD i.toNat ah.dflt=true) S.st.toNat D/\Z w0 w' [X W 3 s D]:=by
 obtain⟨hc,he,I⟩:=h;have le:=he.bU;have lk:=hk.bU;have Y:=Z.start w0;refine bA an Tryz.func110 ?_
 repeat (first|refine du ?_|(refine gX ?_;clear Y;intro p w Y)|(refine fA ?_;clear Y;intro s w Y))
 obtain⟨px,rfl⟩:=À p;obtain⟨tv,rfl⟩:=À s;have Y:=Y.gI (T:=aT) (e:=190) S.st.toNat;rw[<-U4]at Y;refine dQ [7,7,23,39] (G:=Nat) (H:=List Value) (fun k _=>[(23,E k)]) (fun k r w=>k<=S.aD.length/\r.length=S.st.toNat/\Z w0 w [aj aT 190 r (iF (S.aD.take k) S.st.toNat),X ap 139 tv r,ak px 142 [E S.st,E S.bR,cv,ev,gv]]) (fun k _=>S.aD.length-k) 0 _ (fun _ _=>rfl) ⟨rfl,az⟩ ⟨bu _,sm,Y⟩ ?_;clear Y;rintro σ k r w ⟨_E,_h,Y⟩;refine aB ?_ ?_<;>intro h1
 ·have B:k<S.aD.length:=U
  obtain⟨e1,d,e3,e4⟩:=hE.getD B;have _i:=NW (S.aD.take k) S.st.toNat;refine db ?_;intro f w Y;have u:(S.aD.getD k aT.dflt).dst.toNat<(iF (S.aD.take k) S.st.toNat).length:=U;replace Y:=Y.swap.gV u;have V':((iF (S.aD.take k) S.st.toNat).getD (S.aD.getD k aT.dflt).dst.toNat []).length<=65536:=by
   rw[I9 U];have:=NX (S.aD.take k) ((S.aD.getD k aT.dflt).dst.toNat:Int);simp only[jd]at this;omega
  refine fz (pl [0,1,2,3,4,5,6,7,8,9] (.cI 2::.cI 5::.cI 7::pl [10] (.cI 2::pl [11,12] []))) Y kr ?_;clear Y;intro w Y;refine O ?_;refine jK aT (x1:=S.aD.getD k aT.dflt) rfl rfl rfl (fY rfl) (fe _) Y ?_;clear Y;intro s w Y;refine l7 ?_;intro s w Y;replace Y:=Z.o9 u U Y.tail;replace Y:=Y.swap.tail;rw[U5 d.1 U,<-eC aT.dflt B]at Y;exact⟨k+1,_,⟨rfl,az⟩,aU,⟨U,by simpa using _h,Y⟩,U⟩
 have J':k=S.aD.length:=U;subst J';rw[kV]at Y;have _i:=NW S.aD S.st.toNat;have V':(replicate S.st.toNat (0:Int)).length=S.st.toNat:=nD;refine l7 ?_;intro s w Y;obtain⟨ov,rfl⟩:=À s;refine A8 aF Y ?_;clear Y;intro s w Y;refine eE ?_;intro pq w Y;have _j:s.cells.toList=[s]:=((Y.rs 1 rfl).et)
 rw[_j,<-U7 (fun i=>S.aQ.getD i.toNat ah.dflt=true)]at Y;have _a:Z w0 w [X aF 239 s [],ak pq 236 [s],X W 3 ov (dM (fun i=>S.aQ.getD i.toNat ah.dflt=true) S.st.toNat 0),aj aT 190 r (iF S.aD S.st.toNat),X ap 139 tv r,ak px 142 [E S.st,E S.bR,cv,ev,gv]]:=Y.swap;clear Y;have hlen:∀ k,(dM (fun i=>S.aQ.getD i.toNat ah.dflt=true) S.st.toNat k).length=S.st.toNat:=fun k=>U8 _ _ k;refine nZ [10,11,48,66] (G:=Nat) (H:=Value) (I':=List cF) (fun k _ _=>[(48,E k)]) (fun k hv xs w=>k<=S.st.toNat/\cV aF.dflt gy xs/\xs.length<=k/\xs.Nodup/\(∀ x,x∈xs↔∃ i:Nat,i<k/\(fun i=>S.aQ.getD i.toNat ah.dflt=true) (i:Int)/\x=⟨0,i⟩)/\Z w0 w [X aF 239 hv xs,ak pq 236 [hv],X W 3 ov (dM (fun i=>S.aQ.getD i.toNat ah.dflt=true) S.st.toNat k),aj aT 190 r (iF S.aD S.st.toNat),X ap 139 tv r,ak px 142 [E S.st,E S.bR,cv,ev,gv]]) (fun k _ _=>S.st.toNat-k) 0 s [] (fun _ _ _=>rfl) ⟨rfl,az⟩ ⟨bu _,U9,cD _,zI,(fun x=>by simp),_a⟩ ?_;clear _a;rintro _F k hv xs w ⟨_G,hH,_k,Q,f,Y⟩;have _b:=hlen k;have _l:((dM (fun i=>S.aQ.getD i.toNat ah.dflt=true) S.st.toNat k).set k 1125899906842624).length=S.st.toNat:=by rw[gY,_b]
 refine aB ?_ ?_<;>intro h2
 ·have B:k<S.st.toNat:=U
  refine vJ ?_ ?_<;>intro w Y o
  ·refine fm ?_;intro w Y
   rw[Va (G:=(fun i=>S.aQ.getD i.toNat ah.dflt=true)) (k:=k) (by simp only[jo];exact o)]at Y;refine aL rfl (NR (v:=⟨0,k⟩) hH U Y) ?_;clear Y;rintro _ w ⟨rfl,R,ys,V,hp,Y⟩;refine⟨_,rfl,?_⟩;refine O ?_;have l:(⟨0,k⟩:cF)∉xs:=fun hx=>by
    obtain⟨i,u,_,d⟩:=(f _).1 hx;simp only[cF.mk.injEq,true_and]at d;omega
   refine⟨k+1,R,ys,⟨rfl,az⟩,aU,⟨U,V,by rw[hp.length_eq];simp;omega,hp.nodup_iff.2 (vr.2 ⟨l,Q⟩),fun x=>?_,Y⟩,U⟩;rw[hp.mem_iff,ee,f];constructor
   ·rintro (rfl|⟨i,u,d,g⟩)
    ·exact⟨k,U,by simp only[jo];exact o,rfl⟩
    exact⟨i,U,d,g⟩
   rintro⟨i,u,d,g⟩;by_cases F:i=k
   ·subst F;exact .inl g
   exact .inr ⟨i,U,d,g⟩
  refine O ?_;rw[Vb (G:=(fun i=>S.aQ.getD i.toNat ah.dflt=true)) (k:=k) (by simp only[jo];rw[o];decide)]at Y;refine⟨k+1,hv,xs,⟨rfl,az⟩,aU,⟨U,hH,U,Q,fun x=>?_,Y⟩,U⟩;rw[f];constructor
  ·rintro⟨i,u,d,g⟩;exact⟨i,U,d,g⟩
  rintro⟨i,u,d,g⟩;by_cases F:i=k
  ·subst F;simp only[jo]at d;rw[o]at d;cases d
  exact⟨i,U,d,g⟩
 have J':k=S.st.toNat:=U;subst J';rw[Vc]at Y;have _c:=DJ.start S.aD cs (fun i=>S.aQ.getD i.toNat ah.dflt=true) S.st.toNat f Q;have _m:=Vd S.aD [];clear _b _l hlen V';refine O ?_;refine cP [12,13,15,16,67,125] (G:=J × Value × List cF × J × Int) (fun _=>[]) (fun x w=>zJ S.aD cs (fun i=>S.aQ.getD i.toNat ah.dflt=true) S.st.toNat x.1 x.2.2.1 x.2.2.2.1 x.2.2.2.2/\cV aF.dflt gy x.2.2.1/\x.2.2.1.length+qH S.aD x.2.2.2.1<=4096+65536/\Z w0 w [X aF 239 x.2.1 x.2.2.1,ak pq 236 [x.2.1],X W 3 ov x.1,aj aT 190 r (iF S.aD S.st.toNat),X ap 139 tv r,ak px 142 [E S.st,E S.bR,cv,ev,gv]]) (fun x=>x.2.2.1.length+qH S.aD x.2.2.2.1) (_,hv,xs,[],0) (fun _=>rfl) trivial ⟨_c,hH,by simp only;omega,Y⟩ ?_;clear Y _c _m hH f Q _k;rintro _H ⟨D,hv,xs,Sn,m⟩ w ⟨hD,hH,hb,Y⟩;simp only at hD hH hb Y;refine O ?_;refine aL rfl (I6 (h:=hv) (bk Y)) ?_;rintro _ w' ⟨rfl,al⟩;refine aA ?_;clear al Y;intro Y;refine aB ?_ ?_<;>intro h4
 ·have _n:0<xs.length:=U
  refine O ?_;refine aL rfl (U3 hH _n U Y) ?_;clear Y;rintro _ w ⟨x,R,ys,rfl,V,hp,_d,Y⟩;have _o:=hp.length_eq;simp only[length_cons]at _o;refine⟨_,rfl,?_⟩;refine eE ?_;intro pi w Y;have P':zJ S.aD cs (fun i=>S.aQ.getD i.toNat ah.dflt=true) S.st.toNat D (x::ys) Sn m:=hD.nK hp.symm;obtain⟨f1,f2,f3,f4,f5⟩:=P'.nE x sm;have _I:=hD.inv.len;have _p:=hD.inv.dK x.aP.toNat U;rw[gA f1.1]at _p;have _J:=hD.m0;refine aB ?_ ?_<;>intro h5
  ·refine O ?_
   refine⟨(D,R,ys,Sn,m),az,aU,⟨P'.skip h5,V,by simp only;omega,Y.aY⟩,by simp only;omega⟩
  have _q:¬dg D x.aP<x.bT:=by simp only[dg];omega
  obtain⟨l,_r,_s,_,_e⟩:=P'.take _q (fun y hy=>by
   have:=_d y (hp.mem_iff.2 (by simp[hy]));simp only[eI,gy,qA]at this
   omega)
  have _K:=NY _r S.aD;have _z:x.bT<1125899906842624:=_e;have _A:=NX S.aD x.aP;have _f:(iF S.aD S.st.toNat).getD x.aP.toNat []=dj S.aD x.aP:=by
   rw[I9 U,gA f1.1]
  have d:=(Y.bQ 4 rfl).row (i:=x.aP.toNat) U;rw[_f]at d;have _t:=d;refine O ?_;refine zK [15,16,93,125] (G:=Nat) (H:=J) (I':=Value) (M':=List cF) (fun k _ _ _=>[(93,E k)]) (fun k D' K o w=>k<=(dj S.aD x.aP).length/\DJ S.aD cs (fun i=>S.aQ.getD i.toNat ah.dflt=true) S.st.toNat D' o (x.aP::Sn) x.bT (fun e=>e.dst∈Sn\/∃ i,i<k/\(dj S.aD x.aP).getD i aT.dflt=e)/\dg D' x.aP=x.bT/\cV aF.dflt gy o/\o.length<=ys.length+k/\Z w0 w [X aF 239 K o,ak pq 236 [K],ak pi 239 [E x.bT,E x.aP],X W 3 ov D',aj aT 190 r (iF S.aD S.st.toNat),X ap 139 tv r,ak px 142 [E S.st,E S.bR,cv,ev,gv]]) (fun k _ _ _=>(dj S.aD x.aP).length-k) 0 D R ys (fun _ _ _ _=>rfl) ⟨rfl,az⟩ ⟨bu _,?_,_s,V,U,Y.aY⟩ ?_
  ·refine⟨l.inv,l.nE,l.nd,l.set,l.oE,fun e he hm hd=>l.yn e he hm ?_,l.m0⟩
   rcases hd with hd|⟨i,u,_⟩
   ·exact hd
   exact absurd u (dr _)
  clear Y d;rintro _L k D' K o w ⟨_M,N,g,R',_N,Y⟩;have d:=(Y.bQ 4 rfl).row (i:=x.aP.toNat) U;rw[_f]at d;have _B:=N.inv.len;refine aB ?_ ?_<;>intro h6
  ·have B:k<(dj S.aD x.aP).length:=U
   obtain⟨j',T'⟩:=NZ.1 (cH aT.dflt B);have e1:=hE.bh _ j';have e3:=hE.cK _ j';have e4:=hE.iC j';simp only[iC]at e4;have r1:=N.inv.dK ((dj S.aD x.aP).getD k aT.dflt).bh.toNat U;rw[gA e1.1]at r1;simp only[dg]at r1;have P:∀ {c D xs},DJ S.aD cs (fun i=>S.aQ.getD i.toNat ah.dflt=true) S.st.toNat D xs (x.aP::Sn) x.bT (fun e=>(e.dst∈Sn\/∃ i,i<k/\(dj S.aD x.aP).getD i aT.dflt=e)\/e=c)->c=(dj S.aD x.aP).getD k aT.dflt->DJ S.aD cs (fun i=>S.aQ.getD i.toNat ah.dflt=true) S.st.toNat D xs (x.aP::Sn) x.bT (fun e=>e.dst∈Sn\/∃ i,i<k+1/\(dj S.aD x.aP).getD i aT.dflt=e):=by
    intro c D xs hh hc;refine⟨hh.inv,hh.nE,hh.nd,hh.set,hh.oE,fun e he hm hd=>hh.yn e he hm ?_,hh.m0⟩;rcases hd with hd|⟨i,u,H'⟩
    ·exact .inl (.inl hd)
    by_cases F:i=k
    ·subst F;exact .inr (by rw[hc,H'])
    exact .inl (.inr ⟨i,U,H'⟩)
   refine mg ?_ ?_<;>intro p w Y h7
   ·have F:=N.sU hE j' (by rw[T'];simp) (by rw[T'];exact g) _e (by simp only[dg,iC];exact h7)
    simp only[iC]at F;refine fm ?_;intro w Y;refine aL rfl (NR (v:=⟨x.bT+cs.getD ((dj S.aD x.aP).getD k aT.dflt).cK.toNat W.dflt,((dj S.aD x.aP).getD k aT.dflt).bh⟩) R' U Y.tail) ?_;clear Y;rintro _ w ⟨rfl,_u,zs,_v,_g,Y⟩;refine⟨_,rfl,?_⟩;refine O ?_;have _w:x.aP≠((dj S.aD x.aP).getD k aT.dflt).bh:=fun he=>by
     have h8:=g;rw[he]at h8;simp only[dg]at h8;omega
    refine⟨k+1,_,_u,zs,⟨rfl,az⟩,aU,⟨U,(P F rfl).nK _g,?_,_v,by rw[_g.length_eq];simp;omega,Y.aY⟩,U⟩;rw[Cg f1.1 e1.1 U,aC _w];exact g
   refine O ?_;refine⟨k+1,D',K,o,⟨rfl,az⟩,aU,⟨U,P (N.keep (e:=(dj S.aD x.aP).getD k aT.dflt) fun F=>?_) rfl,g,R',U,Y.aY⟩,U⟩;rw[T',g];simp only[dg,iC];omega
  refine O ?_;refine⟨(D',K,o,x.aP::Sn,x.bT),az,aU,⟨N.close fun e he hm=>?_,R',by simp only;omega,Y.aY⟩,by simp only;omega⟩;rcases ee.1 hm with hm|hm
  ·obtain⟨i,u,H'⟩:=fJ (NZ.2 ⟨he,hm⟩)
   exact .inr ⟨i,U,by rw[am u];exact H'⟩
  exact .inl hm
 have d:xs=[]:=n0 U;subst d;refine O ?_;exact bf (v:=ov) rfl rfl ⟨ov,D,rfl,hD.pQ hE,Y.aY⟩
structure rY where
 vars:J
 qd:J
 l4:bZ
 qY:J
def FX (X':rY)(vv pv cv ev gv tv:Value):List Value:=[vv,pv,E X'.l4.st,E X'.l4.bR,cv,ev,gv,tv]
def Ja (p:Addr)(X':rY)(vv pv cv ev gv tv:Value):List HP:=[ak p 196 (FX X' vv pv cv ev gv tv),X W 3 vv X'.vars,X W 3 pv X'.qd,X W 3 cv X'.l4.aS,X aT 190 ev X'.l4.aD,X ah 4 gv X'.l4.aQ,X W 3 tv X'.qY]
@[irreducible] def rZ (p:Addr)(X':rY):HP:=fun h=>∃ d e f g gv l,cm (Ja p X' d e f g gv l) h
def vV {X':rY}(Y:Z w0 w (rZ p X'::Γ)):∃ vv pv cv ev gv tv,Z w0 w (Ja p X' vv pv cv ev gv tv++Γ):=by
 unfold rZ at Y;obtain⟨h1,e,d,s1,s2,⟨vv,pv,cv,ev,gv,tv,a⟩,g⟩:=Y.jL;exact⟨vv,pv,cv,ev,gv,tv,Y.below,cm.A9 _ d s1 s2 a g⟩
def vW {X':rY}{vv pv cv ev gv tv:Value}(Y:Z w0 w (Ja p X' vv pv cv ev gv tv++Γ)):Z w0 w (rZ p X'::Γ):=by
 unfold rZ;obtain⟨h1,e,d,s1,s2,a,g⟩:=cm.split _ Y.jL;exact⟨Y.below,h1,e,d,s1,s2,⟨vv,pv,cv,ev,gv,tv,a⟩,g⟩
def v7 (w:World)(p:Addr)(X':rY):Prop:=∃ d e f g gv l,dL w p (FX X' d e f g gv l)/\RS W w d X'.vars/\RS W w e X'.qd/\RS W w f X'.l4.aS/\RS aT w g X'.l4.aD/\RS ah w gv X'.l4.aQ/\RS W w l X'.qY
def v7.at {w0 w:World}{Γ:List HP}{p:Addr}{X':rY}(h:v7 w0 p X')(Y:Z w0 w Γ):v7 w p X':=by
 obtain⟨d,e,f,g,gv,l,m,h1,o,r,u,v,x⟩:=h;exact⟨d,e,f,g,gv,l,m.at Y,h1.at Y,o.at Y,r.at Y,u.at Y,v.at Y,x.at Y⟩
def rH {X':rY}(Y:Z w0 w Γ)(i:Nat)(hi:Γ[i]? = some (rZ p X')):v7 w p X':=by
 obtain⟨d,e,f,g,gv,l,h⟩:=vV (Y.bQ i hi);exact⟨d,e,f,g,gv,l,h.gn 0 rfl,h.rs 1 rfl,h.rs 2 rfl,h.rs 3 rfl,h.rs 4 rfl,h.rs 5 rfl,h.rs 6 rfl⟩
class EU (Γ:List HP) (p:Addr) (X':outParam rY):Prop where
 ok:∃ i:Nat,Γ[i]? = some (rZ p X')
instance (priority:=high) db_here {p:Addr}{X':rY}{Γ:List HP}:EU (rZ p X'::Γ) p X':=⟨0,rfl⟩
def MQ {X':rY}[h:EU Γ p X'](Y:Z w0 w Γ):v7 w p X':=by
 obtain⟨i,d⟩:=h.ok;exact rH Y i d
structure BK (X':rY):Prop where
 pos:∀ x∈X'.vars,1<=x
 mem:∀ v∈X'.qd,0<=v/\v<X'.vars.length
 Dp:br X'.vars X'.qd<=4096
 qY:X'.qY.length=(br X'.vars X'.qd).toNat
 cK:∀ e∈X'.l4.aD,0<=e.cK/\e.cK<X'.l4.aS.length
 bh:∀ e∈X'.l4.aD,0<=e.bh/\e.bh<X'.qY.length
 dst:∀ e∈X'.l4.aD,0<=e.dst/\e.dst<X'.qY.length
 dK:∀ i:Nat,i<X'.qY.length->0<=dg X'.qY i/\dg X'.qY i<=bH
 qy1:X'.vars.length<=64
 MR:X'.l4.aS.length<=4096
 MS:X'.l4.aD.length<=65536
open Classical in
noncomputable def wQ (X':rY)(s:J):Int:=if ab X'.vars s then dg X'.qY (bX X'.vars X'.qd s) else 1125899906842624
def Jb {X':rY}(h:ab X'.vars s):wQ X' s=dg X'.qY (bX X'.vars X'.qd s):=aM h
def Ve {X':rY}(h:¬ab X'.vars s):wQ X' s=1125899906842624:=aC h
def N0 {X':rY}{sv:Value}(u:v7 w0 p X')(d:BK X')(x:RS W w0 sv s) :
  Calls ai 327 #[.pointer (some p),sv] w0 fun e w'=>e=.returned (E (wQ X' s))/\Z w0 w' []:=by
 obtain⟨Q,R,S,T,gv,V,h0,h1,y,h3,h4,h5,h6⟩:=u;have B:=y.bU;have F:=d.qY;have K:=d.Dp;have Y:=Z.start w0;refine bA an Tryz.func327 ?_;refine O ?_;refine aL rfl (xR h1 (x.at Y)) ?_;rintro _ w' ⟨⟨r,rfl,g⟩,al⟩;refine aA ?_;clear al Y;intro Y;cases r
 ·rw[Ve (fun h=>by have:=g.2 h;cases this)]
  refine O ?_;exact bf (v:=E 1125899906842624) rfl rfl ⟨rfl,Y⟩
 have bL:=g.1 rfl;have N:=bL.1;rw[Jb bL];refine O ?_;refine dQ [5,5,7,7,22,40] (G:=Nat) (H:=Int) (fun k n=>[(22,E k),(5,E n)]) (fun k n w=>k<=X'.qd.length/\n=bX X'.vars (X'.qd.take k) s/\Z w0 w []) (fun k _=>X'.qd.length-k) 0 0 (fun _ _=>rfl) ⟨rfl,rfl,az⟩ ⟨bu _,rfl,Y⟩ ?_;clear Y;rintro σ k n w ⟨hk,l,Y⟩;refine aB ?_ ?_<;>intro h7
 ·have f:k<X'.qd.length:=U
  have hv:=d.mem _ (cH W.dflt f);have g:=bL.dK hv.1 hv.2;have m:=oF (p:=X'.qd.take k) bL fun v hv=>d.mem v (pO hv);have P:=oF (p:=X'.qd.take (k+1)) bL fun v hv=>d.mem v (pO hv);have eI:=Jc d.pos d.mem (k+1);have o:=N1 (vars:=X'.vars) (s:=s) f;rw[<-l]at m o;simp only[sg]at o g;have b0:0<=n*X'.vars.getD (X'.qd.getD k W.dflt).toNat W.dflt:=sj U U;refine fm ?_;intro w Y;exact⟨k+1,_,⟨rfl,rfl,az⟩,aU,⟨U,o.symm,Y⟩,U⟩
 rw[gH U]at l;have f:=oF bL d.mem;subst l;refine O ?_;exact bf (v:=E (dg X'.qY (bX X'.vars X'.qd s))) rfl rfl ⟨rfl,Y⟩
def Vf {X':rY}(x:v7 w0 p X')(f:BK X') :
  Calls ai 86 #[.pointer (some p)] w0 fun e w'=>∃ s,e=.returned s/\Z w0 w' [X W 3 s (nL X'.l4.aD X'.qY X'.l4.aS.length)]:=by
 obtain⟨R,S,T,V,gv,tv,h0,h1,h2,h3,h4,h5,h6⟩:=x;have y:=f.qY;have B:=f.Dp;have F:=f.MR;have H:=f.MS;have Y:=Z.start w0;refine bA an Tryz.func86 ?_;refine l7 ?_;intro s w Y;obtain⟨o,rfl⟩:=À s;rw[jo,<-Vg X'.l4.aD X'.qY X'.l4.aS.length]at Y;refine cP [5,7,23,62] (G:=Nat) (fun k=>[(23,E k)]) (fun k w=>k<=X'.l4.aD.length/\Z w0 w [X W 3 o (mS X'.l4.aD X'.qY X'.l4.aS.length k)]) (fun k=>X'.l4.aD.length-k) 0 (fun _=>rfl) ⟨rfl,az⟩ ⟨bu _,Y⟩ ?_;clear Y;rintro σ k w ⟨hk,Y⟩;have K:=Jd (E_:=X'.l4.aD) (D:=X'.qY) (m:=X'.l4.aS.length) k hk;refine aB ?_ ?_<;>intro h7
 ·have l:k<X'.l4.aD.length:=U
  have g:=cH aT.dflt l;have e1:=f.cK _ g;have N:=f.bh _ g;have P:=f.dst _ g;have r:=f.dK (X'.l4.aD.getD k aT.dflt).bh.toNat U;have u:=f.dK (X'.l4.aD.getD k aT.dflt).dst.toNat U;rw[gA N.1]at r;rw[gA P.1]at u;have d:=Je (D:=X'.qY) (m:=X'.l4.aS.length) l;simp only[kS,dg,iC,bH]at d r u;refine MT ?_ ?_<;>intro p w Y Q
  ·rw[aM Q]at d
   refine fm ?_;intro w Y;rw[<-d]at Y;exact⟨k+1,⟨rfl,az⟩,aU,⟨U,Y.tail⟩,U⟩
  rw[aC U]at d;refine O ?_;rw[<-d]at Y;exact⟨k+1,⟨rfl,az⟩,aU,⟨U,Y.tail⟩,U⟩
 have d:k=X'.l4.aD.length:=U;subst d;refine O ?_;exact bf (v:=o) rfl rfl ⟨o,rfl,Y⟩
def mT (x:Int):Prop:=x<0\/1048576<x
instance (x:Int):Decidable (mT x):=inferInstanceAs (Decidable (_\/_))
def Vh {x:Int} :
  Calls ai 109 #[E x] w0 fun e w'=>e=.returned (.bool (decide (mT x)))/\Z w0 w' []:=by
 have Y:=Z.start w0;refine bA an Tryz.func109 ?_;refine O ?_;refine bf (v:=.bool (decide (x<0) || decide (1048576<x))) rfl rfl ⟨?_,Y⟩;rw[<-Bool.decide_or];rfl
def Vi {xs:J}(m:RS W w0 a xs) :
  Calls ai 71 #[a,.func (.func 109) #[] #[]] w0 fun e w'=>(∃ r:Int,e=.returned (E r)/\(0<=r↔∃ x∈xs,mT x))/\Z w0 w' []:=by
 have o:=m.bU;have Y:=Z.start w0;refine bA an Tryz.func71 ?_;refine O ?_;refine cP [4,5,8,18] (G:=Nat) (fun k=>[(8,E k)]) (fun k w=>k<=xs.length/\(∀ i,i<k->¬mT (xs.getD i W.dflt))/\Z w0 w []) (fun k=>xs.length-k) 0 (fun _=>rfl) ⟨rfl,az⟩ ⟨bu _,fun i f=>absurd f (dr _),Y⟩ ?_;clear Y;rintro u k w ⟨hk,d,Y⟩;refine aB ?_ ?_<;>intro h1
 ·have l:k<xs.length:=U
  refine O ?_;refine wr (cs:=[]) rfl rfl (Vh (x:=xs.getD k W.dflt)) ?_;rintro _ w' ⟨rfl,al⟩;refine aA ?_;clear al Y;intro Y;by_cases g:mT (xs.getD k W.dflt)
  ·rw[dy g]
   refine O ?_;refine bf (v:=E k) rfl rfl ⟨⟨k,rfl,⟨fun _=>⟨_,cH W.dflt l,g⟩,fun _=>U⟩⟩,Y⟩
  rw[dU g];refine O ?_;refine⟨k+1,⟨rfl,az⟩,aU,⟨U,fun i f=>?_,Y⟩,U⟩;by_cases h:i=k
  ·subst h;exact g
  exact d i U
 refine O ?_;refine bf (v:=E (-1)) rfl rfl ⟨⟨-1,rfl,⟨fun h=>U,?_⟩⟩,Y⟩;rintro⟨x,hx,he⟩;obtain⟨i,f,rfl⟩:=A0.1 hx;exact absurd (by rw[am f];exact he) (d i U)
def Vj {xs:J}(d:RS W w0 a xs) :
  Calls ai 44 #[a,.func (.func 109) #[] #[]] w0 fun e w'=>(∃ r,e=.returned (.bool r)/\(r=true↔∃ x∈xs,mT x))/\Z w0 w' []:=by
 have Y:=Z.start w0;refine bA an Tryz.func44 ?_;refine O ?_;refine aL rfl (Vi d) ?_;rintro _ w' ⟨⟨r,rfl,f⟩,al⟩;refine aA ?_;clear al Y;intro Y;refine O ?_;exact bf (v:=.bool (decide (0<=r))) rfl rfl ⟨⟨_,rfl,by rw[gQ];exact f⟩,Y⟩
open Classical in
noncomputable def iG (t:aa)(L cs:J):Int:=if bM t≠0 then bM t else if 0<cs.length/\cs.length≠t.M.length then 11 else if ∃ x∈cs,mT x then 1 else cT t L
def uD (t:aa)(cs:J):J:=if cs.length=0 then ar t else cs
noncomputable def nF (t:aa)(L D:J):rY:=⟨t.vars,L,dY t L,D⟩
def FY (h:cT t L=0):aG t/\jp t.vars L/\br t.vars L<=4096/\(bS t L).length<=65536:=by
 by_cases hk:lQ t L=0
 ·rw[Jf hk]at h
  obtain⟨I,d⟩:=Jg.1 hk;unfold j7 at h;split at h
  ·cases h
  split at h
  ·cases h
  split at h
  ·cases h
  exact⟨I,d.N2,U,U⟩
 unfold cT at h;rw[aM hk]at h;exact absurd h hk
def N3 (I:aG t):∀ x∈ar t,0<=x/\x<=1048576:=by
 intro x hx;obtain⟨o,e,rfl⟩:=iS.1 hx;obtain⟨i,d,rfl⟩:=fJ e;have:=I.op i d;rw[am d]at this;have h1:=this.lE;have f:=this.pd;omega
def Vk (I:aG t)(h1:¬(0<cs.length/\cs.length≠t.M.length))(h2:¬∃ x∈cs,mT x):(uD t cs).length=t.M.length/\∀ x∈uD t cs,0<=x/\x<=1048576:=by
 unfold uD;split
 ·exact⟨by simp[ar],N3 I⟩
 refine⟨U,fun x hx=>?_⟩;have:¬mT x:=fun d=>h2 ⟨x,hx,d⟩;unfold mT at this;omega
def AC (h:cs.length=t.M.length/\∀ x∈cs,0<=x/\x<=1048576):oD (bS t L) cs (br t.vars L).toNat :=
 Fj ⟨h.1,fun x hx=>by have:=h.2 x hx;omega⟩
def Jh (l:cT t L=0)(g:cN (bS t L) cs (fq t L) (br t.vars L).toNat D):BK (nF t L D):=by
 obtain⟨I,m,o,r⟩:=FY l;have d:=g.len;have u:=I.M;have f:=I.vars;have key:∀ e∈bS t L,(0<=e.bh/\e.bh<(br t.vars L).toNat)/\(0<=e.dst/\e.dst<(br t.vars L).toNat)/\0<=e.cK/\e.cK<t.M.length:=by
  intro e he;obtain⟨x,op,y,hx,v,B,F,rfl⟩:=FZ.1 he;exact⟨⟨by simp only;omega,by simp only;omega⟩,⟨by simp only;omega,by simp only;omega⟩,by simp only;omega,by simp only;omega⟩
 refine⟨I.pos,m.mem,o,d,fun e he=>?_,fun e he=>?_,fun e he=>?_,fun i v=>g.dK i (by rw[<-d];exact v),f,?_,r⟩
 ·have:=(key e he).2.2
  simp only[nF,dY,ar,iz];omega
 ·have:=(key e he).1
  show 0<=e.bh/\e.bh<D.length;omega
 ·have:=(key e he).2.1
  show 0<=e.dst/\e.dst<D.length;omega
 simp only[nF,dY,ar,iz];omega
def Ji {b c d vp kv:Value}{vs:List iW}(ht:bn w0 a b c d vs t)(hp:RS W w0 vp L)(hk:RS W w0 kv cs) :
  Calls ai 82 #[.agg #[a,b,c,d],vp,kv] w0 fun e w' =>
   (iG t L cs≠0/\e=.returned (.tuple #[.pointer none,bI (iG t L cs)])/\Z w0 w' []) \/
   (iG t L cs=0/\cT t L=0/\(uD t cs).length=t.M.length/\(∀ x∈uD t cs,0<=x/\x<=1048576)/\∃ p D,e=.returned (.tuple #[.pointer (some p),.nilIface])/\cN (bS t L) (uD t cs) (fq t L) (br t.vars L).toNat D/\Z w0 w' [rZ p (nF t L D)]):=by
 have F:=ht;obtain⟨ha,hb,hc,hd⟩:=ht;have H':=hd.rs;have J':=hd.len;have P':=hk.bU;have Y:=Z.start w0;refine bA an Tryz.func82 ?_;refine eE ?_;intro pt w Y;refine aL rfl (tC (F.at Y)) ?_;rintro _ w' ⟨rfl,al⟩;refine aA ?_;clear al Y;intro Y;by_cases h1:bM t=0;rotate_left
 ·have f:iG t L cs=bM t:=aM h1
  rw[cS h1];refine O ?_;exact cR (v:=.pointer none) (v':=.iface 57 (E (bM t))) rfl rfl rfl (.inl ⟨by rw[f];exact h1,by rw[f,cS h1],Y.aY⟩)
 rw[fK h1];have I:=(oz t).1 h1;refine aB ?_ ?_<;>intro h2
 ·have f:iG t L cs=11:=by
   unfold iG;rw[aC (by simp[h1]),aM ⟨U,U⟩]
  refine O ?_;exact cR (v:=.pointer none) (v':=.iface 57 (E 11)) rfl rfl rfl (.inl ⟨by rw[f];decide,by rw[f,cS dc],Y.aY⟩)
 have y:¬(0<cs.length/\cs.length≠t.M.length):=U;refine O ?_;refine aL rfl (Vj (hk.at Y)) ?_;rintro _ w' ⟨⟨r,rfl,hr⟩,al⟩;refine aA ?_;clear al Y;intro Y;cases r;rotate_left
 ·have f:iG t L cs=1:=by
   unfold iG;rw[aC (by simp[h1]),aC y,aM (hr.1 rfl)]
  refine O ?_;exact cR (v:=.pointer none) (v':=.iface 57 (E 1)) rfl rfl rfl (.inl ⟨by rw[f];decide,by rw[f,cS dc],Y.aY⟩)
 have h3:¬∃ x∈cs,mT x:=fun h=>by have:=hr.2 h;cases this
 have f:iG t L cs=cT t L:=by
  unfold iG;rw[aC (by simp[h1]),aC y,aC h3]
 obtain⟨H,K⟩:=Vk I y h3;refine O ?_;refine aL rfl (F0 (F.at Y) (hp.at Y)) ?_;rintro _ w' ⟨l,m,gv,rfl,al⟩;by_cases u:cT t L=0;rotate_left
 ·have B:kt t L (cT t L)=cE:=aC u
  rw[B]at al;rw[B,cS u];have o:=Y.call al;clear Y;have Y:=o;clear o;refine⟨_,rfl,?_⟩;have N:=(Y.rs 0 rfl).one;have P:=(Y.rs 1 rfl).one;have Q:=(Y.rs 2 rfl).one;refine Jj ?_;intro p w Y;refine jF (n:=5) (p:=p) (vs:=[E 0,E 0,l,m,gv]) rfl rfl Y inferInstance rfl rfl (by simp only[eD,eN,N,P,Q];rfl) ?_;clear Y;intro w Y;refine O ?_;exact cR (v:=.pointer none) (v':=.iface 57 (E (cT t L))) rfl rfl rfl (.inl ⟨by rw[f];exact u,by rw[f,cS u],Y.aY⟩)
 obtain⟨_,hL,hB,R⟩:=FY u;rw[u,F1]at al;rw[u,fK rfl,F1,N4];have o:=Y.call al;clear al Y;have Y:=o;clear o;refine⟨_,rfl,?_⟩;have N:=(Y.rs 0 rfl).one;have P:=(Y.rs 1 rfl).one;have Q:=(Y.rs 2 rfl).one;refine Jj ?_;intro p w Y;refine jF (n:=5) (p:=p) (vs:=[E (br t.vars L),E (bX t.vars L t.cC),l,m,gv]) rfl rfl Y inferInstance rfl rfl (by simp only[eD,eN,N,P,Q];rfl) ?_;clear Y;intro w Y;obtain⟨px,rfl⟩:=À p;have R':=F3 I.pos hL.mem;have T':=N5 t L (br t.vars L).toNat;have V':(ar t).length=t.M.length:=by simp[ar]
 refine O ?_;refine sh [2,2,43,44] (G:=Value) (fun g=>[(2,g)]) (fun g w=>(∀ w',Z w0 w' [ak px 142 [E (br t.vars L),E (bX t.vars L t.cC),l,m,gv],X W 3 l (ar t),X aT 190 m (bS t L),X ah 4 gv (eu t L (br t.vars L).toNat),ak pt 26 [a,b,c,d]]->RS W w' g (uD t cs))/\Z w0 w [ak px 142 [E (br t.vars L),E (bX t.vars L t.cC),l,m,gv],X W 3 l (ar t),X aT 190 m (bS t L),X ah 4 gv (eu t L (br t.vars L).toNat),ak pt 26 [a,b,c,d]]) (fun _=>rfl) ?_ ?_
 ·refine jw ?_ ?_<;>intro V
  ·have T:uD t cs=ar t:=aM U
   refine O ?_;exact⟨l,⟨rfl,az⟩,aU,fun w' B=>by rw[T];exact B.rs 1 rfl,Y⟩
  have T:uD t cs=cs:=aC U;refine O ?_;exact⟨kv,⟨rfl,az⟩,aU,fun w' B=>by rw[T];exact hk.at B,Y⟩
 clear Y;rintro σ g w ⟨T,Y⟩;have V:t.vars.length<=1099511627776:=by have:=I.vars;omega
 have j':L.length<=1099511627776:=by
  have:=hL.len;have:=I.vars;omega
 have B:=AC (L:=L) ⟨H,K⟩;refine O ?_;refine fz (pl [0,1,3,5,6,7,2] (.cI 5::.cI 6::pl [4] (.cI 5::.cI 6::pl [8] (.cI 5::pl [9,10,11,12] [])))) Y kr ?_;clear Y;intro w Y;refine O ?_;refine aL rfl (ns (ha.at Y) V) ?_;rintro _ w' ⟨v1,rfl,al⟩;refine aI ?_;clear al Y;intro Y;refine O ?_;refine aL rfl (ns (hp.at Y) j') ?_;rintro _ w' ⟨v2,rfl,al⟩;refine aI ?_;clear al Y;intro Y;refine O ?_;refine aL rfl (U6 (kv:=g) (S:=dY t L) (cv:=l) (ev:=m) (gv:=gv) ⟨bk Y,bk Y,bk Y⟩ (T _ Y.aY) (by show 0<=br t.vars L;omega) (by show br t.vars L<=_;omega) (by show ((eu t L _).length:Int)=br t.vars L;omega) R B) ?_;rintro _ w' ⟨v3,D,rfl,hD,al⟩;refine aI ?_;clear al Y;intro Y;refine O ?_;have c1:=(bk (s:=v1) Y).et;have c2:=(bk (s:=v2) Y).et;have c3:=(bk (s:=v3) Y).et;refine rW (parts:=[(0,.tmp 47),(1,.tmp 49),(2,.tmp 50),(3,.tmp 53)]) (vs:=[(0,v1),(1,v2),(2,.agg #[E (br t.vars L),E (bX t.vars L t.cC),l,m,gv]),(3,v3)]) (ls:=[(0,[v1]),(1,[v2]),(2,[E (br t.vars L),E (bX t.vars L t.cC),l,m,gv]),(3,[v3])]) rfl (by simp only[l8,tD,c1,c2,c3];rfl) rfl ?_;refine du ?_;refine yo (vs:=FX (nF t L D) v1 v2 l m gv v3) rfl Y ?_;clear Y;intro p w Y;have Y:=vW (p:=p) (X':=nF t L D) (vv:=v1) (pv:=v2) (cv:=l) (ev:=m) (gv:=gv) (tv:=v3) (Γ:=[]) (show Z w0 w [ak p 196 (FX (nF t L D) v1 v2 l m gv v3),X W 3 v1 t.vars,X W 3 v2 L,X W 3 l (ar t),X aT 190 m (bS t L),X ah 4 gv (eu t L (br t.vars L).toNat),X W 3 v3 D] from Y.aY)
 refine O ?_;exact cR (v:=.pointer (some p)) (v':=.nilIface) rfl rfl rfl (.inr ⟨by rw[f];exact u,rfl,H,K,p,D,rfl,hD,Y⟩)
end
section
open Go.Sl Go
def oH (a b:J):J:=(List.range a.length).map fun i=>a.getD i W.dflt-b.getD i W.dflt
def Vl (a b:J):(oH a b).length=a.length:=by simp[oH]
def N6 {a:J}(h:i<a.length):(oH a b).getD i W.dflt=a.getD i W.dflt-b.getD i W.dflt:=by simp[oH,List.getD,h]
def la (a b:J)(j:Nat):J:=(List.range a.length).map fun i=>if i<j then a.getD i W.dflt-b.getD i W.dflt else a.getD i W.dflt
def N7 (a b:J)(j:Nat):(la a b j).length=a.length:=by simp[la]
def Vm (a b:J):la a b 0=a:=by
 apply iB (by simp[la]);intro i h1 d;simp[la,List.getD,d]
def Vn (a b:J):la a b a.length=oH a b:=by
 unfold la oH;exact xN fun i d=>aM (mem_range.1 d)
def Vo {a:J}(h:j<a.length):(la a b j).getD j W.dflt=a.getD j W.dflt:=by simp[la,List.getD,h]
def Vp {a:J}:(la a b j).set j (a.getD j W.dflt-b.getD j W.dflt)=la a b (j+1):=by
 apply iB (by simp[la]);intro i h1 d;rw[si];simp only[la,mK,qZ];split
 ·rename_i e;subst e;rw[aM U]
 by_cases h:i<j
 ·rw[aM h,aM U]
 rw[aC h,aC U]
def dG (c:J)(z:List J)(k:Nat):J:=(z.take k).foldl oH c
def N8 (c:J)(z:List J):dG c z 0=c:=rfl
def Jk (h:k<z.length):dG c z (k+1)=oH (dG c z k) (z.getD k []):=by
 unfold dG;rw[eC [] h,ti];rfl
def N9 {d:List J}(h:k<=z.length):dG c (z++d) k=dG c z k:=by
 unfold dG;rw[yp h]
structure tk (t:aa) (Ls:List J) (c:J) (A z:List J):Prop where
 dl:A.length=Ls.length
 pl:z.length=Ls.length
 bT:∀ k,k<Ls.length->cN (bS t (Ls.getD k [])) (dG c z k) (fq t (Ls.getD k [])) (br t.vars (Ls.getD k [])).toNat (A.getD k [])
 part:∀ k,k<Ls.length->z.getD k []=nL (bS t (Ls.getD k [])) (A.getD k []) t.M.length
def Ba {α:Type}{l m:List α}{d:α}(h:i<l.length):(l++m).getD i d=l.getD i d:=by simp[iD,iX h]
def zL {α:Type}{l:List α}{x:α}{d:α}(h:i=l.length):(l++[x]).getD i d=x:=by subst h;simp[iD]
def tk.nil (t:aa)(c:J):tk t [] c [] []:=⟨rfl,rfl,fun k hk=>absurd hk (dr _),fun k hk=>absurd hk (dr _)⟩
def tk.eQ (h:tk t Ls c A z)(f:cN (bS t L) (dG c z Ls.length) (fq t L) (br t.vars L).toNat D) :
  tk t (Ls++[L]) c (A++[D]) (z++[nL (bS t L) D t.M.length]):=by
 have g:=h.dl;have l:=h.pl;refine⟨by simp[h.dl],by simp[h.pl],fun k hk=>?_,fun k hk=>?_⟩
 ·simp only[length_append,length_cons,length_nil]at hk
  rw[N9 U];by_cases e:k<Ls.length
  ·rw[Ba e,Ba U];exact h.bT k e
  have d:k=Ls.length:=U;rw[zL d,zL U,d];exact f
 simp only[length_append,length_cons,length_nil]at hk;by_cases e:k<Ls.length
 ·rw[Ba e,Ba U,Ba U];exact h.part k e
 have d:k=Ls.length:=U;rw[zL d,zL U,zL U]
structure eA (t:aa) (c:J):Prop where
 len:c.length=t.M.length
 dK:∀ x∈c,0<=x/\x<=1048576
def eA.at (h:eA t c)(hi:i<t.M.length):0<=c.getD i W.dflt/\c.getD i W.dflt<=1048576:=h.dK _ (cH W.dflt (by rw[h.len];exact hi))
def eA.of (d:c.length=t.M.length)(h:∀ i,i<t.M.length->0<=c.getD i W.dflt/\c.getD i W.dflt<=1048576):eA t c :=
 ⟨d,fun x hx=>by obtain⟨i,e,rfl⟩:=fJ hx;have:=h i U;rwa[am e]at this⟩
def eA.xS (h:eA t c):oD (bS t L) c (br t.vars L).toNat:=AC ⟨h.len,h.dK⟩
def xT (I:aG t):eA t (ar t):=⟨by simp[ar],N3 I⟩
def eA.sub (h:eA t c)(g:cN (bS t L) c (fq t L) (br t.vars L).toNat D):eA t (oH c (nL (bS t L) D t.M.length))/\∀ i,i<t.M.length->0<=(nL (bS t L) D t.M.length).getD i W.dflt/\(nL (bS t L) D t.M.length).getD i W.dflt<=c.getD i W.dflt:=by
 have f:=h.xS (L:=L);have e:qI (bS t L) D c.length (nL (bS t L) D t.M.length):=by rw[<-h.len];exact Oa f.cK
 have eI:=fun i (d:i<t.M.length)=>e.le f g (i:=i) (by rw[h.len];exact d);refine⟨.of (by rw[Vl];exact h.len) fun i d=>?_,eI⟩;rw[N6 (by rw[h.len];exact d)];have h1:=eI i d;have l:=h.at d;omega
def tk.aN {t:aa}{Ls:List J}{c:J}{A z:List J}(h:tk t Ls c A z)(d:eA t c):∀ k,k<=Ls.length->eA t (dG c z k)
 | 0,_=>d
 | k+1,hk=>by
  rw[Jk (by rw[h.pl];omega),h.part k U];exact((h.aN d k U).sub (h.bT k U)).1
def bJ (t:aa)(Ls A:List J)(s:J)(k:Nat):Int:=dg (A.getD k []) (bX t.vars (Ls.getD k []) s)
def js (f:Nat->Int)(k:Nat):Int:=((List.range k).map f).sum
def Vq (f:Nat->Int):js f 0=0:=rfl
def ww (f:Nat->Int)(k:Nat):js f (k+1)=js f k+f k:=by simp[js,l5]
def Ob {f:Nat->Int}{B:Int}(h:∀ k,k<n->0<=f k/\f k<=B):0<=js f n/\js f n<=n*B:=by
 induction n with
 | zero=>simp[js]
 | succ n d =>
  have h1:=d fun k hk=>h k U;have e:=h n U;rw[ww,Ci,zM];simp only[Jl,Dq];omega
open Classical in
noncomputable def gh (t:aa)(Ls A:List J)(s:J):Int :=
 if ¬ab t.vars s then 1125899906842624 else if ∃ k,k<Ls.length/\bJ t Ls A s k=1125899906842624 then 1125899906842624 else js (bJ t Ls A s) Ls.length
def Vr (h:¬ab t.vars s):gh t Ls A s=1125899906842624:=aM h
def Oc (h:ab t.vars s)(hk:k<Ls.length)(hv:bJ t Ls A s k=1125899906842624):gh t Ls A s=1125899906842624:=by
 unfold gh;rw[aC (fun d=>d h),aM ⟨k,hk,hv⟩]
def Od (h:ab t.vars s)(hv:∀ k,k<Ls.length->bJ t Ls A s k≠1125899906842624):gh t Ls A s=js (bJ t Ls A s) Ls.length:=by
 unfold gh;rw[aC (fun d=>d h),aC (fun⟨k,hk,e⟩=>hv k hk e)]
end
end Go.Proofs.YtmapkjoefdgjfaaGreatDoor
