/- Several texts. -/
import Derived.Test.YtmapkjoefdgjfaaGreatDoorMW16D
set_option linter.unusedSimpArgs false
set_option linter.unusedVariables false
set_option linter.defProp false
set_option maxRecDepth 8000
set_option maxHeartbeats 16000000
open List Nat
namespace Go.Proofs.YtmapkjoefdgjfaaGreatDoor
open Go.Sl
variable {w0 w:World}{t:aa}{Γ:List HP}{h a:Value}{xs:List cB}{L c s cs D b:J}{i j n k:Nat}{q p:Addr}{Ls A z:List J}{C:Int}
section
open Go.Sl Go
def UD (I:aC t){y q:J}{d:Int}(f:lu t y q d):cw t y<bD/\cw t y<=d:=by
 refine⟨?_,UE I f⟩;have e:bD=1125899906842624:=rfl
 induction f with
 | aG m=>rw[IJ I m];omega
 | @step y op q d g o _ r =>
  by_cases l:ab t.vars y
  ·have g1:=IK I l g o
   have g2:=Nz I _ r;have g3:=B4 I g;omega
  rw[AW l];omega
def UF {op:Nat}(d:op<t.Z.length):gl t<=qu t op:=by
 have key:∀ k,k<=t.Z.length->op<k->jV t k<=qu t op:=by
  intro k
  induction k with
  | zero=>intro _ h;exact absurd h (dx _)
  | succ k f =>
   intro h1 g;rw[II U];by_cases e:op=k
   ·subst e;exact Int.min_le_right _ _
   exact rO (Int.min_le_left _ _) (f U U)
 exact key _ (cz _) d
def UG (I:aC t){y q:J}{d:Int}(f:lu t y q d):bR t y<bD/\bR t y<=d:=by
 have e:bD=1125899906842624:=rfl;have m:=f.nn I;unfold bR;split
 ·omega
 rename_i g
 cases f with
 | aG o=>exact absurd o g
 | step l r f =>
  have h1:=UF l;have u:=B4 I l;have v:=f.nn I;omega
end
section
open Go.Sl
attribute [local irreducible] vc opsW opsD opV opW PureV ReadV Thn Blk
def De {ii:Int}(hx:RS aD w0 h xs)(d:ii=i)(f:C=j)(hi:i<xs.length)(g:j<xs.length) :
  Calls aj 333 #[h,E ii,E C] w0 fun e w'=>e=.returned (.bool (gz (I aD.dflt xs i) (I aD.dflt xs j)))/\M w0 w' []:=by
 subst d f;have Y:=M.start w0;refine bB ao Tryz.func333 ?_;refine eQ ?_;intro w Y;exact bk (v:=.bool (gz (I aD.dflt xs i) (I aD.dflt xs j))) rfl rfl ⟨rfl,Y⟩
def Df {ii:Int}(d:ii=i)(f:C=j)(hi:i<xs.length)(g:j<xs.length)(Y:M w0 w (X aD 239 h xs::Γ)) :
  Calls aj 336 #[h,E ii,E C] w fun e w'=>e=.returned (.tuple #[])/\M w0 w' (X aD 239 h (sw aD.dflt xs i j)::Γ):=by
 subst d f;refine bB ao Tryz.func336 ?_;refine eQ ?_;intro w Y;refine B5 (s:=h) (j:=i) (x':=I aD.dflt xs j) rfl rfl rfl rfl Y inferInstance U ?_;clear Y;intro w Y;have l:(xs.set i (I aD.dflt xs j)).length=xs.length:=sm;refine W ?_;refine B5 (s:=h) (j:=j) (x':=I aD.dflt xs i) rfl rfl rfl rfl Y inferInstance U ?_;clear Y;intro w Y;refine W ?_;exact ti rfl ⟨rfl,Y⟩
def UH {v:cB}(f:xs.length<1048576)(Y:M w0 w (X aD 239 h xs::ak q 236 [h]::Γ)) :
  Calls aj 335 #[.pointer (some q),.iface 239 (.agg #[E v.bN,E v.aQ])] w fun e w'=>e=.returned (.tuple #[])/\∃ d,M w0 w' (X aD 239 d (xs++[v])::ak q 236 [d]::Γ):=by
 refine bB ao Tryz.func335 ?_;refine c9 ?_;intro p w Y;refine fQ (pl [0,1,2,3,4,5] (.cJ 3::pl [6,7,8] [])) Y kr ?_;clear Y;intro w Y;refine W ?_;refine jG aD (x1:=v) rfl rfl rfl (fX rfl) (fb _) Y ?_;clear Y;intro s w Y;refine ot ?_;intro s w Y;exact ti rfl ⟨rfl,_,Y.tail.tail⟩
def UI (f:0<xs.length)(g:xs.length<=1048576)(Y:M w0 w (X aD 239 h xs::ak q 236 [h]::Γ)) :
  Calls aj 334 #[.pointer (some q)] w fun e w'=>e=.returned (.iface 239 ((.agg #[E (I aD.dflt xs (xs.length-1)).bN,E (I aD.dflt xs (xs.length-1)).aQ])))/\∃ d,M w0 w' (X aD 239 d (xs.take (xs.length-1))::ak q 236 [d]::Γ):=by
 refine bB ao Tryz.func334 ?_;refine eB ?_;intro p w Y;have hk:(((xs.length:Nat):Int)-1).toNat=xs.length-1:=U;replace Y:=M.sub (s:=h) (xs:=xs) Y inferInstance 0 (((xs.length:Nat):Int)-1).toNat U U;refine eQ ?_;intro w Y;refine bk (v:=.iface 239 ((.agg #[E (I aD.dflt xs (((xs.length:Nat):Int)-1).toNat).bN,E (I aD.dflt xs (((xs.length:Nat):Int)-1).toNat).aQ]))) rfl rfl ⟨by rw[hk],ssub h aD.sz 0 (((xs.length:Nat):Int)-1).toNat,?_⟩;have d:cut xs 0 (((xs.length:Nat):Int)-1).toNat=xs.take (xs.length-1):=by rw[hk];simp[cut]
 rw[d]at Y;exact Y.tail
def IL (hx:RS aD w0 h xs) :
  Calls aj 143 #[h] w0 fun e w'=>e=.returned (E xs.length)/\M w0 w' []:=by
 have Y:=M.start w0;refine bB ao Tryz.func143 ?_;refine W ?_;exact bk (v:=E xs.length) rfl rfl ⟨rfl,Y⟩
def UJ (o:C=j)(U':xM aD.dflt gz xs j)(v:xs.length<=1048576)(Y:M w0 w (X aD 239 h xs::ak q 236 [h]::Γ)) :
  Calls aj 166 #[.iface 234 (.pointer (some q)),E C] w fun e w'=>e=.returned (.tuple #[])/\∃ ys,cR aD.dflt gz ys/\ys.Perm xs/\M w0 w' (X aD 239 h ys::ak q 236 [h]::Γ):=by
 subst o;refine bB ao Tryz.func166 ?_;refine W ?_;refine dN [1,1,4,22] (G:=Nat) (H:=List cB) (fun j ys=>[(1,E j)]) (fun j ys w=>xM aD.dflt gz ys j/\ys.Perm xs/\M w0 w (X aD 239 h ys::ak q 236 [h]::Γ)) (fun j ys=>j) j xs (fun _ _=>rfl) ⟨rfl,au⟩ ⟨U',.refl _,Y⟩ ?_;clear Y U';rintro x j ys w ⟨U',l,Y⟩;have f:=U'.IM;have r:=l.length_eq;refine W ?_;simp only[NA];by_cases g:(j-1) / 2=j
 ·have d:decide ((((j-1) / 2:Nat):Int)=(j:Int))=true:=dY U
  simp only[d];refine W ?_;exact ti rfl ⟨rfl,ys,U'.done (.inl g),l,Y⟩
 have d:decide ((((j-1) / 2:Nat):Int)=(j:Int))=false:=eA U;simp only[d,vF];refine W ?_;refine nX (u:=h) rfl rfl (Y.ik inferInstance rfl) (De (bm Y) rfl rfl f (show (j-1) / 2<ys.length by omega)) ?_;rintro _ w' ⟨rfl,hk⟩;replace Y:=Y.cr hk;clear hk
 cases m:gz (I aD.dflt ys j) (I aD.dflt ys ((j-1) / 2)) with
 | false =>
  refine⟨_,rfl,?_⟩;refine W ?_
  exact ti rfl ⟨rfl,ys,U'.done (.inr m),l,Y⟩
 | true =>
  refine⟨_,rfl,?_⟩;refine W ?_;refine nX (u:=h) rfl rfl (Y.ik inferInstance rfl) (Df rfl rfl (show (j-1) / 2<ys.length by omega) f Y) ?_;clear Y;rintro _ w ⟨rfl,Y⟩;refine⟨_,rfl,?_⟩;refine W ?_;exact⟨(j-1) / 2,_,⟨rfl,au⟩,aV,⟨U'.step g m,(xN U f).trans l,Y⟩,U⟩
def UK {nn:Int}(N:nn=n)(D:vZ aD.dflt gz xs n 0)(S:xs.length<=1048576)(Y:M w0 w (X aD 239 h xs::ak q 236 [h]::Γ)) :
  Calls aj 167 #[.iface 234 (.pointer (some q)),E 0,E nn] w fun e w'=>∃ b ys,e=.returned (.bool b)/\sS aD.dflt gz ys n/\ys.Perm xs/\(∀ k,n<=k->I aD.dflt ys k=I aD.dflt xs k)/\M w0 w' (X aD 239 h ys::ak q 236 [h]::Γ):=by
 subst N;refine bB ao Tryz.func167 ?_;refine W ?_;refine dN [7,10,12,44] (G:=Nat) (H:=List cB) (fun i ys=>[(7,E i)]) (fun i ys w=>vZ aD.dflt gz ys n i/\i<=n/\ys.Perm xs/\(∀ k,n<=k->I aD.dflt ys k=I aD.dflt xs k)/\M w0 w (X aD 239 h ys::ak q 236 [h]::Γ)) (fun i ys=>n-i) 0 xs (fun _ _=>rfl) ⟨rfl,au⟩ ⟨D,br _,.refl _,fun _ _=>rfl,Y⟩ ?_;clear Y D;rintro T i ys w ⟨D,P,o,d,Y⟩;have B:=D.le;have Q:=o.length_eq;refine aA ?_ ?_<;>intro h1
 ·refine W ?_
  exact bk (v:=.bool _) rfl rfl ⟨_,ys,rfl,D.leaf U,o,d,Y⟩
 have r:2*i+1<n:=U;refine W ?_;by_cases R:2*i+2<n
 ·have g:decide (2*(i:Int)+1+1<(n:Int))=true:=dY U
  simp only[g,vG];refine W ?_;refine nX (u:=h) rfl rfl (Y.ik inferInstance rfl) (De (i:=2*i+2) (j:=2*i+1) (bm Y) U U U U) ?_;rintro _ w' ⟨rfl,hk⟩;replace Y:=Y.cr hk;clear hk
  cases l:gz (I aD.dflt ys (2*i+2)) (I aD.dflt ys (2*i+1)) with
  | true =>
   refine⟨_,rfl,?_⟩;refine pV ?_;refine th [9,9,34,34] (G:=Nat) (fun j=>[(9,E j)]) (fun j w=>(j=2*i+1\/j=2*i+2)/\j<n/\(∀ c,0<c->c<n->(c-1) / 2=i->eH gz (I aD.dflt ys j) (I aD.dflt ys c))/\M w0 w (X aD 239 h ys::ak q 236 [h]::Γ)) (fun _=>rfl) ?_ ?_
   ·refine W ?_
    refine⟨2*i+2,⟨?_,au⟩,aV,.inr rfl,R,fun c F h1 K=>?_,Y⟩
    ·show Value.int .i64 (2*(i:Int)+1+1)=_
     congr 1
    have:c=2*i+1\/c=2*i+2:=U;rcases this with rfl|rfl
    ·exact FJ l
    exact AX _
   clear Y;rintro x j w ⟨y,m,f,Y⟩;refine W ?_;refine nX (u:=h) rfl rfl (Y.ik inferInstance rfl) (De (bm Y) rfl rfl (show j<ys.length by omega) (show i<ys.length by omega)) ?_;rintro _ w' ⟨rfl,hk⟩;replace Y:=Y.cr hk;clear hk
   cases l:gz (I aD.dflt ys j) (I aD.dflt ys i) with
   | false =>
    refine⟨_,rfl,?_⟩;refine W ?_
    exact bk (v:=.bool _) rfl rfl ⟨_,ys,rfl,D.done f l,o,d,Y⟩
   | true =>
    refine⟨_,rfl,?_⟩;refine W ?_;refine nX (u:=h) rfl rfl (Y.ik inferInstance rfl) (Df rfl rfl (show i<ys.length by omega) (show j<ys.length by omega) Y) ?_;clear Y;rintro _ w ⟨rfl,Y⟩;refine⟨_,rfl,?_⟩;refine W ?_;refine⟨j,_,⟨rfl,au⟩,aV,⟨D.step y m f l,U,(xN U U).trans o,fun k hk=>?_,Y⟩,U⟩;rw[rR U U,aH U,aH U]
    exact d k hk
  | false =>
   refine⟨_,rfl,?_⟩;refine pV ?_;refine th [9,9,34,34] (G:=Nat) (fun j=>[(9,E j)]) (fun j w=>(j=2*i+1\/j=2*i+2)/\j<n/\(∀ c,0<c->c<n->(c-1) / 2=i->eH gz (I aD.dflt ys j) (I aD.dflt ys c))/\M w0 w (X aD 239 h ys::ak q 236 [h]::Γ)) (fun _=>rfl) ?_ ?_
   ·refine W ?_
    refine⟨2*i+1,⟨?_,au⟩,aV,.inl rfl,r,fun c F h1 K=>?_,Y⟩
    ·show Value.int .i64 (2*(i:Int)+1)=_
     congr 1
    have:c=2*i+1\/c=2*i+2:=U;rcases this with rfl|rfl
    ·exact AX _
    exact l
   clear Y;rintro x j w ⟨y,m,f,Y⟩;refine W ?_;refine nX (u:=h) rfl rfl (Y.ik inferInstance rfl) (De (bm Y) rfl rfl (show j<ys.length by omega) (show i<ys.length by omega)) ?_;rintro _ w' ⟨rfl,hk⟩;replace Y:=Y.cr hk;clear hk
   cases l:gz (I aD.dflt ys j) (I aD.dflt ys i) with
   | false =>
    refine⟨_,rfl,?_⟩;refine W ?_
    exact bk (v:=.bool _) rfl rfl ⟨_,ys,rfl,D.done f l,o,d,Y⟩
   | true =>
    refine⟨_,rfl,?_⟩;refine W ?_;refine nX (u:=h) rfl rfl (Y.ik inferInstance rfl) (Df rfl rfl (show i<ys.length by omega) (show j<ys.length by omega) Y) ?_;clear Y;rintro _ w ⟨rfl,Y⟩;refine⟨_,rfl,?_⟩;refine W ?_;refine⟨j,_,⟨rfl,au⟩,aV,⟨D.step y m f l,U,(xN U U).trans o,fun k hk=>?_,Y⟩,U⟩;rw[rR U U,aH U,aH U];exact d k hk
 have g:decide (2*(i:Int)+1+1<(n:Int))=false:=eA U;simp only[g];refine pV ?_;refine th [9,9,34,34] (G:=Nat) (fun j=>[(9,E j)]) (fun j w=>(j=2*i+1\/j=2*i+2)/\j<n/\(∀ c,0<c->c<n->(c-1) / 2=i->eH gz (I aD.dflt ys j) (I aD.dflt ys c))/\M w0 w (X aD 239 h ys::ak q 236 [h]::Γ)) (fun _=>rfl) ?_ ?_
 ·refine W ?_
  refine⟨2*i+1,⟨?_,au⟩,aV,.inl rfl,r,fun c F h1 K=>?_,Y⟩
  ·show Value.int .i64 (2*(i:Int)+1)=_
   congr 1
  have:c=2*i+1:=U;subst this;exact AX _
 clear Y;rintro x j w ⟨y,m,f,Y⟩;refine W ?_;refine nX (u:=h) rfl rfl (Y.ik inferInstance rfl) (De (bm Y) rfl rfl (show j<ys.length by omega) (show i<ys.length by omega)) ?_;rintro _ w' ⟨rfl,hk⟩;replace Y:=Y.cr hk;clear hk
 cases l:gz (I aD.dflt ys j) (I aD.dflt ys i) with
 | false =>
  refine⟨_,rfl,?_⟩;refine W ?_
  exact bk (v:=.bool _) rfl rfl ⟨_,ys,rfl,D.done f l,o,d,Y⟩
 | true =>
  refine⟨_,rfl,?_⟩;refine W ?_;refine nX (u:=h) rfl rfl (Y.ik inferInstance rfl) (Df rfl rfl (show i<ys.length by omega) (show j<ys.length by omega) Y) ?_;clear Y;rintro _ w ⟨rfl,Y⟩;refine⟨_,rfl,?_⟩;refine W ?_;refine⟨j,_,⟨rfl,au⟩,aV,⟨D.step y m f l,U,(xN U U).trans o,fun k hk=>?_,Y⟩,U⟩;rw[rR U U,aH U,aH U];exact d k hk
def NB {v:cB}(H:cR aD.dflt gz xs)(l:xs.length<1048576)(Y:M w0 w (X aD 239 h xs::ak q 236 [h]::Γ)) :
  Calls aj 142 #[.iface 234 (.pointer (some q)),.iface 239 (.agg #[E v.bN,E v.aQ])] w fun e w'=>e=.returned (.tuple #[])/\∃ d ys,cR aD.dflt gz ys/\ys.Perm (v::xs)/\M w0 w' (X aD 239 d ys::ak q 236 [d]::Γ):=by
 refine bB ao Tryz.func142 ?_;refine W ?_;refine FK rfl rfl (UH (v:=v) U Y) ?_;clear Y;rintro _ w ⟨rfl,d,Y⟩;refine⟨_,rfl,?_⟩;refine W ?_;refine nX (u:=d) rfl rfl (Y.ik inferInstance rfl) (IL (bm Y)) ?_;rintro _ w' ⟨rfl,hk⟩;replace Y:=Y.cr hk;clear hk;refine⟨_,rfl,?_⟩;have f:(xs++[v]).length=xs.length+1:=sm;refine W ?_;refine aU rfl (UJ (j:=xs.length) (by rw[f];omega) (NC H) U Y) ?_;clear Y;rintro _ w ⟨rfl,ys,h1,g,Y⟩;refine⟨_,rfl,?_⟩;refine W ?_;exact ti rfl ⟨rfl,d,ys,h1,g.trans (IN (l₁:=xs) (l₂:=[v])),Y⟩
def UL (H:cR aD.dflt gz xs)(f:0<xs.length)(r:xs.length<=1048576)(Y:M w0 w (X aD 239 h xs::ak q 236 [h]::Γ)) :
  Calls aj 144 #[.iface 234 (.pointer (some q))] w fun e w'=>∃ v l ys,e=.returned (.iface 239 (.agg #[E v.bN,E v.aQ]))/\cR aD.dflt gz ys/\xs.Perm (v::ys)/\(∀ x∈xs,eH gz v x)/\M w0 w' (X aD 239 l ys::ak q 236 [l]::Γ):=by
 refine bB ao Tryz.func144 ?_;refine W ?_;refine nX (u:=h) rfl rfl (Y.ik inferInstance rfl) (IL (bm Y)) ?_;rintro _ w' ⟨rfl,hk⟩;replace Y:=Y.cr hk;clear hk;refine⟨_,rfl,?_⟩;refine W ?_;refine nX (u:=h) rfl rfl (Y.ik inferInstance rfl) (Df (i:=0) (j:=xs.length-1) rfl U f U Y) ?_;clear Y;rintro _ w ⟨rfl,Y⟩;refine⟨_,rfl,?_⟩;refine W ?_;refine aU rfl (UK (n:=xs.length-1) U (ND H f) (by rw[AY];exact r) Y) ?_;clear Y;rintro _ w ⟨b,ys,rfl,h1,y,B,Y⟩;have o:=y.trans (xN f (show xs.length-1<xs.length by omega));have g:=o.length_eq;refine⟨_,rfl,?_⟩;refine W ?_;refine FK rfl rfl (UI U U Y) ?_;clear Y;rintro _ w ⟨rfl,l,Y⟩;refine⟨_,rfl,?_⟩;refine W ?_;have d:I aD.dflt ys (xs.length-1)=I aD.dflt xs 0:=by
  rw[B _ (cz _),rR f U,aP rfl]
 obtain⟨F,m⟩:=NE f o h1 d;rw[g]at Y;refine bk (v:=.iface 239 ((.agg #[E (I aD.dflt ys (ys.length-1)).bN,E (I aD.dflt ys (ys.length-1)).aQ]))) rfl rfl ⟨I aD.dflt xs 0,l,_,by rw[g,d],F,m,fun x hx=>NF H hx,Y⟩
end
section
open Go.Sl Go
attribute [local irreducible] vc opsW opsD opV opW PureV ReadV Thn Blk
instance AQ:ku aM:=⟨fun x v hv=>by simp only[aM,dZ,fM,pL]at hv;rcases hv with rfl|rfl|rfl<;>rfl⟩
def iD (E_:List cS)(n:Nat):List (List cS):=(List.range n).map fun (u:Nat)=>df E_ (u:Int)
def NG (E_:List cS)(n:Nat):(iD E_ n).length=n:=by simp[iD]
def UM (n:Nat):iD [] n=replicate n []:=by
 apply iA (by simp[iD]);intro i h1 d;simp[iD,df]
def IP {E_:List cS}{u:Nat}(h:u<n):(iD E_ n).getD u []=df E_ (u:Int):=by simp[iD,List.getD,h]
def UN {E_:List cS}{e:cS}(d:0<=e.dst)(h:e.dst<n):(iD E_ n).set e.dst.toNat ((iD E_ n).getD e.dst.toNat []++[e])=iD (E_++[e]) n:=by
 rw[IP U];apply iA (by simp[iD]);intro i h1 f;rw[sb];have l:i<n:=by simpa [iD] using f
 have g:(iD (E_++[e]) n)[i]=df (E_++[e]) (i:Int):=by simp[iD]
 rw[g];split
 ·rename_i he
  subst he;rw[fZ d];simp[df]
 rename_i he;have:¬e.dst=(i:Int):=U;simp[iD,df,this]
def NH (E_:List cS)(u:Int):(df E_ u).length<=E_.length:=ux _ _
def UO {cv ev gv kv:Value}{S:bV}(h:cV w0 cv ev gv S)(hk:RS O w0 kv cs)(_x:0<=S.st)(_y:S.st<=4096)(_C:(S.aR.length:Int)=S.st)(_D:S.aB.length<=65536)(hE:nD S.aB cs S.st.toNat) :
  Calls aj 110 #[cK S cv ev gv,kv] w0 fun e w'=>∃ s D,e=.returned s/\cH S.aB cs (fun i=>S.aR.getD i.toNat ah.dflt=true) S.st.toNat D/\M w0 w' [X O 3 s D]:=by
 obtain⟨hc,he,I⟩:=h;have le:=he.bT;have lk:=hk.bT;have Y:=M.start w0;refine bB ao Tryz.func110 ?_
 repeat (first|refine dB ?_|(refine iy ?_;clear Y;intro p w Y)|(refine fR ?_;clear Y;intro s w Y))
 obtain⟨px,rfl⟩:=À p;obtain⟨tv,rfl⟩:=À s;have Y:=Y.gJ (T:=aM) (e:=190) S.st.toNat;rw[<-UM]at Y;refine dN [7,7,23,39] (G:=Nat) (H:=List Value) (fun k _=>[(23,E k)]) (fun k r w=>k<=S.aB.length/\r.length=S.st.toNat/\M w0 w [ai aM 190 r (iD (S.aB.take k) S.st.toNat),X ar 139 tv r,ak px 142 [E S.st,E S.bL,cv,ev,gv]]) (fun k _=>S.aB.length-k) 0 _ (fun _ _=>rfl) ⟨rfl,au⟩ ⟨br _,sm,Y⟩ ?_;clear Y;rintro σ k r w ⟨_E,_h,Y⟩;refine aA ?_ ?_<;>intro h1
 ·have B:k<S.aB.length:=U
  obtain⟨e1,d,e3,e4⟩:=hE.getD B;have _i:=NG (S.aB.take k) S.st.toNat;refine c9 ?_;intro f w Y;have u:(S.aB.getD k aM.dflt).dst.toNat<(iD (S.aB.take k) S.st.toNat).length:=U;replace Y:=Y.swap.gW u;have V':((iD (S.aB.take k) S.st.toNat).getD (S.aB.getD k aM.dflt).dst.toNat []).length<=65536:=by
   rw[IP U];have:=NH (S.aB.take k) ((S.aB.getD k aM.dflt).dst.toNat:Int);simp only[jf]at this;omega
  refine fQ (pl [0,1,2,3,4,5,6,7,8,9] (.cJ 2::.cJ 5::.cJ 7::pl [10] (.cJ 2::pl [11,12] []))) Y kr ?_;clear Y;intro w Y;refine W ?_;refine jG aM (x1:=S.aB.getD k aM.dflt) rfl rfl rfl (fX rfl) (fb _) Y ?_;clear Y;intro s w Y;refine lw ?_;intro s w Y;replace Y:=M.oZ u U Y.tail;replace Y:=Y.swap.tail;rw[UN d.1 U,<-eD aM.dflt B]at Y;exact⟨k+1,_,⟨rfl,au⟩,aV,⟨U,by simpa using _h,Y⟩,U⟩
 have J':k=S.aB.length:=U;subst J';rw[lL]at Y;have _i:=NG S.aB S.st.toNat;have V':(replicate S.st.toNat (0:Int)).length=S.st.toNat:=np;refine lw ?_;intro s w Y;obtain⟨ov,rfl⟩:=À s;refine zB aD Y ?_;clear Y;intro s w Y;refine eB ?_;intro pq w Y;have _j:s.cells.toList=[s]:=((Y.rs 1 rfl).eJ)
 rw[_j,<-NI (fun i=>S.aR.getD i.toNat ah.dflt=true)]at Y;have _a:M w0 w [X aD 239 s [],ak pq 236 [s],X O 3 ov (dh (fun i=>S.aR.getD i.toNat ah.dflt=true) S.st.toNat 0),ai aM 190 r (iD S.aB S.st.toNat),X ar 139 tv r,ak px 142 [E S.st,E S.bL,cv,ev,gv]]:=Y.swap;clear Y;have hlen:∀ k,(dh (fun i=>S.aR.getD i.toNat ah.dflt=true) S.st.toNat k).length=S.st.toNat:=fun k=>NJ _ _ k;refine nE [10,11,48,66] (G:=Nat) (H:=Value) (I':=List cB) (fun k _ _=>[(48,E k)]) (fun k hv xs w=>k<=S.st.toNat/\cR aD.dflt gz xs/\xs.length<=k/\xs.Nodup/\(∀ x,x∈xs↔∃ i:Nat,i<k/\(fun i=>S.aR.getD i.toNat ah.dflt=true) (i:Int)/\x=⟨0,i⟩)/\M w0 w [X aD 239 hv xs,ak pq 236 [hv],X O 3 ov (dh (fun i=>S.aR.getD i.toNat ah.dflt=true) S.st.toNat k),ai aM 190 r (iD S.aB S.st.toNat),X ar 139 tv r,ak px 142 [E S.st,E S.bL,cv,ev,gv]]) (fun k _ _=>S.st.toNat-k) 0 s [] (fun _ _ _=>rfl) ⟨rfl,au⟩ ⟨br _,UP,cz _,zC,(fun x=>by simp),_a⟩ ?_;clear _a;rintro _F k hv xs w ⟨_G,hH,_k,Q,f,Y⟩;have _b:=hlen k;have _l:((dh (fun i=>S.aR.getD i.toNat ah.dflt=true) S.st.toNat k).set k 1125899906842624).length=S.st.toNat:=by rw[gS,_b]
 refine aA ?_ ?_<;>intro h2
 ·have B:k<S.st.toNat:=U
  refine sC ?_ ?_<;>intro w Y o
  ·refine eQ ?_;intro w Y
   rw[NK (G:=(fun i=>S.aR.getD i.toNat ah.dflt=true)) (k:=k) (by simp only[gY];exact o)]at Y;refine aU rfl (NB (v:=⟨0,k⟩) hH U Y) ?_;clear Y;rintro _ w ⟨rfl,R,ys,V,hp,Y⟩;refine⟨_,rfl,?_⟩;refine W ?_;have l:(⟨0,k⟩:cB)∉xs:=fun hx=>by
    obtain⟨i,u,_,d⟩:=(f _).1 hx;simp only[cB.mk.injEq,true_and]at d;omega
   refine⟨k+1,R,ys,⟨rfl,au⟩,aV,⟨U,V,by rw[hp.length_eq];simp;omega,hp.nodup_iff.2 (vk.2 ⟨l,Q⟩),fun x=>?_,Y⟩,U⟩;rw[hp.mem_iff,dZ,f];constructor
   ·rintro (rfl|⟨i,u,d,g⟩)
    ·exact⟨k,U,by simp only[gY];exact o,rfl⟩
    exact⟨i,U,d,g⟩
   rintro⟨i,u,d,g⟩;by_cases F:i=k
   ·subst F;exact .inl g
   exact .inr ⟨i,U,d,g⟩
  refine W ?_;rw[NL (G:=(fun i=>S.aR.getD i.toNat ah.dflt=true)) (k:=k) (by simp only[gY];rw[o];decide)]at Y;refine⟨k+1,hv,xs,⟨rfl,au⟩,aV,⟨U,hH,U,Q,fun x=>?_,Y⟩,U⟩;rw[f];constructor
  ·rintro⟨i,u,d,g⟩;exact⟨i,U,d,g⟩
  rintro⟨i,u,d,g⟩;by_cases F:i=k
  ·subst F;simp only[gY]at d;rw[o]at d;cases d
  exact⟨i,U,d,g⟩
 have J':k=S.st.toNat:=U;subst J';rw[NM]at Y;have _c:=DJ.start S.aB cs (fun i=>S.aR.getD i.toNat ah.dflt=true) S.st.toNat f Q;have _m:=UQ S.aB [];clear _b _l hlen V';refine W ?_;refine cN [12,13,15,16,67,125] (G:=J × Value × List cB × J × Int) (fun _=>[]) (fun x w=>zD S.aB cs (fun i=>S.aR.getD i.toNat ah.dflt=true) S.st.toNat x.1 x.2.2.1 x.2.2.2.1 x.2.2.2.2/\cR aD.dflt gz x.2.2.1/\x.2.2.1.length+qF S.aB x.2.2.2.1<=4096+65536/\M w0 w [X aD 239 x.2.1 x.2.2.1,ak pq 236 [x.2.1],X O 3 ov x.1,ai aM 190 r (iD S.aB S.st.toNat),X ar 139 tv r,ak px 142 [E S.st,E S.bL,cv,ev,gv]]) (fun x=>x.2.2.1.length+qF S.aB x.2.2.2.1) (_,hv,xs,[],0) (fun _=>rfl) trivial ⟨_c,hH,by simp only;omega,Y⟩ ?_;clear Y _c _m hH f Q _k;rintro _H ⟨D,hv,xs,Sn,m⟩ w ⟨hD,hH,hb,Y⟩;simp only at hD hH hb Y;refine W ?_;refine aU rfl (IL (h:=hv) (bm Y)) ?_;rintro _ w' ⟨rfl,an⟩;refine aI ?_;clear an Y;intro Y;refine aA ?_ ?_<;>intro h4
 ·have _n:0<xs.length:=U
  refine W ?_;refine aU rfl (UL hH _n U Y) ?_;clear Y;rintro _ w ⟨x,R,ys,rfl,V,hp,_d,Y⟩;have _o:=hp.length_eq;simp only[length_cons]at _o;refine⟨_,rfl,?_⟩;refine eB ?_;intro pi w Y;have P':zD S.aB cs (fun i=>S.aR.getD i.toNat ah.dflt=true) S.st.toNat D (x::ys) Sn m:=hD.nK hp.symm;obtain⟨f1,f2,f3,f4,f5⟩:=P'.nF x sm;have _I:=hD.inv.len;have _p:=hD.inv.dC x.aQ.toNat U;rw[fZ f1.1]at _p;have _J:=hD.m0;refine aA ?_ ?_<;>intro h5
  ·refine W ?_
   refine⟨(D,R,ys,Sn,m),au,aV,⟨P'.skip h5,V,by simp only;omega,Y.bb⟩,by simp only;omega⟩
  have _q:¬dg D x.aQ<x.bN:=by simp only[dg];omega
  obtain⟨l,_r,_s,_,_e⟩:=P'.take _q (fun y hy=>by
   have:=_d y (hp.mem_iff.2 (by simp[hy]));simp only[eH,gz,pM]at this
   omega)
  have _K:=NN _r S.aB;have _z:x.bN<1125899906842624:=_e;have _A:=NH S.aB x.aQ;have _f:(iD S.aB S.st.toNat).getD x.aQ.toNat []=df S.aB x.aQ:=by
   rw[IP U,fZ f1.1]
  have d:=(Y.bJ 4 rfl).row (i:=x.aQ.toNat) U;rw[_f]at d;have _t:=d;refine W ?_;refine zF [15,16,93,125] (G:=Nat) (H:=J) (I':=Value) (M':=List cB) (fun k _ _ _=>[(93,E k)]) (fun k D' K o w=>k<=(df S.aB x.aQ).length/\DJ S.aB cs (fun i=>S.aR.getD i.toNat ah.dflt=true) S.st.toNat D' o (x.aQ::Sn) x.bN (fun e=>e.dst∈Sn\/∃ i,i<k/\(df S.aB x.aQ).getD i aM.dflt=e)/\dg D' x.aQ=x.bN/\cR aD.dflt gz o/\o.length<=ys.length+k/\M w0 w [X aD 239 K o,ak pq 236 [K],ak pi 239 [E x.bN,E x.aQ],X O 3 ov D',ai aM 190 r (iD S.aB S.st.toNat),X ar 139 tv r,ak px 142 [E S.st,E S.bL,cv,ev,gv]]) (fun k _ _ _=>(df S.aB x.aQ).length-k) 0 D R ys (fun _ _ _ _=>rfl) ⟨rfl,au⟩ ⟨br _,?_,_s,V,U,Y.bb⟩ ?_
  ·refine⟨l.inv,l.nF,l.nd,l.set,l.ou,fun e he hm hd=>l.yh e he hm ?_,l.m0⟩
   rcases hd with hd|⟨i,u,_⟩
   ·exact hd
   exact absurd u (dx _)
  clear Y d;rintro _L k D' K o w ⟨_M,N,g,R',_N,Y⟩;have d:=(Y.bJ 4 rfl).row (i:=x.aQ.toNat) U;rw[_f]at d;have _B:=N.inv.len;refine aA ?_ ?_<;>intro h6
  ·have B:k<(df S.aB x.aQ).length:=U
   obtain⟨j',T'⟩:=NO.1 (cD aM.dflt B);have e1:=hE.ba _ j';have e3:=hE.cG _ j';have e4:=hE.gG j';simp only[gG]at e4;have r1:=N.inv.dC ((df S.aB x.aQ).getD k aM.dflt).ba.toNat U;rw[fZ e1.1]at r1;simp only[dg]at r1;have P:∀ {c D xs},DJ S.aB cs (fun i=>S.aR.getD i.toNat ah.dflt=true) S.st.toNat D xs (x.aQ::Sn) x.bN (fun e=>(e.dst∈Sn\/∃ i,i<k/\(df S.aB x.aQ).getD i aM.dflt=e)\/e=c)->c=(df S.aB x.aQ).getD k aM.dflt->DJ S.aB cs (fun i=>S.aR.getD i.toNat ah.dflt=true) S.st.toNat D xs (x.aQ::Sn) x.bN (fun e=>e.dst∈Sn\/∃ i,i<k+1/\(df S.aB x.aQ).getD i aM.dflt=e):=by
    intro c D xs hh hc;refine⟨hh.inv,hh.nF,hh.nd,hh.set,hh.ou,fun e he hm hd=>hh.yh e he hm ?_,hh.m0⟩;rcases hd with hd|⟨i,u,H'⟩
    ·exact .inl (.inl hd)
    by_cases F:i=k
    ·subst F;exact .inr (by rw[hc,H'])
    exact .inl (.inr ⟨i,U,H'⟩)
   refine lR ?_ ?_<;>intro p w Y h7
   ·have F:=N.o0 hE j' (by rw[T'];simp) (by rw[T'];exact g) _e (by simp only[dg,gG];exact h7)
    simp only[gG]at F;refine eQ ?_;intro w Y;refine aU rfl (NB (v:=⟨x.bN+cs.getD ((df S.aB x.aQ).getD k aM.dflt).cG.toNat O.dflt,((df S.aB x.aQ).getD k aM.dflt).ba⟩) R' U Y.tail) ?_;clear Y;rintro _ w ⟨rfl,_u,zs,_v,_g,Y⟩;refine⟨_,rfl,?_⟩;refine W ?_;have _w:x.aQ≠((df S.aB x.aQ).getD k aM.dflt).ba:=fun he=>by
     have h8:=g;rw[he]at h8;simp only[dg]at h8;omega
    refine⟨k+1,_,_u,zs,⟨rfl,au⟩,aV,⟨U,(P F rfl).nK _g,?_,_v,by rw[_g.length_eq];simp;omega,Y.bb⟩,U⟩;rw[B6 f1.1 e1.1 U,aH _w];exact g
   refine W ?_;refine⟨k+1,D',K,o,⟨rfl,au⟩,aV,⟨U,P (N.keep (e:=(df S.aB x.aQ).getD k aM.dflt) fun F=>?_) rfl,g,R',U,Y.bb⟩,U⟩;rw[T',g];simp only[dg,gG];omega
  refine W ?_;refine⟨(D',K,o,x.aQ::Sn,x.bN),au,aV,⟨N.close fun e he hm=>?_,R',by simp only;omega,Y.bb⟩,by simp only;omega⟩;rcases dZ.1 hm with hm|hm
  ·obtain⟨i,u,H'⟩:=fF (NO.2 ⟨he,hm⟩)
   exact .inr ⟨i,U,by rw[al u];exact H'⟩
  exact .inl hm
 have d:xs=[]:=nY U;subst d;refine W ?_;exact bk (v:=ov) rfl rfl ⟨ov,D,rfl,hD.ow hE,Y.bb⟩
structure rS where
 vars:J
 pW:J
 l6:bV
 qV:J
def FL (X':rS)(vv pv cv ev gv tv:Value):List Value:=[vv,pv,E X'.l6.st,E X'.l6.bL,cv,ev,gv,tv]
def IQ (p:Addr)(X':rS)(vv pv cv ev gv tv:Value):List HP:=[ak p 196 (FL X' vv pv cv ev gv tv),X O 3 vv X'.vars,X O 3 pv X'.pW,X O 3 cv X'.l6.aT,X aM 190 ev X'.l6.aB,X ah 4 gv X'.l6.aR,X O 3 tv X'.qV]
@[irreducible] def rT (p:Addr)(X':rS):HP:=fun h=>∃ d e f g gv l,ca (IQ p X' d e f g gv l) h
def vT {X':rS}(Y:M w0 w (rT p X'::Γ)):∃ vv pv cv ev gv tv,M w0 w (IQ p X' vv pv cv ev gv tv++Γ):=by
 unfold rT at Y;obtain⟨h1,e,d,s1,s2,⟨vv,pv,cv,ev,gv,tv,a⟩,g⟩:=Y.jM;exact⟨vv,pv,cv,ev,gv,tv,Y.below,ca.AZ _ d s1 s2 a g⟩
def vU {X':rS}{vv pv cv ev gv tv:Value}(Y:M w0 w (IQ p X' vv pv cv ev gv tv++Γ)):M w0 w (rT p X'::Γ):=by
 unfold rT;obtain⟨h1,e,d,s1,s2,a,g⟩:=ca.split _ Y.jM;exact⟨Y.below,h1,e,d,s1,s2,⟨vv,pv,cv,ev,gv,tv,a⟩,g⟩
def v6 (w:World)(p:Addr)(X':rS):Prop:=∃ d e f g gv l,dO w p (FL X' d e f g gv l)/\RS O w d X'.vars/\RS O w e X'.pW/\RS O w f X'.l6.aT/\RS aM w g X'.l6.aB/\RS ah w gv X'.l6.aR/\RS O w l X'.qV
def v6.at {w0 w:World}{Γ:List HP}{p:Addr}{X':rS}(h:v6 w0 p X')(Y:M w0 w Γ):v6 w p X':=by
 obtain⟨d,e,f,g,gv,l,m,h1,o,r,u,v,x⟩:=h;exact⟨d,e,f,g,gv,l,m.at Y,h1.at Y,o.at Y,r.at Y,u.at Y,v.at Y,x.at Y⟩
def rD {X':rS}(Y:M w0 w Γ)(i:Nat)(hi:Γ[i]? = some (rT p X')):v6 w p X':=by
 obtain⟨d,e,f,g,gv,l,h⟩:=vT (Y.bJ i hi);exact⟨d,e,f,g,gv,l,h.gB 0 rfl,h.rs 1 rfl,h.rs 2 rfl,h.rs 3 rfl,h.rs 4 rfl,h.rs 5 rfl,h.rs 6 rfl⟩
class EJ (Γ:List HP) (p:Addr) (X':outParam rS):Prop where
 ok:∃ i:Nat,Γ[i]? = some (rT p X')
instance (priority:=high) db_here {p:Addr}{X':rS}{Γ:List HP}:EJ (rT p X'::Γ) p X':=⟨0,rfl⟩
def MA {X':rS}[h:EJ Γ p X'](Y:M w0 w Γ):v6 w p X':=by
 obtain⟨i,d⟩:=h.ok;exact rD Y i d
structure BB (X':rS):Prop where
 pos:∀ x∈X'.vars,1<=x
 mem:∀ v∈X'.pW,0<=v/\v<X'.vars.length
 Dg:bp X'.vars X'.pW<=4096
 qV:X'.qV.length=(bp X'.vars X'.pW).toNat
 cG:∀ e∈X'.l6.aB,0<=e.cG/\e.cG<X'.l6.aT.length
 ba:∀ e∈X'.l6.aB,0<=e.ba/\e.ba<X'.qV.length
 dst:∀ e∈X'.l6.aB,0<=e.dst/\e.dst<X'.qV.length
 dC:∀ i:Nat,i<X'.qV.length->0<=dg X'.qV i/\dg X'.qV i<=bD
 M_:X'.vars.length<=64
 MB:X'.l6.aT.length<=4096
 MC:X'.l6.aB.length<=65536
open Classical in
noncomputable def wO (X':rS)(s:J):Int:=if ab X'.vars s then dg X'.qV (bU X'.vars X'.pW s) else 1125899906842624
def IS {X':rS}(h:ab X'.vars s):wO X' s=dg X'.qV (bU X'.vars X'.pW s):=aP h
def UR {X':rS}(h:¬ab X'.vars s):wO X' s=1125899906842624:=aH h
def NP {X':rS}{sv:Value}(u:v6 w0 p X')(d:BB X')(x:RS O w0 sv s) :
  Calls aj 327 #[.pointer (some p),sv] w0 fun e w'=>e=.returned (E (wO X' s))/\M w0 w' []:=by
 obtain⟨Q,R,S,T,gv,V,h0,h1,y,h3,h4,h5,h6⟩:=u;have B:=y.bT;have F:=d.qV;have K:=d.Dg;have Y:=M.start w0;refine bB ao Tryz.func327 ?_;refine W ?_;refine aU rfl (yi h1 (x.at Y)) ?_;rintro _ w' ⟨⟨r,rfl,g⟩,an⟩;refine aI ?_;clear an Y;intro Y;cases r
 ·rw[UR (fun h=>by have:=g.2 h;cases this)]
  refine W ?_;exact bk (v:=E 1125899906842624) rfl rfl ⟨rfl,Y⟩
 have bI:=g.1 rfl;have N:=bI.1;rw[IS bI];refine W ?_;refine dN [5,5,7,7,22,40] (G:=Nat) (H:=Int) (fun k n=>[(22,E k),(5,E n)]) (fun k n w=>k<=X'.pW.length/\n=bU X'.vars (X'.pW.take k) s/\M w0 w []) (fun k _=>X'.pW.length-k) 0 0 (fun _ _=>rfl) ⟨rfl,rfl,au⟩ ⟨br _,rfl,Y⟩ ?_;clear Y;rintro σ k n w ⟨hk,l,Y⟩;refine aA ?_ ?_<;>intro h7
 ·have f:k<X'.pW.length:=U
  have hv:=d.mem _ (cD O.dflt f);have g:=bI.dC hv.1 hv.2;have m:=oz (p:=X'.pW.take k) bI fun v hv=>d.mem v (pU hv);have P:=oz (p:=X'.pW.take (k+1)) bI fun v hv=>d.mem v (pU hv);have eH:=IT d.pos d.mem (k+1);have o:=NQ (vars:=X'.vars) (s:=s) f;rw[<-l]at m o;simp only[sg]at o g;have b0:0<=n*X'.vars.getD (X'.pW.getD k O.dflt).toNat O.dflt:=tj U U;refine eQ ?_;intro w Y;exact⟨k+1,_,⟨rfl,rfl,au⟩,aV,⟨U,o.symm,Y⟩,U⟩
 rw[gH U]at l;have f:=oz bI d.mem;subst l;refine W ?_;exact bk (v:=E (dg X'.qV (bU X'.vars X'.pW s))) rfl rfl ⟨rfl,Y⟩
def US {X':rS}(x:v6 w0 p X')(f:BB X') :
  Calls aj 86 #[.pointer (some p)] w0 fun e w'=>∃ s,e=.returned s/\M w0 w' [X O 3 s (nL X'.l6.aB X'.qV X'.l6.aT.length)]:=by
 obtain⟨R,S,T,V,gv,tv,h0,h1,h2,h3,h4,h5,h6⟩:=x;have y:=f.qV;have B:=f.Dg;have F:=f.MB;have H:=f.MC;have Y:=M.start w0;refine bB ao Tryz.func86 ?_;refine lw ?_;intro s w Y;obtain⟨o,rfl⟩:=À s;rw[gY,<-UT X'.l6.aB X'.qV X'.l6.aT.length]at Y;refine cN [5,7,23,62] (G:=Nat) (fun k=>[(23,E k)]) (fun k w=>k<=X'.l6.aB.length/\M w0 w [X O 3 o (mP X'.l6.aB X'.qV X'.l6.aT.length k)]) (fun k=>X'.l6.aB.length-k) 0 (fun _=>rfl) ⟨rfl,au⟩ ⟨br _,Y⟩ ?_;clear Y;rintro σ k w ⟨hk,Y⟩;have K:=IU (E_:=X'.l6.aB) (D:=X'.qV) (m:=X'.l6.aT.length) k hk;refine aA ?_ ?_<;>intro h7
 ·have l:k<X'.l6.aB.length:=U
  have g:=cD aM.dflt l;have e1:=f.cG _ g;have N:=f.ba _ g;have P:=f.dst _ g;have r:=f.dC (X'.l6.aB.getD k aM.dflt).ba.toNat U;have u:=f.dC (X'.l6.aB.getD k aM.dflt).dst.toNat U;rw[fZ N.1]at r;rw[fZ P.1]at u;have d:=IV (D:=X'.qV) (m:=X'.l6.aT.length) l;simp only[kS,dg,gG,bD]at d r u;refine MD ?_ ?_<;>intro p w Y Q
  ·rw[aP Q]at d
   refine eQ ?_;intro w Y;rw[<-d]at Y;exact⟨k+1,⟨rfl,au⟩,aV,⟨U,Y.tail⟩,U⟩
  rw[aH U]at d;refine W ?_;rw[<-d]at Y;exact⟨k+1,⟨rfl,au⟩,aV,⟨U,Y.tail⟩,U⟩
 have d:k=X'.l6.aB.length:=U;subst d;refine W ?_;exact bk (v:=o) rfl rfl ⟨o,rfl,Y⟩
def mQ (x:Int):Prop:=x<0\/1048576<x
instance (x:Int):Decidable (mQ x):=inferInstanceAs (Decidable (_\/_))
def UU {x:Int} :
  Calls aj 109 #[E x] w0 fun e w'=>e=.returned (.bool (decide (mQ x)))/\M w0 w' []:=by
 have Y:=M.start w0;refine bB ao Tryz.func109 ?_;refine W ?_;refine bk (v:=.bool (decide (x<0) || decide (1048576<x))) rfl rfl ⟨?_,Y⟩;rw[<-Bool.decide_or];rfl
def UV {xs:J}(m:RS O w0 a xs) :
  Calls aj 71 #[a,.func (.func 109) #[] #[]] w0 fun e w'=>(∃ r:Int,e=.returned (E r)/\(0<=r↔∃ x∈xs,mQ x))/\M w0 w' []:=by
 have o:=m.bT;have Y:=M.start w0;refine bB ao Tryz.func71 ?_;refine W ?_;refine cN [4,5,8,18] (G:=Nat) (fun k=>[(8,E k)]) (fun k w=>k<=xs.length/\(∀ i,i<k->¬mQ (xs.getD i O.dflt))/\M w0 w []) (fun k=>xs.length-k) 0 (fun _=>rfl) ⟨rfl,au⟩ ⟨br _,fun i f=>absurd f (dx _),Y⟩ ?_;clear Y;rintro u k w ⟨hk,d,Y⟩;refine aA ?_ ?_<;>intro h1
 ·have l:k<xs.length:=U
  refine W ?_;refine wr (cs:=[]) rfl rfl (UU (x:=xs.getD k O.dflt)) ?_;rintro _ w' ⟨rfl,an⟩;refine aI ?_;clear an Y;intro Y;by_cases g:mQ (xs.getD k O.dflt)
  ·rw[dY g]
   refine W ?_;refine bk (v:=E k) rfl rfl ⟨⟨k,rfl,⟨fun _=>⟨_,cD O.dflt l,g⟩,fun _=>U⟩⟩,Y⟩
  rw[eA g];refine W ?_;refine⟨k+1,⟨rfl,au⟩,aV,⟨U,fun i f=>?_,Y⟩,U⟩;by_cases h:i=k
  ·subst h;exact g
  exact d i U
 refine W ?_;refine bk (v:=E (-1)) rfl rfl ⟨⟨-1,rfl,⟨fun h=>U,?_⟩⟩,Y⟩;rintro⟨x,hx,he⟩;obtain⟨i,f,rfl⟩:=AU.1 hx;exact absurd (by rw[al f];exact he) (d i U)
def UW {xs:J}(d:RS O w0 a xs) :
  Calls aj 44 #[a,.func (.func 109) #[] #[]] w0 fun e w'=>(∃ r,e=.returned (.bool r)/\(r=true↔∃ x∈xs,mQ x))/\M w0 w' []:=by
 have Y:=M.start w0;refine bB ao Tryz.func44 ?_;refine W ?_;refine aU rfl (UV d) ?_;rintro _ w' ⟨⟨r,rfl,f⟩,an⟩;refine aI ?_;clear an Y;intro Y;refine W ?_;exact bk (v:=.bool (decide (0<=r))) rfl rfl ⟨⟨_,rfl,by rw[gR];exact f⟩,Y⟩
open Classical in
noncomputable def iE (t:aa)(L cs:J):Int:=if bX t≠0 then bX t else if 0<cs.length/\cs.length≠t.Z.length then 11 else if ∃ x∈cs,mQ x then 1 else cO t L
def uy (t:aa)(cs:J):J:=if cs.length=0 then am t else cs
noncomputable def nG (t:aa)(L D:J):rS:=⟨t.vars,L,dV t L,D⟩
def FM (h:cO t L=0):aC t/\jr t.vars L/\bp t.vars L<=4096/\(bM t L).length<=65536:=by
 by_cases hk:lS t L=0
 ·rw[IW hk]at h
  obtain⟨I,d⟩:=IX.1 hk;unfold j8 at h;split at h
  ·cases h
  split at h
  ·cases h
  split at h
  ·cases h
  exact⟨I,d.NR,U,U⟩
 unfold cO at h;rw[aP hk]at h;exact absurd h hk
def NS (I:aC t):∀ x∈am t,0<=x/\x<=1048576:=by
 intro x hx;obtain⟨o,e,rfl⟩:=iQ.1 hx;obtain⟨i,d,rfl⟩:=fF e;have:=I.op i d;rw[al d]at this;have h1:=this.kI;have f:=this.nz;omega
def UX (I:aC t)(h1:¬(0<cs.length/\cs.length≠t.Z.length))(h2:¬∃ x∈cs,mQ x):(uy t cs).length=t.Z.length/\∀ x∈uy t cs,0<=x/\x<=1048576:=by
 unfold uy;split
 ·exact⟨by simp[am],NS I⟩
 refine⟨U,fun x hx=>?_⟩;have:¬mQ x:=fun d=>h2 ⟨x,hx,d⟩;unfold mQ at this;omega
def Av (h:cs.length=t.Z.length/\∀ x∈cs,0<=x/\x<=1048576):nD (bM t L) cs (bp t.vars L).toNat :=
 E7 ⟨h.1,fun x hx=>by have:=h.2 x hx;omega⟩
def IY (l:cO t L=0)(g:cH (bM t L) cs (fx t L) (bp t.vars L).toNat D):BB (nG t L D):=by
 obtain⟨I,m,o,r⟩:=FM l;have d:=g.len;have u:=I.Z;have f:=I.vars;have key:∀ e∈bM t L,(0<=e.ba/\e.ba<(bp t.vars L).toNat)/\(0<=e.dst/\e.dst<(bp t.vars L).toNat)/\0<=e.cG/\e.cG<t.Z.length:=by
  intro e he;obtain⟨x,op,y,hx,v,B,F,rfl⟩:=FN.1 he;exact⟨⟨by simp only;omega,by simp only;omega⟩,⟨by simp only;omega,by simp only;omega⟩,by simp only;omega,by simp only;omega⟩
 refine⟨I.pos,m.mem,o,d,fun e he=>?_,fun e he=>?_,fun e he=>?_,fun i v=>g.dC i (by rw[<-d];exact v),f,?_,r⟩
 ·have:=(key e he).2.2
  simp only[nG,dV,am,iW];omega
 ·have:=(key e he).1
  show 0<=e.ba/\e.ba<D.length;omega
 ·have:=(key e he).2.1
  show 0<=e.dst/\e.dst<D.length;omega
 simp only[nG,dV,am,iW];omega
def IZ {b c d vp kv:Value}{vs:List iX}(ht:bz w0 a b c d vs t)(hp:RS O w0 vp L)(hk:RS O w0 kv cs) :
  Calls aj 82 #[.agg #[a,b,c,d],vp,kv] w0 fun e w' =>
   (iE t L cs≠0/\e=.returned (.tuple #[.pointer none,bO (iE t L cs)])/\M w0 w' []) \/
   (iE t L cs=0/\cO t L=0/\(uy t cs).length=t.Z.length/\(∀ x∈uy t cs,0<=x/\x<=1048576)/\∃ p D,e=.returned (.tuple #[.pointer (some p),.nilIface])/\cH (bM t L) (uy t cs) (fx t L) (bp t.vars L).toNat D/\M w0 w' [rT p (nG t L D)]):=by
 have F:=ht;obtain⟨ha,hb,hc,hd⟩:=ht;have H':=hd.rs;have J':=hd.len;have P':=hk.bT;have Y:=M.start w0;refine bB ao Tryz.func82 ?_;refine eB ?_;intro pt w Y;refine aU rfl (vY (F.at Y)) ?_;rintro _ w' ⟨rfl,an⟩;refine aI ?_;clear an Y;intro Y;by_cases h1:bX t=0;rotate_left
 ·have f:iE t L cs=bX t:=aP h1
  rw[dq h1];refine W ?_;exact cX (v:=.pointer none) (v':=.iface 57 (E (bX t))) rfl rfl rfl (.inl ⟨by rw[f];exact h1,by rw[f,dq h1],Y.bb⟩)
 rw[gy h1];have I:=(rQ t).1 h1;refine aA ?_ ?_<;>intro h2
 ·have f:iE t L cs=11:=by
   unfold iE;rw[aH (by simp[h1]),aP ⟨U,U⟩]
  refine W ?_;exact cX (v:=.pointer none) (v':=.iface 57 (E 11)) rfl rfl rfl (.inl ⟨by rw[f];decide,by rw[f,dq dc],Y.bb⟩)
 have y:¬(0<cs.length/\cs.length≠t.Z.length):=U;refine W ?_;refine aU rfl (UW (hk.at Y)) ?_;rintro _ w' ⟨⟨r,rfl,hr⟩,an⟩;refine aI ?_;clear an Y;intro Y;cases r;rotate_left
 ·have f:iE t L cs=1:=by
   unfold iE;rw[aH (by simp[h1]),aH y,aP (hr.1 rfl)]
  refine W ?_;exact cX (v:=.pointer none) (v':=.iface 57 (E 1)) rfl rfl rfl (.inl ⟨by rw[f];decide,by rw[f,dq dc],Y.bb⟩)
 have h3:¬∃ x∈cs,mQ x:=fun h=>by have:=hr.2 h;cases this
 have f:iE t L cs=cO t L:=by
  unfold iE;rw[aH (by simp[h1]),aH y,aH h3]
 obtain⟨H,K⟩:=UX I y h3;refine W ?_;refine aU rfl (FO (F.at Y) (hp.at Y)) ?_;rintro _ w' ⟨l,m,gv,rfl,an⟩;by_cases u:cO t L=0;rotate_left
 ·have B:kw t L (cO t L)=cA:=aH u
  rw[B]at an;rw[B,dq u];have o:=Y.call an;clear Y;have Y:=o;clear o;refine⟨_,rfl,?_⟩;have N:=(Y.rs 0 rfl).one;have P:=(Y.rs 1 rfl).one;have Q:=(Y.rs 2 rfl).one;refine I0 ?_;intro p w Y;refine jH (n:=5) (p:=p) (vs:=[E 0,E 0,l,m,gv]) rfl rfl Y inferInstance rfl rfl (by simp only[ew,eN,N,P,Q];rfl) ?_;clear Y;intro w Y;refine W ?_;exact cX (v:=.pointer none) (v':=.iface 57 (E (cO t L))) rfl rfl rfl (.inl ⟨by rw[f];exact u,by rw[f,dq u],Y.bb⟩)
 obtain⟨_,hL,hB,R⟩:=FM u;rw[u,FP]at an;rw[u,gy rfl,FP,NT];have o:=Y.call an;clear an Y;have Y:=o;clear o;refine⟨_,rfl,?_⟩;have N:=(Y.rs 0 rfl).one;have P:=(Y.rs 1 rfl).one;have Q:=(Y.rs 2 rfl).one;refine I0 ?_;intro p w Y;refine jH (n:=5) (p:=p) (vs:=[E (bp t.vars L),E (bU t.vars L t.cE),l,m,gv]) rfl rfl Y inferInstance rfl rfl (by simp only[ew,eN,N,P,Q];rfl) ?_;clear Y;intro w Y;obtain⟨px,rfl⟩:=À p;have R':=FQ I.pos hL.mem;have T':=NU t L (bp t.vars L).toNat;have V':(am t).length=t.Z.length:=by simp[am]
 refine W ?_;refine th [2,2,43,44] (G:=Value) (fun g=>[(2,g)]) (fun g w=>(∀ w',M w0 w' [ak px 142 [E (bp t.vars L),E (bU t.vars L t.cE),l,m,gv],X O 3 l (am t),X aM 190 m (bM t L),X ah 4 gv (ep t L (bp t.vars L).toNat),ak pt 26 [a,b,c,d]]->RS O w' g (uy t cs))/\M w0 w [ak px 142 [E (bp t.vars L),E (bU t.vars L t.cE),l,m,gv],X O 3 l (am t),X aM 190 m (bM t L),X ah 4 gv (ep t L (bp t.vars L).toNat),ak pt 26 [a,b,c,d]]) (fun _=>rfl) ?_ ?_
 ·refine jy ?_ ?_<;>intro V
  ·have T:uy t cs=am t:=aP U
   refine W ?_;exact⟨l,⟨rfl,au⟩,aV,fun w' B=>by rw[T];exact B.rs 1 rfl,Y⟩
  have T:uy t cs=cs:=aH U;refine W ?_;exact⟨kv,⟨rfl,au⟩,aV,fun w' B=>by rw[T];exact hk.at B,Y⟩
 clear Y;rintro σ g w ⟨T,Y⟩;have V:t.vars.length<=1099511627776:=by have:=I.vars;omega
 have j':L.length<=1099511627776:=by
  have:=hL.len;have:=I.vars;omega
 have B:=Av (L:=L) ⟨H,K⟩;refine W ?_;refine fQ (pl [0,1,3,5,6,7,2] (.cJ 5::.cJ 6::pl [4] (.cJ 5::.cJ 6::pl [8] (.cJ 5::pl [9,10,11,12] [])))) Y kr ?_;clear Y;intro w Y;refine W ?_;refine aU rfl (nH (ha.at Y) V) ?_;rintro _ w' ⟨v1,rfl,an⟩;refine aL ?_;clear an Y;intro Y;refine W ?_;refine aU rfl (nH (hp.at Y) j') ?_;rintro _ w' ⟨v2,rfl,an⟩;refine aL ?_;clear an Y;intro Y;refine W ?_;refine aU rfl (UO (kv:=g) (S:=dV t L) (cv:=l) (ev:=m) (gv:=gv) ⟨bm Y,bm Y,bm Y⟩ (T _ Y.bb) (by show 0<=bp t.vars L;omega) (by show bp t.vars L<=_;omega) (by show ((ep t L _).length:Int)=bp t.vars L;omega) R B) ?_;rintro _ w' ⟨v3,D,rfl,hD,an⟩;refine aL ?_;clear an Y;intro Y;refine W ?_;have c1:=(bm (s:=v1) Y).eJ;have c2:=(bm (s:=v2) Y).eJ;have c3:=(bm (s:=v3) Y).eJ;refine sd (parts:=[(0,.tmp 47),(1,.tmp 49),(2,.tmp 50),(3,.tmp 53)]) (vs:=[(0,v1),(1,v2),(2,.agg #[E (bp t.vars L),E (bU t.vars L t.cE),l,m,gv]),(3,v3)]) (ls:=[(0,[v1]),(1,[v2]),(2,[E (bp t.vars L),E (bU t.vars L t.cE),l,m,gv]),(3,[v3])]) rfl (by simp only[l8,tD,c1,c2,c3];rfl) rfl ?_;refine dB ?_;refine yj (vs:=FL (nG t L D) v1 v2 l m gv v3) rfl Y ?_;clear Y;intro p w Y;have Y:=vU (p:=p) (X':=nG t L D) (vv:=v1) (pv:=v2) (cv:=l) (ev:=m) (gv:=gv) (tv:=v3) (Γ:=[]) (show M w0 w [ak p 196 (FL (nG t L D) v1 v2 l m gv v3),X O 3 v1 t.vars,X O 3 v2 L,X O 3 l (am t),X aM 190 m (bM t L),X ah 4 gv (ep t L (bp t.vars L).toNat),X O 3 v3 D] from Y.bb)
 refine W ?_;exact cX (v:=.pointer (some p)) (v':=.nilIface) rfl rfl rfl (.inr ⟨by rw[f];exact u,rfl,H,K,p,D,rfl,hD,Y⟩)
end
section
open Go.Sl Go
def oE (a b:J):J:=(List.range a.length).map fun i=>a.getD i O.dflt-b.getD i O.dflt
def UY (a b:J):(oE a b).length=a.length:=by simp[oE]
def NV {a:J}(h:i<a.length):(oE a b).getD i O.dflt=a.getD i O.dflt-b.getD i O.dflt:=by simp[oE,List.getD,h]
def k9 (a b:J)(j:Nat):J:=(List.range a.length).map fun i=>if i<j then a.getD i O.dflt-b.getD i O.dflt else a.getD i O.dflt
def NW (a b:J)(j:Nat):(k9 a b j).length=a.length:=by simp[k9]
def UZ (a b:J):k9 a b 0=a:=by
 apply iA (by simp[k9]);intro i h1 d;simp[k9,List.getD,d]
def U0 (a b:J):k9 a b a.length=oE a b:=by
 unfold k9 oE;exact xK fun i d=>aP (mem_range.1 d)
def U1 {a:J}(h:j<a.length):(k9 a b j).getD j O.dflt=a.getD j O.dflt:=by simp[k9,List.getD,h]
def U2 {a:J}:(k9 a b j).set j (a.getD j O.dflt-b.getD j O.dflt)=k9 a b (j+1):=by
 apply iA (by simp[k9]);intro i h1 d;rw[sb];simp only[k9,mL,qW];split
 ·rename_i e;subst e;rw[aP U]
 by_cases h:i<j
 ·rw[aP h,aP U]
 rw[aH h,aH U]
def dH (c:J)(z:List J)(k:Nat):J:=(z.take k).foldl oE c
def NX (c:J)(z:List J):dH c z 0=c:=rfl
def I1 (h:k<z.length):dH c z (k+1)=oE (dH c z k) (z.getD k []):=by
 unfold dH;rw[eD [] h,tf];rfl
def NY {d:List J}(h:k<=z.length):dH c (z++d) k=dH c z k:=by
 unfold dH;rw[yk h]
structure tk (t:aa) (Ls:List J) (c:J) (A z:List J):Prop where
 dl:A.length=Ls.length
 pl:z.length=Ls.length
 bN:∀ k,k<Ls.length->cH (bM t (Ls.getD k [])) (dH c z k) (fx t (Ls.getD k [])) (bp t.vars (Ls.getD k [])).toNat (A.getD k [])
 part:∀ k,k<Ls.length->z.getD k []=nL (bM t (Ls.getD k [])) (A.getD k []) t.Z.length
def A0 {α:Type}{l m:List α}{d:α}(h:i<l.length):(l++m).getD i d=l.getD i d:=by simp[iB,js h]
def zG {α:Type}{l:List α}{x:α}{d:α}(h:i=l.length):(l++[x]).getD i d=x:=by subst h;simp[iB]
def tk.nil (t:aa)(c:J):tk t [] c [] []:=⟨rfl,rfl,fun k hk=>absurd hk (dx _),fun k hk=>absurd hk (dx _)⟩
def tk.fe (h:tk t Ls c A z)(f:cH (bM t L) (dH c z Ls.length) (fx t L) (bp t.vars L).toNat D) :
  tk t (Ls++[L]) c (A++[D]) (z++[nL (bM t L) D t.Z.length]):=by
 have g:=h.dl;have l:=h.pl;refine⟨by simp[h.dl],by simp[h.pl],fun k hk=>?_,fun k hk=>?_⟩
 ·simp only[length_append,length_cons,length_nil]at hk
  rw[NY U];by_cases e:k<Ls.length
  ·rw[A0 e,A0 U];exact h.bN k e
  have d:k=Ls.length:=U;rw[zG d,zG U,d];exact f
 simp only[length_append,length_cons,length_nil]at hk;by_cases e:k<Ls.length
 ·rw[A0 e,A0 U,A0 U];exact h.part k e
 have d:k=Ls.length:=U;rw[zG d,zG U,zG U]
structure et (t:aa) (c:J):Prop where
 len:c.length=t.Z.length
 dC:∀ x∈c,0<=x/\x<=1048576
def et.at (h:et t c)(hi:i<t.Z.length):0<=c.getD i O.dflt/\c.getD i O.dflt<=1048576:=h.dC _ (cD O.dflt (by rw[h.len];exact hi))
def et.of (d:c.length=t.Z.length)(h:∀ i,i<t.Z.length->0<=c.getD i O.dflt/\c.getD i O.dflt<=1048576):et t c :=
 ⟨d,fun x hx=>by obtain⟨i,e,rfl⟩:=fF hx;have:=h i U;rwa[al e]at this⟩
def et.xO (h:et t c):nD (bM t L) c (bp t.vars L).toNat:=Av ⟨h.len,h.dC⟩
def xP (I:aC t):et t (am t):=⟨by simp[am],NS I⟩
def et.sub (h:et t c)(g:cH (bM t L) c (fx t L) (bp t.vars L).toNat D):et t (oE c (nL (bM t L) D t.Z.length))/\∀ i,i<t.Z.length->0<=(nL (bM t L) D t.Z.length).getD i O.dflt/\(nL (bM t L) D t.Z.length).getD i O.dflt<=c.getD i O.dflt:=by
 have f:=h.xO (L:=L);have e:qG (bM t L) D c.length (nL (bM t L) D t.Z.length):=by rw[<-h.len];exact NZ f.cG
 have eH:=fun i (d:i<t.Z.length)=>e.le f g (i:=i) (by rw[h.len];exact d);refine⟨.of (by rw[UY];exact h.len) fun i d=>?_,eH⟩;rw[NV (by rw[h.len];exact d)];have h1:=eH i d;have l:=h.at d;omega
def tk.aO {t:aa}{Ls:List J}{c:J}{A z:List J}(h:tk t Ls c A z)(d:et t c):∀ k,k<=Ls.length->et t (dH c z k)
 | 0,_=>d
 | k+1,hk=>by
  rw[I1 (by rw[h.pl];omega),h.part k U];exact((h.aO d k U).sub (h.bN k U)).1
def bG (t:aa)(Ls A:List J)(s:J)(k:Nat):Int:=dg (A.getD k []) (bU t.vars (Ls.getD k []) s)
def ju (f:Nat->Int)(k:Nat):Int:=((List.range k).map f).sum
def U3 (f:Nat->Int):ju f 0=0:=rfl
def wu (f:Nat->Int)(k:Nat):ju f (k+1)=ju f k+f k:=by simp[ju,lz]
def N0 {f:Nat->Int}{B:Int}(h:∀ k,k<n->0<=f k/\f k<=B):0<=ju f n/\ju f n<=n*B:=by
 induction n with
 | zero=>simp[ju]
 | succ n d =>
  have h1:=d fun k hk=>h k U;have e:=h n U;rw[wu,B7,zH];simp only[I2,Dh];omega
open Classical in
noncomputable def gj (t:aa)(Ls A:List J)(s:J):Int :=
 if ¬ab t.vars s then 1125899906842624 else if ∃ k,k<Ls.length/\bG t Ls A s k=1125899906842624 then 1125899906842624 else ju (bG t Ls A s) Ls.length
def U4 (h:¬ab t.vars s):gj t Ls A s=1125899906842624:=aP h
def N1 (h:ab t.vars s)(hk:k<Ls.length)(hv:bG t Ls A s k=1125899906842624):gj t Ls A s=1125899906842624:=by
 unfold gj;rw[aH (fun d=>d h),aP ⟨k,hk,hv⟩]
def N2 (h:ab t.vars s)(hv:∀ k,k<Ls.length->bG t Ls A s k≠1125899906842624):gj t Ls A s=ju (bG t Ls A s) Ls.length:=by
 unfold gj;rw[aH (fun d=>d h),aH (fun⟨k,hk,e⟩=>hv k hk e)]
end
end Go.Proofs.YtmapkjoefdgjfaaGreatDoor
