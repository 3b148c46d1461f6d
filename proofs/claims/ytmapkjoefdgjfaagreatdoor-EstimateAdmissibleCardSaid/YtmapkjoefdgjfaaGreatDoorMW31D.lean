/- Several texts. -/
import Derived.Test.YtmapkjoefdgjfaaGreatDoorMW30D
set_option linter.unusedSimpArgs false
set_option linter.unusedVariables false
set_option linter.defProp false
set_option maxRecDepth 8000
set_option maxHeartbeats 16000000
open List Nat
namespace Go.Proofs.YtmapkjoefdgjfaaGreatDoor
open Go.Sl
variable {w0 w:World}{t:aa}{h b a c d sv:Value}{xs:List cB}{Γ:List HP}{q B:Addr}{i j:Nat}{vs:List iX}{ss:List Value}{C:Int}{z:J}{A:List J}
section
open Go.Sl
attribute [local irreducible] vc opsW opsD opV opW PureV ReadV Thn Blk
def EA {ii:Int}(hx:RS aD w0 h xs)(f:ii=i)(g:C=j)(hi:i<xs.length)(k:j<xs.length) :
  Calls aj 340 #[h,E ii,E C] w0 fun e w'=>e=.returned (.bool (gz (I aD.dflt xs i) (I aD.dflt xs j)))/\M w0 w' []:=by
 subst f g;have Y:=M.start w0;refine bB ao Tryz.func340 ?_;refine eQ ?_;intro w Y;exact bk (v:=.bool (gz (I aD.dflt xs i) (I aD.dflt xs j))) rfl rfl ⟨rfl,Y⟩
def EB {ii:Int}(f:ii=i)(g:C=j)(hi:i<xs.length)(k:j<xs.length)(Y:M w0 w (X aD 355 h xs::Γ)) :
  Calls aj 341 #[h,E ii,E C] w fun e w'=>e=.returned (.tuple #[])/\M w0 w' (X aD 355 h (sw aD.dflt xs i j)::Γ):=by
 subst f g;refine bB ao Tryz.func341 ?_;refine eQ ?_;intro w Y;refine B5 (s:=h) (j:=i) (x':=I aD.dflt xs j) rfl rfl rfl rfl Y inferInstance U ?_;clear Y;intro w Y;have l:(xs.set i (I aD.dflt xs j)).length=xs.length:=sm;refine W ?_;refine B5 (s:=h) (j:=j) (x':=I aD.dflt xs i) rfl rfl rfl rfl Y inferInstance U ?_;clear Y;intro w Y;refine W ?_;exact ti rfl ⟨rfl,Y⟩
def ř {v:cB}(g:xs.length<1099511627776)(Y:M w0 w (X aD 355 h xs::ak q 352 [h]::Γ)) :
  Calls aj 343 #[.pointer (some q),.iface 355 (.agg #[E v.bN,E v.aQ])] w fun e w'=>e=.returned (.tuple #[])/\∃ f,M w0 w' (X aD 355 f (xs++[v])::ak q 352 [f]::Γ):=by
 refine bB ao Tryz.func343 ?_;refine c9 ?_;intro p w Y;refine fQ (pl [0,1,2,3,4,5] (.cJ 3::pl [6,7,8] [])) Y kr ?_;clear Y;intro w Y;refine W ?_;refine jG aD (x1:=v) rfl rfl rfl (fX rfl) (fb _) Y ?_;clear Y;intro s w Y;refine ot ?_;intro s w Y;exact ti rfl ⟨rfl,_,Y.tail.tail⟩
def Ś (g:0<xs.length)(k:xs.length<=1099511627776)(Y:M w0 w (X aD 355 h xs::ak q 352 [h]::Γ)) :
  Calls aj 342 #[.pointer (some q)] w fun e w'=>e=.returned (.iface 355 ((.agg #[E (I aD.dflt xs (xs.length-1)).bN,E (I aD.dflt xs (xs.length-1)).aQ])))/\∃ f,M w0 w' (X aD 355 f (xs.take (xs.length-1))::ak q 352 [f]::Γ):=by
 refine bB ao Tryz.func342 ?_;refine eB ?_;intro p w Y;have hk:(((xs.length:Nat):Int)-1).toNat=xs.length-1:=U;replace Y:=M.sub (s:=h) (xs:=xs) Y inferInstance 0 (((xs.length:Nat):Int)-1).toNat U U;refine eQ ?_;intro w Y;refine bk (v:=.iface 355 ((.agg #[E (I aD.dflt xs (((xs.length:Nat):Int)-1).toNat).bN,E (I aD.dflt xs (((xs.length:Nat):Int)-1).toNat).aQ]))) rfl rfl ⟨by rw[hk],ssub h aD.sz 0 (((xs.length:Nat):Int)-1).toNat,?_⟩;have f:cut xs 0 (((xs.length:Nat):Int)-1).toNat=xs.take (xs.length-1):=by rw[hk];simp[cut]
 rw[f]at Y;exact Y.tail
def Mm (hx:RS aD w0 h xs) :
  Calls aj 265 #[h] w0 fun e w'=>e=.returned (E xs.length)/\M w0 w' []:=by
 have Y:=M.start w0;refine bB ao Tryz.func265 ?_;refine W ?_;exact bk (v:=E xs.length) rfl rfl ⟨rfl,Y⟩
def ś (n:C=j)(U':xM aD.dflt gz xs j)(r:xs.length<=1099511627776)(Y:M w0 w (X aD 355 h xs::ak q 352 [h]::Γ)) :
  Calls aj 166 #[.iface 353 (.pointer (some q)),E C] w fun e w'=>e=.returned (.tuple #[])/\∃ ys,cR aD.dflt gz ys/\ys.Perm xs/\M w0 w' (X aD 355 h ys::ak q 352 [h]::Γ):=by
 subst n;refine bB ao Tryz.func166 ?_;refine W ?_;refine dN [1,1,4,22] (G:=Nat) (H:=List cB) (fun j ys=>[(1,E j)]) (fun j ys w=>xM aD.dflt gz ys j/\ys.Perm xs/\M w0 w (X aD 355 h ys::ak q 352 [h]::Γ)) (fun j ys=>j) j xs (fun _ _=>rfl) ⟨rfl,au⟩ ⟨U',.refl _,Y⟩ ?_;clear Y U';rintro v j ys w ⟨U',l,Y⟩;have g:=U'.IM;have o:=l.length_eq;refine W ?_;simp only[NA];by_cases k:(j-1) / 2=j
 ·have f:decide ((((j-1) / 2:Nat):Int)=(j:Int))=true:=dY U
  simp only[f];refine W ?_;exact ti rfl ⟨rfl,ys,U'.done (.inl k),l,Y⟩
 have f:decide ((((j-1) / 2:Nat):Int)=(j:Int))=false:=eA U;simp only[f,vF];refine W ?_;refine nX (u:=h) rfl rfl (Y.ik inferInstance rfl) (EA (bm Y) rfl rfl g (show (j-1) / 2<ys.length by omega)) ?_;rintro _ w' ⟨rfl,hk⟩;replace Y:=Y.cr hk;clear hk
 cases m:gz (I aD.dflt ys j) (I aD.dflt ys ((j-1) / 2)) with
 | false =>
  refine⟨_,rfl,?_⟩;refine W ?_
  exact ti rfl ⟨rfl,ys,U'.done (.inr m),l,Y⟩
 | true =>
  refine⟨_,rfl,?_⟩;refine W ?_;refine nX (u:=h) rfl rfl (Y.ik inferInstance rfl) (EB rfl rfl (show (j-1) / 2<ys.length by omega) g Y) ?_;clear Y;rintro _ w ⟨rfl,Y⟩;refine⟨_,rfl,?_⟩;refine W ?_;exact⟨(j-1) / 2,_,⟨rfl,au⟩,aV,⟨U'.step k m,(xN U g).trans l,Y⟩,U⟩
def Ŝ {n:Nat}{nn:Int}(P:nn=n)(D:vZ aD.dflt gz xs n 0)(T:xs.length<=1099511627776)(Y:M w0 w (X aD 355 h xs::ak q 352 [h]::Γ)) :
  Calls aj 167 #[.iface 353 (.pointer (some q)),E 0,E nn] w fun e w'=>∃ b ys,e=.returned (.bool b)/\sS aD.dflt gz ys n/\ys.Perm xs/\(∀ k,n<=k->I aD.dflt ys k=I aD.dflt xs k)/\M w0 w' (X aD 355 h ys::ak q 352 [h]::Γ):=by
 subst P;refine bB ao Tryz.func167 ?_;refine W ?_;refine dN [7,10,12,44] (G:=Nat) (H:=List cB) (fun i ys=>[(7,E i)]) (fun i ys w=>vZ aD.dflt gz ys n i/\i<=n/\ys.Perm xs/\(∀ k,n<=k->I aD.dflt ys k=I aD.dflt xs k)/\M w0 w (X aD 355 h ys::ak q 352 [h]::Γ)) (fun i ys=>n-i) 0 xs (fun _ _=>rfl) ⟨rfl,au⟩ ⟨D,br _,.refl _,fun _ _=>rfl,Y⟩ ?_;clear Y D;rintro V i ys w ⟨D,Q,r,f,Y⟩;have K:=D.le;have R:=r.length_eq;refine aA ?_ ?_<;>intro h1
 ·refine W ?_
  exact bk (v:=.bool _) rfl rfl ⟨_,ys,rfl,D.leaf U,r,f,Y⟩
 have x:2*i+1<n:=U;refine W ?_;by_cases S:2*i+2<n
 ·have l:decide (2*(i:Int)+1+1<(n:Int))=true:=dY U
  simp only[l,vG];refine W ?_;refine nX (u:=h) rfl rfl (Y.ik inferInstance rfl) (EA (i:=2*i+2) (j:=2*i+1) (bm Y) U U U U) ?_;rintro _ w' ⟨rfl,hk⟩;replace Y:=Y.cr hk;clear hk
  cases m:gz (I aD.dflt ys (2*i+2)) (I aD.dflt ys (2*i+1)) with
  | true =>
   refine⟨_,rfl,?_⟩;refine pV ?_;refine th [9,9,34,34] (G:=Nat) (fun j=>[(9,E j)]) (fun j w=>(j=2*i+1\/j=2*i+2)/\j<n/\(∀ c,0<c->c<n->(c-1) / 2=i->eH gz (I aD.dflt ys j) (I aD.dflt ys c))/\M w0 w (X aD 355 h ys::ak q 352 [h]::Γ)) (fun _=>rfl) ?_ ?_
   ·refine W ?_
    refine⟨2*i+2,⟨?_,au⟩,aV,.inr rfl,S,fun c L h1 N=>?_,Y⟩
    ·show Value.int .i64 (2*(i:Int)+1+1)=_
     congr 1
    have:c=2*i+1\/c=2*i+2:=U;rcases this with rfl|rfl
    ·exact FJ m
    exact AX _
   clear Y;rintro y j w ⟨F,o,g,Y⟩;refine W ?_;refine nX (u:=h) rfl rfl (Y.ik inferInstance rfl) (EA (bm Y) rfl rfl (show j<ys.length by omega) (show i<ys.length by omega)) ?_;rintro _ w' ⟨rfl,hk⟩;replace Y:=Y.cr hk;clear hk
   cases m:gz (I aD.dflt ys j) (I aD.dflt ys i) with
   | false =>
    refine⟨_,rfl,?_⟩;refine W ?_
    exact bk (v:=.bool _) rfl rfl ⟨_,ys,rfl,D.done g m,r,f,Y⟩
   | true =>
    refine⟨_,rfl,?_⟩;refine W ?_;refine nX (u:=h) rfl rfl (Y.ik inferInstance rfl) (EB rfl rfl (show i<ys.length by omega) (show j<ys.length by omega) Y) ?_;clear Y;rintro _ w ⟨rfl,Y⟩;refine⟨_,rfl,?_⟩;refine W ?_;refine⟨j,_,⟨rfl,au⟩,aV,⟨D.step F o g m,U,(xN U U).trans r,fun k hk=>?_,Y⟩,U⟩;rw[rR U U,aH U,aH U]
    exact f k hk
  | false =>
   refine⟨_,rfl,?_⟩;refine pV ?_;refine th [9,9,34,34] (G:=Nat) (fun j=>[(9,E j)]) (fun j w=>(j=2*i+1\/j=2*i+2)/\j<n/\(∀ c,0<c->c<n->(c-1) / 2=i->eH gz (I aD.dflt ys j) (I aD.dflt ys c))/\M w0 w (X aD 355 h ys::ak q 352 [h]::Γ)) (fun _=>rfl) ?_ ?_
   ·refine W ?_
    refine⟨2*i+1,⟨?_,au⟩,aV,.inl rfl,x,fun c L h1 N=>?_,Y⟩
    ·show Value.int .i64 (2*(i:Int)+1)=_
     congr 1
    have:c=2*i+1\/c=2*i+2:=U;rcases this with rfl|rfl
    ·exact AX _
    exact m
   clear Y;rintro y j w ⟨F,o,g,Y⟩;refine W ?_;refine nX (u:=h) rfl rfl (Y.ik inferInstance rfl) (EA (bm Y) rfl rfl (show j<ys.length by omega) (show i<ys.length by omega)) ?_;rintro _ w' ⟨rfl,hk⟩;replace Y:=Y.cr hk;clear hk
   cases m:gz (I aD.dflt ys j) (I aD.dflt ys i) with
   | false =>
    refine⟨_,rfl,?_⟩;refine W ?_
    exact bk (v:=.bool _) rfl rfl ⟨_,ys,rfl,D.done g m,r,f,Y⟩
   | true =>
    refine⟨_,rfl,?_⟩;refine W ?_;refine nX (u:=h) rfl rfl (Y.ik inferInstance rfl) (EB rfl rfl (show i<ys.length by omega) (show j<ys.length by omega) Y) ?_;clear Y;rintro _ w ⟨rfl,Y⟩;refine⟨_,rfl,?_⟩;refine W ?_;refine⟨j,_,⟨rfl,au⟩,aV,⟨D.step F o g m,U,(xN U U).trans r,fun k hk=>?_,Y⟩,U⟩;rw[rR U U,aH U,aH U];exact f k hk
 have l:decide (2*(i:Int)+1+1<(n:Int))=false:=eA U;simp only[l];refine pV ?_;refine th [9,9,34,34] (G:=Nat) (fun j=>[(9,E j)]) (fun j w=>(j=2*i+1\/j=2*i+2)/\j<n/\(∀ c,0<c->c<n->(c-1) / 2=i->eH gz (I aD.dflt ys j) (I aD.dflt ys c))/\M w0 w (X aD 355 h ys::ak q 352 [h]::Γ)) (fun _=>rfl) ?_ ?_
 ·refine W ?_
  refine⟨2*i+1,⟨?_,au⟩,aV,.inl rfl,x,fun c L h1 N=>?_,Y⟩
  ·show Value.int .i64 (2*(i:Int)+1)=_
   congr 1
  have:c=2*i+1:=U;subst this;exact AX _
 clear Y;rintro y j w ⟨F,o,g,Y⟩;refine W ?_;refine nX (u:=h) rfl rfl (Y.ik inferInstance rfl) (EA (bm Y) rfl rfl (show j<ys.length by omega) (show i<ys.length by omega)) ?_;rintro _ w' ⟨rfl,hk⟩;replace Y:=Y.cr hk;clear hk
 cases m:gz (I aD.dflt ys j) (I aD.dflt ys i) with
 | false =>
  refine⟨_,rfl,?_⟩;refine W ?_
  exact bk (v:=.bool _) rfl rfl ⟨_,ys,rfl,D.done g m,r,f,Y⟩
 | true =>
  refine⟨_,rfl,?_⟩;refine W ?_;refine nX (u:=h) rfl rfl (Y.ik inferInstance rfl) (EB rfl rfl (show i<ys.length by omega) (show j<ys.length by omega) Y) ?_;clear Y;rintro _ w ⟨rfl,Y⟩;refine⟨_,rfl,?_⟩;refine W ?_;refine⟨j,_,⟨rfl,au⟩,aV,⟨D.step F o g m,U,(xN U U).trans r,fun k hk=>?_,Y⟩,U⟩;rw[rR U U,aH U,aH U];exact f k hk
def ŝ {v:cB}(H:cR aD.dflt gz xs)(l:xs.length<1099511627776)(Y:M w0 w (X aD 355 h xs::ak q 352 [h]::Γ)) :
  Calls aj 142 #[.iface 353 (.pointer (some q)),.iface 355 (.agg #[E v.bN,E v.aQ])] w fun e w'=>e=.returned (.tuple #[])/\∃ f ys,cR aD.dflt gz ys/\ys.Perm (v::xs)/\M w0 w' (X aD 355 f ys::ak q 352 [f]::Γ):=by
 refine bB ao Tryz.func142 ?_;refine W ?_;refine FK rfl rfl (ř (v:=v) U Y) ?_;clear Y;rintro _ w ⟨rfl,f,Y⟩;refine⟨_,rfl,?_⟩;refine W ?_;refine nX (u:=f) rfl rfl (Y.ik inferInstance rfl) (Mm (bm Y)) ?_;rintro _ w' ⟨rfl,hk⟩;replace Y:=Y.cr hk;clear hk;refine⟨_,rfl,?_⟩;have g:(xs++[v]).length=xs.length+1:=sm;refine W ?_;refine aU rfl (ś (j:=xs.length) (by rw[g];omega) (NC H) U Y) ?_;clear Y;rintro _ w ⟨rfl,ys,h1,k,Y⟩;refine⟨_,rfl,?_⟩;refine W ?_;exact ti rfl ⟨rfl,f,ys,h1,k.trans (IN (l₁:=xs) (l₂:=[v])),Y⟩
def Ş (H:cR aD.dflt gz xs)(g:0<xs.length)(r:xs.length<=1099511627776)(Y:M w0 w (X aD 355 h xs::ak q 352 [h]::Γ)) :
  Calls aj 144 #[.iface 353 (.pointer (some q))] w fun e w'=>∃ v l ys,e=.returned (.iface 355 (.agg #[E v.bN,E v.aQ]))/\cR aD.dflt gz ys/\xs.Perm (v::ys)/\(∀ x∈xs,eH gz v x)/\M w0 w' (X aD 355 l ys::ak q 352 [l]::Γ):=by
 refine bB ao Tryz.func144 ?_;refine W ?_;refine nX (u:=h) rfl rfl (Y.ik inferInstance rfl) (Mm (bm Y)) ?_;rintro _ w' ⟨rfl,hk⟩;replace Y:=Y.cr hk;clear hk;refine⟨_,rfl,?_⟩;refine W ?_;refine nX (u:=h) rfl rfl (Y.ik inferInstance rfl) (EB (i:=0) (j:=xs.length-1) rfl U g U Y) ?_;clear Y;rintro _ w ⟨rfl,Y⟩;refine⟨_,rfl,?_⟩;refine W ?_;refine aU rfl (Ŝ (n:=xs.length-1) U (ND H g) (by rw[AY];exact r) Y) ?_;clear Y;rintro _ w ⟨b,ys,rfl,h1,y,D,Y⟩;have o:=y.trans (xN g (show xs.length-1<xs.length by omega));have k:=o.length_eq;refine⟨_,rfl,?_⟩;refine W ?_;refine FK rfl rfl (Ś U U Y) ?_;clear Y;rintro _ w ⟨rfl,l,Y⟩;refine⟨_,rfl,?_⟩;refine W ?_;have f:I aD.dflt ys (xs.length-1)=I aD.dflt xs 0:=by
  rw[D _ (cz _),rR g U,aP rfl]
 obtain⟨F,m⟩:=NE g o h1 f;rw[k]at Y;refine bk (v:=.iface 355 ((.agg #[E (I aD.dflt ys (ys.length-1)).bN,E (I aD.dflt ys (ys.length-1)).aQ]))) rfl rfl ⟨I aD.dflt xs 0,l,_,by rw[k,f],F,m,fun x hx=>NF H hx,Y⟩
end
section
open Go.Sl Go
attribute [local irreducible] vc opsW opsD opV opW PureV ReadV Thn Blk
def Mn {m n:Addr}{l o:Value}{D:J}{Q:List cB}{N:Nat}{g v:Int}(H:D.length=N)(I:0<=g/\g<N)(y:cR aD.dflt gz Q)(r:Q.length<1099511627776)(Y:M w0 w (X aD 355 o Q::ak n 352 [o]::X O 3 l D::ak m 22 [l]::Γ)) :
  Calls aj 264 #[E g,E v,.pointer (some m),.pointer (some n)] w fun e w'=>e=.returned (.tuple #[])/\∃ f k,cR aD.dflt gz k/\k.Perm (rB D Q g v) /\
   M w0 w' (X aD 355 f k::ak n 352 [f]::X O 3 l (nb D g v)::ak m 22 [l]::Γ):=by
 refine bB ao Tryz.func264 ?_;refine aA ?_ ?_<;>intro h1
 ·have u:nb D g v=D.set g.toNat v:=aP h1
  have x:rB D Q g v=⟨v,g⟩::Q:=aP h1;rw[u,x];refine eQ ?_;intro w Y;refine aU rfl (ŝ (v:=⟨v,g⟩) y r Y) ?_;clear Y;rintro _ w ⟨rfl,f,k,F,G,Y⟩;refine⟨_,rfl,?_⟩;refine W ?_;exact ti rfl ⟨rfl,f,k,F,G,Y⟩
 have u:nb D g v=D:=aH (rY.2 h1);have x:rB D Q g v=Q:=aH (rY.2 h1);rw[u,x];refine W ?_;exact ti rfl ⟨rfl,o,Q,y,.refl _,Y⟩
def ş (n:Nat)(v:Int):eC n (fun _=>v) n=replicate n v:=by
 apply iA (by simp[eC]);intro i h1 e;simp only[eC,mL,qW,getElem_replicate];rw[aP (by simpa [eC] using h1)]
def Š (e l:J):tR e l<=l.length:=ux _ _
def š {v:x9}{u:Un}(h:LK w v u):(kY.enc v).all Value.oneCell'=true:=by
 have h1:=h.aw.one;show ((Value.int .i64 v.op).oneCell' && ((Value.int .i64 v.fc).oneCell' && ((Value.int .i64 v.aO).oneCell' && ((Value.int .i64 v.aK).oneCell' && (v.aw.oneCell' && true)))))=true;rw[h1];rfl
instance IB:vM aj 350 3 4:=⟨kr⟩
instance FC:qO aj 4 (.bool false):=⟨kr⟩
def Ţ (hr:oK w0 B t)(I:aC t)(hs:RS O w0 sv z)(bI:ab t.vars z) :
  Calls aj 263 #[.pointer (some B),sv,.map none] w0 fun e w'=>∃ L out,e=.returned L/\gV t z out/\M w0 w' [X O 3 L out]:=by
 obtain⟨a,c,fv,uv,nv,frv,us,ss,_T,ha,hc,hf,huv,_h,hU,hnv,_F,_w,_U⟩:=hr.ex;obtain⟨o,_j⟩:=À (bS t);rw[<-_j]at _h hU _w _U;have F:wX o (aS t):=by rw[_j];exact uM I
 have _V:o.length<=262144:=by
  have h1:=Bp I (k:=t.Z.length) (cz _);have h2:=I.Z;rw[_j];unfold bS;omega
 have hN:=Af I;have _W:=I.vars;have hsl:=bI.1;obtain⟨N,_i⟩:=À (aS t);rw[<-_i]at _T _F _w F hN;have _x:(N:Int)=bC t.vars t.vars.length:=by rw[_i];exact tx I
 have hr0:(replicate ((N:Nat):Int).toNat (0:Int)).length=N:=sm;have hr1:(replicate ((us.length:Nat):Int).toNat (0:Int)).length=o.length:=by simp[_h]
 have Y:=M.start w0;refine bB ao Tryz.func263 ?_
 repeat (first|refine dB ?_|(refine iy ?_;clear Y;intro p w Y)|(refine tG ?_;clear Y;intro w Y)|(refine fR ?_;clear Y;intro s w Y))
 obtain⟨p7,rfl⟩:=À p;obtain⟨L,rfl⟩:=À s;have P:M w0 w [X O 3 L (eC N (fun _=>bD) 0),ak p7 22 [L]]:=by
  rw[gY,<-JA N (fun _=>bD)]at Y;exact Y.swap
 clear Y;have Y:=P;clear P;refine cN [8,8,30,36] (G:=Nat) (fun k=>[(30,E k)]) (fun k w=>k<=N/\M w0 w [X O 3 L (eC N (fun _=>bD) k),ak p7 22 [L]]) (fun k=>N-k) 0 (fun _=>rfl) ⟨rfl,au⟩ ⟨br _,Y⟩ ?_;clear Y;rintro σ k w ⟨hk,Y⟩;have _y:=Du N (fun _=>bD) k;refine aA ?_ ?_<;>intro h1
 ·have l:k<N:=U
  refine eQ ?_;clear Y;intro w Y;rw[show (1125899906842624:Int)=(fun _:Nat=>bD) k from rfl,JB]at Y;exact⟨k+1,⟨rfl,au⟩,aV,⟨U,Y⟩,U⟩
 have _X:k=N:=U;subst _X;clear _y h1;rw[ş]at Y;refine ot ?_;clear Y;intro s w Y;obtain⟨lv,rfl⟩:=À s;have R':=Du o.length (fun i=>((un o (i:Int)).aw.length:Int)) 0;have P:M w0 w [X O 3 lv (eC o.length (fun i=>((un o (i:Int)).aw.length:Int)) 0),X O 3 L (replicate k bD),ak p7 22 [L]]:=by
  rw[gY,_h,<-JA o.length (fun i=>((un o (i:Int)).aw.length:Int))]at Y;exact Y
 clear Y;have Y:=P;clear P;refine cN [10,11,48,59] (G:=Nat) (fun j=>[(48,E j)]) (fun j w=>j<=o.length/\M w0 w [X O 3 lv (eC o.length (fun i=>((un o (i:Int)).aw.length:Int)) j),X O 3 L (replicate k bD),ak p7 22 [L]]) (fun j=>o.length-j) 0 (fun _=>rfl) ⟨rfl,au⟩ ⟨br _,Y⟩ ?_;clear Y R';rintro σ1 j w ⟨hj,Y⟩;have _y:=Du o.length (fun i=>((un o (i:Int)).aw.length:Int)) j;refine aA ?_ ?_<;>intro h1
 ·have j':j<o.length:=U
  have hu:=hU j j';have l:=š hu;have r:=hu.aw;refine eB ?_;clear Y;intro p w Y;rw[show (((un o (j:Int)).aw.length:Nat):Int)=(fun i:Nat=>((un o (i:Int)).aw.length:Int)) j from rfl,JB]at Y;exact⟨j+1,⟨rfl,au⟩,aV,⟨U,Y.tail⟩,U⟩
 have T':j=o.length:=U;subst T';clear _y h1;refine c9 ?_;clear Y;intro H' w Y;obtain⟨r,_m⟩:=À (eC o.length (fun i=>((un o (i:Int)).aw.length:Int)) o.length);have R':r.length=o.length:=by rw[_m,Du]
 have _p:∀ i:Nat,i<o.length->dg r i=(un o i).aw.length:=fun i hi=>by
  rw[_m];unfold dg;rw[gY,ON hi hi]
 have P:M w0 w (X aD 355 (nS) ([]:List cB)::ak H' 352 [(nS)]::X O 3 L (replicate k bD)::ak p7 22 [L]::[X O 3 lv r]):=by
  have g1:M w0 w [ak H' 352 [nS],X O 3 lv r,X O 3 L (replicate k bD),ak p7 22 [L]]:=by rw[_m];exact Y
  exact(g1.nil (T:=aD) (e:=355)).cq
 clear Y;have Y:=P;clear P;obtain⟨S,hS⟩:=À (mb t.vars z);refine cN [14,15,63,79] (G:=Nat) (fun j=>[(63,E j)]) (fun j w=>j<=z.length/\∃ V Q D,vD o S k D Q/\cR aD.dflt gz Q/\Q.length<=j/\(∀ v:Nat,v<j->dg D (bC t.vars v+z.getD v O.dflt)<=0)/\M w0 w (X aD 355 V Q::ak H' 352 [V]::X O 3 L D::ak p7 22 [L]::[X O 3 lv r])) (fun j=>z.length-j) 0 (fun _=>rfl) ⟨rfl,au⟩ ⟨br _,_,_,_,vD.cE o S k,fun i h0 h1=>absurd h1 (dx _),cz _,fun v hv=>absurd hv (dx _),Y⟩ ?_;clear Y;rintro σ2 j w ⟨hj,V,Q,D,u,hQ,_d,K,Y⟩;refine aA ?_ ?_<;>intro h1
 ·have j':j<z.length:=U
  have J':j<t.vars.length:=U;obtain⟨g0,g1,g2⟩:=CJ I.pos (fun i hi=>(I.nt i hi).2) _W J';have hz:=bI.2 j j';have _b:=I.nt j J';have P':=Ey I.pos J' hz.1 hz.2;have _c:=Ae t.vars t.vars.length;refine W ?_;refine wr (cs:=[.pointer (some p7),.pointer (some H')]) rfl rfl (Mn u.dl (by rw[g0,_x];exact P') hQ U Y) ?_;clear Y;rintro _ w ⟨rfl,_a,Q2,_n,_e,Y⟩;refine⟨_,rfl,?_⟩;rw[g0]at _e Y;have R:0<=bC t.vars j+z.getD j O.dflt/\bC t.vars j+z.getD j O.dflt<(k:Int):=by rw[_x];exact P'
  have _f:=(u.Ij R (du 0) (.start (by rw[hS];exact⟨j,J',rfl⟩))).nK _e;have _G:=Mk D Q (bC t.vars j+z.getD j O.dflt) 0;have _H:=_e.length_eq;refine W ?_;refine⟨j+1,⟨rfl,au⟩,aV,⟨U,_a,Q2,_,_f,_n,U,fun v hv=>?_,Y⟩,U⟩;by_cases e:v=j
  ·rw[e];exact Ml u.dl R
  have V':v<t.vars.length:=U;have h5:=bI.2 v U;have h6:=Ey I.pos V' h5.1 h5.2;exact rO (Ii u.dl R h6.1) (K v U)
 have T':j=z.length:=U;rw[T']at K _d;clear T' h1 hj;have _6:=SB o;have _q:∀ g,S g->0<=g/\g<(k:Int)/\dg D g<=0:=fun g P'=>by
  rw[hS]at P';obtain⟨v,hv,rfl⟩:=P';have h5:=bI.2 v U;have h6:=Ey I.pos hv h5.1 h5.2;rw[<-_x]at h6;exact⟨h6.1,h6.2,K v U⟩
 clear K;refine W ?_;refine cN [17,17,85,118] (G:=Nat) (fun j=>[(85,E j)]) (fun j w=>j<=(dS o).length/\∃ V Q D,vD o S k D Q/\cR aD.dflt gz Q/\Q.length<=z.length+j/\(∀ g,S g->0<=g/\g<(k:Int)/\dg D g<=0)/\(∀ i:Nat,i<o.length->(i:Int)∈(dS o).take j->dg D (un o i).aK<=(un o i).aO)/\M w0 w (X aD 355 V Q::ak H' 352 [V]::X O 3 L D::ak p7 22 [L]::[X O 3 lv r])) (fun j=>(dS o).length-j) 0 (fun _=>rfl) ⟨rfl,au⟩ ⟨br _,V,Q,D,u,hQ,_d,_q,fun i _ h=>by simp at h,Y⟩ ?_;clear Y u hQ _d _q V Q D;rintro σ3 j w ⟨hj,V,Q,D,u,hQ,_d,K,_b,Y⟩;refine aA ?_ ?_<;>intro h1
 ·have j':j<(dS o).length:=U
  obtain⟨i,V',R,_k⟩:=TB.1 (cD O.dflt j');have hu:=hU i R;have _I:=hu.op;have _l:=hu.aO;have _g:=hu.aK;have _c:((dS o).getD j O.dflt).toNat=i:=by rw[V'];rfl
  have _J:0<=(dS o).getD j O.dflt/\(dS o).getD j O.dflt<(us.length:Int):=by rw[V',_h];omega
  refine W ?_;refine rW rfl (RV (κ:=uj) (q:=(az kY us ((dS o).getD j O.dflt).toNat).op) rfl rfl) ?_;refine W ?_;refine fQ (pl [0,1,2,3,4,5,6,7,8,9,10,11,12,13,14,15,16,17] []) Y kr ?_;clear Y;intro w Y;refine W ?_;have J':=F.aK i R;have _K:=F.aO i R;refine wr (cs:=[.pointer (some p7),.pointer (some H')]) rfl rfl (Mn u.dl (by rw[_c,_g];exact J') hQ U Y) ?_;clear Y;rintro _ w ⟨rfl,_a,Q2,_n,_e,Y⟩;refine⟨_,rfl,?_⟩;rw[_c,_g,_l]at _e Y;have _o:jK o S (un o i).aK (un o i).aO:=by
   have h5:=jK.iI (U':=o) (S:=S) (v:=fun _=>0) (m:=0) R (du 0) (fun n hn=>by rw[_k]at hn;simp at hn) (fun n hn=>by rw[_k]at hn;simp at hn)
   rwa[Int.add_zero]at h5
  have _f:=(u.Ij J' _K.1 _o).nK _e;have _G:=Mk D Q (un o i).aK (un o i).aO;have _H:=_e.length_eq;refine W ?_;refine⟨j+1,⟨rfl,au⟩,aV,⟨U,_a,Q2,_,_f,_n,U,fun g P' => ?_,fun i' _r hm=>?_,Y⟩,U⟩
  ·obtain⟨b1,b2,b3⟩:=K g P'
   exact⟨b1,b2,rO (Ii u.dl J' b1) b3⟩
  rw[eD O.dflt j',V']at hm;rcases gK.1 hm with hm|hm
  ·exact rO (Ii u.dl J' (F.aK i' _r).1) (_b i' _r hm)
  have e:i'=i:=by have:=dp.1 hm;omega
  rw[e];exact Ml u.dl J'
 have T':j=(dS o).length:=U;rw[T']at _d _b;clear T' h1 hj;rw[lL]at _b;refine ot ?_;clear Y;intro s w Y;obtain⟨dv,rfl⟩:=À s;have _L:=u.start R' _p (fun i hi=>(F.aO i hi).1) (fun i hi hn=>_b i hi (TB.2 ⟨i,rfl,hi,hn⟩));have P:M w0 w (X aD 355 V Q::ak H' 352 [V]::X O 3 L D::ak p7 22 [L]::[X O 3 lv r,X ah 4 dv (tA [] k)]):=by
  rw[gY,<-Ŗ]at Y;exact Y.cq
 clear Y;have Y:=P;clear P;refine dN [19,20,22,22,124,204] (G:=J) (H:=List cB) (fun _ _=>[]) (fun dn Q w=>∃ V D r m f,RI o S k D r dn Q m f (fun _=>True)/\cR aD.dflt gz Q/\dn.Nodup/\Q.length<=z.length+o.length+dn.length*o.length/\(∀ g,S g->0<=g/\g<(k:Int)/\dg D g<=0)/\M w0 w (X aD 355 V Q::ak H' 352 [V]::X O 3 L D::ak p7 22 [L]::[X O 3 lv r,X ah 4 dv (tA dn k)])) (fun dn Q=>(k-dn.length)*(o.length+1)+Q.length) [] Q (fun _ _=>rfl) trivial ⟨V,D,r,0,0,_L,hQ,zC,by simp;omega,K,Y⟩ ?_;clear Y u _L hQ _d K _b _p R' _m V Q D r;rintro σ4 dn Q w ⟨V,D,r,m,f,u,hQ,_z,_d,K,Y⟩;have hdl:=Il _z fun g P'=>(u.set g P').1;have hmul:=xQ (show dn.length<=4096 by omega) _V;refine W ?_;refine aU rfl (Mm (bm (s:=V) Y)) ?_;rintro _ w' ⟨rfl,an⟩;refine aI ?_;clear an Y;intro Y;refine aA ?_ ?_<;>intro h1
 ·have _Y:0<Q.length:=U
  refine W ?_;refine aU rfl (Ş hQ _Y U Y) ?_;clear Y;rintro _ w ⟨x,_a,ys,rfl,_A,hp,_r,Y⟩;refine⟨_,rfl,?_⟩;have _Z:=hp.length_eq;rw[length_cons]at _Z;have _n:=u.nK hp.symm;obtain⟨⟨x0,x1⟩,x2,x3,x4⟩:=_n.nF x gA;have _7:=ŕ dn k;have hm0:=u.m0;have e3:bD=1125899906842624:=rfl;refine c9 ?_;clear Y;intro _M w Y;rw[ŗ x0 x1];by_cases hx:x.aQ∈dn
  ·have hd:decide (x.aQ∈dn)=true:=dY hx
   simp only[hd];refine W ?_;exact⟨dn,ys,au,aV,⟨_a,D,r,m,f,_n.skip hx,_A,_z,U,K,Y.tail⟩,U⟩
  have hd:decide (x.aQ∈dn)=false:=eA hx;simp only[hd]
  obtain⟨hT,_N,_,hT0,hT1⟩:=_n.take F hx (fun y hy=>by
   have h5:gz y x=false:=_r y (hp.mem_iff.2 (iR _ hy))
   exact rY.1 (of_decide_eq_false h5))
  have _s:(x.aQ::dn).Nodup:=vk.2 ⟨hx,_z⟩;have _P:=Il _s fun g P'=>(hT.set g P').1;rw[length_cons]at _P;have hnl:=TA o x.aQ;have _8:RS O w0 (cF ss x.aQ.toNat) (eh o x.aQ):=by
   have h5:=_w x.aQ.toNat U
   rwa[fZ x0]at h5
  refine iC ?_;clear Y;intro w Y;refine r5 ?_;clear Y;intro w Y;rw[Ř x0 x1]at Y;refine W ?_;have P:M w0 w (X aD 355 _a ys::ak H' 352 [_a]::X O 3 L D::ak p7 22 [L]::[X O 3 lv r,X ah 4 dv (tA (x.aQ::dn) k),ak _M 355 [E x.bN,E x.aQ]]):=Y.cq;clear Y;have Y:=P;clear P;have _Q:=hT.Ik (ok':=fun i=>x.aQ∉(un o i).aw\/(i:Int)∈(eh o x.aQ).take 0) (fun i=>by simp);refine cN [22,22,155,204] (G:=Nat) (fun j=>[(155,E j)]) (fun j w=>j<=(eh o x.aQ).length/\∃ V Q D r,RI o S k D r (x.aQ::dn) Q x.bN x.aQ (fun i=>x.aQ∉(un o i).aw\/(i:Int)∈(eh o x.aQ).take j)/\cR aD.dflt gz Q/\Q.length<=ys.length+j/\dg D x.aQ=x.bN/\(∀ g,S g->0<=g/\g<(k:Int)/\dg D g<=0)/\M w0 w (X aD 355 V Q::ak H' 352 [V]::X O 3 L D::ak p7 22 [L]::[X O 3 lv r,X ah 4 dv (tA (x.aQ::dn) k),ak _M 355 [E x.bN,E x.aQ]])) (fun j=>(eh o x.aQ).length-j) 0 (fun _=>rfl) ⟨rfl,au⟩ ⟨br _,_a,ys,D,r,_Q,_A,cz _,_N,K,Y⟩ ?_;clear Y u _n hT _Q hQ hp _r _N K x2 _A;rintro σ5 j w ⟨hj,V,Q5,D,r,u,hQ,_0,_B,K,Y⟩;have R':=u.ll;refine aA ?_ ?_<;>intro h2
  ·have j':j<(eh o x.aQ).length:=U
   obtain⟨i,V',R,_k⟩:=Tt.1 (cD O.dflt j');have hu:=hU i R;have _I:=hu.op;have _l:=hu.aO;have _g:=hu.aK;have _c:((eh o x.aQ).getD j O.dflt).toNat=i:=by rw[V'];rfl
   have _J:0<=(eh o x.aQ).getD j O.dflt/\(eh o x.aQ).getD j O.dflt<(us.length:Int):=by rw[V',_h];omega
   have hb1:(eh o x.aQ).getD j O.dflt<(r.length:Int):=by rw[R',<-_h];exact _J.2
   have _e:¬(x.aQ∉(un o i).aw\/(i:Int)∈(eh o x.aQ).take j):=by
    rintro (h5|h5)
    ·exact h5 _k
    obtain⟨i2,_t,_o⟩:=fF h5;rw[Dx]at _o;rw[jf]at _t;have h6:=v7.1 (Ŋ o x.aQ) i2 j U j' U;rw[al j']at V';exact h6 (by rw[_o,V'])
   obtain⟨hl1,_G⟩:=u.vQ i R _e;have _H:=Š dn (un o i).aw;have hl5:=Mi hx (F.nd i R) _k;have hl4:=hu.aw.bT;have hlv:r.getD ((eh o x.aQ).getD j O.dflt).toNat O.dflt=dg r i:=by rw[_c];rfl
   have hlb:1<=dg r i/\dg r i<=9223372036854775807:=U;have _t:(r.set ((eh o x.aQ).getD j O.dflt).toNat (r.getD ((eh o x.aQ).getD j O.dflt).toNat O.dflt-1))=r.set i (dg r i-1):=by rw[_c];rfl
   have _9:(r.set ((eh o x.aQ).getD j O.dflt).toNat (r.getD ((eh o x.aQ).getD j O.dflt).toNat O.dflt-1)).length=r.length:=sm;have _R:(r.set ((eh o x.aQ).getD j O.dflt).toNat (r.getD ((eh o x.aQ).getD j O.dflt).toNat O.dflt-1)).getD ((eh o x.aQ).getD j O.dflt).toNat O.dflt=dg r i-1:=by
    rw[_t,_c];have:i<r.length:=U;simp[List.getD,this]
   have _u:∀ i':Nat,(x.aQ∉(un o i').aw\/(i':Int)∈(eh o x.aQ).take j)\/i'=i↔x.aQ∉(un o i').aw\/(i':Int)∈(eh o x.aQ).take (j+1):=fun i'=>by
    rw[eD O.dflt j',V'];simp only[gK,dp];constructor
    ·rintro ((h|h)|h)
     ·exact .inl h
     ·exact .inr (.inl h)
     exact .inr (.inr (by rw[h]))
    rintro (h|h|h)
    ·exact .inl (.inl h)
    ·exact .inl (.inr h)
    exact .inr U
   refine iC ?_;clear Y;intro w Y;rw[_R];rw[_t]at Y;by_cases _o:dg r i-1=0
   ·have _C:decide (dg r i-1=0)=true:=dY _o
    try simp only[_C];refine Aj ?_
    refine W ?_;refine rW rfl (RV (κ:=uj) (q:=(az kY us ((eh o x.aQ).getD j O.dflt).toNat).op) rfl rfl) ?_;refine W ?_;have J':=F.aK i R;have _K:=F.aO i R;have _1:(az kY us ((eh o x.aQ).getD j O.dflt).toNat).aO=(un o i).aO:=by rw[_c];exact _l
    have _S:(az kY us ((eh o x.aQ).getD j O.dflt).toNat).aK=(un o i).aK:=by rw[_c];exact _g
    refine fQ (pl [0,1,2,3,4,5,6,7,8,9,10,11,12,13,14,15,16,17,18,19,20] []) Y kr ?_;clear Y;intro w Y;refine W ?_;refine wr (cs:=[.pointer (some p7),.pointer (some H')]) rfl rfl (Mn u.dl (by rw[_S];exact J') hQ U Y) ?_;clear Y;rintro _ w ⟨rfl,_2,Q6,_3,_D,Y⟩;refine⟨_,rfl,?_⟩;rw[_S,_1]at _D Y;have _4:=u.Fj R _e _o (F.aw i R);have _f:=(u.Ij (v:=x.bN+(un o i).aO) J' U _4).nK _D;have _5:=Ml (v:=x.bN+(un o i).aO) u.dl J';have _v:=Ŕ (v:=x.bN+(un o i).aO) u.dl J' x0 _B U;have hl7:=Mk D Q5 (un o i).aK (x.bN+(un o i).aO);have hl8:=_D.length_eq;have _E:=(_f.count R _e (.inr _5) _v).Ik _u;refine W ?_;refine⟨j+1,⟨rfl,au⟩,aV,⟨U,_2,Q6,_,_,_E,_3,U,_v,fun g P' => ?_,Y⟩,U⟩;obtain⟨b1,b2,b3⟩:=K g P';exact⟨b1,b2,rO (Ii u.dl J' b1) b3⟩
   have _C:decide (dg r i-1=0)=false:=eA _o
   try simp only[_C];refine Aj ?_
   refine W ?_;have _E:=(u.count R _e (.inl _o) _B).Ik _u;exact⟨j+1,⟨rfl,au⟩,aV,⟨U,V,Q5,D,_,_E,hQ,U,_B,K,Y⟩,U⟩
  have T':j=(eh o x.aQ).length:=U;rw[T']at u _0;rw[lL]at u
  have _f:=u.Ik (ok':=fun _=>True) (fun i=>⟨fun _=>trivial,fun _=>by
   by_cases h5:x.aQ∈(un o i).aw
   ·by_cases h6:i<o.length
    ·exact .inr (Tt.2 ⟨i,rfl,h6,h5⟩)
    have R:un o i=If:=by unfold un;simp[List.getD,Dt h6]
    rw[R]at h5;simp[If]at h5
   exact .inl h5⟩)
  refine W ?_;have R:=yp (k-(dn.length+1)) (o.length+1);rw[show (k-(dn.length+1)).succ=k-dn.length by omega]at R;refine⟨x.aQ::dn,Q5,au,aV,⟨V,D,r,x.bN,x.aQ,_f,hQ,_s,?_,K,Y.cq⟩,?_⟩
  ·rw[length_cons,yp];omega
  rw[length_cons];omega
 have R:Q=[]:=nY U;rw[R]at u;refine W ?_;refine bk (v:=L) rfl rfl ⟨L,D,rfl,⟨by rw[u.dl,_i],by rw[<-_i];exact u.dC,?_,?_⟩,Y.bb⟩
 ·rw[<-_i,<-_j,<-hS];exact u.qD
 rw[<-_i,<-_j,<-hS];exact u.ow F K
def oK.at {w0 w:World}{Γ:List HP}{B:Addr}{t:aa}(h:oK w0 B t)(Y:M w0 w Γ):oK w B t:=by
 obtain⟨a,c,y,D,F,l,us,ss,m,G,H,n,o,r,e,u,g,v,x⟩:=h.ex;exact⟨a,c,y,D,F,l,us,ss,m.at Y,G.at Y,H.at Y,n.at Y,o.at Y,r,fun i k=>⟨(e i k).op,(e i k).fc,(e i k).aO,(e i k).aK,(e i k).aw.at Y⟩,u.at Y,g,fun f n=>(v f n).at Y,x.at Y⟩
def ţ (H:oK w0 B t)(I:aC t)(K:RS O w0 sv z)(bI:ab t.vars z) :
  Calls aj 261 #[.pointer (some B),sv] w0 fun e w'=>e=.returned (E (cw t z))/\M w0 w' []:=by
 have n:=H;obtain⟨a,c,fv,uv,nv,N,us,ss,o,P,hc,Q,R,S,hU,T,L,V,j'⟩:=H.ex;have H':=sa I.aG;have u:=I.vars;have Y:=M.start w0;refine bB ao Tryz.func261 ?_;refine W ?_;refine aU rfl (yi (P.at Y) (K.at Y)) ?_;rintro _ w' ⟨⟨r,rfl,x⟩,an⟩;refine aI ?_;clear an Y;intro Y;have y:r=true:=x.2 bI;subst y;refine W ?_;refine aU rfl (Ţ (n.at Y) I (K.at Y) bI) ?_;rintro _ w' ⟨ov,out,rfl,g,an⟩;refine aL ?_;clear an Y;intro Y;have D:=g.len;refine W ?_;refine cN [6,6,8,8,28,40] (G:=Nat) (fun k=>[(28,E k),(6,E (cW t.vars (t.aG.take k) out))]) (fun k w=>k<=t.aG.length/\M w0 w [X O 3 ov out]) (fun k=>t.aG.length-k) 0 (fun _=>rfl) ⟨rfl,rfl,au⟩ ⟨br _,Y⟩ ?_;clear Y;rintro σ k w ⟨hk,Y⟩;refine aA ?_ ?_<;>intro h1
 ·have l:k<t.aG.length:=U
  have m:=(I.aG k l).1;refine c9 ?_;intro p w Y;refine aU rfl (KJ (f:=t.aG.getD k aq.dflt) (o.at Y) (Q.at Y) I.pos (fun i hi=>(I.nt i hi).2) u m) ?_;rintro _ w' ⟨rfl,an⟩;refine aI ?_;clear an Y;intro Y;have F:=vC I.pos m;rw[<-tx I,<-D]at F;have e:(if out.getD (dG t.vars (t.aG.getD k aq.dflt)).toNat O.dflt>cW t.vars (t.aG.take k) out then out.getD (dG t.vars (t.aG.getD k aq.dflt)).toNat O.dflt else cW t.vars (t.aG.take k) out)=cW t.vars (t.aG.take (k+1)) out:=by
   rw[eD aq.dflt l,Mj];unfold dg;split<;>omega
  refine W ?_;exact⟨k+1,⟨rfl,by rw[<-e];rfl,au⟩,aV,⟨U,Y.tail⟩,U⟩
 have l:k=t.aG.length:=U;rw[l,lL];refine W ?_;exact bk (v:=E (cW t.vars t.aG out)) rfl rfl ⟨by rw[yS bI g],Y.bb⟩
instance FD:pu aj 97 "Value" 262 := ⟨kr⟩
def Ť (f:oK w0 B t)(I:aC t)(g:RS O w0 sv z)(bI:ab t.vars z) :
  Calls aj 262 #[.agg #[.pointer (some B)],sv] w0 fun e w'=>e=.returned (E (cw t z))/\M w0 w' []:=by
 have Y:=M.start w0;refine bB ao Tryz.func262 ?_;refine eB ?_;intro p w Y;refine aU rfl (ţ (f.at Y) I (g.at Y) bI) ?_;rintro _ w' ⟨rfl,an⟩;refine aI ?_;clear an Y;intro Y;refine W ?_;exact bk (v:=E (cw t z)) rfl rfl ⟨rfl,Y.bb⟩
def ť (h:oK w B t)(I:aC t):gb w (.iface 97 (.agg #[.pointer (some B)])) t (cw t) :=
 ⟨_,_,_,_,rfl,FH _,inferInstance,fun _ _ _ _ f e bI=>Ť (h.at f) I e bI⟩
def TC (l:bz w0 a b c d vs t)(I:aC t) :
  Calls aj 27 #[.agg #[a,b,c,d]] w0 fun e w'=>∃ p,e=.returned (.tuple #[.pointer (some p),.nilIface])/\M w0 w' [bj fun w=>cy w p t (cw t)]:=by
 have Y:=M.start w0;refine bB ao Tryz.func27 ?_;refine c9 ?_;intro m w Y;refine aU rfl (Yw (l.at Y) I) ?_;rintro _ w' ⟨B,rfl,an⟩;refine aL ?_;clear an Y;intro Y;refine W ?_;refine aU rfl (yf (h:=.iface 97 (.agg #[.pointer (some B)])) (H:=cw t) (l.at Y) I ⟨_,_,rfl⟩) ?_;rintro _ w' ⟨f,rfl,an⟩;refine aL ?_;clear an Y;intro Y;refine W ?_;have g:M w0 w' [bj fun w=>gb w (.iface 97 (.agg #[.pointer (some B)])) t (cw t)->cy w f t (cw t),bj fun w=>oK w B t,ak m 26 [a,b,c,d]]:=Y;have k:=M.rd (Δ:=[bj fun w=>gb w (.iface 97 (.agg #[.pointer (some B)])) t (cw t)->cy w f t (cw t),bj fun w=>oK w B t]) (φ:=fun w=>cy w f t (cw t)) (fun _ w h=>(h.cU 0 rfl) (ť (h.cU 1 rfl) I)) g;exact cX (v:=.pointer (some f)) (v':=.nilIface) rfl rfl rfl ⟨f,rfl,k.bb⟩
def iN (b:Value)(t:aa)(ss os:List Value)(A:List J):Prop:=os.length=A.length/\∀ i,i<A.length->(cF os i=b/\A.getD i []=t.cE)\/∃ r,r<(aF t.vars).length/\cF os i=cF ss r/\A.getD i []=(aF t.vars).getD r []
def iN.ok {os:List Value}(h:iN b t ss os A)(I:aC t)(hi:i<A.length):ab t.vars (A.getD i []):=by
 rcases h.2 i hi with ⟨_,e⟩|⟨r,f,_,e⟩
 ·rw[e];exact I.cE
 rw[e];exact(Eg I.pos f).1
def iN.rs {os:List Value}(h:iN b t ss os A)(g:RS O w0 b t.cE)(Y:M w0 w (ai O 3 ss (aF t.vars)::Γ))(hi:i<A.length):RS O w (cF os i) (A.getD i []):=by
 rcases h.2 i hi with ⟨f,e⟩|⟨r,k,f,e⟩
 ·rw[e,f];exact g.at Y
 rw[e,f];exact Y.row k
def iN.one:iN b t ss [b] [t.cE]:=⟨rfl,fun i e=>.inl (by
 have:i=0:=by simpa using e
 subst this
 exact⟨by rw[l9];rfl,rfl⟩)⟩
def Ŧ {os:List Value}{v:Value}(h:i<os.length):cF (os++[v]) i=cF os i:=by
 rw[l9,l9,List.getD,List.getD,js h]
def ŧ {os:List Value}{v:Value}:cF (os++[v]) os.length=v:=by
 rw[l9,List.getD,kp (cz _)];simp
def iN.fe {os:List Value}(h:iN b t ss os A){r:Nat}(f:r<(aF t.vars).length):iN b t ss (os++[cF ss r]) (A++[(aF t.vars).getD r []]):=by
 refine⟨by simp[h.1],fun i g=>?_⟩;by_cases e:i<A.length
 ·have k:(A++[(aF t.vars).getD r []]).getD i []=A.getD i []:=by simp only[List.getD,js e]
  rw[Ŧ (by rw[h.1];exact e),k];exact h.2 i e
 have k:i=A.length:=by
  simp only[length_append,length_cons,length_nil]at g;omega
 subst k;refine .inr ⟨r,f,?_,?_⟩
 ·rw[<-h.1];exact ŧ
 rw[List.getD,kp (cz _)];simp
def Ĉ (o:bz w0 a b c d vs t)(r:fA t) :
  Calls aj 21 #[.agg #[a,b,c,d]] w0 fun e w'=>∃ f os ss A,e=.returned f/\iN b t ss os A/\A.length<=1024/\0<A.length/\M w0 w' [ai O 3 ss (aF t.vars),X ar 22 f os]:=by
 have I:=r.da;have k:=I.vars;have P:=r.many;have K:(aF t.vars).length=(cC t.vars).toNat:=wL I.pos;have L:=o.cE;have Y:=M.start w0;refine bB ao Tryz.func21 ?_
 repeat (first|refine dB ?_|(refine iy ?_;clear Y;intro p w Y)|(refine fR ?_;clear Y;intro s w Y))
 obtain⟨u,rfl⟩:=À p;obtain⟨so,rfl⟩:=À s;refine aU rfl (KX (o.vars.at Y) I.pos k U) ?_;rintro _ w' ⟨x,ss,rfl,an⟩;refine iL ?_;clear an Y;intro Y;replace Y:M w0 w' [ai O 3 ss (aF t.vars),X ar 22 x ss,X ar 22 so [b],ak u 26 [a,b,c,d]]:=Y;have y:ss.length=(aF t.vars).length:=Y.bP;refine W ?_;refine zF [3,3,5,5,12,28] (G:=Nat) (H:=Value) (I':=List Value) (M':=List J) (fun i f _ _=>[(5,E i),(3,f)]) (fun i f os A w=>i<=2048/\iN b t ss os A/\A.length<=min i 512+1/\0<A.length/\M w0 w [ai O 3 ss (aF t.vars),X ar 22 x ss,X ar 22 f os,ak u 26 [a,b,c,d]]) (fun i _ _ _=>4096-i) 0 so [b] [t.cE] (fun _ _ _ _=>rfl) ⟨rfl,rfl,au⟩ ⟨br _,.one,sm,sm,Y⟩ ?_;clear Y;rintro Q i f os A w ⟨R,l,N,m,Y⟩;have D:=l.1;refine aA ?_ ?_<;>intro h1
 ·have g:i<(aF t.vars).length:=U
  have F:=Y.row g;have hq:((ss.length:Int)).tdiv 10=((ss.length / 10:Nat):Int):=by rw[Gx U];omega
  repeat (first|refine dB ?_|(refine fR ?_;clear Y;intro s w Y))
  obtain⟨n,rfl⟩:=À s;exact⟨i+(1+ss.length / 10),n,os++[cF ss i],A++[(aF t.vars).getD i []],⟨by show Value.int .i64 ((i:Int)+(1+((ss.length:Int)).tdiv 10))=_;rw[hq];congr 1,rfl,au⟩,aV,⟨U,l.fe g,by rw[length_append];simp only[tr];omega,by rw[length_append];omega,Y.tail⟩,U⟩
 refine W ?_;exact bk (v:=f) rfl rfl ⟨f,os,ss,A,rfl,l,U,m,Y.bb⟩
def sQ (w:World)(t:aa)(o:Option Addr)(e:Value)(H:J->Int):Prop:=(e=.nilIface/\∃ p,o=some p/\cy w p t H)\/∃ T v,e=.iface T v
def Bz {p:Addr}{H:J->Int}(h:cy w p t H):sQ w t (some p) .nilIface H:=.inl ⟨rfl,p,rfl,h⟩
def Ũ {size:Int}(k:bz w0 a b c d vs t)(g:fA t)(l:la w0) :
  Calls aj 30 #[.agg #[a,b,c,d],E size] w0 fun e w'=>∃ o v H,e=.returned (.tuple #[.pointer o,v])/\mp t H/\M w0 w' [bj fun w=>sQ w t o v H]:=by
 refine(ũ k g l).mono fun e w' h=>?_;rcases h with ⟨_,rfl,f⟩|⟨p,n,r,rfl,m,f⟩
 ·refine⟨none,bO 10,bR t,rfl,Mo g.da,M.pN (fun w=>.inr ⟨_,_,dq dc⟩) f⟩
 exact⟨some p,.nilIface,_,rfl,Ū m,M.rd (Δ:=[_]) (fun _ w h=>Bz (h.cU 0 rfl)) f⟩
def ū {M':Int}(l:bz w0 a b c d vs t)(f:fA t)(m:lT w0) :
  Calls aj 32 #[.agg #[a,b,c,d],E M'] w0 fun e w'=>∃ o v H,e=.returned (.tuple #[.pointer o,v])/\mp t H/\M w0 w' [bj fun w=>sQ w t o v H]:=by
 refine(Zq l f.da m).mono fun e w' h=>?_;rcases h with ⟨g,rfl,k⟩|⟨g,p,rfl,k⟩
 ·refine⟨none,bO (eL t M'),bR t,rfl,Mo f.da,M.pN (fun w=>.inr ⟨_,_,dq g⟩) k⟩
 exact⟨some p,.nilIface,_,rfl,Ŭ f.da g,M.rd (Δ:=[_]) (fun _ w h=>Bz (h.cU 0 rfl)) k⟩
def Mp:∀ {vs:List Value},vs.all Value.oneCell'=true->vs.flatMap (·.cells.toList)=vs.flatMap ar.enc/\vs.all (fun v=>v.cells.size == 1)=true
 | [],_=>⟨rfl,rfl⟩
 | v::r,h=>by
  rw[ew,Bool.and_eq_true]at h;obtain⟨h1,f⟩:=Mp h.2;have e:=Bo h.1;have g:v.cells.size=1:=by have:=qq List.length e;simpa using this
  rw[kQ,kQ,e,h1,ew,f,g];exact⟨rfl,rfl⟩
def rC (w:World)(t:aa)(os:List (Option Addr))(es:List Value)(Hs:List (J->Int)):Prop:=∀ k,k<7->sQ w t (os.getD k none) (cF es k) (Hs.getD k fun _=>0)
def seven {P:Nat->Prop}(e:P 0)(h1:P 1)(h2:P 2)(f:P 3)(g:P 4)(l:P 5)(m:P 6):∀ k,k<7->P k
 | 0,_=>e
 | 1,_=>h1
 | 2,_=>h2
 | 3,_=>f
 | 4,_=>g
 | 5,_=>l
 | 6,_=>m
 | k+7,h=>absurd h U
def eo.fe {ps:List (Option Addr)}{f:List (J->Int)}{p:Addr}{H:J->Int}(h:eo w ps t f)(k:ps.length=f.length)(l:cy w p t H):eo w (ps++[some p]) t (f++[H]):=fun i m=>by
 rw[length_append,tr]at m;by_cases e:i<ps.length
 ·obtain⟨q,h1,g⟩:=h i e
  refine⟨q,?_,?_⟩
  ·simp only[List.getD,js e]at h1 ⊢;exact h1
  simp only[List.getD,js (show i<f.length by omega)]at g ⊢;exact g
 have:i=ps.length:=U;subst this;refine⟨p,by simp[List.getD],?_⟩;rw[k]
 simpa [List.getD] using l
def ć (F:bz w0 a b c d vs t)(S:fA t)(hT:lT w0)(hB:la w0) :
  Calls aj 20 #[.agg #[a,b,c,d]] w0 fun e w'=>∃ v ps f,e=.returned v/\ps.length=f.length/\4<=ps.length/\ps.length<=7/\(∀ G∈f,mp t G)/\M w0 w' [X ar 36 v (ps.map Value.pointer),bj (fun w=>eo w ps t f)]:=by
 have I:=S.da;have Y:=M.start w0;refine bB ao Tryz.func20 ?_;refine c9 ?_;intro R w Y;refine aU rfl (Ny (F.at Y) I) ?_;rintro _ w' ⟨p1,rfl,an⟩;refine aL ?_;clear an Y;intro Y;refine W ?_;refine aU rfl (TC (F.at Y) I) ?_;rintro _ w' ⟨p2,rfl,an⟩;refine aL ?_;clear an Y;intro Y;refine W ?_;refine aU rfl (Yv (F.at Y) I) ?_;rintro _ w' ⟨p3,rfl,an⟩;refine aL ?_;clear an Y;intro Y;refine W ?_;refine aU rfl (Yo (kind:=2) (fun h=>absurd h dc) (F.at Y) I) ?_;rintro _ w' V;rcases V with ⟨_h,_⟩|⟨p4,_,rfl,an⟩
 ·omega
 refine aL ?_;clear an Y;intro Y;refine W ?_;refine aU rfl (Ũ (size:=2) (F.at Y) S (hB.at Y)) ?_;rintro _ w' ⟨o5,K,H5,rfl,_b,an⟩;refine aL ?_;clear an Y;intro Y;refine W ?_;refine aU rfl (ŭ (size:=2) (F.at Y) S) ?_;rintro _ w' ⟨p6,Ds,Ps,rfl,j',an⟩;refine aL ?_;clear an Y;intro Y;have H':=Ů (ů S j');obtain⟨H6,_c⟩:=À (lq t (db t 2) Ds);rw[<-_c]at Y H';refine W ?_;refine aU rfl (ū (M':=20) (F.at Y) S (hT.at Y)) ?_;rintro _ w' ⟨o7,L,H7,rfl,_d,an⟩;refine aL ?_;clear an Y;intro Y;refine W ?_;have x5:K.oneCell'=true:=by
  rcases Y.cU 2 rfl with ⟨h,_⟩|⟨T,v,h⟩<;>rw[h]<;>rfl
 have x7:L.oneCell'=true:=by
  rcases Y.cU 0 rfl with ⟨h,_⟩|⟨T,v,h⟩<;>rw[h]<;>rfl
 have y:([.nilIface,.nilIface,.nilIface,.nilIface,K,.nilIface,L]:List Value).all Value.oneCell'=true:=by simp only[ew,eN,x5,x7];rfl
 refine z7 (T:=ar) [.nilIface,.nilIface,.nilIface,.nilIface,K,.nilIface,L] [.nilIface,.nilIface,.nilIface,.nilIface,K,.nilIface,L] rfl (Mp y).1 (Mp y).2 rfl rfl dc dc dc Y ?_;clear Y;intro m w Y;obtain⟨es,r⟩:=À ([Value.nilIface,.nilIface,.nilIface,.nilIface,K,.nilIface,L]);obtain⟨os,g⟩:=À ([some p1,some p2,some p3,some p4,o5,some p6,o7]);obtain⟨o,J'⟩:=À ([bR t,cw t,pR t,jQ t 2,H5,H6,H7]);have _e:∀ k,k<7->mp t (o.getD k fun _=>0):=by
  rw[J'];exact seven (Mo I) (Ű I) (ű I) (Ų I 2 (.inr (.inl rfl))) _b H' _d
 have _f:∀ k,k<4->cF es k=.nilIface:=fun k hk=>by
  rw[r,l9];have:k=0\/k=1\/k=2\/k=3:=U;rcases this with rfl|rfl|rfl|rfl<;>rfl
 have _i:es.length=7:=by rw[r];rfl
 have _j:os.length=7:=by rw[g];rfl
 have Y:M w0 w [X ar 46 m es,bj (fun w=>sQ w t o7 L H7),bj (fun w=>cy w p6 t H6),bj (fun w=>sQ w t o5 K H5),bj (fun w=>cy w p4 t (jQ t 2)),bj (fun w=>cy w p3 t (pR t)),bj (fun w=>cy w p2 t (cw t)),bj (fun w=>cy w p1 t (bR t)),ak R 26 [a,b,c,d]]:=by rw[r];exact Y
 have l:=M.rd (Δ:=[X ar 46 m es,bj (fun w=>sQ w t o7 L H7),bj (fun w=>cy w p6 t H6),bj (fun w=>sQ w t o5 K H5),bj (fun w=>cy w p4 t (jQ t 2)),bj (fun w=>cy w p3 t (pR t)),bj (fun w=>cy w p2 t (cw t)),bj (fun w=>cy w p1 t (bR t))]) (φ:=fun w=>eo w [] t []/\RS ar w m es/\rC w t os es o) (fun _ w h=>⟨fun i hi=>absurd hi (dx _),h.rs 0 rfl,by
  rw[r,g,J'];refine seven ?_ ?_ ?_ ?_ ?_ ?_ ?_
  all_goals (rw[l9])
  ·exact Bz (h.cU 7 rfl)
  ·exact Bz (h.cU 6 rfl)
  ·exact Bz (h.cU 5 rfl)
  ·exact Bz (h.cU 4 rfl)
  ·exact h.cU 3 rfl
  ·exact Bz (h.cU 2 rfl)
  exact h.cU 1 rfl⟩) Y
 clear Y;have n:=l.nil (T:=ar) (e:=36);have P':M w0 w [X ar 36 (nS) [],bj (fun w=>eo w [] t []/\RS ar w m es/\rC w t os es o),ak R 26 [a,b,c,d]]:=n.bb;have Y:M w0 w [X ar 36 (nS) ([].map Value.pointer),bj (fun w=>eo w [] t []/\RS ar w m es/\rC w t os es o),ak R 26 [a,b,c,d]]:=P';clear P' l n;have R':RS ar w m es:=(Y.cU 1 rfl).2.1;refine W ?_;clear R';refine zF [3,3,18,19,64,85] (G:=Nat) (H:=Value) (I':=List (Option Addr)) (M':=List (J->Int)) (fun k D _ _=>[(64,E k),(3,D)]) (fun k D ps f w=>k<=7/\ps.length=f.length/\ps.length<=k/\min k 4<=ps.length/\(∀ G∈f,mp t G)/\M w0 w [X ar 36 D (ps.map Value.pointer),bj (fun w=>eo w ps t f/\RS ar w m es/\rC w t os es o),ak R 26 [a,b,c,d]]) (fun k _ _ _=>7-k) 0 (nS) [] [] (fun _ _ _ _=>rfl) ⟨rfl,rfl,au⟩ ⟨br _,rfl,cz _,dc,fun G N=>absurd N fM,Y⟩ ?_;clear Y;rintro σ k D ps f w ⟨hk,u,_k,_l,P,Y⟩;have R':RS ar w m es:=(Y.cU 1 rfl).2.1;have _m:=Bx ps;refine aA ?_ ?_<;>intro h1
 ·have Q:k<7:=U
  have T':=(Y.cU 1 rfl).2.2 k Q;have V':=_f k;obtain⟨x,hx⟩:=À (cF es k);rw[<-hx]at T' V';refine W ?_;rw[<-hx];rcases T' with ⟨rfl,q,hq,_n⟩|⟨T,v,rfl⟩
  ·refine W ?_
   refine z7 (T:=ar) (os.map Value.pointer) (os.map Value.pointer) (by rw[g];rfl) (by rw[g];rfl) (by rw[g];rfl) (by rw[g];rfl) (by rw[g];rfl) dc dc dc Y ?_;clear Y;intro sv w Y;have _o:=Bx os;refine W ?_;rw[CW os U,hq]
   repeat (first|refine dB ?_|(refine fR ?_;clear Y;intro s w Y))
   obtain⟨_a,rfl⟩:=À s;obtain⟨H,hH⟩:=À (o.getD k fun _=>0);have _g:mp t H:=by rw[hH];exact _e k Q
   have l:M w0 w [bj (fun w=>eo w ps t f/\RS ar w m es/\rC w t os es o),X ar 36 _a ((ps++[some q]).map Value.pointer),ak R 26 [a,b,c,d]]:=by
    have e:(ps++[some q]).map Value.pointer=ps.map Value.pointer++[Value.pointer (some q)]:=by rw[pX];rfl
    rw[e];exact Y.bb
   have n:=M.rd (Δ:=[bj (fun w=>eo w ps t f/\RS ar w m es/\rC w t os es o)]) (φ:=fun w=>eo w (ps++[some q]) t (f++[H])/\RS ar w m es/\rC w t os es o) (fun _ w h=>by
    obtain⟨a1,a2,a3⟩:=h.cU 0 rfl;refine⟨a1.fe u ?_,a2,a3⟩;have h4:=a3 k Q;rw[<-hx,hq,<-hH]at h4;rcases h4 with ⟨_,q',h5,h6⟩|⟨T,v,h5⟩
    ·obtain rfl:=Bh h5
     exact h6
    cases h5) l
   clear Y l
   exact⟨k+1,_a,ps++[some q],f++[H],⟨rfl,rfl,au⟩,aV,⟨U,by rw[length_append,length_append,u];rfl,by rw[length_append,tr];omega,by rw[length_append,tr];omega,fun G N=>by
    rcases gK.1 N with N|N
    ·exact P G N
    rw[dp.1 N];exact _g,n.bb⟩,U⟩
  refine W ?_
  exact⟨k+1,D,ps,f,⟨rfl,rfl,au⟩,aV,⟨U,u,U,by
   by_cases h:k<4
   ·cases V' h
   omega,P,Y⟩,U⟩
 have Q:k=7:=U;refine W ?_;have l:M w0 w [bj (fun w=>eo w ps t f/\RS ar w m es/\rC w t os es o),X ar 36 D (ps.map Value.pointer),ak R 26 [a,b,c,d]]:=Y.bb;have n:=M.rd (Δ:=[bj (fun w=>eo w ps t f/\RS ar w m es/\rC w t os es o)]) (φ:=fun w=>eo w ps t f) (fun _ w h=>(h.cU 0 rfl).1) l;exact bk (v:=D) rfl rfl ⟨D,ps,f,rfl,u,U,U,P,n.bb⟩
def ų :
  Calls aj 41 #[] w0 fun e w'=>∃ a b c d vs,e=.returned (.agg #[a,b,c,d])/\M w0 w' [bj fun w=>bz w a b c d vs bQ]:=by
 have Y:=M.start w0;refine bB ao Tryz.func41 ?_
 repeat (first|refine dB ?_|(refine iy ?_;clear Y;intro p w Y)|(refine fR ?_;clear Y;intro s w Y))
 obtain⟨K,rfl⟩:=À p;obtain⟨f,rfl⟩:=À s;refine jG aq (x1:=⟨0,3⟩) rfl rfl rfl (fX rfl) (fb _) Y ?_;clear Y;intro g w Y;obtain⟨l,rfl⟩:=À s;have N:=(Y.rs 0 rfl).one;have P:=(Y.rs 1 rfl).one;have Q:=(Y.rs 2 rfl).one;refine yq (v1:=l) (v2:=f) (v3:=g) rfl rfl rfl rfl (by simp only[ew,eN,Q,P,N];rfl) ?_;refine F8 ?_;clear Y;intro L w Y;refine jH (n:=4) (p:=L) (vs:=[l,f,g,nS]) rfl rfl Y inferInstance rfl rfl (by simp only[ew,eN,Q,P,N];rfl) ?_;clear Y;intro w Y;refine W ?_;have o:=Y.nil (T:=cp) (e:=44);replace o:=M.pN (φ:=qk [] []) (fun w=>⟨rfl,fun i V=>absurd V (dx _)⟩) o;clear Y;refine nE [2,2,8,24] (G:=Nat) (H:=Value) (I':=List iX) (fun k _ _=>[(8,E k)]) (fun k m vs w=>k<=3/\vs.length=k/\M w0 w [X cp 44 m vs,bj (qk vs (bQ.Z.take k)),ak L 26 [l,f,g,m],X aq 63 g [⟨0,3⟩],X O 3 f [0],X O 3 l [4],ak K 26 [nS,nS,nS,nS]]) (fun k _ _=>3-k) 0 (nS) [] (fun _ _ _=>rfl) ⟨rfl,au⟩ ⟨br _,rfl,o.swap⟩ ?_;clear o;rintro σ k m vs w ⟨hk,R,Y⟩;refine aA ?_ ?_<;>intro h1
 ·refine W ?_
  refine jG aq (x1:=⟨0,k⟩) rfl rfl rfl (fX rfl) (fb _) Y ?_;clear Y;intro sp w Y;refine W ?_;refine jG aY (x1:=⟨nS,0,(k:Int)+1⟩) rfl rfl rfl (fX rfl) (fb _) Y ?_;clear Y;intro r w Y;have op:=(Y.rs 1 rfl).one;have S:=(Y.rs 0 rfl).one;refine yq (v1:=E 2) (v2:=sp) (v3:=r) rfl rfl rfl rfl (by simp only[ew,eN,op,S];rfl) ?_;refine jG cp (x1:=⟨ByteArray.empty,2,sp,r⟩) rfl rfl rfl (fX rfl) (fb _) Y ?_;clear Y;intro so w Y;refine rV (s:=m) (s2:=so) inferInstance rfl rfl (bm Y) rfl rfl (fun x hx v hv=>?_) (by simp only[length_cons,length_nil];omega) (by unfold bT;simp only[length_cons,length_nil];omega) Y ?_
  ·rw[dp.1 hx]at hv
   simp only[cp,dZ,fM,pL]at hv;rcases hv with rfl|rfl|rfl|rfl
   ·rfl
   ·rfl
   ·exact op
   exact S
  clear Y;intro u w Y;have o2:=(Y.rs 3 rfl).one;refine eQ ?_;intro w Y;have y:(bQ.Z.take (k+1))=bQ.Z.take k++[⟨ByteArray.empty,2,[⟨0,k⟩],[⟨[],0,(k:Int)+1⟩]⟩]:=by
   have:k=0\/k=1\/k=2:=U;rcases this with rfl|rfl|rfl<;>rfl
  have o:M w0 w ([X aY 61 r [⟨nS,0,(k:Int)+1⟩],X aq 63 sp [⟨0,k⟩],bj (qk vs (bQ.Z.take k)),X cp 44 u (vs++[⟨ByteArray.empty,2,sp,r⟩]),ak L 26 [l,f,g,u],X aq 63 g [⟨0,3⟩],X O 3 f [0],X O 3 l [4],ak K 26 [nS,nS,nS,nS]]):=by
   have D:M w0 w [X cp 44 so [⟨ByteArray.empty,2,sp,r⟩],X aY 61 r [⟨nS,0,(k:Int)+1⟩],X aq 63 sp [⟨0,k⟩],X cp 44 u (vs++[⟨ByteArray.empty,2,sp,r⟩]),bj (qk vs (bQ.Z.take k)),ak L 26 [l,f,g,u],X aq 63 g [⟨0,3⟩],X O 3 f [0],X O 3 l [4],ak K 26 [nS,nS,nS,nS]]:=Y;exact D.bb
  clear Y;have F:=M.Ba (χ:=qk (vs++[⟨ByteArray.empty,2,sp,r⟩]) (bQ.Z.take (k+1))) (fun w h1 h2=>by rw[y];exact h2.fe h1) (M.rd (φ:=fun w=>oC w ⟨ByteArray.empty,2,sp,r⟩ ⟨ByteArray.empty,2,[⟨0,k⟩],[⟨[],0,(k:Int)+1⟩]⟩) (Δ:=[X aY 61 r [⟨nS,0,(k:Int)+1⟩],X aq 63 sp [⟨0,k⟩]]) (fun _ _ Y=>MW Y) o);exact⟨k+1,u,vs++[⟨ByteArray.empty,2,sp,r⟩],⟨rfl,au⟩,aV,⟨U,by rw[length_append,R];rfl,F.bb⟩,U⟩
 have y:k=3:=U;subst y;refine W ?_;refine jH (n:=4) (p:=K) (vs:=[l,f,g,m]) rfl rfl Y inferInstance rfl rfl (by simp only[ew,eN,Q,P,N,(bm (s:=m) Y).one];rfl) ?_;clear Y;intro w Y;refine W ?_;have D:M w0 w [X cp 44 m vs,bj (qk vs bQ.Z),ak L 26 [l,f,g,m],X aq 63 g [⟨0,3⟩],X O 3 f [0],X O 3 l [4],ak K 26 [l,f,g,m]]:=Y;have F:=M.rd (Δ:=[X cp 44 m vs,bj (qk vs bQ.Z),ak L 26 [l,f,g,m],X aq 63 g [⟨0,3⟩],X O 3 f [0],X O 3 l [4]]) (φ:=fun w=>bz w l f g m vs bQ) (fun _ w h=>⟨h.rs 5 rfl,h.rs 4 rfl,h.rs 3 rfl,⟨h.rs 0 rfl,(h.cU 1 rfl).1,(h.cU 1 rfl).2⟩⟩) D;exact Cl (p:=K) (vs:=[l,f,g,m]) rfl rfl rfl (fun j v hv=>lM (i:=6) Y rfl hv) ⟨l,f,g,m,vs,rfl,F.bb⟩
def Im:bS bQ=[⟨0,0,2,1,[0]⟩,⟨1,0,2,2,[1]⟩,⟨2,0,2,3,[2]⟩]:=rfl
def TD:aS bQ=4:=rfl
def Ŵ:gV bQ [0] [0,2,4,6]:=by
 have k:mb bQ.vars [0] 0:=⟨0,dc,rfl⟩
 refine Sk dc (fun g o h1=>?_) (uM Io) (fun g I=>?_) (fun i l=>?_) (fun g o h1 r=>?_)
 ·rw[TD]at h1
  have f:g=0\/g=1\/g=2\/g=3:=U;rcases f with rfl|rfl|rfl|rfl<;>decide
 ·obtain⟨v,hv,rfl⟩:=I
  have:v=0:=by simp[bQ]at hv;exact hv
  subst this;decide
 ·rw[Im]at l ⊢
  have f:i=0\/i=1\/i=2:=by simp at l;omega
  rcases f with rfl|rfl|rfl<;>decide
 rw[TD]at h1;have d0:jK (bS bQ) (mb bQ.vars [0]) 0 0:=.start k;have d1:jK (bS bQ) (mb bQ.vars [0]) 1 2:=.iI (i:=0) (v:=fun _=>0) (m:=0) dc dc (fun n e=>by rw[Im]at e;rw[dp.1 e];exact d0) (fun _ _=>du _);have d2:jK (bS bQ) (mb bQ.vars [0]) 2 4:=.iI (i:=1) (v:=fun _=>2) (m:=2) dc dc (fun n e=>by rw[Im]at e;rw[dp.1 e];exact d1) (fun _ _=>du _);have d3:jK (bS bQ) (mb bQ.vars [0]) 3 6:=.iI (i:=2) (v:=fun _=>4) (m:=4) dc dc (fun n e=>by rw[Im]at e;rw[dp.1 e];exact d2) (fun _ _=>du _);have f:g=0\/g=1\/g=2\/g=3:=U;rcases f with rfl|rfl|rfl|rfl
 ·exact d0
 ·exact d1
 ·exact d2
 exact d3
def TE:jT bQ (bR bQ) [0]=2:=by unfold jT;rw[aP dc];decide
def ŵ:jT bQ (bR bQ) [3]=0:=by unfold jT;rw[aP dc];decide
def TF:jT bQ (cw bQ) [0]=6:=by unfold jT;rw[aP dc,yS dc Ŵ];decide
def Ŷ:jT bQ (fp bQ [bR bQ,cw bQ]) [0]=6:=by
 have h:fp bQ [bR bQ,cw bQ] [0]=max (max 0 (jT bQ (bR bQ) [0])) (jT bQ (cw bQ) [0]):=rfl;unfold jT;rw[aP dc,h,TE,TF];decide
def LM :
  Calls aj 19 #[] w0 fun e w'=>e=.returned (.bool true)/\M w0 w' []:=by
 have Y:=M.start w0;refine bB ao Tryz.func19 ?_;refine W ?_;refine aU rfl ų ?_;rintro _ w' ⟨a,b,c,d,vs,rfl,an⟩;refine aL ?_;clear an Y;intro Y;refine c9 ?_;intro p w Y;have k:=Y.cU 1 rfl;have L:=k.vars.one;have N:=k.cE.one;have P:=k.aG.one;have Q:=k.Z.rs.one;clear k;refine W ?_;obtain⟨D,rfl⟩:=À p;refine jH (n:=4) (p:=D) (vs:=[a,b,c,d]) rfl rfl Y inferInstance rfl rfl (by simp only[ew,eN,L,N,P,Q];rfl) ?_;clear Y;intro w Y;refine W ?_;refine aU rfl (Ny (Y.cU 1 rfl) Io) ?_;rintro _ w' ⟨f,rfl,an⟩;refine aL ?_;clear an Y;intro Y;refine W ?_;refine aU rfl (TC (Y.cU 2 rfl) Io) ?_;rintro _ w' ⟨g,rfl,an⟩;refine aL ?_;clear an Y;intro Y;refine W ?_;refine z7 (T:=ar) [.pointer (some f),.pointer (some g)] [.pointer (some f),.pointer (some g)] rfl rfl rfl rfl rfl dc dc dc Y ?_;clear Y;intro y w Y;have l:RS ar w y ([some f,some g].map Value.pointer):=bm (s:=y) Y;have G:cy w f bQ (bR bQ):=Y.cU 2 rfl;have H:cy w g bQ (cw bQ):=Y.cU 1 rfl;have m:nc [some f,some g] [bQ,bQ]=0:=by
  unfold nc;rw[aH sm,aH];rintro⟨i,o,x⟩;have u:i=0\/i=1:=by simp at o;omega
  rcases u with rfl|rfl<;>exact x rfl
 refine aU rfl (ŷ (ps:=[some f,some g]) (us:=[bQ,bQ]) (Hs:=[bR bQ,cw bQ]) l (show 2<=1048576 by decide) rfl (fun i o p K=>by
  have u:i=0\/i=1:=by simp at o;omega
  rcases u with rfl|rfl
  ·obtain rfl:f=p:=Bh K
   exact G
  obtain rfl:g=p:=Bh K
  exact H) Io) ?_
 rintro _ w' (⟨h1,_⟩|⟨_,F,rfl,an⟩)
 ·exact absurd m h1
 replace Y:=Y.mu an;clear an G H l;refine⟨_,rfl,?_⟩;have x:M w0 w' [bj (fun w=>cy w F bQ (fp bQ [bR bQ,cw bQ])/\cy w g bQ (cw bQ)/\cy w f bQ (bR bQ)),ak D 26 [a,b,c,d],bj fun w=>bz w a b c d vs bQ]:=by
  have g2:M w0 w' [bj (fun w=>eo w [some f,some g] bQ [bR bQ,cw bQ]->cy w F bQ (fp bQ [bR bQ,cw bQ])),X ar 36 y [.pointer (some f),.pointer (some g)],bj (fun w=>cy w g bQ (cw bQ)),bj (fun w=>cy w f bQ (bR bQ)),ak D 26 [a,b,c,d],bj fun w=>bz w a b c d vs bQ]:=Y
  exact M.rd (Δ:=[bj (fun w=>eo w [some f,some g] bQ [bR bQ,cw bQ]->cy w F bQ (fp bQ [bR bQ,cw bQ])),X ar 36 y [.pointer (some f),.pointer (some g)],bj (fun w=>cy w g bQ (cw bQ)),bj (fun w=>cy w f bQ (bR bQ))]) (fun _ w h=>⟨(h.cU 0 rfl) (fun i o=>by
   have u:i=0\/i=1:=by simp at o;omega
   rcases u with rfl|rfl
   ·exact⟨f,rfl,h.cU 3 rfl⟩
   exact⟨g,rfl,h.cU 2 rfl⟩),h.cU 2 rfl,h.cU 3 rfl⟩) g2
 clear Y;have Y:=x;clear x;refine ot ?_;intro s w Y;refine aU rfl (CO (Y.cU 1 rfl).2.2 (bm (s:=s) Y)) ?_;rintro _ w' ⟨rfl,an⟩;refine aI ?_;clear an Y;intro Y;rw[TE];refine ot ?_;intro s w Y;refine aU rfl (CO (Y.cU 2 rfl).2.1 (bm (s:=s) Y)) ?_;rintro _ w' ⟨rfl,an⟩;refine aI ?_;clear an Y;intro Y;rw[TF];refine ot ?_;intro s w Y;refine aU rfl (CO (Y.cU 3 rfl).1 (bm (s:=s) Y)) ?_;rintro _ w' ⟨rfl,an⟩;refine aI ?_;clear an Y;intro Y;rw[Ŷ];refine ot ?_;intro s w Y;refine aU rfl (CO (Y.cU 4 rfl).2.2 (bm (s:=s) Y)) ?_;rintro _ w' ⟨rfl,an⟩;refine aI ?_;clear an Y;intro Y;rw[ŵ];refine W ?_;refine aU rfl (Zm (Y.cU 4 rfl).1 (Y.cU 6 rfl)) ?_;rintro _ w' ⟨⟨r,rfl,R⟩,an⟩;refine aI ?_;clear an Y;intro Y;have u:r=true:=R.2 rfl;subst u;refine W ?_;exact bk (v:=.bool true) rfl rfl ⟨rfl,iY Y⟩
end
end Go.Proofs.YtmapkjoefdgjfaaGreatDoor
