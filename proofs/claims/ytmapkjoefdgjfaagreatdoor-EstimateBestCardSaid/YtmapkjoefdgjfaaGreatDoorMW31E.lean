/- Several texts. -/
import Derived.Test.YtmapkjoefdgjfaaGreatDoorMW30E
set_option linter.unusedSimpArgs false
set_option linter.unusedVariables false
set_option linter.defProp false
set_option maxRecDepth 8000
set_option maxHeartbeats 16000000
open List Nat
namespace Go.Proofs.YtmapkjoefdgjfaaGreatDoor
open Go.Sl
variable {w0 w:World}{t:aa}{h b a c d sv:Value}{xs:List cF}{Γ:List HP}{q B:Addr}{i j:Nat}{vs:List iW}{ss:List Value}{C:Int}{z:J}{A:List J}
section
open Go.Sl
attribute [local irreducible] vc opsW opsD opV opW PureV ReadV Thn Blk
def EL {ii:Int}(hx:RS aF w0 h xs)(f:ii=i)(g:C=j)(hi:i<xs.length)(k:j<xs.length) :
  Calls ai 340 #[h,E ii,E C] w0 fun e w'=>e=.returned (.bool (gy (I aF.dflt xs i) (I aF.dflt xs j)))/\Z w0 w' []:=by
 subst f g;have Y:=Z.start w0;refine bA an Tryz.func340 ?_;refine fm ?_;intro w Y;exact bf (v:=.bool (gy (I aF.dflt xs i) (I aF.dflt xs j))) rfl rfl ⟨rfl,Y⟩
def EM {ii:Int}(f:ii=i)(g:C=j)(hi:i<xs.length)(k:j<xs.length)(Y:Z w0 w (X aF 355 h xs::Γ)) :
  Calls ai 341 #[h,E ii,E C] w fun e w'=>e=.returned (.tuple #[])/\Z w0 w' (X aF 355 h (sw aF.dflt xs i j)::Γ):=by
 subst f g;refine bA an Tryz.func341 ?_;refine fm ?_;intro w Y;refine Cf (s:=h) (j:=i) (x':=I aF.dflt xs j) rfl rfl rfl rfl Y inferInstance U ?_;clear Y;intro w Y;have l:(xs.set i (I aF.dflt xs j)).length=xs.length:=sm;refine O ?_;refine Cf (s:=h) (j:=j) (x':=I aF.dflt xs i) rfl rfl rfl rfl Y inferInstance U ?_;clear Y;intro w Y;refine O ?_;exact tj rfl ⟨rfl,Y⟩
def ű {v:cF}(g:xs.length<1099511627776)(Y:Z w0 w (X aF 355 h xs::ak q 352 [h]::Γ)) :
  Calls ai 343 #[.pointer (some q),.iface 355 (.agg #[E v.bT,E v.aP])] w fun e w'=>e=.returned (.tuple #[])/\∃ f,Z w0 w' (X aF 355 f (xs++[v])::ak q 352 [f]::Γ):=by
 refine bA an Tryz.func343 ?_;refine db ?_;intro p w Y;refine fz (pl [0,1,2,3,4,5] (.cI 3::pl [6,7,8] [])) Y kr ?_;clear Y;intro w Y;refine O ?_;refine jK aF (x1:=v) rfl rfl rfl (fY rfl) (fe _) Y ?_;clear Y;intro s w Y;refine nX ?_;intro s w Y;exact tj rfl ⟨rfl,_,Y.tail.tail⟩
def Ų (g:0<xs.length)(k:xs.length<=1099511627776)(Y:Z w0 w (X aF 355 h xs::ak q 352 [h]::Γ)) :
  Calls ai 342 #[.pointer (some q)] w fun e w'=>e=.returned (.iface 355 ((.agg #[E (I aF.dflt xs (xs.length-1)).bT,E (I aF.dflt xs (xs.length-1)).aP])))/\∃ f,Z w0 w' (X aF 355 f (xs.take (xs.length-1))::ak q 352 [f]::Γ):=by
 refine bA an Tryz.func342 ?_;refine eE ?_;intro p w Y;have hk:(((xs.length:Nat):Int)-1).toNat=xs.length-1:=U;replace Y:=Z.sub (s:=h) (xs:=xs) Y inferInstance 0 (((xs.length:Nat):Int)-1).toNat U U;refine fm ?_;intro w Y;refine bf (v:=.iface 355 ((.agg #[E (I aF.dflt xs (((xs.length:Nat):Int)-1).toNat).bT,E (I aF.dflt xs (((xs.length:Nat):Int)-1).toNat).aP]))) rfl rfl ⟨by rw[hk],ssub h aF.sz 0 (((xs.length:Nat):Int)-1).toNat,?_⟩;have f:cut xs 0 (((xs.length:Nat):Int)-1).toNat=xs.take (xs.length-1):=by rw[hk];simp[cut]
 rw[f]at Y;exact Y.tail
def MB (hx:RS aF w0 h xs) :
  Calls ai 265 #[h] w0 fun e w'=>e=.returned (E xs.length)/\Z w0 w' []:=by
 have Y:=Z.start w0;refine bA an Tryz.func265 ?_;refine O ?_;exact bf (v:=E xs.length) rfl rfl ⟨rfl,Y⟩
def ų (n:C=j)(U':xP aF.dflt gy xs j)(r:xs.length<=1099511627776)(Y:Z w0 w (X aF 355 h xs::ak q 352 [h]::Γ)) :
  Calls ai 166 #[.iface 353 (.pointer (some q)),E C] w fun e w'=>e=.returned (.tuple #[])/\∃ ys,cV aF.dflt gy ys/\ys.Perm xs/\Z w0 w' (X aF 355 h ys::ak q 352 [h]::Γ):=by
 subst n;refine bA an Tryz.func166 ?_;refine O ?_;refine dQ [1,1,4,22] (G:=Nat) (H:=List cF) (fun j ys=>[(1,E j)]) (fun j ys w=>xP aF.dflt gy ys j/\ys.Perm xs/\Z w0 w (X aF 355 h ys::ak q 352 [h]::Γ)) (fun j ys=>j) j xs (fun _ _=>rfl) ⟨rfl,az⟩ ⟨U',.refl _,Y⟩ ?_;clear Y U';rintro v j ys w ⟨U',l,Y⟩;have g:=U'.I7;have o:=l.length_eq;refine O ?_;simp only[NQ];by_cases k:(j-1) / 2=j
 ·have f:decide ((((j-1) / 2:Nat):Int)=(j:Int))=true:=dy U
  simp only[f];refine O ?_;exact tj rfl ⟨rfl,ys,U'.done (.inl k),l,Y⟩
 have f:decide ((((j-1) / 2:Nat):Int)=(j:Int))=false:=dU U;simp only[f,zd];refine O ?_;refine nY (u:=h) rfl rfl (Y.ik inferInstance rfl) (EL (bk Y) rfl rfl g (show (j-1) / 2<ys.length by omega)) ?_;rintro _ w' ⟨rfl,hk⟩;replace Y:=Y.cy hk;clear hk
 cases m:gy (I aF.dflt ys j) (I aF.dflt ys ((j-1) / 2)) with
 | false =>
  refine⟨_,rfl,?_⟩;refine O ?_
  exact tj rfl ⟨rfl,ys,U'.done (.inr m),l,Y⟩
 | true =>
  refine⟨_,rfl,?_⟩;refine O ?_;refine nY (u:=h) rfl rfl (Y.ik inferInstance rfl) (EM rfl rfl (show (j-1) / 2<ys.length by omega) g Y) ?_;clear Y;rintro _ w ⟨rfl,Y⟩;refine⟨_,rfl,?_⟩;refine O ?_;exact⟨(j-1) / 2,_,⟨rfl,az⟩,aU,⟨U'.step k m,(xQ U g).trans l,Y⟩,U⟩
def Ŵ {n:Nat}{nn:Int}(P:nn=n)(D:v6 aF.dflt gy xs n 0)(T:xs.length<=1099511627776)(Y:Z w0 w (X aF 355 h xs::ak q 352 [h]::Γ)) :
  Calls ai 167 #[.iface 353 (.pointer (some q)),E 0,E nn] w fun e w'=>∃ b ys,e=.returned (.bool b)/\sT aF.dflt gy ys n/\ys.Perm xs/\(∀ k,n<=k->I aF.dflt ys k=I aF.dflt xs k)/\Z w0 w' (X aF 355 h ys::ak q 352 [h]::Γ):=by
 subst P;refine bA an Tryz.func167 ?_;refine O ?_;refine dQ [7,10,12,44] (G:=Nat) (H:=List cF) (fun i ys=>[(7,E i)]) (fun i ys w=>v6 aF.dflt gy ys n i/\i<=n/\ys.Perm xs/\(∀ k,n<=k->I aF.dflt ys k=I aF.dflt xs k)/\Z w0 w (X aF 355 h ys::ak q 352 [h]::Γ)) (fun i ys=>n-i) 0 xs (fun _ _=>rfl) ⟨rfl,az⟩ ⟨D,bu _,.refl _,fun _ _=>rfl,Y⟩ ?_;clear Y D;rintro V i ys w ⟨D,Q,r,f,Y⟩;have K:=D.le;have R:=r.length_eq;refine aB ?_ ?_<;>intro h1
 ·refine O ?_
  exact bf (v:=.bool _) rfl rfl ⟨_,ys,rfl,D.leaf U,r,f,Y⟩
 have x:2*i+1<n:=U;refine O ?_;by_cases S:2*i+2<n
 ·have l:decide (2*(i:Int)+1+1<(n:Int))=true:=dy U
  simp only[l,zf];refine O ?_;refine nY (u:=h) rfl rfl (Y.ik inferInstance rfl) (EL (i:=2*i+2) (j:=2*i+1) (bk Y) U U U U) ?_;rintro _ w' ⟨rfl,hk⟩;replace Y:=Y.cy hk;clear hk
  cases m:gy (I aF.dflt ys (2*i+2)) (I aF.dflt ys (2*i+1)) with
  | true =>
   refine⟨_,rfl,?_⟩;refine oC ?_;refine sh [9,9,34,34] (G:=Nat) (fun j=>[(9,E j)]) (fun j w=>(j=2*i+1\/j=2*i+2)/\j<n/\(∀ c,0<c->c<n->(c-1) / 2=i->eI gy (I aF.dflt ys j) (I aF.dflt ys c))/\Z w0 w (X aF 355 h ys::ak q 352 [h]::Γ)) (fun _=>rfl) ?_ ?_
   ·refine O ?_
    refine⟨2*i+2,⟨?_,az⟩,aU,.inr rfl,S,fun c L h1 N=>?_,Y⟩
    ·show Value.int .i64 (2*(i:Int)+1+1)=_
     congr 1
    have:c=2*i+1\/c=2*i+2:=U;rcases this with rfl|rfl
    ·exact FV m
    exact A6 _
   clear Y;rintro y j w ⟨F,o,g,Y⟩;refine O ?_;refine nY (u:=h) rfl rfl (Y.ik inferInstance rfl) (EL (bk Y) rfl rfl (show j<ys.length by omega) (show i<ys.length by omega)) ?_;rintro _ w' ⟨rfl,hk⟩;replace Y:=Y.cy hk;clear hk
   cases m:gy (I aF.dflt ys j) (I aF.dflt ys i) with
   | false =>
    refine⟨_,rfl,?_⟩;refine O ?_
    exact bf (v:=.bool _) rfl rfl ⟨_,ys,rfl,D.done g m,r,f,Y⟩
   | true =>
    refine⟨_,rfl,?_⟩;refine O ?_;refine nY (u:=h) rfl rfl (Y.ik inferInstance rfl) (EM rfl rfl (show i<ys.length by omega) (show j<ys.length by omega) Y) ?_;clear Y;rintro _ w ⟨rfl,Y⟩;refine⟨_,rfl,?_⟩;refine O ?_;refine⟨j,_,⟨rfl,az⟩,aU,⟨D.step F o g m,U,(xQ U U).trans r,fun k hk=>?_,Y⟩,U⟩;rw[rX U U,aC U,aC U]
    exact f k hk
  | false =>
   refine⟨_,rfl,?_⟩;refine oC ?_;refine sh [9,9,34,34] (G:=Nat) (fun j=>[(9,E j)]) (fun j w=>(j=2*i+1\/j=2*i+2)/\j<n/\(∀ c,0<c->c<n->(c-1) / 2=i->eI gy (I aF.dflt ys j) (I aF.dflt ys c))/\Z w0 w (X aF 355 h ys::ak q 352 [h]::Γ)) (fun _=>rfl) ?_ ?_
   ·refine O ?_
    refine⟨2*i+1,⟨?_,az⟩,aU,.inl rfl,x,fun c L h1 N=>?_,Y⟩
    ·show Value.int .i64 (2*(i:Int)+1)=_
     congr 1
    have:c=2*i+1\/c=2*i+2:=U;rcases this with rfl|rfl
    ·exact A6 _
    exact m
   clear Y;rintro y j w ⟨F,o,g,Y⟩;refine O ?_;refine nY (u:=h) rfl rfl (Y.ik inferInstance rfl) (EL (bk Y) rfl rfl (show j<ys.length by omega) (show i<ys.length by omega)) ?_;rintro _ w' ⟨rfl,hk⟩;replace Y:=Y.cy hk;clear hk
   cases m:gy (I aF.dflt ys j) (I aF.dflt ys i) with
   | false =>
    refine⟨_,rfl,?_⟩;refine O ?_
    exact bf (v:=.bool _) rfl rfl ⟨_,ys,rfl,D.done g m,r,f,Y⟩
   | true =>
    refine⟨_,rfl,?_⟩;refine O ?_;refine nY (u:=h) rfl rfl (Y.ik inferInstance rfl) (EM rfl rfl (show i<ys.length by omega) (show j<ys.length by omega) Y) ?_;clear Y;rintro _ w ⟨rfl,Y⟩;refine⟨_,rfl,?_⟩;refine O ?_;refine⟨j,_,⟨rfl,az⟩,aU,⟨D.step F o g m,U,(xQ U U).trans r,fun k hk=>?_,Y⟩,U⟩;rw[rX U U,aC U,aC U];exact f k hk
 have l:decide (2*(i:Int)+1+1<(n:Int))=false:=dU U;simp only[l];refine oC ?_;refine sh [9,9,34,34] (G:=Nat) (fun j=>[(9,E j)]) (fun j w=>(j=2*i+1\/j=2*i+2)/\j<n/\(∀ c,0<c->c<n->(c-1) / 2=i->eI gy (I aF.dflt ys j) (I aF.dflt ys c))/\Z w0 w (X aF 355 h ys::ak q 352 [h]::Γ)) (fun _=>rfl) ?_ ?_
 ·refine O ?_
  refine⟨2*i+1,⟨?_,az⟩,aU,.inl rfl,x,fun c L h1 N=>?_,Y⟩
  ·show Value.int .i64 (2*(i:Int)+1)=_
   congr 1
  have:c=2*i+1:=U;subst this;exact A6 _
 clear Y;rintro y j w ⟨F,o,g,Y⟩;refine O ?_;refine nY (u:=h) rfl rfl (Y.ik inferInstance rfl) (EL (bk Y) rfl rfl (show j<ys.length by omega) (show i<ys.length by omega)) ?_;rintro _ w' ⟨rfl,hk⟩;replace Y:=Y.cy hk;clear hk
 cases m:gy (I aF.dflt ys j) (I aF.dflt ys i) with
 | false =>
  refine⟨_,rfl,?_⟩;refine O ?_
  exact bf (v:=.bool _) rfl rfl ⟨_,ys,rfl,D.done g m,r,f,Y⟩
 | true =>
  refine⟨_,rfl,?_⟩;refine O ?_;refine nY (u:=h) rfl rfl (Y.ik inferInstance rfl) (EM rfl rfl (show i<ys.length by omega) (show j<ys.length by omega) Y) ?_;clear Y;rintro _ w ⟨rfl,Y⟩;refine⟨_,rfl,?_⟩;refine O ?_;refine⟨j,_,⟨rfl,az⟩,aU,⟨D.step F o g m,U,(xQ U U).trans r,fun k hk=>?_,Y⟩,U⟩;rw[rX U U,aC U,aC U];exact f k hk
def ŵ {v:cF}(H:cV aF.dflt gy xs)(l:xs.length<1099511627776)(Y:Z w0 w (X aF 355 h xs::ak q 352 [h]::Γ)) :
  Calls ai 142 #[.iface 353 (.pointer (some q)),.iface 355 (.agg #[E v.bT,E v.aP])] w fun e w'=>e=.returned (.tuple #[])/\∃ f ys,cV aF.dflt gy ys/\ys.Perm (v::xs)/\Z w0 w' (X aF 355 f ys::ak q 352 [f]::Γ):=by
 refine bA an Tryz.func142 ?_;refine O ?_;refine FW rfl rfl (ű (v:=v) U Y) ?_;clear Y;rintro _ w ⟨rfl,f,Y⟩;refine⟨_,rfl,?_⟩;refine O ?_;refine nY (u:=f) rfl rfl (Y.ik inferInstance rfl) (MB (bk Y)) ?_;rintro _ w' ⟨rfl,hk⟩;replace Y:=Y.cy hk;clear hk;refine⟨_,rfl,?_⟩;have g:(xs++[v]).length=xs.length+1:=sm;refine O ?_;refine aL rfl (ų (j:=xs.length) (by rw[g];omega) (NS H) U Y) ?_;clear Y;rintro _ w ⟨rfl,ys,h1,k,Y⟩;refine⟨_,rfl,?_⟩;refine O ?_;exact tj rfl ⟨rfl,f,ys,h1,k.trans (I8 (l₁:=xs) (l₂:=[v])),Y⟩
def Ŷ (H:cV aF.dflt gy xs)(g:0<xs.length)(r:xs.length<=1099511627776)(Y:Z w0 w (X aF 355 h xs::ak q 352 [h]::Γ)) :
  Calls ai 144 #[.iface 353 (.pointer (some q))] w fun e w'=>∃ v l ys,e=.returned (.iface 355 (.agg #[E v.bT,E v.aP]))/\cV aF.dflt gy ys/\xs.Perm (v::ys)/\(∀ x∈xs,eI gy v x)/\Z w0 w' (X aF 355 l ys::ak q 352 [l]::Γ):=by
 refine bA an Tryz.func144 ?_;refine O ?_;refine nY (u:=h) rfl rfl (Y.ik inferInstance rfl) (MB (bk Y)) ?_;rintro _ w' ⟨rfl,hk⟩;replace Y:=Y.cy hk;clear hk;refine⟨_,rfl,?_⟩;refine O ?_;refine nY (u:=h) rfl rfl (Y.ik inferInstance rfl) (EM (i:=0) (j:=xs.length-1) rfl U g U Y) ?_;clear Y;rintro _ w ⟨rfl,Y⟩;refine⟨_,rfl,?_⟩;refine O ?_;refine aL rfl (Ŵ (n:=xs.length-1) U (NT H g) (by rw[A7];exact r) Y) ?_;clear Y;rintro _ w ⟨b,ys,rfl,h1,y,D,Y⟩;have o:=y.trans (xQ g (show xs.length-1<xs.length by omega));have k:=o.length_eq;refine⟨_,rfl,?_⟩;refine O ?_;refine FW rfl rfl (Ų U U Y) ?_;clear Y;rintro _ w ⟨rfl,l,Y⟩;refine⟨_,rfl,?_⟩;refine O ?_;have f:I aF.dflt ys (xs.length-1)=I aF.dflt xs 0:=by
  rw[D _ (cD _),rX g U,aM rfl]
 obtain⟨F,m⟩:=NU g o h1 f;rw[k]at Y;refine bf (v:=.iface 355 ((.agg #[E (I aF.dflt ys (ys.length-1)).bT,E (I aF.dflt ys (ys.length-1)).aP]))) rfl rfl ⟨I aF.dflt xs 0,l,_,by rw[k,f],F,m,fun x hx=>NV H hx,Y⟩
end
section
open Go.Sl Go
attribute [local irreducible] vc opsW opsD opV opW PureV ReadV Thn Blk
def MC {m n:Addr}{l o:Value}{D:J}{Q:List cF}{N:Nat}{g v:Int}(H:D.length=N)(I:0<=g/\g<N)(y:cV aF.dflt gy Q)(r:Q.length<1099511627776)(Y:Z w0 w (X aF 355 o Q::ak n 352 [o]::X W 3 l D::ak m 22 [l]::Γ)) :
  Calls ai 264 #[E g,E v,.pointer (some m),.pointer (some n)] w fun e w'=>e=.returned (.tuple #[])/\∃ f k,cV aF.dflt gy k/\k.Perm (rF D Q g v) /\
   Z w0 w' (X aF 355 f k::ak n 352 [f]::X W 3 l (ng D g v)::ak m 22 [l]::Γ):=by
 refine bA an Tryz.func264 ?_;refine aB ?_ ?_<;>intro h1
 ·have u:ng D g v=D.set g.toNat v:=aM h1
  have x:rF D Q g v=⟨v,g⟩::Q:=aM h1;rw[u,x];refine fm ?_;intro w Y;refine aL rfl (ŵ (v:=⟨v,g⟩) y r Y) ?_;clear Y;rintro _ w ⟨rfl,f,k,F,G,Y⟩;refine⟨_,rfl,?_⟩;refine O ?_;exact tj rfl ⟨rfl,f,k,F,G,Y⟩
 have u:ng D g v=D:=aC (tu.2 h1);have x:rF D Q g v=Q:=aC (tu.2 h1);rw[u,x];refine O ?_;exact tj rfl ⟨rfl,o,Q,y,.refl _,Y⟩
def ŷ (n:Nat)(v:Int):eF n (fun _=>v) n=replicate n v:=by
 apply iB (by simp[eF]);intro i h1 e;simp only[eF,mK,qZ,getElem_replicate];rw[aM (by simpa [eF] using h1)]
def Ÿ (e l:J):tT e l<=l.length:=uC _ _
def Ź {v:yh}{u:Un}(h:L3 w v u):(kZ.enc v).all Value.oneCell'=true:=by
 have h1:=h.aw.one;show ((Value.int .i64 v.op).oneCell' && ((Value.int .i64 v.ff).oneCell' && ((Value.int .i64 v.aN).oneCell' && ((Value.int .i64 v.aK).oneCell' && (v.aw.oneCell' && true)))))=true;rw[h1];rfl
instance IW:vP ai 350 3 4:=⟨kr⟩
instance FP:qQ ai 4 (.bool false):=⟨kr⟩
def ź (hr:oN w0 B t)(I:aG t)(hs:RS W w0 sv z)(bL:ab t.vars z) :
  Calls ai 263 #[.pointer (some B),sv,.map none] w0 fun e w'=>∃ L out,e=.returned L/\gT t z out/\Z w0 w' [X W 3 L out]:=by
 obtain⟨a,c,fv,uv,nv,frv,us,ss,_T,ha,hc,hf,huv,_h,hU,hnv,_F,_w,_U⟩:=hr.ex;obtain⟨o,_j⟩:=À (bW t);rw[<-_j]at _h hU _w _U;have F:wZ o (aR t):=by rw[_j];exact uS I
 have _V:o.length<=262144:=by
  have h1:=By I (k:=t.M.length) (cD _);have h2:=I.M;rw[_j];unfold bW;omega
 have hN:=An I;have _W:=I.vars;have hsl:=bL.1;obtain⟨N,_i⟩:=À (aR t);rw[<-_i]at _T _F _w F hN;have _x:(N:Int)=bD t.vars t.vars.length:=by rw[_i];exact tA I
 have hr0:(replicate ((N:Nat):Int).toNat (0:Int)).length=N:=sm;have hr1:(replicate ((us.length:Nat):Int).toNat (0:Int)).length=o.length:=by simp[_h]
 have Y:=Z.start w0;refine bA an Tryz.func263 ?_
 repeat (first|refine du ?_|(refine gX ?_;clear Y;intro p w Y)|(refine tq ?_;clear Y;intro w Y)|(refine fA ?_;clear Y;intro s w Y))
 obtain⟨p7,rfl⟩:=À p;obtain⟨L,rfl⟩:=À s;have P:Z w0 w [X W 3 L (eF N (fun _=>bH) 0),ak p7 22 [L]]:=by
  rw[jo,<-JT N (fun _=>bH)]at Y;exact Y.swap
 clear Y;have Y:=P;clear P;refine cP [8,8,30,36] (G:=Nat) (fun k=>[(30,E k)]) (fun k w=>k<=N/\Z w0 w [X W 3 L (eF N (fun _=>bH) k),ak p7 22 [L]]) (fun k=>N-k) 0 (fun _=>rfl) ⟨rfl,az⟩ ⟨bu _,Y⟩ ?_;clear Y;rintro σ k w ⟨hk,Y⟩;have _y:=DD N (fun _=>bH) k;refine aB ?_ ?_<;>intro h1
 ·have l:k<N:=U
  refine fm ?_;clear Y;intro w Y;rw[show (1125899906842624:Int)=(fun _:Nat=>bH) k from rfl,JU]at Y;exact⟨k+1,⟨rfl,az⟩,aU,⟨U,Y⟩,U⟩
 have _X:k=N:=U;subst _X;clear _y h1;rw[ŷ]at Y;refine nX ?_;clear Y;intro s w Y;obtain⟨lv,rfl⟩:=À s;have R':=DD o.length (fun i=>((un o (i:Int)).aw.length:Int)) 0;have P:Z w0 w [X W 3 lv (eF o.length (fun i=>((un o (i:Int)).aw.length:Int)) 0),X W 3 L (replicate k bH),ak p7 22 [L]]:=by
  rw[jo,_h,<-JT o.length (fun i=>((un o (i:Int)).aw.length:Int))]at Y;exact Y
 clear Y;have Y:=P;clear P;refine cP [10,11,48,59] (G:=Nat) (fun j=>[(48,E j)]) (fun j w=>j<=o.length/\Z w0 w [X W 3 lv (eF o.length (fun i=>((un o (i:Int)).aw.length:Int)) j),X W 3 L (replicate k bH),ak p7 22 [L]]) (fun j=>o.length-j) 0 (fun _=>rfl) ⟨rfl,az⟩ ⟨bu _,Y⟩ ?_;clear Y R';rintro σ1 j w ⟨hj,Y⟩;have _y:=DD o.length (fun i=>((un o (i:Int)).aw.length:Int)) j;refine aB ?_ ?_<;>intro h1
 ·have j':j<o.length:=U
  have hu:=hU j j';have l:=Ź hu;have r:=hu.aw;refine eE ?_;clear Y;intro p w Y;rw[show (((un o (j:Int)).aw.length:Nat):Int)=(fun i:Nat=>((un o (i:Int)).aw.length:Int)) j from rfl,JU]at Y;exact⟨j+1,⟨rfl,az⟩,aU,⟨U,Y.tail⟩,U⟩
 have T':j=o.length:=U;subst T';clear _y h1;refine db ?_;clear Y;intro H' w Y;obtain⟨r,_m⟩:=À (eF o.length (fun i=>((un o (i:Int)).aw.length:Int)) o.length);have R':r.length=o.length:=by rw[_m,DD]
 have _p:∀ i:Nat,i<o.length->dg r i=(un o i).aw.length:=fun i hi=>by
  rw[_m];unfold dg;rw[jo,O1 hi hi]
 have P:Z w0 w (X aF 355 (nS) ([]:List cF)::ak H' 352 [(nS)]::X W 3 L (replicate k bH)::ak p7 22 [L]::[X W 3 lv r]):=by
  have g1:Z w0 w [ak H' 352 [nS],X W 3 lv r,X W 3 L (replicate k bH),ak p7 22 [L]]:=by rw[_m];exact Y
  exact(g1.nil (T:=aF) (e:=355)).cw
 clear Y;have Y:=P;clear P;obtain⟨S,hS⟩:=À (mb t.vars z);refine cP [14,15,63,79] (G:=Nat) (fun j=>[(63,E j)]) (fun j w=>j<=z.length/\∃ V Q D,vH o S k D Q/\cV aF.dflt gy Q/\Q.length<=j/\(∀ v:Nat,v<j->dg D (bD t.vars v+z.getD v W.dflt)<=0)/\Z w0 w (X aF 355 V Q::ak H' 352 [V]::X W 3 L D::ak p7 22 [L]::[X W 3 lv r])) (fun j=>z.length-j) 0 (fun _=>rfl) ⟨rfl,az⟩ ⟨bu _,_,_,_,vH.cC o S k,fun i h0 h1=>absurd h1 (dr _),cD _,fun v hv=>absurd hv (dr _),Y⟩ ?_;clear Y;rintro σ2 j w ⟨hj,V,Q,D,u,hQ,_d,K,Y⟩;refine aB ?_ ?_<;>intro h1
 ·have j':j<z.length:=U
  have J':j<t.vars.length:=U;obtain⟨g0,g1,g2⟩:=CU I.pos (fun i hi=>(I.mN i hi).2) _W J';have hz:=bL.2 j j';have _b:=I.mN j J';have P':=EJ I.pos J' hz.1 hz.2;have _c:=Am t.vars t.vars.length;refine O ?_;refine wr (cs:=[.pointer (some p7),.pointer (some H')]) rfl rfl (MC u.dl (by rw[g0,_x];exact P') hQ U Y) ?_;clear Y;rintro _ w ⟨rfl,_a,Q2,_n,_e,Y⟩;refine⟨_,rfl,?_⟩;rw[g0]at _e Y;have R:0<=bD t.vars j+z.getD j W.dflt/\bD t.vars j+z.getD j W.dflt<(k:Int):=by rw[_x];exact P'
  have _f:=(u.IC R (dt 0) (.start (by rw[hS];exact⟨j,J',rfl⟩))).nK _e;have _G:=Mz D Q (bD t.vars j+z.getD j W.dflt) 0;have _H:=_e.length_eq;refine O ?_;refine⟨j+1,⟨rfl,az⟩,aU,⟨U,_a,Q2,_,_f,_n,U,fun v hv=>?_,Y⟩,U⟩;by_cases e:v=j
  ·rw[e];exact MA u.dl R
  have V':v<t.vars.length:=U;have h5:=bL.2 v U;have h6:=EJ I.pos V' h5.1 h5.2;exact rU (IB u.dl R h6.1) (K v U)
 have T':j=z.length:=U;rw[T']at K _d;clear T' h1 hj;have _6:=SP o;have _q:∀ g,S g->0<=g/\g<(k:Int)/\dg D g<=0:=fun g P'=>by
  rw[hS]at P';obtain⟨v,hv,rfl⟩:=P';have h5:=bL.2 v U;have h6:=EJ I.pos hv h5.1 h5.2;rw[<-_x]at h6;exact⟨h6.1,h6.2,K v U⟩
 clear K;refine O ?_;refine cP [17,17,85,118] (G:=Nat) (fun j=>[(85,E j)]) (fun j w=>j<=(dW o).length/\∃ V Q D,vH o S k D Q/\cV aF.dflt gy Q/\Q.length<=z.length+j/\(∀ g,S g->0<=g/\g<(k:Int)/\dg D g<=0)/\(∀ i:Nat,i<o.length->(i:Int)∈(dW o).take j->dg D (un o i).aK<=(un o i).aN)/\Z w0 w (X aF 355 V Q::ak H' 352 [V]::X W 3 L D::ak p7 22 [L]::[X W 3 lv r])) (fun j=>(dW o).length-j) 0 (fun _=>rfl) ⟨rfl,az⟩ ⟨bu _,V,Q,D,u,hQ,_d,_q,fun i _ h=>by simp at h,Y⟩ ?_;clear Y u hQ _d _q V Q D;rintro σ3 j w ⟨hj,V,Q,D,u,hQ,_d,K,_b,Y⟩;refine aB ?_ ?_<;>intro h1
 ·have j':j<(dW o).length:=U
  obtain⟨i,V',R,_k⟩:=TP.1 (cH W.dflt j');have hu:=hU i R;have _I:=hu.op;have _l:=hu.aN;have _g:=hu.aK;have _c:((dW o).getD j W.dflt).toNat=i:=by rw[V'];rfl
  have _J:0<=(dW o).getD j W.dflt/\(dW o).getD j W.dflt<(us.length:Int):=by rw[V',_h];omega
  refine O ?_;refine qX rfl (R8 (κ:=ul) (q:=(au kZ us ((dW o).getD j W.dflt).toNat).op) rfl rfl) ?_;refine O ?_;refine fz (pl [0,1,2,3,4,5,6,7,8,9,10,11,12,13,14,15,16,17] []) Y kr ?_;clear Y;intro w Y;refine O ?_;have J':=F.aK i R;have _K:=F.aN i R;refine wr (cs:=[.pointer (some p7),.pointer (some H')]) rfl rfl (MC u.dl (by rw[_c,_g];exact J') hQ U Y) ?_;clear Y;rintro _ w ⟨rfl,_a,Q2,_n,_e,Y⟩;refine⟨_,rfl,?_⟩;rw[_c,_g,_l]at _e Y;have _o:jI o S (un o i).aK (un o i).aN:=by
   have h5:=jI.iJ (U':=o) (S:=S) (v:=fun _=>0) (m:=0) R (dt 0) (fun n hn=>by rw[_k]at hn;simp at hn) (fun n hn=>by rw[_k]at hn;simp at hn)
   rwa[Int.add_zero]at h5
  have _f:=(u.IC J' _K.1 _o).nK _e;have _G:=Mz D Q (un o i).aK (un o i).aN;have _H:=_e.length_eq;refine O ?_;refine⟨j+1,⟨rfl,az⟩,aU,⟨U,_a,Q2,_,_f,_n,U,fun g P' => ?_,fun i' _r hm=>?_,Y⟩,U⟩
  ·obtain⟨b1,b2,b3⟩:=K g P'
   exact⟨b1,b2,rU (IB u.dl J' b1) b3⟩
  rw[eC W.dflt j',V']at hm;rcases gG.1 hm with hm|hm
  ·exact rU (IB u.dl J' (F.aK i' _r).1) (_b i' _r hm)
  have e:i'=i:=by have:=dp.1 hm;omega
  rw[e];exact MA u.dl J'
 have T':j=(dW o).length:=U;rw[T']at _d _b;clear T' h1 hj;rw[kV]at _b;refine nX ?_;clear Y;intro s w Y;obtain⟨dv,rfl⟩:=À s;have _L:=u.start R' _p (fun i hi=>(F.aN i hi).1) (fun i hi hn=>_b i hi (TP.2 ⟨i,rfl,hi,hn⟩));have P:Z w0 w (X aF 355 V Q::ak H' 352 [V]::X W 3 L D::ak p7 22 [L]::[X W 3 lv r,X ah 4 dv (tB [] k)]):=by
  rw[jo,<-Ů]at Y;exact Y.cw
 clear Y;have Y:=P;clear P;refine dQ [19,20,22,22,124,204] (G:=J) (H:=List cF) (fun _ _=>[]) (fun dn Q w=>∃ V D r m f,RI o S k D r dn Q m f (fun _=>True)/\cV aF.dflt gy Q/\dn.Nodup/\Q.length<=z.length+o.length+dn.length*o.length/\(∀ g,S g->0<=g/\g<(k:Int)/\dg D g<=0)/\Z w0 w (X aF 355 V Q::ak H' 352 [V]::X W 3 L D::ak p7 22 [L]::[X W 3 lv r,X ah 4 dv (tB dn k)])) (fun dn Q=>(k-dn.length)*(o.length+1)+Q.length) [] Q (fun _ _=>rfl) trivial ⟨V,D,r,0,0,_L,hQ,zI,by simp;omega,K,Y⟩ ?_;clear Y u _L hQ _d K _b _p R' _m V Q D r;rintro σ4 dn Q w ⟨V,D,r,m,f,u,hQ,_z,_d,K,Y⟩;have hdl:=IE _z fun g P'=>(u.set g P').1;have hmul:=zX (show dn.length<=4096 by omega) _V;refine O ?_;refine aL rfl (MB (bk (s:=V) Y)) ?_;rintro _ w' ⟨rfl,al⟩;refine aA ?_;clear al Y;intro Y;refine aB ?_ ?_<;>intro h1
 ·have _Y:0<Q.length:=U
  refine O ?_;refine aL rfl (Ŷ hQ _Y U Y) ?_;clear Y;rintro _ w ⟨x,_a,ys,rfl,_A,hp,_r,Y⟩;refine⟨_,rfl,?_⟩;have _Z:=hp.length_eq;rw[length_cons]at _Z;have _n:=u.nK hp.symm;obtain⟨⟨x0,x1⟩,x2,x3,x4⟩:=_n.nE x gz;have _7:=ŭ dn k;have hm0:=u.m0;have e3:bH=1125899906842624:=rfl;refine db ?_;clear Y;intro _M w Y;rw[ů x0 x1];by_cases hx:x.aP∈dn
  ·have hd:decide (x.aP∈dn)=true:=dy hx
   simp only[hd];refine O ?_;exact⟨dn,ys,az,aU,⟨_a,D,r,m,f,_n.skip hx,_A,_z,U,K,Y.tail⟩,U⟩
  have hd:decide (x.aP∈dn)=false:=dU hx;simp only[hd]
  obtain⟨hT,_N,_,hT0,hT1⟩:=_n.take F hx (fun y hy=>by
   have h5:gy y x=false:=_r y (hp.mem_iff.2 (iR _ hy))
   exact tu.1 (of_decide_eq_false h5))
  have _s:(x.aP::dn).Nodup:=vr.2 ⟨hx,_z⟩;have _P:=IE _s fun g P'=>(hT.set g P').1;rw[length_cons]at _P;have hnl:=TO o x.aP;have _8:RS W w0 (cG ss x.aP.toNat) (ep o x.aP):=by
   have h5:=_w x.aP.toNat U
   rwa[gA x0]at h5
  refine iE ?_;clear Y;intro w Y;refine r8 ?_;clear Y;intro w Y;rw[Ű x0 x1]at Y;refine O ?_;have P:Z w0 w (X aF 355 _a ys::ak H' 352 [_a]::X W 3 L D::ak p7 22 [L]::[X W 3 lv r,X ah 4 dv (tB (x.aP::dn) k),ak _M 355 [E x.bT,E x.aP]]):=Y.cw;clear Y;have Y:=P;clear P;have _Q:=hT.ID (ok':=fun i=>x.aP∉(un o i).aw\/(i:Int)∈(ep o x.aP).take 0) (fun i=>by simp);refine cP [22,22,155,204] (G:=Nat) (fun j=>[(155,E j)]) (fun j w=>j<=(ep o x.aP).length/\∃ V Q D r,RI o S k D r (x.aP::dn) Q x.bT x.aP (fun i=>x.aP∉(un o i).aw\/(i:Int)∈(ep o x.aP).take j)/\cV aF.dflt gy Q/\Q.length<=ys.length+j/\dg D x.aP=x.bT/\(∀ g,S g->0<=g/\g<(k:Int)/\dg D g<=0)/\Z w0 w (X aF 355 V Q::ak H' 352 [V]::X W 3 L D::ak p7 22 [L]::[X W 3 lv r,X ah 4 dv (tB (x.aP::dn) k),ak _M 355 [E x.bT,E x.aP]])) (fun j=>(ep o x.aP).length-j) 0 (fun _=>rfl) ⟨rfl,az⟩ ⟨bu _,_a,ys,D,r,_Q,_A,cD _,_N,K,Y⟩ ?_;clear Y u _n hT _Q hQ hp _r _N K x2 _A;rintro σ5 j w ⟨hj,V,Q5,D,r,u,hQ,_0,_B,K,Y⟩;have R':=u.ll;refine aB ?_ ?_<;>intro h2
  ·have j':j<(ep o x.aP).length:=U
   obtain⟨i,V',R,_k⟩:=TH.1 (cH W.dflt j');have hu:=hU i R;have _I:=hu.op;have _l:=hu.aN;have _g:=hu.aK;have _c:((ep o x.aP).getD j W.dflt).toNat=i:=by rw[V'];rfl
   have _J:0<=(ep o x.aP).getD j W.dflt/\(ep o x.aP).getD j W.dflt<(us.length:Int):=by rw[V',_h];omega
   have hb1:(ep o x.aP).getD j W.dflt<(r.length:Int):=by rw[R',<-_h];exact _J.2
   have _e:¬(x.aP∉(un o i).aw\/(i:Int)∈(ep o x.aP).take j):=by
    rintro (h5|h5)
    ·exact h5 _k
    obtain⟨i2,_t,_o⟩:=fJ h5;rw[DG]at _o;rw[jd]at _t;have h6:=v8.1 (Ţ o x.aP) i2 j U j' U;rw[am j']at V';exact h6 (by rw[_o,V'])
   obtain⟨hl1,_G⟩:=u.vS i R _e;have _H:=Ÿ dn (un o i).aw;have hl5:=Mx hx (F.nd i R) _k;have hl4:=hu.aw.bU;have hlv:r.getD ((ep o x.aP).getD j W.dflt).toNat W.dflt=dg r i:=by rw[_c];rfl
   have hlb:1<=dg r i/\dg r i<=9223372036854775807:=U;have _t:(r.set ((ep o x.aP).getD j W.dflt).toNat (r.getD ((ep o x.aP).getD j W.dflt).toNat W.dflt-1))=r.set i (dg r i-1):=by rw[_c];rfl
   have _9:(r.set ((ep o x.aP).getD j W.dflt).toNat (r.getD ((ep o x.aP).getD j W.dflt).toNat W.dflt-1)).length=r.length:=sm;have _R:(r.set ((ep o x.aP).getD j W.dflt).toNat (r.getD ((ep o x.aP).getD j W.dflt).toNat W.dflt-1)).getD ((ep o x.aP).getD j W.dflt).toNat W.dflt=dg r i-1:=by
    rw[_t,_c];have:i<r.length:=U;simp[List.getD,this]
   have _u:∀ i':Nat,(x.aP∉(un o i').aw\/(i':Int)∈(ep o x.aP).take j)\/i'=i↔x.aP∉(un o i').aw\/(i':Int)∈(ep o x.aP).take (j+1):=fun i'=>by
    rw[eC W.dflt j',V'];simp only[gG,dp];constructor
    ·rintro ((h|h)|h)
     ·exact .inl h
     ·exact .inr (.inl h)
     exact .inr (.inr (by rw[h]))
    rintro (h|h|h)
    ·exact .inl (.inl h)
    ·exact .inl (.inr h)
    exact .inr U
   refine iE ?_;clear Y;intro w Y;rw[_R];rw[_t]at Y;by_cases _o:dg r i-1=0
   ·have _C:decide (dg r i-1=0)=true:=dy _o
    try simp only[_C];refine Ap ?_
    refine O ?_;refine qX rfl (R8 (κ:=ul) (q:=(au kZ us ((ep o x.aP).getD j W.dflt).toNat).op) rfl rfl) ?_;refine O ?_;have J':=F.aK i R;have _K:=F.aN i R;have _1:(au kZ us ((ep o x.aP).getD j W.dflt).toNat).aN=(un o i).aN:=by rw[_c];exact _l
    have _S:(au kZ us ((ep o x.aP).getD j W.dflt).toNat).aK=(un o i).aK:=by rw[_c];exact _g
    refine fz (pl [0,1,2,3,4,5,6,7,8,9,10,11,12,13,14,15,16,17,18,19,20] []) Y kr ?_;clear Y;intro w Y;refine O ?_;refine wr (cs:=[.pointer (some p7),.pointer (some H')]) rfl rfl (MC u.dl (by rw[_S];exact J') hQ U Y) ?_;clear Y;rintro _ w ⟨rfl,_2,Q6,_3,_D,Y⟩;refine⟨_,rfl,?_⟩;rw[_S,_1]at _D Y;have _4:=u.Fx R _e _o (F.aw i R);have _f:=(u.IC (v:=x.bT+(un o i).aN) J' U _4).nK _D;have _5:=MA (v:=x.bT+(un o i).aN) u.dl J';have _v:=Ŭ (v:=x.bT+(un o i).aN) u.dl J' x0 _B U;have hl7:=Mz D Q5 (un o i).aK (x.bT+(un o i).aN);have hl8:=_D.length_eq;have _E:=(_f.count R _e (.inr _5) _v).ID _u;refine O ?_;refine⟨j+1,⟨rfl,az⟩,aU,⟨U,_2,Q6,_,_,_E,_3,U,_v,fun g P' => ?_,Y⟩,U⟩;obtain⟨b1,b2,b3⟩:=K g P';exact⟨b1,b2,rU (IB u.dl J' b1) b3⟩
   have _C:decide (dg r i-1=0)=false:=dU _o
   try simp only[_C];refine Ap ?_
   refine O ?_;have _E:=(u.count R _e (.inl _o) _B).ID _u;exact⟨j+1,⟨rfl,az⟩,aU,⟨U,V,Q5,D,_,_E,hQ,U,_B,K,Y⟩,U⟩
  have T':j=(ep o x.aP).length:=U;rw[T']at u _0;rw[kV]at u
  have _f:=u.ID (ok':=fun _=>True) (fun i=>⟨fun _=>trivial,fun _=>by
   by_cases h5:x.aP∈(un o i).aw
   ·by_cases h6:i<o.length
    ·exact .inr (TH.2 ⟨i,rfl,h6,h5⟩)
    have R:un o i=Iy:=by unfold un;simp[List.getD,DC h6]
    rw[R]at h5;simp[Iy]at h5
   exact .inl h5⟩)
  refine O ?_;have R:=zO (k-(dn.length+1)) (o.length+1);rw[show (k-(dn.length+1)).succ=k-dn.length by omega]at R;refine⟨x.aP::dn,Q5,az,aU,⟨V,D,r,x.bT,x.aP,_f,hQ,_s,?_,K,Y.cw⟩,?_⟩
  ·rw[length_cons,zO];omega
  rw[length_cons];omega
 have R:Q=[]:=n0 U;rw[R]at u;refine O ?_;refine bf (v:=L) rfl rfl ⟨L,D,rfl,⟨by rw[u.dl,_i],by rw[<-_i];exact u.dK,?_,?_⟩,Y.aY⟩
 ·rw[<-_i,<-_j,<-hS];exact u.qF
 rw[<-_i,<-_j,<-hS];exact u.pQ F K
def oN.at {w0 w:World}{Γ:List HP}{B:Addr}{t:aa}(h:oN w0 B t)(Y:Z w0 w Γ):oN w B t:=by
 obtain⟨a,c,y,D,F,l,us,ss,m,G,H,n,o,r,e,u,g,v,x⟩:=h.ex;exact⟨a,c,y,D,F,l,us,ss,m.at Y,G.at Y,H.at Y,n.at Y,o.at Y,r,fun i k=>⟨(e i k).op,(e i k).ff,(e i k).aN,(e i k).aK,(e i k).aw.at Y⟩,u.at Y,g,fun f n=>(v f n).at Y,x.at Y⟩
def Ż (H:oN w0 B t)(I:aG t)(K:RS W w0 sv z)(bL:ab t.vars z) :
  Calls ai 261 #[.pointer (some B),sv] w0 fun e w'=>e=.returned (E (cA t z))/\Z w0 w' []:=by
 have n:=H;obtain⟨a,c,fv,uv,nv,N,us,ss,o,P,hc,Q,R,S,hU,T,L,V,j'⟩:=H.ex;have H':=sd I.aH;have u:=I.vars;have Y:=Z.start w0;refine bA an Tryz.func261 ?_;refine O ?_;refine aL rfl (xR (P.at Y) (K.at Y)) ?_;rintro _ w' ⟨⟨r,rfl,x⟩,al⟩;refine aA ?_;clear al Y;intro Y;have y:r=true:=x.2 bL;subst y;refine O ?_;refine aL rfl (ź (n.at Y) I (K.at Y) bL) ?_;rintro _ w' ⟨ov,out,rfl,g,al⟩;refine aI ?_;clear al Y;intro Y;have D:=g.len;refine O ?_;refine cP [6,6,8,8,28,40] (G:=Nat) (fun k=>[(28,E k),(6,E (cY t.vars (t.aH.take k) out))]) (fun k w=>k<=t.aH.length/\Z w0 w [X W 3 ov out]) (fun k=>t.aH.length-k) 0 (fun _=>rfl) ⟨rfl,rfl,az⟩ ⟨bu _,Y⟩ ?_;clear Y;rintro σ k w ⟨hk,Y⟩;refine aB ?_ ?_<;>intro h1
 ·have l:k<t.aH.length:=U
  have m:=(I.aH k l).1;refine db ?_;intro p w Y;refine aL rfl (K7 (f:=t.aH.getD k aq.dflt) (o.at Y) (Q.at Y) I.pos (fun i hi=>(I.mN i hi).2) u m) ?_;rintro _ w' ⟨rfl,al⟩;refine aA ?_;clear al Y;intro Y;have F:=vG I.pos m;rw[<-tA I,<-D]at F;have e:(if out.getD (dE t.vars (t.aH.getD k aq.dflt)).toNat W.dflt>cY t.vars (t.aH.take k) out then out.getD (dE t.vars (t.aH.getD k aq.dflt)).toNat W.dflt else cY t.vars (t.aH.take k) out)=cY t.vars (t.aH.take (k+1)) out:=by
   rw[eC aq.dflt l,My];unfold dg;split<;>omega
  refine O ?_;exact⟨k+1,⟨rfl,by rw[<-e];rfl,az⟩,aU,⟨U,Y.tail⟩,U⟩
 have l:k=t.aH.length:=U;rw[l,kV];refine O ?_;exact bf (v:=E (cY t.vars t.aH out)) rfl rfl ⟨by rw[yX bL g],Y.aY⟩
instance FQ:nB ai 97 "Value" 262 := ⟨kr⟩
def ż (f:oN w0 B t)(I:aG t)(g:RS W w0 sv z)(bL:ab t.vars z) :
  Calls ai 262 #[.agg #[.pointer (some B)],sv] w0 fun e w'=>e=.returned (E (cA t z))/\Z w0 w' []:=by
 have Y:=Z.start w0;refine bA an Tryz.func262 ?_;refine eE ?_;intro p w Y;refine aL rfl (Ż (f.at Y) I (g.at Y) bL) ?_;rintro _ w' ⟨rfl,al⟩;refine aA ?_;clear al Y;intro Y;refine O ?_;exact bf (v:=E (cA t z)) rfl rfl ⟨rfl,Y.aY⟩
def Ž (h:oN w B t)(I:aG t):fB w (.iface 97 (.agg #[.pointer (some B)])) t (cA t) :=
 ⟨_,_,_,_,rfl,Dl _,inferInstance,fun _ _ _ _ f e bL=>ż (h.at f) I e bL⟩
def TQ (l:bn w0 a b c d vs t)(I:aG t) :
  Calls ai 27 #[.agg #[a,b,c,d]] w0 fun e w'=>∃ p,e=.returned (.tuple #[.pointer (some p),.nilIface])/\Z w0 w' [aZ fun w=>bK w p t (cA t)]:=by
 have Y:=Z.start w0;refine bA an Tryz.func27 ?_;refine db ?_;intro m w Y;refine aL rfl (Y4 (l.at Y) I) ?_;rintro _ w' ⟨B,rfl,al⟩;refine aI ?_;clear al Y;intro Y;refine O ?_;refine aL rfl (xO (h:=.iface 97 (.agg #[.pointer (some B)])) (H:=cA t) (l.at Y) I ⟨_,_,rfl⟩) ?_;rintro _ w' ⟨f,rfl,al⟩;refine aI ?_;clear al Y;intro Y;refine O ?_;have g:Z w0 w' [aZ fun w=>fB w (.iface 97 (.agg #[.pointer (some B)])) t (cA t)->bK w f t (cA t),aZ fun w=>oN w B t,ak m 26 [a,b,c,d]]:=Y;have k:=Z.rd (Δ:=[aZ fun w=>fB w (.iface 97 (.agg #[.pointer (some B)])) t (cA t)->bK w f t (cA t),aZ fun w=>oN w B t]) (φ:=fun w=>bK w f t (cA t)) (fun _ w h=>(h.ct 0 rfl) (Ž (h.ct 1 rfl) I)) g;exact cR (v:=.pointer (some f)) (v':=.nilIface) rfl rfl rfl ⟨f,rfl,k.aY⟩
def iO (b:Value)(t:aa)(ss os:List Value)(A:List J):Prop:=os.length=A.length/\∀ i,i<A.length->(cG os i=b/\A.getD i []=t.cC)\/∃ r,r<(ba t.vars).length/\cG os i=cG ss r/\A.getD i []=(ba t.vars).getD r []
def iO.ok {os:List Value}(h:iO b t ss os A)(I:aG t)(hi:i<A.length):ab t.vars (A.getD i []):=by
 rcases h.2 i hi with ⟨_,e⟩|⟨r,f,_,e⟩
 ·rw[e];exact I.cC
 rw[e];exact(ņ I.pos f).1
def iO.rs {os:List Value}(h:iO b t ss os A)(g:RS W w0 b t.cC)(Y:Z w0 w (aj W 3 ss (ba t.vars)::Γ))(hi:i<A.length):RS W w (cG os i) (A.getD i []):=by
 rcases h.2 i hi with ⟨f,e⟩|⟨r,k,f,e⟩
 ·rw[e,f];exact g.at Y
 rw[e,f];exact Y.row k
def iO.one:iO b t ss [b] [t.cC]:=⟨rfl,fun i e=>.inl (by
 have:i=0:=by simpa using e
 subst this
 exact⟨by rw[l9];rfl,rfl⟩)⟩
def ž {os:List Value}{v:Value}(h:i<os.length):cG (os++[v]) i=cG os i:=by
 rw[l9,l9,List.getD,List.getD,iX h]
def ſ {os:List Value}{v:Value}:cG (os++[v]) os.length=v:=by
 rw[l9,List.getD,kn (cD _)];simp
def iO.eQ {os:List Value}(h:iO b t ss os A){r:Nat}(f:r<(ba t.vars).length):iO b t ss (os++[cG ss r]) (A++[(ba t.vars).getD r []]):=by
 refine⟨by simp[h.1],fun i g=>?_⟩;by_cases e:i<A.length
 ·have k:(A++[(ba t.vars).getD r []]).getD i []=A.getD i []:=by simp only[List.getD,iX e]
  rw[ž (by rw[h.1];exact e),k];exact h.2 i e
 have k:i=A.length:=by
  simp only[length_append,length_cons,length_nil]at g;omega
 subst k;refine .inr ⟨r,f,?_,?_⟩
 ·rw[<-h.1];exact ſ
 rw[List.getD,kn (cD _)];simp
def RR (o:bn w0 a b c d vs t)(r:fy t) :
  Calls ai 21 #[.agg #[a,b,c,d]] w0 fun e w'=>∃ f os ss A,e=.returned f/\iO b t ss os A/\A.length<=1024/\0<A.length/\Z w0 w' [aj W 3 ss (ba t.vars),X ap 22 f os]:=by
 have I:=r.cZ;have k:=I.vars;have P:=r.many;have K:(ba t.vars).length=(bY t.vars).toNat:=Aq I.pos;have L:=o.cC;have Y:=Z.start w0;refine bA an Tryz.func21 ?_
 repeat (first|refine du ?_|(refine gX ?_;clear Y;intro p w Y)|(refine fA ?_;clear Y;intro s w Y))
 obtain⟨u,rfl⟩:=À p;obtain⟨so,rfl⟩:=À s;refine aL rfl (Z0 (o.vars.at Y) I.pos k U) ?_;rintro _ w' ⟨x,ss,rfl,al⟩;refine iM ?_;clear al Y;intro Y;replace Y:Z w0 w' [aj W 3 ss (ba t.vars),X ap 22 x ss,X ap 22 so [b],ak u 26 [a,b,c,d]]:=Y;have y:ss.length=(ba t.vars).length:=Y.cb;refine O ?_;refine zK [3,3,5,5,12,28] (G:=Nat) (H:=Value) (I':=List Value) (M':=List J) (fun i f _ _=>[(5,E i),(3,f)]) (fun i f os A w=>i<=2048/\iO b t ss os A/\A.length<=min i 512+1/\0<A.length/\Z w0 w [aj W 3 ss (ba t.vars),X ap 22 x ss,X ap 22 f os,ak u 26 [a,b,c,d]]) (fun i _ _ _=>4096-i) 0 so [b] [t.cC] (fun _ _ _ _=>rfl) ⟨rfl,rfl,az⟩ ⟨bu _,.one,sm,sm,Y⟩ ?_;clear Y;rintro Q i f os A w ⟨R,l,N,m,Y⟩;have D:=l.1;refine aB ?_ ?_<;>intro h1
 ·have g:i<(ba t.vars).length:=U
  have F:=Y.row g;have hq:((ss.length:Int)).tdiv 10=((ss.length / 10:Nat):Int):=by rw[GK U];omega
  repeat (first|refine du ?_|(refine fA ?_;clear Y;intro s w Y))
  obtain⟨n,rfl⟩:=À s;exact⟨i+(1+ss.length / 10),n,os++[cG ss i],A++[(ba t.vars).getD i []],⟨by show Value.int .i64 ((i:Int)+(1+((ss.length:Int)).tdiv 10))=_;rw[hq];congr 1,rfl,az⟩,aU,⟨U,l.eQ g,by rw[length_append];simp only[r6];omega,by rw[length_append];omega,Y.tail⟩,U⟩
 refine O ?_;exact bf (v:=f) rfl rfl ⟨f,os,ss,A,rfl,l,U,m,Y.aY⟩
def sR (w:World)(t:aa)(o:Option Addr)(e:Value)(H:J->Int):Prop:=(e=.nilIface/\∃ p,o=some p/\bK w p t H)\/∃ T v,e=.iface T v
def BH {p:Addr}{H:J->Int}(h:bK w p t H):sR w t (some p) .nilIface H:=.inl ⟨rfl,p,rfl,h⟩
def Α {size:Int}(k:bn w0 a b c d vs t)(g:fy t)(l:lc w0) :
  Calls ai 30 #[.agg #[a,b,c,d],E size] w0 fun e w'=>∃ o v H,e=.returned (.tuple #[.pointer o,v])/\nh t H/\Z w0 w' [aZ fun w=>sR w t o v H]:=by
 refine(Β k g l).mono fun e w' h=>?_;rcases h with ⟨_,rfl,f⟩|⟨p,n,r,rfl,m,f⟩
 ·refine⟨none,bI 10,bP t,rfl,MD g.cZ,Z.pR (fun w=>.inr ⟨_,_,cS dc⟩) f⟩
 exact⟨some p,.nilIface,_,rfl,Ε m,Z.rd (Δ:=[_]) (fun _ w h=>BH (h.ct 0 rfl)) f⟩
def Ζ {M':Int}(l:bn w0 a b c d vs t)(f:fy t)(m:lR w0) :
  Calls ai 32 #[.agg #[a,b,c,d],E M'] w0 fun e w'=>∃ o v H,e=.returned (.tuple #[.pointer o,v])/\nh t H/\Z w0 w' [aZ fun w=>sR w t o v H]:=by
 refine(ZU l f.cZ m).mono fun e w' h=>?_;rcases h with ⟨g,rfl,k⟩|⟨g,p,rfl,k⟩
 ·refine⟨none,bI (eM t M'),bP t,rfl,MD f.cZ,Z.pR (fun w=>.inr ⟨_,_,cS g⟩) k⟩
 exact⟨some p,.nilIface,_,rfl,Η f.cZ g,Z.rd (Δ:=[_]) (fun _ w h=>BH (h.ct 0 rfl)) k⟩
def ME:∀ {vs:List Value},vs.all Value.oneCell'=true->vs.flatMap (·.cells.toList)=vs.flatMap ap.enc/\vs.all (fun v=>v.cells.size == 1)=true
 | [],_=>⟨rfl,rfl⟩
 | v::r,h=>by
  rw[eD,Bool.and_eq_true]at h;obtain⟨h1,f⟩:=ME h.2;have e:=Bx h.1;have g:v.cells.size=1:=by have:=qy List.length e;simpa using this
  rw[kO,kO,e,h1,eD,f,g];exact⟨rfl,rfl⟩
def rG (w:World)(t:aa)(os:List (Option Addr))(es:List Value)(Hs:List (J->Int)):Prop:=∀ k,k<7->sR w t (os.getD k none) (cG es k) (Hs.getD k fun _=>0)
def seven {P:Nat->Prop}(e:P 0)(h1:P 1)(h2:P 2)(f:P 3)(g:P 4)(l:P 5)(m:P 6):∀ k,k<7->P k
 | 0,_=>e
 | 1,_=>h1
 | 2,_=>h2
 | 3,_=>f
 | 4,_=>g
 | 5,_=>l
 | 6,_=>m
 | k+7,h=>absurd h U
def bG.eQ {ps:List (Option Addr)}{Gs:List (J->Int)}{p:Addr}{H:J->Int}(h:bG w ps t Gs)(g:ps.length=Gs.length)(k:bK w p t H):bG w (ps++[some p]) t (Gs++[H]):=fun i l=>by
 rw[length_append,r6]at l;by_cases e:i<ps.length
 ·obtain⟨q,h1,f⟩:=h i e
  refine⟨q,?_,?_⟩
  ·simp only[List.getD,iX e]at h1 ⊢;exact h1
  simp only[List.getD,iX (show i<Gs.length by omega)]at f ⊢;exact f
 have:i=ps.length:=U;subst this;refine⟨p,by simp[List.getD],?_⟩;rw[g]
 simpa [List.getD] using k
def Z3 (D:bn w0 a b c d vs t)(R:fy t)(hT:lR w0)(hB:lc w0) :
  Calls ai 20 #[.agg #[a,b,c,d]] w0 fun e w'=>∃ v ps Gs,e=.returned v/\ps.length=Gs.length/\4<=ps.length/\ps.length<=7/\(∀ G∈Gs,nh t G)/\Z w0 w' [X ap 36 v (ps.map Value.pointer),aZ (fun w=>bG w ps t Gs)]:=by
 have I:=R.cZ;have Y:=Z.start w0;refine bA an Tryz.func20 ?_;refine db ?_;intro Q w Y;refine aL rfl (FU (D.at Y) I) ?_;rintro _ w' ⟨p1,rfl,al⟩;refine aI ?_;clear al Y;intro Y;refine O ?_;refine aL rfl (TQ (D.at Y) I) ?_;rintro _ w' ⟨p2,rfl,al⟩;refine aI ?_;clear al Y;intro Y;refine O ?_;refine aL rfl (Y3 (D.at Y) I) ?_;rintro _ w' ⟨p3,rfl,al⟩;refine aI ?_;clear al Y;intro Y;refine O ?_;refine aL rfl (YW (kind:=2) (fun h=>absurd h dc) (D.at Y) I) ?_;rintro _ w' S;rcases S with ⟨_g,_⟩|⟨p4,_,rfl,al⟩
 ·omega
 refine aI ?_;clear al Y;intro Y;refine O ?_;refine aL rfl (Α (size:=2) (D.at Y) R (hB.at Y)) ?_;rintro _ w' ⟨o5,F,H5,rfl,_a,al⟩;refine aI ?_;clear al Y;intro Y;refine O ?_;refine aL rfl (Θ (size:=2) (D.at Y) R) ?_;rintro _ w' ⟨p6,Ds,Ps,rfl,V,al⟩;refine aI ?_;clear al Y;intro Y;have j':=Ι (Κ R V);obtain⟨H6,_b⟩:=À (lu t (df t 2) Ds);rw[<-_b]at Y j';refine O ?_;refine aL rfl (Ζ (M':=20) (D.at Y) R (hT.at Y)) ?_;rintro _ w' ⟨o7,K,H7,rfl,_c,al⟩;refine aI ?_;clear al Y;intro Y;refine O ?_;have x5:F.oneCell'=true:=by
  rcases Y.ct 2 rfl with ⟨h,_⟩|⟨T,v,h⟩<;>rw[h]<;>rfl
 have x7:K.oneCell'=true:=by
  rcases Y.ct 0 rfl with ⟨h,_⟩|⟨T,v,h⟩<;>rw[h]<;>rfl
 have u:([.nilIface,.nilIface,.nilIface,.nilIface,F,.nilIface,K]:List Value).all Value.oneCell'=true:=by simp only[eD,eN,x5,x7];rfl
 refine ya (T:=ap) [.nilIface,.nilIface,.nilIface,.nilIface,F,.nilIface,K] [.nilIface,.nilIface,.nilIface,.nilIface,F,.nilIface,K] rfl (ME u).1 (ME u).2 rfl rfl dc dc dc Y ?_;clear Y;intro l w Y;obtain⟨es,o⟩:=À ([Value.nilIface,.nilIface,.nilIface,.nilIface,F,.nilIface,K]);obtain⟨os,f⟩:=À ([some p1,some p2,some p3,some p4,o5,some p6,o7]);obtain⟨n,H'⟩:=À ([bP t,cA t,pW t,jP t 2,H5,H6,H7]);have _d:∀ k,k<7->nh t (n.getD k fun _=>0):=by
  rw[H'];exact seven (MD I) (Λ I) (Μ I) (Ν I 2 (.inr (.inl rfl))) _a j' _c
 have _e:∀ k,k<4->cG es k=.nilIface:=fun k hk=>by
  rw[o,l9];have:k=0\/k=1\/k=2\/k=3:=U;rcases this with rfl|rfl|rfl|rfl<;>rfl
 have _h:es.length=7:=by rw[o];rfl
 have _i:os.length=7:=by rw[f];rfl
 have Y:Z w0 w [X ap 46 l es,aZ (fun w=>sR w t o7 K H7),aZ (fun w=>bK w p6 t H6),aZ (fun w=>sR w t o5 F H5),aZ (fun w=>bK w p4 t (jP t 2)),aZ (fun w=>bK w p3 t (pW t)),aZ (fun w=>bK w p2 t (cA t)),aZ (fun w=>bK w p1 t (bP t)),ak Q 26 [a,b,c,d]]:=by rw[o];exact Y
 have g:=Z.rd (Δ:=[X ap 46 l es,aZ (fun w=>sR w t o7 K H7),aZ (fun w=>bK w p6 t H6),aZ (fun w=>sR w t o5 F H5),aZ (fun w=>bK w p4 t (jP t 2)),aZ (fun w=>bK w p3 t (pW t)),aZ (fun w=>bK w p2 t (cA t)),aZ (fun w=>bK w p1 t (bP t))]) (φ:=fun w=>bG w [] t []/\RS ap w l es/\rG w t os es n) (fun _ w h=>⟨fun i hi=>absurd hi (dr _),h.rs 0 rfl,by
  rw[o,f,H'];refine seven ?_ ?_ ?_ ?_ ?_ ?_ ?_
  all_goals (rw[l9])
  ·exact BH (h.ct 7 rfl)
  ·exact BH (h.ct 6 rfl)
  ·exact BH (h.ct 5 rfl)
  ·exact BH (h.ct 4 rfl)
  ·exact h.ct 3 rfl
  ·exact BH (h.ct 2 rfl)
  exact h.ct 1 rfl⟩) Y
 clear Y;have m:=g.nil (T:=ap) (e:=36);have J':Z w0 w [X ap 36 (nS) [],aZ (fun w=>bG w [] t []/\RS ap w l es/\rG w t os es n),ak Q 26 [a,b,c,d]]:=m.aY;have Y:Z w0 w [X ap 36 (nS) ([].map Value.pointer),aZ (fun w=>bG w [] t []/\RS ap w l es/\rG w t os es n),ak Q 26 [a,b,c,d]]:=J';clear J' g m;have P':RS ap w l es:=(Y.ct 1 rfl).2.1;refine O ?_;clear P';refine zK [3,3,18,19,64,85] (G:=Nat) (H:=Value) (I':=List (Option Addr)) (M':=List (J->Int)) (fun k y _ _=>[(64,E k),(3,y)]) (fun k y ps Gs w=>k<=7/\ps.length=Gs.length/\ps.length<=k/\min k 4<=ps.length/\(∀ G∈Gs,nh t G)/\Z w0 w [X ap 36 y (ps.map Value.pointer),aZ (fun w=>bG w ps t Gs/\RS ap w l es/\rG w t os es n),ak Q 26 [a,b,c,d]]) (fun k _ _ _=>7-k) 0 (nS) [] [] (fun _ _ _ _=>rfl) ⟨rfl,rfl,az⟩ ⟨bu _,rfl,cD _,dc,fun G L=>absurd L fI,Y⟩ ?_;clear Y;rintro σ k y ps Gs w ⟨hk,r,_j,_k,N,Y⟩;have P':RS ap w l es:=(Y.ct 1 rfl).2.1;have _l:=yQ ps;refine aB ?_ ?_<;>intro h1
 ·have P:k<7:=U
  have R':=(Y.ct 1 rfl).2.2 k P;have T':=_e k;obtain⟨x,hx⟩:=À (cG es k);rw[<-hx]at R' T';refine O ?_;rw[<-hx];rcases R' with ⟨rfl,q,hq,_m⟩|⟨T,v,rfl⟩
  ·refine O ?_
   refine ya (T:=ap) (os.map Value.pointer) (os.map Value.pointer) (by rw[f];rfl) (by rw[f];rfl) (by rw[f];rfl) (by rw[f];rfl) (by rw[f];rfl) dc dc dc Y ?_;clear Y;intro sv w Y;have _n:=yQ os;refine O ?_;rw[yR os U,hq]
   repeat (first|refine du ?_|(refine fA ?_;clear Y;intro s w Y))
   obtain⟨V',rfl⟩:=À s;obtain⟨H,hH⟩:=À (n.getD k fun _=>0);have _f:nh t H:=by rw[hH];exact _d k P
   have g:Z w0 w [aZ (fun w=>bG w ps t Gs/\RS ap w l es/\rG w t os es n),X ap 36 V' ((ps++[some q]).map Value.pointer),ak Q 26 [a,b,c,d]]:=by
    have e:(ps++[some q]).map Value.pointer=ps.map Value.pointer++[Value.pointer (some q)]:=by rw[oh];rfl
    rw[e];exact Y.aY
   have m:=Z.rd (Δ:=[aZ (fun w=>bG w ps t Gs/\RS ap w l es/\rG w t os es n)]) (φ:=fun w=>bG w (ps++[some q]) t (Gs++[H])/\RS ap w l es/\rG w t os es n) (fun _ w h=>by
    obtain⟨a1,a2,a3⟩:=h.ct 0 rfl;refine⟨a1.eQ r ?_,a2,a3⟩;have h4:=a3 k P;rw[<-hx,hq,<-hH]at h4;rcases h4 with ⟨_,q',h5,h6⟩|⟨T,v,h5⟩
    ·obtain rfl:=wx h5
     exact h6
    cases h5) g
   clear Y g
   exact⟨k+1,V',ps++[some q],Gs++[H],⟨rfl,rfl,az⟩,aU,⟨U,by rw[length_append,length_append,r];rfl,by rw[length_append,r6];omega,by rw[length_append,r6];omega,fun G L=>by
    rcases gG.1 L with L|L
    ·exact N G L
    rw[dp.1 L];exact _f,m.aY⟩,U⟩
  refine O ?_
  exact⟨k+1,y,ps,Gs,⟨rfl,rfl,az⟩,aU,⟨U,r,U,by
   by_cases h:k<4
   ·cases T' h
   omega,N,Y⟩,U⟩
 have P:k=7:=U;refine O ?_;have g:Z w0 w [aZ (fun w=>bG w ps t Gs/\RS ap w l es/\rG w t os es n),X ap 36 y (ps.map Value.pointer),ak Q 26 [a,b,c,d]]:=Y.aY;have m:=Z.rd (Δ:=[aZ (fun w=>bG w ps t Gs/\RS ap w l es/\rG w t os es n)]) (φ:=fun w=>bG w ps t Gs) (fun _ w h=>(h.ct 0 rfl).1) g;exact bf (v:=y) rfl rfl ⟨y,ps,Gs,rfl,r,U,U,N,m.aY⟩
def Ξ :
  Calls ai 41 #[] w0 fun e w'=>∃ a b c d vs,e=.returned (.agg #[a,b,c,d])/\Z w0 w' [aZ fun w=>bn w a b c d vs bV]:=by
 have Y:=Z.start w0;refine bA an Tryz.func41 ?_
 repeat (first|refine du ?_|(refine gX ?_;clear Y;intro p w Y)|(refine fA ?_;clear Y;intro s w Y))
 obtain⟨K,rfl⟩:=À p;obtain⟨f,rfl⟩:=À s;refine jK aq (x1:=⟨0,3⟩) rfl rfl rfl (fY rfl) (fe _) Y ?_;clear Y;intro g w Y;obtain⟨l,rfl⟩:=À s;have N:=(Y.rs 0 rfl).one;have P:=(Y.rs 1 rfl).one;have Q:=(Y.rs 2 rfl).one;refine yA (v1:=l) (v2:=f) (v3:=g) rfl rfl rfl rfl (by simp only[eD,eN,Q,P,N];rfl) ?_;refine Gk ?_;clear Y;intro L w Y;refine jF (n:=4) (p:=L) (vs:=[l,f,g,nS]) rfl rfl Y inferInstance rfl rfl (by simp only[eD,eN,Q,P,N];rfl) ?_;clear Y;intro w Y;refine O ?_;have o:=Y.nil (T:=cd) (e:=44);replace o:=Z.pR (φ:=qt [] []) (fun w=>⟨rfl,fun i V=>absurd V (dr _)⟩) o;clear Y;refine nZ [2,2,8,24] (G:=Nat) (H:=Value) (I':=List iW) (fun k _ _=>[(8,E k)]) (fun k m vs w=>k<=3/\vs.length=k/\Z w0 w [X cd 44 m vs,aZ (qt vs (bV.M.take k)),ak L 26 [l,f,g,m],X aq 63 g [⟨0,3⟩],X W 3 f [0],X W 3 l [4],ak K 26 [nS,nS,nS,nS]]) (fun k _ _=>3-k) 0 (nS) [] (fun _ _ _=>rfl) ⟨rfl,az⟩ ⟨bu _,rfl,o.swap⟩ ?_;clear o;rintro σ k m vs w ⟨hk,R,Y⟩;refine aB ?_ ?_<;>intro h1
 ·refine O ?_
  refine jK aq (x1:=⟨0,k⟩) rfl rfl rfl (fY rfl) (fe _) Y ?_;clear Y;intro sp w Y;refine O ?_;refine jK aV (x1:=⟨nS,0,(k:Int)+1⟩) rfl rfl rfl (fY rfl) (fe _) Y ?_;clear Y;intro r w Y;have op:=(Y.rs 1 rfl).one;have S:=(Y.rs 0 rfl).one;refine yA (v1:=E 2) (v2:=sp) (v3:=r) rfl rfl rfl rfl (by simp only[eD,eN,op,S];rfl) ?_;refine jK cd (x1:=⟨ByteArray.empty,2,sp,r⟩) rfl rfl rfl (fY rfl) (fe _) Y ?_;clear Y;intro so w Y;refine q7 (s:=m) (s2:=so) inferInstance rfl rfl (bk Y) rfl rfl (fun x hx v hv=>?_) (by simp only[length_cons,length_nil];omega) (by unfold bU;simp only[length_cons,length_nil];omega) Y ?_
  ·rw[dp.1 hx]at hv
   simp only[cd,ee,fI,pP]at hv;rcases hv with rfl|rfl|rfl|rfl
   ·rfl
   ·rfl
   ·exact op
   exact S
  clear Y;intro u w Y;have o2:=(Y.rs 3 rfl).one;refine fm ?_;intro w Y;have y:(bV.M.take (k+1))=bV.M.take k++[⟨ByteArray.empty,2,[⟨0,k⟩],[⟨[],0,(k:Int)+1⟩]⟩]:=by
   have:k=0\/k=1\/k=2:=U;rcases this with rfl|rfl|rfl<;>rfl
  have o:Z w0 w ([X aV 61 r [⟨nS,0,(k:Int)+1⟩],X aq 63 sp [⟨0,k⟩],aZ (qt vs (bV.M.take k)),X cd 44 u (vs++[⟨ByteArray.empty,2,sp,r⟩]),ak L 26 [l,f,g,u],X aq 63 g [⟨0,3⟩],X W 3 f [0],X W 3 l [4],ak K 26 [nS,nS,nS,nS]]):=by
   have D:Z w0 w [X cd 44 so [⟨ByteArray.empty,2,sp,r⟩],X aV 61 r [⟨nS,0,(k:Int)+1⟩],X aq 63 sp [⟨0,k⟩],X cd 44 u (vs++[⟨ByteArray.empty,2,sp,r⟩]),aZ (qt vs (bV.M.take k)),ak L 26 [l,f,g,u],X aq 63 g [⟨0,3⟩],X W 3 f [0],X W 3 l [4],ak K 26 [nS,nS,nS,nS]]:=Y;exact D.aY
  clear Y;have F:=Z.Bh (χ:=qt (vs++[⟨ByteArray.empty,2,sp,r⟩]) (bV.M.take (k+1))) (fun w h1 h2=>by rw[y];exact h2.eQ h1) (Z.rd (φ:=fun w=>oG w ⟨ByteArray.empty,2,sp,r⟩ ⟨ByteArray.empty,2,[⟨0,k⟩],[⟨[],0,(k:Int)+1⟩]⟩) (Δ:=[X aV 61 r [⟨nS,0,(k:Int)+1⟩],X aq 63 sp [⟨0,k⟩]]) (fun _ _ Y=>Nc Y) o);exact⟨k+1,u,vs++[⟨ByteArray.empty,2,sp,r⟩],⟨rfl,az⟩,aU,⟨U,by rw[length_append,R];rfl,F.aY⟩,U⟩
 have y:k=3:=U;subst y;refine O ?_;refine jF (n:=4) (p:=K) (vs:=[l,f,g,m]) rfl rfl Y inferInstance rfl rfl (by simp only[eD,eN,Q,P,N,(bk (s:=m) Y).one];rfl) ?_;clear Y;intro w Y;refine O ?_;have D:Z w0 w [X cd 44 m vs,aZ (qt vs bV.M),ak L 26 [l,f,g,m],X aq 63 g [⟨0,3⟩],X W 3 f [0],X W 3 l [4],ak K 26 [l,f,g,m]]:=Y;have F:=Z.rd (Δ:=[X cd 44 m vs,aZ (qt vs bV.M),ak L 26 [l,f,g,m],X aq 63 g [⟨0,3⟩],X W 3 f [0],X W 3 l [4]]) (φ:=fun w=>bn w l f g m vs bV) (fun _ w h=>⟨h.rs 5 rfl,h.rs 4 rfl,h.rs 3 rfl,⟨h.rs 0 rfl,(h.ct 1 rfl).1,(h.ct 1 rfl).2⟩⟩) D;exact Cw (p:=K) (vs:=[l,f,g,m]) rfl rfl rfl (fun j v hv=>lK (i:=6) Y rfl hv) ⟨l,f,g,m,vs,rfl,F.aY⟩
def IF:bW bV=[⟨0,0,2,1,[0]⟩,⟨1,0,2,2,[1]⟩,⟨2,0,2,3,[2]⟩]:=rfl
def TR:aR bV=4:=rfl
def Ο:gT bV [0] [0,2,4,6]:=by
 have k:mb bV.vars [0] 0:=⟨0,dc,rfl⟩
 refine Sz dc (fun g o h1=>?_) (uS IG) (fun g I=>?_) (fun i l=>?_) (fun g o h1 r=>?_)
 ·rw[TR]at h1
  have f:g=0\/g=1\/g=2\/g=3:=U;rcases f with rfl|rfl|rfl|rfl<;>decide
 ·obtain⟨v,hv,rfl⟩:=I
  have:v=0:=by simp[bV]at hv;exact hv
  subst this;decide
 ·rw[IF]at l ⊢
  have f:i=0\/i=1\/i=2:=by simp at l;omega
  rcases f with rfl|rfl|rfl<;>decide
 rw[TR]at h1;have d0:jI (bW bV) (mb bV.vars [0]) 0 0:=.start k;have d1:jI (bW bV) (mb bV.vars [0]) 1 2:=.iJ (i:=0) (v:=fun _=>0) (m:=0) dc dc (fun n e=>by rw[IF]at e;rw[dp.1 e];exact d0) (fun _ _=>dt _);have d2:jI (bW bV) (mb bV.vars [0]) 2 4:=.iJ (i:=1) (v:=fun _=>2) (m:=2) dc dc (fun n e=>by rw[IF]at e;rw[dp.1 e];exact d1) (fun _ _=>dt _);have d3:jI (bW bV) (mb bV.vars [0]) 3 6:=.iJ (i:=2) (v:=fun _=>4) (m:=4) dc dc (fun n e=>by rw[IF]at e;rw[dp.1 e];exact d2) (fun _ _=>dt _);have f:g=0\/g=1\/g=2\/g=3:=U;rcases f with rfl|rfl|rfl|rfl
 ·exact d0
 ·exact d1
 ·exact d2
 exact d3
def TS:gD bV (bP bV) [0]=2:=by unfold gD;rw[aM dc];decide
def Ρ:gD bV (bP bV) [3]=0:=by unfold gD;rw[aM dc];decide
def TT:gD bV (cA bV) [0]=6:=by unfold gD;rw[aM dc,yX dc Ο];decide
def Τ:gD bV (bv bV [bP bV,cA bV]) [0]=6:=by
 have h:bv bV [bP bV,cA bV] [0]=max (max 0 (gD bV (bP bV) [0])) (gD bV (cA bV) [0]):=rfl;unfold gD;rw[aM dc,h,TS,TT];decide
def Eu :
  Calls ai 19 #[] w0 fun e w'=>e=.returned (.bool true)/\Z w0 w' []:=by
 have Y:=Z.start w0;refine bA an Tryz.func19 ?_;refine O ?_;refine aL rfl Ξ ?_;rintro _ w' ⟨a,b,c,d,vs,rfl,al⟩;refine aI ?_;clear al Y;intro Y;refine db ?_;intro p w Y;have k:=Y.ct 1 rfl;have L:=k.vars.one;have N:=k.cC.one;have P:=k.aH.one;have Q:=k.M.rs.one;clear k;refine O ?_;obtain⟨D,rfl⟩:=À p;refine jF (n:=4) (p:=D) (vs:=[a,b,c,d]) rfl rfl Y inferInstance rfl rfl (by simp only[eD,eN,L,N,P,Q];rfl) ?_;clear Y;intro w Y;refine O ?_;refine aL rfl (FU (Y.ct 1 rfl) IG) ?_;rintro _ w' ⟨f,rfl,al⟩;refine aI ?_;clear al Y;intro Y;refine O ?_;refine aL rfl (TQ (Y.ct 2 rfl) IG) ?_;rintro _ w' ⟨g,rfl,al⟩;refine aI ?_;clear al Y;intro Y;refine O ?_;refine ya (T:=ap) [.pointer (some f),.pointer (some g)] [.pointer (some f),.pointer (some g)] rfl rfl rfl rfl rfl dc dc dc Y ?_;clear Y;intro y w Y;have l:RS ap w y ([some f,some g].map Value.pointer):=bk (s:=y) Y;have G:bK w f bV (bP bV):=Y.ct 2 rfl;have H:bK w g bV (cA bV):=Y.ct 1 rfl;have m:jV [some f,some g] [bV,bV]=0:=by
  unfold jV;rw[aC sm,aC];rintro⟨i,o,x⟩;have u:i=0\/i=1:=by simp at o;omega
  rcases u with rfl|rfl<;>exact x rfl
 refine aL rfl (HN (ps:=[some f,some g]) (us:=[bV,bV]) (Hs:=[bP bV,cA bV]) l (show 2<=1048576 by decide) rfl (fun i o p K=>by
  have u:i=0\/i=1:=by simp at o;omega
  rcases u with rfl|rfl
  ·obtain rfl:f=p:=wx K
   exact G
  obtain rfl:g=p:=wx K
  exact H) IG) ?_
 rintro _ w' (⟨h1,_⟩|⟨_,F,rfl,al⟩)
 ·exact absurd m h1
 replace Y:=Y.mu al;clear al G H l;refine⟨_,rfl,?_⟩;have x:Z w0 w' [aZ (fun w=>bK w F bV (bv bV [bP bV,cA bV])/\bK w g bV (cA bV)/\bK w f bV (bP bV)),ak D 26 [a,b,c,d],aZ fun w=>bn w a b c d vs bV]:=by
  have g2:Z w0 w' [aZ (fun w=>bG w [some f,some g] bV [bP bV,cA bV]->bK w F bV (bv bV [bP bV,cA bV])),X ap 36 y [.pointer (some f),.pointer (some g)],aZ (fun w=>bK w g bV (cA bV)),aZ (fun w=>bK w f bV (bP bV)),ak D 26 [a,b,c,d],aZ fun w=>bn w a b c d vs bV]:=Y
  exact Z.rd (Δ:=[aZ (fun w=>bG w [some f,some g] bV [bP bV,cA bV]->bK w F bV (bv bV [bP bV,cA bV])),X ap 36 y [.pointer (some f),.pointer (some g)],aZ (fun w=>bK w g bV (cA bV)),aZ (fun w=>bK w f bV (bP bV))]) (fun _ w h=>⟨(h.ct 0 rfl) (fun i o=>by
   have u:i=0\/i=1:=by simp at o;omega
   rcases u with rfl|rfl
   ·exact⟨f,rfl,h.ct 3 rfl⟩
   exact⟨g,rfl,h.ct 2 rfl⟩),h.ct 2 rfl,h.ct 3 rfl⟩) g2
 clear Y;have Y:=x;clear x;refine nX ?_;intro s w Y;refine aL rfl (wM (Y.ct 1 rfl).2.2 (bk (s:=s) Y)) ?_;rintro _ w' ⟨rfl,al⟩;refine aA ?_;clear al Y;intro Y;rw[TS];refine nX ?_;intro s w Y;refine aL rfl (wM (Y.ct 2 rfl).2.1 (bk (s:=s) Y)) ?_;rintro _ w' ⟨rfl,al⟩;refine aA ?_;clear al Y;intro Y;rw[TT];refine nX ?_;intro s w Y;refine aL rfl (wM (Y.ct 3 rfl).1 (bk (s:=s) Y)) ?_;rintro _ w' ⟨rfl,al⟩;refine aA ?_;clear al Y;intro Y;rw[Τ];refine nX ?_;intro s w Y;refine aL rfl (wM (Y.ct 4 rfl).2.2 (bk (s:=s) Y)) ?_;rintro _ w' ⟨rfl,al⟩;refine aA ?_;clear al Y;intro Y;rw[Ρ];refine O ?_;refine aL rfl (yP (Y.ct 4 rfl).1 (Y.ct 6 rfl)) ?_;rintro _ w' ⟨⟨r,rfl,R⟩,al⟩;refine aA ?_;clear al Y;intro Y;have u:r=true:=R.2 rfl;subst u;refine O ?_;exact bf (v:=.bool true) rfl rfl ⟨rfl,gm Y⟩
end
end Go.Proofs.YtmapkjoefdgjfaaGreatDoor
