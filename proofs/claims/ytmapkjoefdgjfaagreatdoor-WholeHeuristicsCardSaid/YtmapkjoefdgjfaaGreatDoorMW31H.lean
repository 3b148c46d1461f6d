/- Several texts. -/
import Derived.Test.YtmapkjoefdgjfaaGreatDoorMW30H
set_option linter.unusedSimpArgs false
set_option linter.unusedVariables false
set_option linter.defProp false
set_option maxRecDepth 8000
set_option maxHeartbeats 16000000
open List Nat
namespace Go.Proofs.YtmapkjoefdgjfaaGreatDoor
open Go.Sl
variable {w0 w:World}{h sv:Value}{xs:List cV}{Γ:List HP}{q F:Addr}{i j l:Nat}{K:Int}{z:J}{a b:dr}
section
open Go.Sl
attribute [local irreducible] vc opsW opsD opV opW PureV ReadV Thn Blk
def GE {ii:Int}(hx:RS aK w0 h xs)(c:ii=i)(d:K=j)(hi:i<xs.length)(f:j<xs.length) :
  Calls ak 340 #[h,E ii,E K] w0 fun e w'=>e=.returned (.bool (iA (I aK.dflt xs i) (I aK.dflt xs j)))/\Z w0 w' []:=by
 subst c d;have Y:=Z.start w0;refine bI ar Tryz.func340 ?_;refine dD ?_;intro w Y;exact bo (v:=.bool (iA (I aK.dflt xs i) (I aK.dflt xs j))) rfl rfl ⟨rfl,Y⟩
def GF {ii:Int}(c:ii=i)(d:K=j)(hi:i<xs.length)(f:j<xs.length)(Y:Z w0 w (X aK 355 h xs::Γ)) :
  Calls ak 341 #[h,E ii,E K] w fun e w'=>e=.returned (.tuple #[])/\Z w0 w' (X aK 355 h (sw aK.dflt xs i j)::Γ):=by
 subst c d;refine bI ar Tryz.func341 ?_;refine dD ?_;intro w Y;refine vW (s:=h) (j:=i) (x':=I aK.dflt xs j) rfl rfl rfl rfl Y inferInstance U ?_;clear Y;intro w Y;have g:(xs.set i (I aK.dflt xs j)).length=xs.length:=sm;refine O ?_;refine vW (s:=h) (j:=j) (x':=I aK.dflt xs i) rfl rfl rfl rfl Y inferInstance U ?_;clear Y;intro w Y;refine O ?_;exact uK rfl ⟨rfl,Y⟩
def qon {v:cV}(d:xs.length<1099511627776)(Y:Z w0 w (X aK 355 h xs::am q 352 [h]::Γ)) :
  Calls ak 343 #[.pointer (some q),.iface 355 (.agg #[E v.cr,E v.aY])] w fun e w'=>e=.returned (.tuple #[])/\∃ c,Z w0 w' (X aK 355 c (xs++[v])::am q 352 [c]::Γ):=by
 refine bI ar Tryz.func343 ?_;refine dj ?_;intro p w Y;refine gi (pl [0,1,2,3,4,5] (.cY 3::pl [6,7,8] [])) Y kr ?_;clear Y;intro w Y;refine O ?_;refine jA aK (x1:=v) rfl rfl rfl (fP rfl) (fg _) Y ?_;clear Y;intro s w Y;refine qJ ?_;intro s w Y;exact uK rfl ⟨rfl,_,Y.tail.tail⟩
def qrJ (d:0<xs.length)(f:xs.length<=1099511627776)(Y:Z w0 w (X aK 355 h xs::am q 352 [h]::Γ)) :
  Calls ak 342 #[.pointer (some q)] w fun e w'=>e=.returned (.iface 355 ((.agg #[E (I aK.dflt xs (xs.length-1)).cr,E (I aK.dflt xs (xs.length-1)).aY])))/\∃ c,Z w0 w' (X aK 355 c (xs.take (xs.length-1))::am q 352 [c]::Γ):=by
 refine bI ar Tryz.func342 ?_;refine ep ?_;intro p w Y;have hk:(((xs.length:Nat):Int)-1).toNat=xs.length-1:=U;replace Y:=Z.sub (s:=h) (xs:=xs) Y inferInstance 0 (((xs.length:Nat):Int)-1).toNat U U;refine dD ?_;intro w Y;refine bo (v:=.iface 355 ((.agg #[E (I aK.dflt xs (((xs.length:Nat):Int)-1).toNat).cr,E (I aK.dflt xs (((xs.length:Nat):Int)-1).toNat).aY]))) rfl rfl ⟨by rw[hk],ssub h aK.sz 0 (((xs.length:Nat):Int)-1).toNat,?_⟩;have c:cut xs 0 (((xs.length:Nat):Int)-1).toNat=xs.take (xs.length-1):=by rw[hk];simp[cut]
 rw[c]at Y;exact Y.tail
def OC (hx:RS aK w0 h xs) :
  Calls ak 265 #[h] w0 fun e w'=>e=.returned (E xs.length)/\Z w0 w' []:=by
 have Y:=Z.start w0;refine bI ar Tryz.func265 ?_;refine O ?_;exact bo (v:=E xs.length) rfl rfl ⟨rfl,Y⟩
def qvx (m:K=j)(U':zt aK.dflt iA xs j)(o:xs.length<=1099511627776)(Y:Z w0 w (X aK 355 h xs::am q 352 [h]::Γ)) :
  Calls ak 166 #[.iface 353 (.pointer (some q)),E K] w fun e w'=>e=.returned (.tuple #[])/\∃ ys,dz aK.dflt iA ys/\ys.Perm xs/\Z w0 w' (X aK 355 h ys::am q 352 [h]::Γ):=by
 subst m;refine bI ar Tryz.func166 ?_;refine O ?_;refine dP [1,1,4,22] (G:=Nat) (H:=List cV) (fun j ys=>[(1,E j)]) (fun j ys w=>zt aK.dflt iA ys j/\ys.Perm xs/\Z w0 w (X aK 355 h ys::am q 352 [h]::Γ)) (fun j ys=>j) j xs (fun _ _=>rfl) ⟨rfl,az⟩ ⟨U',.refl _,Y⟩ ?_;clear Y U';rintro r j ys w ⟨U',g,Y⟩;have d:=U'.KF;have n:=g.length_eq;refine O ?_;simp only[P0];by_cases f:(j-1) / 2=j
 ·have c:decide ((((j-1) / 2:Nat):Int)=(j:Int))=true:=dH U
  simp only[c];refine O ?_;exact uK rfl ⟨rfl,ys,U'.done (.inl f),g,Y⟩
 have c:decide ((((j-1) / 2:Nat):Int)=(j:Int))=false:=dB U;simp only[c,xm];refine O ?_;refine qC (u:=h) rfl rfl (Y.jn inferInstance rfl) (GE (bB Y) rfl rfl d (show (j-1) / 2<ys.length by omega)) ?_;rintro _ w' ⟨rfl,hk⟩;replace Y:=Y.cH hk;clear hk
 cases k:iA (I aK.dflt ys j) (I aK.dflt ys ((j-1) / 2)) with
 | false =>
  refine⟨_,rfl,?_⟩;refine O ?_
  exact uK rfl ⟨rfl,ys,U'.done (.inr k),g,Y⟩
 | true =>
  refine⟨_,rfl,?_⟩;refine O ?_;refine qC (u:=h) rfl rfl (Y.jn inferInstance rfl) (GF rfl rfl (show (j-1) / 2<ys.length by omega) d Y) ?_;clear Y;rintro _ w ⟨rfl,Y⟩;refine⟨_,rfl,?_⟩;refine O ?_;exact⟨(j-1) / 2,_,⟨rfl,az⟩,aX,⟨U'.step f k,(zu U d).trans g,Y⟩,U⟩
def qoo {n:Nat}{nn:Int}(Q:nn=n)(D:xM aK.dflt iA xs n 0)(hb:xs.length<=1099511627776)(Y:Z w0 w (X aK 355 h xs::am q 352 [h]::Γ)) :
  Calls ak 167 #[.iface 353 (.pointer (some q)),E 0,E nn] w fun e w'=>∃ b ys,e=.returned (.bool b)/\uo aK.dflt iA ys n/\ys.Perm xs/\(∀ k,n<=k->I aK.dflt ys k=I aK.dflt xs k)/\Z w0 w' (X aK 355 h ys::am q 352 [h]::Γ):=by
 subst Q;refine bI ar Tryz.func167 ?_;refine O ?_;refine dP [7,10,12,44] (G:=Nat) (H:=List cV) (fun i ys=>[(7,E i)]) (fun i ys w=>xM aK.dflt iA ys n i/\i<=n/\ys.Perm xs/\(∀ k,n<=k->I aK.dflt ys k=I aK.dflt xs k)/\Z w0 w (X aK 355 h ys::am q 352 [h]::Γ)) (fun i ys=>n-i) 0 xs (fun _ _=>rfl) ⟨rfl,az⟩ ⟨D,bC _,.refl _,fun _ _=>rfl,Y⟩ ?_;clear Y D;rintro σ i ys w ⟨D,R,r,d,Y⟩;have L:=D.le;have T:=r.length_eq;refine aC ?_ ?_<;>intro h1
 ·refine O ?_
  exact bo (v:=.bool _) rfl rfl ⟨_,ys,rfl,D.leaf U,r,d,Y⟩
 have x:2*i+1<n:=U;refine O ?_;by_cases V:2*i+2<n
 ·have g:decide (2*(i:Int)+1+1<(n:Int))=true:=dH U
  simp only[g,xn];refine O ?_;refine qC (u:=h) rfl rfl (Y.jn inferInstance rfl) (GE (i:=2*i+2) (j:=2*i+1) (bB Y) U U U U) ?_;rintro _ w' ⟨rfl,hk⟩;replace Y:=Y.cH hk;clear hk
  cases m:iA (I aK.dflt ys (2*i+2)) (I aK.dflt ys (2*i+1)) with
  | true =>
   refine⟨_,rfl,?_⟩;refine rK ?_;refine rJ [9,9,34,34] (G:=Nat) (fun j=>[(9,E j)]) (fun j w=>(j=2*i+1\/j=2*i+2)/\j<n/\(∀ c,0<c->c<n->(c-1) / 2=i->fh iA (I aK.dflt ys j) (I aK.dflt ys c))/\Z w0 w (X aK 355 h ys::am q 352 [h]::Γ)) (fun _=>rfl) ?_ ?_
   ·refine O ?_
    refine⟨2*i+2,⟨?_,az⟩,aX,.inr rfl,V,fun c N h1 P=>?_,Y⟩
    ·show Value.int .i64 (2*(i:Int)+1+1)=_
     congr 1
    have:c=2*i+1\/c=2*i+2:=U;rcases this with rfl|rfl
    ·exact HJ m
    exact Cn _
   clear Y;rintro y j w ⟨C,o,f,Y⟩;refine O ?_;refine qC (u:=h) rfl rfl (Y.jn inferInstance rfl) (GE (bB Y) rfl rfl (show j<ys.length by omega) (show i<ys.length by omega)) ?_;rintro _ w' ⟨rfl,hk⟩;replace Y:=Y.cH hk;clear hk
   cases m:iA (I aK.dflt ys j) (I aK.dflt ys i) with
   | false =>
    refine⟨_,rfl,?_⟩;refine O ?_
    exact bo (v:=.bool _) rfl rfl ⟨_,ys,rfl,D.done f m,r,d,Y⟩
   | true =>
    refine⟨_,rfl,?_⟩;refine O ?_;refine qC (u:=h) rfl rfl (Y.jn inferInstance rfl) (GF rfl rfl (show i<ys.length by omega) (show j<ys.length by omega) Y) ?_;clear Y;rintro _ w ⟨rfl,Y⟩;refine⟨_,rfl,?_⟩;refine O ?_;refine⟨j,_,⟨rfl,az⟩,aX,⟨D.step C o f m,U,(zu U U).trans r,fun k hk=>?_,Y⟩,U⟩;rw[tF U U,aM U,aM U]
    exact d k hk
  | false =>
   refine⟨_,rfl,?_⟩;refine rK ?_;refine rJ [9,9,34,34] (G:=Nat) (fun j=>[(9,E j)]) (fun j w=>(j=2*i+1\/j=2*i+2)/\j<n/\(∀ c,0<c->c<n->(c-1) / 2=i->fh iA (I aK.dflt ys j) (I aK.dflt ys c))/\Z w0 w (X aK 355 h ys::am q 352 [h]::Γ)) (fun _=>rfl) ?_ ?_
   ·refine O ?_
    refine⟨2*i+1,⟨?_,az⟩,aX,.inl rfl,x,fun c N h1 P=>?_,Y⟩
    ·show Value.int .i64 (2*(i:Int)+1)=_
     congr 1
    have:c=2*i+1\/c=2*i+2:=U;rcases this with rfl|rfl
    ·exact Cn _
    exact m
   clear Y;rintro y j w ⟨C,o,f,Y⟩;refine O ?_;refine qC (u:=h) rfl rfl (Y.jn inferInstance rfl) (GE (bB Y) rfl rfl (show j<ys.length by omega) (show i<ys.length by omega)) ?_;rintro _ w' ⟨rfl,hk⟩;replace Y:=Y.cH hk;clear hk
   cases m:iA (I aK.dflt ys j) (I aK.dflt ys i) with
   | false =>
    refine⟨_,rfl,?_⟩;refine O ?_
    exact bo (v:=.bool _) rfl rfl ⟨_,ys,rfl,D.done f m,r,d,Y⟩
   | true =>
    refine⟨_,rfl,?_⟩;refine O ?_;refine qC (u:=h) rfl rfl (Y.jn inferInstance rfl) (GF rfl rfl (show i<ys.length by omega) (show j<ys.length by omega) Y) ?_;clear Y;rintro _ w ⟨rfl,Y⟩;refine⟨_,rfl,?_⟩;refine O ?_;refine⟨j,_,⟨rfl,az⟩,aX,⟨D.step C o f m,U,(zu U U).trans r,fun k hk=>?_,Y⟩,U⟩;rw[tF U U,aM U,aM U];exact d k hk
 have g:decide (2*(i:Int)+1+1<(n:Int))=false:=dB U;simp only[g];refine rK ?_;refine rJ [9,9,34,34] (G:=Nat) (fun j=>[(9,E j)]) (fun j w=>(j=2*i+1\/j=2*i+2)/\j<n/\(∀ c,0<c->c<n->(c-1) / 2=i->fh iA (I aK.dflt ys j) (I aK.dflt ys c))/\Z w0 w (X aK 355 h ys::am q 352 [h]::Γ)) (fun _=>rfl) ?_ ?_
 ·refine O ?_
  refine⟨2*i+1,⟨?_,az⟩,aX,.inl rfl,x,fun c N h1 P=>?_,Y⟩
  ·show Value.int .i64 (2*(i:Int)+1)=_
   congr 1
  have:c=2*i+1:=U;subst this;exact Cn _
 clear Y;rintro y j w ⟨C,o,f,Y⟩;refine O ?_;refine qC (u:=h) rfl rfl (Y.jn inferInstance rfl) (GE (bB Y) rfl rfl (show j<ys.length by omega) (show i<ys.length by omega)) ?_;rintro _ w' ⟨rfl,hk⟩;replace Y:=Y.cH hk;clear hk
 cases m:iA (I aK.dflt ys j) (I aK.dflt ys i) with
 | false =>
  refine⟨_,rfl,?_⟩;refine O ?_
  exact bo (v:=.bool _) rfl rfl ⟨_,ys,rfl,D.done f m,r,d,Y⟩
 | true =>
  refine⟨_,rfl,?_⟩;refine O ?_;refine qC (u:=h) rfl rfl (Y.jn inferInstance rfl) (GF rfl rfl (show i<ys.length by omega) (show j<ys.length by omega) Y) ?_;clear Y;rintro _ w ⟨rfl,Y⟩;refine⟨_,rfl,?_⟩;refine O ?_;refine⟨j,_,⟨rfl,az⟩,aX,⟨D.step C o f m,U,(zu U U).trans r,fun k hk=>?_,Y⟩,U⟩;rw[tF U U,aM U,aM U];exact d k hk
def qil {v:cV}(H:dz aK.dflt iA xs)(g:xs.length<1099511627776)(Y:Z w0 w (X aK 355 h xs::am q 352 [h]::Γ)) :
  Calls ak 142 #[.iface 353 (.pointer (some q)),.iface 355 (.agg #[E v.cr,E v.aY])] w fun e w'=>e=.returned (.tuple #[])/\∃ c ys,dz aK.dflt iA ys/\ys.Perm (v::xs)/\Z w0 w' (X aK 355 c ys::am q 352 [c]::Γ):=by
 refine bI ar Tryz.func142 ?_;refine O ?_;refine HK rfl rfl (qon (v:=v) U Y) ?_;clear Y;rintro _ w ⟨rfl,c,Y⟩;refine⟨_,rfl,?_⟩;refine O ?_;refine qC (u:=c) rfl rfl (Y.jn inferInstance rfl) (OC (bB Y)) ?_;rintro _ w' ⟨rfl,hk⟩;replace Y:=Y.cH hk;clear hk;refine⟨_,rfl,?_⟩;have d:(xs++[v]).length=xs.length+1:=sm;refine O ?_;refine aR rfl (qvx (j:=xs.length) (by rw[d];omega) (P4 H) U Y) ?_;clear Y;rintro _ w ⟨rfl,ys,h1,f,Y⟩;refine⟨_,rfl,?_⟩;refine O ?_;exact uK rfl ⟨rfl,c,ys,h1,f.trans (KG (l₁:=xs) (l₂:=[v])),Y⟩
def qiB (H:dz aK.dflt iA xs)(d:0<xs.length)(o:xs.length<=1099511627776)(Y:Z w0 w (X aK 355 h xs::am q 352 [h]::Γ)) :
  Calls ak 144 #[.iface 353 (.pointer (some q))] w fun e w'=>∃ v g ys,e=.returned (.iface 355 (.agg #[E v.cr,E v.aY]))/\dz aK.dflt iA ys/\xs.Perm (v::ys)/\(∀ x∈xs,fh iA v x)/\Z w0 w' (X aK 355 g ys::am q 352 [g]::Γ):=by
 refine bI ar Tryz.func144 ?_;refine O ?_;refine qC (u:=h) rfl rfl (Y.jn inferInstance rfl) (OC (bB Y)) ?_;rintro _ w' ⟨rfl,hk⟩;replace Y:=Y.cH hk;clear hk;refine⟨_,rfl,?_⟩;refine O ?_;refine qC (u:=h) rfl rfl (Y.jn inferInstance rfl) (GF (i:=0) (j:=xs.length-1) rfl U d U Y) ?_;clear Y;rintro _ w ⟨rfl,Y⟩;refine⟨_,rfl,?_⟩;refine O ?_;refine aR rfl (qoo (n:=xs.length-1) U (P5 H d) (by rw[Co];exact o) Y) ?_;clear Y;rintro _ w ⟨b,ys,rfl,h1,r,y,Y⟩;have m:=r.trans (zu d (show xs.length-1<xs.length by omega));have f:=m.length_eq;refine⟨_,rfl,?_⟩;refine O ?_;refine HK rfl rfl (qrJ U U Y) ?_;clear Y;rintro _ w ⟨rfl,g,Y⟩;refine⟨_,rfl,?_⟩;refine O ?_;have c:I aK.dflt ys (xs.length-1)=I aK.dflt xs 0:=by
  rw[y _ (cP _),tF d U,ba rfl]
 obtain⟨C,k⟩:=P6 d m h1 c;rw[f]at Y;refine bo (v:=.iface 355 ((.agg #[E (I aK.dflt ys (ys.length-1)).cr,E (I aK.dflt ys (ys.length-1)).aY]))) rfl rfl ⟨I aK.dflt xs 0,g,_,by rw[f,c],C,k,fun x hx=>P7 H hx,Y⟩
end
section
open Go.Sl Go
attribute [local irreducible] vc opsW opsD opV opW PureV ReadV Thn Blk
def OD {k m:Addr}{f n:Value}{D:J}{Q:List cV}{N:Nat}{g v:Int}(G:D.length=N)(I:0<=g/\g<N)(x:dz aK.dflt iA Q)(o:Q.length<1099511627776)(Y:Z w0 w (X aK 355 n Q::am m 352 [n]::X W 3 f D::am k 22 [f]::Γ)) :
  Calls ak 264 #[E g,E v,.pointer (some k),.pointer (some m)] w fun e w'=>e=.returned (.tuple #[])/\∃ c d,dz aK.dflt iA d/\d.Perm (ti D Q g v) /\
   Z w0 w' (X aK 355 c d::am m 352 [c]::X W 3 f (oZ D g v)::am k 22 [f]::Γ):=by
 refine bI ar Tryz.func264 ?_;refine aC ?_ ?_<;>intro h1
 ·have r:oZ D g v=D.set g.toNat v:=ba h1
  have u:ti D Q g v=⟨v,g⟩::Q:=ba h1;rw[r,u];refine dD ?_;intro w Y;refine aR rfl (qil (v:=⟨v,g⟩) x o Y) ?_;clear Y;rintro _ w ⟨rfl,c,d,y,C,Y⟩;refine⟨_,rfl,?_⟩;refine O ?_;exact uK rfl ⟨rfl,c,d,y,C,Y⟩
 have r:oZ D g v=D:=aM (tM.2 h1);have u:ti D Q g v=Q:=aM (tM.2 h1);rw[r,u];refine O ?_;exact uK rfl ⟨rfl,n,Q,x,.refl _,Y⟩
def qx8 (n:Nat)(v:Int):fj n (fun _=>v) n=replicate n v:=by
 apply jB (by simp[fj]);intro i h1 c;simp only[fj,getElem_map,tI,getElem_replicate];rw[ba (by simpa [fj] using h1)]
def qBj (c l:J):vt c l<=l.length:=wV _ _
def qx9 {v:zN}{u:Un}(h:NS w v u):(my.enc v).all Value.oneCell'=true:=by
 have h1:=h.aG.one;show ((Value.int .i64 v.op).oneCell' && ((Value.int .i64 v.fS).oneCell' && ((Value.int .i64 v.aT).oneCell' && ((Value.int .i64 v.aU).oneCell' && (v.aG.oneCell' && true)))))=true;rw[h1];rfl
instance Ks:xy ak 350 3 4:=⟨kr⟩
instance Hz:sB ak 4 (.bool false):=⟨kr⟩
def qnb {t:aa}(hr:qU w0 F t)(I:aJ t)(hs:RS W w0 sv z)(bX:aj t.vars z) :
  Calls ak 263 #[.pointer (some F),sv,.map none] w0 fun e w'=>∃ P out,e=.returned P/\iL t z out/\Z w0 w' [X W 3 P out]:=by
 obtain⟨a,c,fv,uv,nv,frv,us,ss,_T,ha,hc,hf,huv,_h,hU,hnv,_F,_w,_U⟩:=hr.ex;obtain⟨o,_j⟩:=À (cz t);rw[<-_j]at _h hU _w _U;have C:yF o (aZ t):=by rw[_j];exact wk I
 have _V:o.length<=262144:=by
  have h1:=CN I (k:=t.M.length) (cP _);have h2:=I.M;rw[_j];unfold cz;omega
 have hN:=BG I;have _W:=I.vars;have hsl:=bX.1;obtain⟨N,_i⟩:=À (aZ t);rw[<-_i]at _T _F _w C hN;have _x:(N:Int)=bP t.vars t.vars.length:=by rw[_i];exact uV I
 have hr0:(replicate ((N:Nat):Int).toNat (0:Int)).length=N:=sm;have hr1:(replicate ((us.length:Nat):Int).toNat (0:Int)).length=o.length:=by simp[_h]
 have Y:=Z.start w0;refine bI ar Tryz.func263 ?_
 repeat (first|refine dS ?_|(refine iT ?_;clear Y;intro p w Y)|(refine uP ?_;clear Y;intro w Y)|(refine gA ?_;clear Y;intro s w Y))
 obtain⟨p7,rfl⟩:=À p;obtain⟨P,rfl⟩:=À s;have R:Z w0 w [X W 3 P (fj N (fun _=>bZ) 0),am p7 22 [P]]:=by
  rw[jU,<-Lw N (fun _=>bZ)]at Y;exact Y.swap
 clear Y;have Y:=R;clear R;refine de [8,8,30,36] (G:=Nat) (fun k=>[(30,E k)]) (fun k w=>k<=N/\Z w0 w [X W 3 P (fj N (fun _=>bZ) k),am p7 22 [P]]) (fun k=>N-k) 0 (fun _=>rfl) ⟨rfl,az⟩ ⟨bC _,Y⟩ ?_;clear Y;rintro σ k w ⟨hk,Y⟩;have _y:=Fj N (fun _=>bZ) k;refine aC ?_ ?_<;>intro h1
 ·have d:k<N:=U
  refine dD ?_;clear Y;intro w Y;rw[show (1125899906842624:Int)=(fun _:Nat=>bZ) k from rfl,Lx]at Y;exact⟨k+1,⟨rfl,az⟩,aX,⟨U,Y⟩,U⟩
 have _X:k=N:=U;subst _X;clear _y h1;rw[qx8]at Y;refine qJ ?_;clear Y;intro s w Y;obtain⟨lv,rfl⟩:=À s;have R':=Fj o.length (fun i=>((un o (i:Int)).aG.length:Int)) 0;have R:Z w0 w [X W 3 lv (fj o.length (fun i=>((un o (i:Int)).aG.length:Int)) 0),X W 3 P (replicate k bZ),am p7 22 [P]]:=by
  rw[jU,_h,<-Lw o.length (fun i=>((un o (i:Int)).aG.length:Int))]at Y;exact Y
 clear Y;have Y:=R;clear R;refine de [10,11,48,59] (G:=Nat) (fun j=>[(48,E j)]) (fun j w=>j<=o.length/\Z w0 w [X W 3 lv (fj o.length (fun i=>((un o (i:Int)).aG.length:Int)) j),X W 3 P (replicate k bZ),am p7 22 [P]]) (fun j=>o.length-j) 0 (fun _=>rfl) ⟨rfl,az⟩ ⟨bC _,Y⟩ ?_;clear Y R';rintro σ1 j w ⟨hj,Y⟩;have _y:=Fj o.length (fun i=>((un o (i:Int)).aG.length:Int)) j;refine aC ?_ ?_<;>intro h1
 ·have j':j<o.length:=U
  have hu:=hU j j';have d:=qx9 hu;have r:=hu.aG;refine ep ?_;clear Y;intro p w Y;rw[show (((un o (j:Int)).aG.length:Nat):Int)=(fun i:Nat=>((un o (i:Int)).aG.length:Int)) j from rfl,Lx]at Y;exact⟨j+1,⟨rfl,az⟩,aX,⟨U,Y.tail⟩,U⟩
 have T':j=o.length:=U;subst T';clear _y h1;refine dj ?_;clear Y;intro H' w Y;obtain⟨r,_m⟩:=À (fj o.length (fun i=>((un o (i:Int)).aG.length:Int)) o.length);have R':r.length=o.length:=by rw[_m,Fj]
 have _p:∀ i:Nat,i<o.length->dg r i=(un o i).aG.length:=fun i hi=>by
  rw[_m];unfold dg;rw[jU,Rc hi hi]
 have R:Z w0 w (X aK 355 (nS) ([]:List cV)::am H' 352 [(nS)]::X W 3 P (replicate k bZ)::am p7 22 [P]::[X W 3 lv r]):=by
  have g1:Z w0 w [am H' 352 [nS],X W 3 lv r,X W 3 P (replicate k bZ),am p7 22 [P]]:=by rw[_m];exact Y
  exact(g1.nil (T:=aK) (e:=355)).cu
 clear Y;have Y:=R;clear R;obtain⟨S,hS⟩:=À (oH t.vars z);refine de [14,15,63,79] (G:=Nat) (fun j=>[(63,E j)]) (fun j w=>j<=z.length/\∃ qv Q D,xk o S k D Q/\dz aK.dflt iA Q/\Q.length<=j/\(∀ v:Nat,v<j->dg D (bP t.vars v+z.getD v W.dflt)<=0)/\Z w0 w (X aK 355 qv Q::am H' 352 [qv]::X W 3 P D::am p7 22 [P]::[X W 3 lv r])) (fun j=>z.length-j) 0 (fun _=>rfl) ⟨rfl,az⟩ ⟨bC _,_,_,_,xk.dt o S k,fun i h0 h1=>absurd h1 (eo _),cP _,fun v hv=>absurd hv (eo _),Y⟩ ?_;clear Y;rintro σ2 j w ⟨hj,qv,Q,D,u,hQ,_d,L,Y⟩;refine aC ?_ ?_<;>intro h1
 ·have j':j<z.length:=U
  have J':j<t.vars.length:=U;obtain⟨g0,g1,g2⟩:=Eu I.pos (fun i hi=>(I.pC i hi).2) _W J';have hz:=bX.2 j j';have _b:=I.pC j J';have P':=GD I.pos J' hz.1 hz.2;have _c:=BF t.vars t.vars.length;refine O ?_;refine xK (cs:=[.pointer (some p7),.pointer (some H')]) rfl rfl (OD u.dl (by rw[g0,_x];exact P') hQ U Y) ?_;clear Y;rintro _ w ⟨rfl,_a,Q2,_n,_e,Y⟩;refine⟨_,rfl,?_⟩;rw[g0]at _e Y;have V:0<=bP t.vars j+z.getD j W.dflt/\bP t.vars j+z.getD j W.dflt<(k:Int):=by rw[_x];exact P'
  have _f:=(u.J9 V (iq 0) (.start (by rw[hS];exact⟨j,J',rfl⟩))).qa _e;have _G:=OA D Q (bP t.vars j+z.getD j W.dflt) 0;have _H:=_e.length_eq;refine O ?_;refine⟨j+1,⟨rfl,az⟩,aX,⟨U,_a,Q2,_,_f,_n,U,fun v hv=>?_,Y⟩,U⟩;by_cases e:v=j
  ·rw[e];exact OB u.dl V
  have V':v<t.vars.length:=U;have h5:=bX.2 v U;have h6:=GD I.pos V' h5.1 h5.2;exact uJ (J8 u.dl V h6.1) (L v U)
 have T':j=z.length:=U;rw[T']at L _d;clear T' h1 hj;have _6:=Vo o;have _q:∀ g,S g->0<=g/\g<(k:Int)/\dg D g<=0:=fun g P'=>by
  rw[hS]at P';obtain⟨v,hv,rfl⟩:=P';have h5:=bX.2 v U;have h6:=GD I.pos hv h5.1 h5.2;rw[<-_x]at h6;exact⟨h6.1,h6.2,L v U⟩
 clear L;refine O ?_;refine de [17,17,85,118] (G:=Nat) (fun j=>[(85,E j)]) (fun j w=>j<=(eQ o).length/\∃ qv Q D,xk o S k D Q/\dz aK.dflt iA Q/\Q.length<=z.length+j/\(∀ g,S g->0<=g/\g<(k:Int)/\dg D g<=0)/\(∀ i:Nat,i<o.length->(i:Int)∈(eQ o).take j->dg D (un o i).aU<=(un o i).aT)/\Z w0 w (X aK 355 qv Q::am H' 352 [qv]::X W 3 P D::am p7 22 [P]::[X W 3 lv r])) (fun j=>(eQ o).length-j) 0 (fun _=>rfl) ⟨rfl,az⟩ ⟨bC _,qv,Q,D,u,hQ,_d,_q,fun i _ h=>by simp at h,Y⟩ ?_;clear Y u hQ _d _q qv Q D;rintro σ3 j w ⟨hj,qv,Q,D,u,hQ,_d,L,_b,Y⟩;refine aC ?_ ?_<;>intro h1
 ·have j':j<(eQ o).length:=U
  obtain⟨i,V',V,_k⟩:=Wt.1 (cS W.dflt j');have hu:=hU i V;have _I:=hu.op;have _l:=hu.aT;have _g:=hu.aU;have _c:((eQ o).getD j W.dflt).toNat=i:=by rw[V'];rfl
  have _J:0<=(eQ o).getD j W.dflt/\(eQ o).getD j W.dflt<(us.length:Int):=by rw[V',_h];omega
  refine O ?_;refine r7 rfl (UR (κ:=vP) (q:=(aB my us ((eQ o).getD j W.dflt).toNat).op) rfl rfl) ?_;refine O ?_;refine gi (pl [0,1,2,3,4,5,6,7,8,9,10,11,12,13,14,15,16,17] []) Y kr ?_;clear Y;intro w Y;refine O ?_;have J':=C.aU i V;have _K:=C.aT i V;refine xK (cs:=[.pointer (some p7),.pointer (some H')]) rfl rfl (OD u.dl (by rw[_c,_g];exact J') hQ U Y) ?_;clear Y;rintro _ w ⟨rfl,_a,Q2,_n,_e,Y⟩;refine⟨_,rfl,?_⟩;rw[_c,_g,_l]at _e Y;have _o:lC o S (un o i).aU (un o i).aT:=by
   have h5:=lC.kg (U':=o) (S:=S) (v:=fun _=>0) (m:=0) V (iq 0) (fun n hn=>by rw[_k]at hn;simp at hn) (fun n hn=>by rw[_k]at hn;simp at hn)
   rwa[Int.add_zero]at h5
  have _f:=(u.J9 J' _K.1 _o).qa _e;have _G:=OA D Q (un o i).aU (un o i).aT;have _H:=_e.length_eq;refine O ?_;refine⟨j+1,⟨rfl,az⟩,aX,⟨U,_a,Q2,_,_f,_n,U,fun g P' => ?_,fun i' _r hm=>?_,Y⟩,U⟩
  ·obtain⟨b1,b2,b3⟩:=L g P'
   exact⟨b1,b2,uJ (J8 u.dl J' b1) b3⟩
  rw[eX W.dflt j',V']at hm;rcases kK.1 hm with hm|hm
  ·exact uJ (J8 u.dl J' (C.aU i' _r).1) (_b i' _r hm)
  have e:i'=i:=by have:=fU.1 hm;omega
  rw[e];exact OB u.dl J'
 have T':j=(eQ o).length:=U;rw[T']at _d _b;clear T' h1 hj;rw[mK]at _b;refine qJ ?_;clear Y;intro s w Y;obtain⟨dv,rfl⟩:=À s;have _L:=u.start R' _p (fun i hi=>(C.aT i hi).1) (fun i hi hn=>_b i hi (Wt.2 ⟨i,rfl,hi,hn⟩));have R:Z w0 w (X aK 355 qv Q::am H' 352 [qv]::X W 3 P D::am p7 22 [P]::[X W 3 lv r,X ah 4 dv (uY [] k)]):=by
  rw[jU,<-qAs]at Y;exact Y.cu
 clear Y;have Y:=R;clear R;refine dP [19,20,22,22,124,204] (G:=J) (H:=List cV) (fun _ _=>[]) (fun dn Q w=>∃ qv D r m f,RI o S k D r dn Q m f (fun _=>True)/\dz aK.dflt iA Q/\dn.Nodup/\Q.length<=z.length+o.length+dn.length*o.length/\(∀ g,S g->0<=g/\g<(k:Int)/\dg D g<=0)/\Z w0 w (X aK 355 qv Q::am H' 352 [qv]::X W 3 P D::am p7 22 [P]::[X W 3 lv r,X ah 4 dv (uY dn k)])) (fun dn Q=>(k-dn.length)*(o.length+1)+Q.length) [] Q (fun _ _=>rfl) trivial ⟨qv,D,r,0,0,_L,hQ,Be,by simp;omega,L,Y⟩ ?_;clear Y u _L hQ _d L _b _p R' _m qv Q D r;rintro σ4 dn Q w ⟨qv,D,r,m,f,u,hQ,_z,_d,L,Y⟩;have hdl:=Kb _z fun g P'=>(u.set g P').1;have hmul:=xc (show dn.length<=4096 by omega) _V;refine O ?_;refine aR rfl (OC (bB (s:=qv) Y)) ?_;rintro _ w' ⟨rfl,aw⟩;refine aL ?_;clear aw Y;intro Y;refine aC ?_ ?_<;>intro h1
 ·have _Y:0<Q.length:=U
  refine O ?_;refine aR rfl (qiB hQ _Y U Y) ?_;clear Y;rintro _ w ⟨x,_a,ys,rfl,_A,hp,_r,Y⟩;refine⟨_,rfl,?_⟩;have _Z:=hp.length_eq;rw[length_cons]at _Z;have _n:=u.qa hp.symm;obtain⟨⟨x0,x1⟩,x2,x3,x4⟩:=_n.pS x ku;have _7:=qAr dn k;have hm0:=u.m0;have e3:bZ=1125899906842624:=rfl;refine dj ?_;clear Y;intro _M w Y;rw[qBa x0 x1];by_cases hx:x.aY∈dn
  ·have hd:decide (x.aY∈dn)=true:=dH hx
   simp only[hd];refine O ?_;exact⟨dn,ys,az,aX,⟨_a,D,r,m,f,_n.skip hx,_A,_z,U,L,Y.tail⟩,U⟩
  have hd:decide (x.aY∈dn)=false:=dB hx;simp only[hd]
  obtain⟨hT,_N,_,hT0,hT1⟩:=_n.take C hx (fun y hy=>by
   have h5:iA y x=false:=_r y (hp.mem_iff.2 (nt _ hy))
   exact tM.1 (of_decide_eq_false h5))
  have _s:(x.aY::dn).Nodup:=wW.2 ⟨hx,_z⟩;have _P:=Kb _s fun g P'=>(hT.set g P').1;rw[length_cons]at _P;have hnl:=Ws o x.aY;have _8:RS W w0 (cL ss x.aY.toNat) (e7 o x.aY):=by
   have h5:=_w x.aY.toNat U
   rwa[jW x0]at h5
  refine jD ?_;clear Y;intro w Y;refine qM ?_;clear Y;intro w Y;rw[qAt x0 x1]at Y;refine O ?_;have R:Z w0 w (X aK 355 _a ys::am H' 352 [_a]::X W 3 P D::am p7 22 [P]::[X W 3 lv r,X ah 4 dv (uY (x.aY::dn) k),am _M 355 [E x.cr,E x.aY]]):=Y.cu;clear Y;have Y:=R;clear R;have _Q:=hT.Ka (ok':=fun i=>x.aY∉(un o i).aG\/(i:Int)∈(e7 o x.aY).take 0) (fun i=>by simp);refine de [22,22,155,204] (G:=Nat) (fun j=>[(155,E j)]) (fun j w=>j<=(e7 o x.aY).length/\∃ qv Q D r,RI o S k D r (x.aY::dn) Q x.cr x.aY (fun i=>x.aY∉(un o i).aG\/(i:Int)∈(e7 o x.aY).take j)/\dz aK.dflt iA Q/\Q.length<=ys.length+j/\dg D x.aY=x.cr/\(∀ g,S g->0<=g/\g<(k:Int)/\dg D g<=0)/\Z w0 w (X aK 355 qv Q::am H' 352 [qv]::X W 3 P D::am p7 22 [P]::[X W 3 lv r,X ah 4 dv (uY (x.aY::dn) k),am _M 355 [E x.cr,E x.aY]])) (fun j=>(e7 o x.aY).length-j) 0 (fun _=>rfl) ⟨rfl,az⟩ ⟨bC _,_a,ys,D,r,_Q,_A,cP _,_N,L,Y⟩ ?_;clear Y u _n hT _Q hQ hp _r _N L x2 _A;rintro σ5 j w ⟨hj,qv,Q5,D,r,u,hQ,_0,_B,L,Y⟩;have R':=u.ll;refine aC ?_ ?_<;>intro h2
  ·have j':j<(e7 o x.aY).length:=U
   obtain⟨i,V',V,_k⟩:=Wd.1 (cS W.dflt j');have hu:=hU i V;have _I:=hu.op;have _l:=hu.aT;have _g:=hu.aU;have _c:((e7 o x.aY).getD j W.dflt).toNat=i:=by rw[V'];rfl
   have _J:0<=(e7 o x.aY).getD j W.dflt/\(e7 o x.aY).getD j W.dflt<(us.length:Int):=by rw[V',_h];omega
   have hb1:(e7 o x.aY).getD j W.dflt<(r.length:Int):=by rw[R',<-_h];exact _J.2
   have _e:¬(x.aY∉(un o i).aG\/(i:Int)∈(e7 o x.aY).take j):=by
    rintro (h5|h5)
    ·exact h5 _k
    obtain⟨i2,_t,_o⟩:=ga h5;rw[Fm]at _o;rw[jC]at _t;have h6:=u9.1 (qqV o x.aY) i2 j U j' U;rw[aq j']at V';exact h6 (by rw[_o,V'])
   obtain⟨hl1,_G⟩:=u.xD i V _e;have _H:=qBj dn (un o i).aG;have hl5:=Oj hx (C.nd i V) _k;have hl4:=hu.aG.cn;have hlv:r.getD ((e7 o x.aY).getD j W.dflt).toNat W.dflt=dg r i:=by rw[_c];rfl
   have hlb:1<=dg r i/\dg r i<=9223372036854775807:=U;have _t:(r.set ((e7 o x.aY).getD j W.dflt).toNat (r.getD ((e7 o x.aY).getD j W.dflt).toNat W.dflt-1))=r.set i (dg r i-1):=by rw[_c];rfl
   have _9:(r.set ((e7 o x.aY).getD j W.dflt).toNat (r.getD ((e7 o x.aY).getD j W.dflt).toNat W.dflt-1)).length=r.length:=sm;have _R:(r.set ((e7 o x.aY).getD j W.dflt).toNat (r.getD ((e7 o x.aY).getD j W.dflt).toNat W.dflt-1)).getD ((e7 o x.aY).getD j W.dflt).toNat W.dflt=dg r i-1:=by
    rw[_t,_c];have:i<r.length:=U;simp[List.getD,this]
   have _u:∀ i':Nat,(x.aY∉(un o i').aG\/(i':Int)∈(e7 o x.aY).take j)\/i'=i↔x.aY∉(un o i').aG\/(i':Int)∈(e7 o x.aY).take (j+1):=fun i'=>by
    rw[eX W.dflt j',V'];simp only[kK,fU];constructor
    ·rintro ((h|h)|h)
     ·exact .inl h
     ·exact .inr (.inl h)
     exact .inr (.inr (by rw[h]))
    rintro (h|h|h)
    ·exact .inl (.inl h)
    ·exact .inl (.inr h)
    exact .inr U
   refine jD ?_;clear Y;intro w Y;rw[_R];rw[_t]at Y;by_cases _o:dg r i-1=0
   ·have _C:decide (dg r i-1=0)=true:=dH _o
    try simp only[_C];refine BK ?_
    refine O ?_;refine r7 rfl (UR (κ:=vP) (q:=(aB my us ((e7 o x.aY).getD j W.dflt).toNat).op) rfl rfl) ?_;refine O ?_;have J':=C.aU i V;have _K:=C.aT i V;have _1:(aB my us ((e7 o x.aY).getD j W.dflt).toNat).aT=(un o i).aT:=by rw[_c];exact _l
    have _S:(aB my us ((e7 o x.aY).getD j W.dflt).toNat).aU=(un o i).aU:=by rw[_c];exact _g
    refine gi (pl [0,1,2,3,4,5,6,7,8,9,10,11,12,13,14,15,16,17,18,19,20] []) Y kr ?_;clear Y;intro w Y;refine O ?_;refine xK (cs:=[.pointer (some p7),.pointer (some H')]) rfl rfl (OD u.dl (by rw[_S];exact J') hQ U Y) ?_;clear Y;rintro _ w ⟨rfl,_2,Q6,_3,_D,Y⟩;refine⟨_,rfl,?_⟩;rw[_S,_1]at _D Y;have _4:=u.Hj V _e _o (C.aG i V);have _f:=(u.J9 (v:=x.cr+(un o i).aT) J' U _4).qa _D;have _5:=OB (v:=x.cr+(un o i).aT) u.dl J';have _v:=qxq (v:=x.cr+(un o i).aT) u.dl J' x0 _B U;have hl7:=OA D Q5 (un o i).aU (x.cr+(un o i).aT);have hl8:=_D.length_eq;have _E:=(_f.count V _e (.inr _5) _v).Ka _u;refine O ?_;refine⟨j+1,⟨rfl,az⟩,aX,⟨U,_2,Q6,_,_,_E,_3,U,_v,fun g P' => ?_,Y⟩,U⟩;obtain⟨b1,b2,b3⟩:=L g P';exact⟨b1,b2,uJ (J8 u.dl J' b1) b3⟩
   have _C:decide (dg r i-1=0)=false:=dB _o
   try simp only[_C];refine BK ?_
   refine O ?_;have _E:=(u.count V _e (.inl _o) _B).Ka _u;exact⟨j+1,⟨rfl,az⟩,aX,⟨U,qv,Q5,D,_,_E,hQ,U,_B,L,Y⟩,U⟩
  have T':j=(e7 o x.aY).length:=U;rw[T']at u _0;rw[mK]at u
  have _f:=u.Ka (ok':=fun _=>True) (fun i=>⟨fun _=>trivial,fun _=>by
   by_cases h5:x.aY∈(un o i).aG
   ·by_cases h6:i<o.length
    ·exact .inr (Wd.2 ⟨i,rfl,h6,h5⟩)
    have V:un o i=J2:=by unfold un;simp[List.getD,Fi h6]
    rw[V]at h5;simp[J2]at h5
   exact .inl h5⟩)
  refine O ?_;have V:=z6 (k-(dn.length+1)) (o.length+1);rw[show (k-(dn.length+1)).succ=k-dn.length by omega]at V;refine⟨x.aY::dn,Q5,az,aX,⟨qv,D,r,x.cr,x.aY,_f,hQ,_s,?_,L,Y.cu⟩,?_⟩
  ·rw[length_cons,z6];omega
  rw[length_cons];omega
 have V:Q=[]:=qD U;rw[V]at u;refine O ?_;refine bo (v:=P) rfl rfl ⟨P,D,rfl,⟨by rw[u.dl,_i],by rw[<-_i];exact u.et,?_,?_⟩,Y.bj⟩
 ·rw[<-_i,<-_j,<-hS];exact u.sd
 rw[<-_i,<-_j,<-hS];exact u.qE C L
def qU.at {w0 w:World}{Γ:List HP}{F:Addr}{t:aa}(h:qU w0 F t)(Y:Z w0 w Γ):qU w F t:=by
 obtain⟨a,c,y,C,D,k,us,G,m,H,L,n,o,r,d,u,e,v,x⟩:=h.ex;exact⟨a,c,y,C,D,k,us,G,m.at Y,H.at Y,L.at Y,n.at Y,o.at Y,r,fun i g=>⟨(d i g).op,(d i g).fS,(d i g).aT,(d i g).aU,(d i g).aG.at Y⟩,u.at Y,e,fun f n=>(v f n).at Y,x.at Y⟩
def qvQ {t:aa}(H:qU w0 F t)(I:aJ t)(L:RS W w0 sv z)(bX:aj t.vars z) :
  Calls ak 261 #[.pointer (some F),sv] w0 fun e w'=>e=.returned (E (dC t z))/\Z w0 w' []:=by
 have n:=H;obtain⟨a,c,fv,uv,nv,P,us,ss,o,Q,hc,R,T,V,hU,j',N,H',J'⟩:=H.ex;have P':=tR I.aF;have u:=I.vars;have Y:=Z.start w0;refine bI ar Tryz.func261 ?_;refine O ?_;refine aR rfl (zW (Q.at Y) (L.at Y)) ?_;rintro _ w' ⟨⟨r,rfl,x⟩,aw⟩;refine aL ?_;clear aw Y;intro Y;have y:r=true:=x.2 bX;subst y;refine O ?_;refine aR rfl (qnb (n.at Y) I (L.at Y) bX) ?_;rintro _ w' ⟨ov,out,rfl,d,aw⟩;refine aO ?_;clear aw Y;intro Y;have C:=d.len;refine O ?_;refine de [6,6,8,8,28,40] (G:=Nat) (fun k=>[(28,E k),(6,E (dy t.vars (t.aF.take k) out))]) (fun k w=>k<=t.aF.length/\Z w0 w [X W 3 ov out]) (fun k=>t.aF.length-k) 0 (fun _=>rfl) ⟨rfl,rfl,az⟩ ⟨bC _,Y⟩ ?_;clear Y;rintro σ k w ⟨hk,Y⟩;refine aC ?_ ?_<;>intro h1
 ·have g:k<t.aF.length:=U
  have m:=(I.aF k g).1;refine dj ?_;intro p w Y;refine aR rfl (MX (f:=t.aF.getD k aD.dflt) (o.at Y) (R.at Y) I.pos (fun i hi=>(I.pC i hi).2) u m) ?_;rintro _ w' ⟨rfl,aw⟩;refine aL ?_;clear aw Y;intro Y;have D:=xh I.pos m;rw[<-uV I,<-C]at D;have e:(if out.getD (eC t.vars (t.aF.getD k aD.dflt)).toNat W.dflt>dy t.vars (t.aF.take k) out then out.getD (eC t.vars (t.aF.getD k aD.dflt)).toNat W.dflt else dy t.vars (t.aF.take k) out)=dy t.vars (t.aF.take (k+1)) out:=by
   rw[eX aD.dflt g,Ol];unfold dg;split<;>omega
  refine O ?_;exact⟨k+1,⟨rfl,by rw[<-e];rfl,az⟩,aX,⟨U,Y.tail⟩,U⟩
 have g:k=t.aF.length:=U;rw[g,mK];refine O ?_;exact bo (v:=E (dy t.vars t.aF out)) rfl rfl ⟨by rw[yf bX d],Y.bj⟩
instance HA:rn ak 97 "Value" 262 := ⟨kr⟩
def qrT {t:aa}(c:qU w0 F t)(I:aJ t)(d:RS W w0 sv z)(bX:aj t.vars z) :
  Calls ak 262 #[.agg #[.pointer (some F)],sv] w0 fun e w'=>e=.returned (E (dC t z))/\Z w0 w' []:=by
 have Y:=Z.start w0;refine bI ar Tryz.func262 ?_;refine ep ?_;intro p w Y;refine aR rfl (qvQ (c.at Y) I (d.at Y) bX) ?_;rintro _ w' ⟨rfl,aw⟩;refine aL ?_;clear aw Y;intro Y;refine O ?_;exact bo (v:=E (dC t z)) rfl rfl ⟨rfl,Y.bj⟩
def quz {t:aa}(h:qU w F t)(I:aJ t):gW w (.iface 97 (.agg #[.pointer (some F)])) t (dC t) :=
 ⟨_,_,_,_,rfl,HH _,inferInstance,fun _ _ _ _ d c bX=>qrT (h.at d) I c bX⟩
def Rz {a b c d:Value}{vs:List kq}{t:aa}(m:bR w0 a b c d vs t)(I:aJ t) :
  Calls ak 27 #[.agg #[a,b,c,d]] w0 fun e w'=>∃ p,e=.returned (.tuple #[.pointer (some p),.nilIface])/\Z w0 w' [bA fun w=>cF w p t (dC t)]:=by
 have Y:=Z.start w0;refine bI ar Tryz.func27 ?_;refine dj ?_;intro n w Y;refine aR rfl (ĵ (m.at Y) I) ?_;rintro _ w' ⟨F,rfl,aw⟩;refine aO ?_;clear aw Y;intro Y;refine O ?_;refine aR rfl (zT (h:=.iface 97 (.agg #[.pointer (some F)])) (H:=dC t) (m.at Y) I ⟨_,_,rfl⟩) ?_;rintro _ w' ⟨f,rfl,aw⟩;refine aO ?_;clear aw Y;intro Y;refine O ?_;have g:Z w0 w' [bA fun w=>gW w (.iface 97 (.agg #[.pointer (some F)])) t (dC t)->cF w f t (dC t),bA fun w=>qU w F t,am n 26 [a,b,c,d]]:=Y;have k:=Z.rd (Δ:=[bA fun w=>gW w (.iface 97 (.agg #[.pointer (some F)])) t (dC t)->cF w f t (dC t),bA fun w=>qU w F t]) (φ:=fun w=>cF w f t (dC t)) (fun _ w h=>(h.dQ 0 rfl) (quz (h.dQ 1 rfl) I)) g;exact dw (v:=.pointer (some f)) (v':=.nilIface) rfl rfl rfl ⟨f,rfl,k.bj⟩
end
section
open Go.Sl
def qzS (h1:a.br=b.br)(h2:a.cU=b.cU)(c:a.dst=b.dst):a=b:=by
 cases a;simp_all
def Wu (h1:¬fE a b<0)(h2:¬fE b a<0):a=b:=by
 rw[yt]at h1 h2;exact qzS U U U
def Wv {c:dr}(h1:fE a b<0)(h2:fE b c<0):fE a c<0:=by
 rw[yt]at h1 h2 ⊢;omega
def OE {S:ct}(h1:1<=S.st)(h2:S.st<=4096)(d:0<=S.cj/\S.cj<S.st)(f:(S.aW.length:Int)=S.st)(g:S.aN.length<=4096)(k:S.aH.length<=65536)(m:∀ c∈S.aN,0<=c/\c<=1048576)
  (n:∀ e∈S.aH,(0<=e.br/\e.br<S.st)/\(0<=e.dst/\e.dst<S.st)/\0<=e.cU/\e.cU<S.aN.length)(o:S.aH.Pairwise fun a b=>fE a b<0):cW S :=
 ⟨h1,h2,d.1,d.2,f,g,k,m,n,fun i u r=>by
  rw[aq U,aq r]
  exact u9.1 o _ _ _ _ U⟩
def cW.pw {S:ct}(h:cW S):S.aH.Pairwise fun a b=>fE a b<0:=by
 have h:=h.2.2.2.2.2.2.2.2.2;rw[u9];intro i j e f c;have key:∀ k,(hk:i+k+1<S.aH.length)->fE S.aH[i] S.aH[i+k+1]<0:=by
  intro k
  induction k with
  | zero=>intro hk;have:=h (i+1) U U;grind
  | succ k d =>
   intro hk;have h1:=d U;have:=h (i+k+1+1) U U;rw[aq U,aq U]at this;simp only[Nat.add_sub_cancel]at this;exact Wv h1 this
 have:=key (j-i-1) U
 simpa [show i+(j-i-1)+1=j by omega] using this
section
variable {t:aa}{S A B:ct}
def OF (d:fx t){p:J}(f:jX t.vars p):cW (dY t p):=by
 have I:=d.dJ;have hm:=d.many;have C:=d.M;have g:=EZ I.pos f.mem;have D:=D2 I.pos f;have k:(aP t.vars).length<=512:=by rw[z8 I.pos];omega
 have G:=UC t p;have r:t.M.length*(aP t.vars).length<=20*512:=xc C k;have H:=tC t;refine OE g (by show bG t.vars p<=_;omega) (qF I.dt f.mem) ?_ (by show (ao t).length<=_;omega) (by show (cm t p).length<=_;omega) (zp I) (fun e he=>?_) ?_
 ·show ((eT t p (bG t.vars p).toNat).length:Int)=bG t.vars p
  rw[KU];omega
 ·obtain⟨a,op,b,h1,m,c,_,rfl⟩:=EY.1 he
  exact⟨h1,c,by grind,by show (op:Int)<((ao t).length:Int);omega⟩
 show (jL t p _).Pairwise _;unfold jL;rw[IB];refine⟨fun a _=>?_,Bj.imp fun {a N} m x hx y c=>?_⟩
 ·unfold kB
  rw[IB];refine⟨fun op _=>?_,Bj.imp fun {o L} m x hx y c=>?_⟩
  ·unfold mI
   rw[zB];refine(Jo _ _).imp ?_;intro x y n;exact yt.2 (.inr ⟨rfl,.inr ⟨rfl,n⟩⟩)
  unfold mI at hx c;obtain⟨u,_,rfl⟩:=iG.1 hx;obtain⟨v,_,rfl⟩:=iG.1 c;exact yt.2 (.inr ⟨rfl,.inl (by grind)⟩)
 unfold kB mI at hx c;obtain⟨o,_,hx⟩:=tN.1 hx;obtain⟨L,_,c⟩:=tN.1 c;obtain⟨u,_,rfl⟩:=iG.1 hx;obtain⟨v,_,rfl⟩:=iG.1 c;exact yt.2 (.inl (by grind))
def qzT {c:J}{k:Int}(hv:cW S)(hk:0<=k)(f:gK c S.st k):eU S c=0/\cW (jK S c)/\(jK S c).st=k/\(jK S c).aN=S.aN:=by
 obtain⟨o,r⟩:=TH hk f;have n:eU S c=0:=by unfold eU;rw[ba ⟨Cx hv,o⟩]
 have u:jK S c=⟨k,c.getD S.cj.toNat W.dflt,S.aN,ml (gF fE (S.aH.map (qT c))),qo S.aW c k.toNat⟩:=by unfold jK;rw[ba n,r]
 rw[u];refine⟨n,?_,rfl,rfl⟩;have g:=Ww f hv.1;have d:=f;obtain⟨c1,c2,L,v⟩:=f;obtain⟨v1,v2,v3,v4,v5,v6,N,C,v9,_⟩:=hv;have D:k<=S.st:=by have:=c2 _ (v (k-1) U U);omega
 refine OE g (by grind) (GG d v3 v4) ?_ v6 ?_ C (fun e he=>?_) ?_
 ·show ((qo S.aW c k.toNat).length:Int)=k
  have:(qo S.aW c k.toNat).length=k.toNat:=by simp[qo]
  omega
 ·have h1:=Oe (gF fE (S.aH.map (qT c)))
  rw[Et qk,lA]at h1
  grind
 ·have h1:=(GB qk).1 (JS.1 he)
  obtain⟨x,hx,rfl⟩:=iG.1 h1;obtain⟨⟨m,s1⟩,⟨d0,d1⟩,G,H⟩:=v9 x hx;exact⟨GG d m s1,GG d d0 d1,G,H⟩
 exact VX (lt:=fun a b=>fE a b<0) (fun x y h1 m=>Wu h1 m) (fun x y z h1 m=>Wv h1 m) (VW qk)
def qAX (hv:cW S):∃ L:List ByteArray,L.length=S.st.toNat/\oI S=dX L:=by
 have k:(S.aW.length:Int)=S.st:=hv.2.2.2.2.1;have key:∀ m (L:List ByteArray) j,L.length=S.st.toNat->ln (jc S) j (pK S)=(dX L,(cR L).length,false)->S.st.toNat+1-(cR L).length<=m->∃ L:List ByteArray,L.length=S.st.toNat/\oI S=dX L:=by
  intro m
  induction m with
  | zero =>
   intro L j f _ hm;have:=BC L
   omega
  | succ m v =>
   intro L j f o hm;have r:=BC L;have c:ln (jc S) (j+1) (pK S)=(dX (jr S (dX L)),(cR (jr S (dX L))).length,decide ((cR (jr S (dX L))).length=(cR L).length)):=by
    show jc S (ln (jc S) j (pK S))=_;rw[o];rfl
   have d:=Tx (S:=S) (l:=L) f;have e:=Tz S (dX L);have g:=BC (jr S (dX L));by_cases u:(cR (jr S (dX L))).length=(cR L).length
   ·rw[dH u]at c
    refine⟨jr S (dX L),e,?_⟩;unfold oI;rw[li (TA S) (n:=j+1) (by rw[c];rfl),c]
   grind
 exact key _ (S.aW.map lJ) 0 (by grind) rfl (cP _)
def qzU (L:List ByteArray):gK (dX L) L.length (cR L).length:=by
 have d:=BC L;have f:∀ x∈dX L,0<=x/\x<((cR L).length:Int):=fun x hx=>by
  obtain⟨i,c,rfl⟩:=ga hx;have h1:=Er (l:=L) (i:=i) (by rw[Au]at c;exact c)
  grind
 refine⟨by rw[Au],fun x hx=>?_,fun x hx=>(f x hx).2,fun x g h1=>?_⟩
 ·grind
 obtain⟨i,c,e⟩:=V3 (l:=L) (v:=x.toNat) U;rw[jW g]at e;rw[<-e];exact cS _ (by rw[Au];exact c)
def qAY {C:J}{n:Int}{k c:Nat}(h:gK C n k)(h1:i<c)(h2:c<k):gK (C.map (oD i c)) n ((k-1:Nat):Int):=by
 obtain⟨c1,c2,f,d⟩:=h;refine⟨by grind,fun x hx=>?_,fun x hx=>?_,fun x g hx=>?_⟩
 ·obtain⟨y,e,rfl⟩:=iG.1 hx
  have a:=c2 y e;have b:=c2 _ (d (c:Int) U U);unfold oD;omega
 ·obtain⟨y,e,rfl⟩:=iG.1 hx
  have a:=f y e;unfold oD;omega
 by_cases hk:x<(c:Int)
 ·refine iG.2 ⟨x,d x g U,?_⟩
  unfold oD;omega
 refine iG.2 ⟨x+1,d (x+1) U U,?_⟩;unfold oD;omega
def qzV (hv:cW S){M':Int}(h1:1<=M')(h2:M'<=4096):∃ k:Nat,(k:Int)<=M'/\gK (iy S M') S.st k:=by
 obtain⟨L,Q,u⟩:=qAX hv;have v:=hv.1;have x:(max 1 (min M' 4096)).toNat=M'.toNat:=U;have d:=qzU L;rw[<-u,show (L.length:Int)=S.st by omega]at d;have y:kh (oI S)+1=((cR L).length:Int):=by
  have f:0<(oI S).length:=by obtain⟨c1,_⟩:=d;omega
  have e:=Jd f;obtain⟨c1,c2,o,r⟩:=d;have a:=o _ e;have b:=c2 _ e;have c:=TC (r (((cR L).length:Int)-1) U U);omega
 have D:(xW S.aW (oI S) (kh (oI S)+1).toNat).length=(cR L).length:=by
  have:(xW S.aW (oI S) (kh (oI S)+1).toNat).length=(kh (oI S)+1).toNat:=by simp[xW]
  omega
 unfold iy;rw[x];rw[<-D]at d;generalize xW S.aW (oI S) (kh (oI S)+1).toNat=G0 at d ⊢;generalize oI S=C0 at d ⊢;have key:∀ m (C:J) (G:List Bool) j,ln (il M'.toNat) j (C0,G0)=(C,G)->gK C S.st G.length->G.length<=m->∃ k:Nat,(k:Int)<=M'/\gK (qy (il M'.toNat) (o9 M'.toNat) (C0,G0)).1 S.st k:=by
  intro m
  induction m with
  | zero =>
   intro C G j f d hm;rw[li (MO M'.toNat) (n:=j) (by rw[f];unfold o9;grind),f]
   grind
  | succ m H =>
   intro C G j f d hm;by_cases N:G.length<=M'.toNat
   ·rw[li (MO M'.toNat) (n:=j) (by rw[f];unfold o9;grind),f]
    grind
   obtain⟨P,r⟩:=TD (g:=G) U;have e:ln (il M'.toNat) (j+1) (C0,G0)=(C.map (oD (sN G).1 (sN G).2),G.eraseIdx (sN G).2):=by
    show il M'.toNat (ln (il M'.toNat) j _)=_;rw[f];unfold il;rw[aM N]
   have o:(G.eraseIdx (sN G).2).length=G.length-1:=L0 r;refine H _ _ (j+1) e ?_ U;rw[o];exact qAY d P r
 exact key _ C0 G0 0 rfl d (cP _)
def OG {M':Int}(hv:cW S)(h1:1<=M')(h2:M'<=4096):cK S M'=0/\cW (dV S M')/\(dV S M').st<=M'/\(dV S M').aN=S.aN:=by
 by_cases hm:S.st<=M'
 ·have c:cK S M'=0:=by unfold cK;rw[ba hm]
  have d:dV S M'=S:=by unfold dV;rw[ba hm]
  grind
 have d:dV S M'=jK S (iy S M'):=by unfold dV;rw[aM hm,ba hv]
 have c:cK S M'=eU S (iy S M'):=by unfold cK;rw[aM hm,ba hv]
 obtain⟨k,hk,e⟩:=qzV hv h1 h2;obtain⟨f,g,m,n⟩:=qzT hv U e
 grind
def OH {x y x' c b:Int}(h:x*b+y=x'*b+c)(h1:0<=y)(h2:y<b)(e:0<=c)(f:c<b):x=x'/\y=c:=by
 have key:∀ {u v p q:Int},u<v->0<=p->p<b->0<=q->u*b+p<v*b+q:=fun {u v p q} g _ k hq=>by
  have d:(u+1)*b<=v*b:=zF U U
  grind
 rcases Int.lt_trichotomy x x' with d|d|d
 ·grind
 ·grind
 have:=key d e f h1;omega
def AK (c:l<S.aN.length){e:dr}:e∈(da S).getD l []↔e∈S.aH/\e.cU=(l:Int):=Aw (g:=fun e:dr=>e.cU) c
def OI (hv:cW S)(c:l<S.aN.length):((da S).getD l []).Pairwise fun a b=>fE a b<0:=by
 unfold da;rw[Gz c];exact hv.pw.filter _
def Wx (hv:cW S)(m:l<S.aN.length):((da S).getD l []).length<=S.st.toNat*S.st.toNat:=by
 have h1:=hv.1;have he:=hv.2.2.2.2.2.2.2.2.1;have d:=OI hv m;have f:=fun {e:dr}=>AK (S:=S) m (e:=e);generalize (da S).getD l []=E_ at d f ⊢;have c:∀ e∈E_,((0<=e.br/\e.br<S.st)/\(0<=e.dst/\e.dst<S.st))/\e.cU=(l:Int):=fun e hm=>by
  grind
 have g:(E_.map fun e=>e.br*S.st+e.dst).Nodup:=by
  rw[IC,zB];refine DG (fun {a b} o r k e=>?_) d;obtain⟨⟨_,a2⟩,a3⟩:=c a o;obtain⟨⟨_,n⟩,u⟩:=c b r;obtain⟨x,y⟩:=OH e a2.1 a2.2 n.1 n.2;rw[yt]at k;omega
 have n:=JX (N:=S.st.toNat*S.st.toNat) g fun v hm=>by
  obtain⟨e,k,rfl⟩:=iG.1 hm;obtain⟨⟨o,a2⟩,_⟩:=c e k;have:=GH o.1 o.2 a2.1 a2.2
  grind
 grind
def Wy (d:cW A)(e:cW B)(f:A.aN=B.aN)(g:A.st*B.st<=20):∀ k,k<=A.aN.length->kG A B k<=k*400
 | 0,_=>by simp[kG]
 | k+1,hk=>by
  have n:=Wy d e f g k U;have h1:=Wx d (l:=k) U;have m:=Wx e (l:=k) (by grind);have o:=d.1;have r:=e.1;have c:A.st.toNat*B.st.toNat<=20:=by
   have u:((A.st.toNat*B.st.toNat:Nat):Int)=A.st*B.st:=by
    rw[D8,jW U,jW U]
   omega
  have u:=xc h1 m;have v:A.st.toNat*A.st.toNat*(B.st.toNat*B.st.toNat)=(A.st.toNat*B.st.toNat)*(A.st.toNat*B.st.toNat):=Nat.mul_mul_mul_comm ..;have x:=xc c c;rw[F8];omega
def qzW (v:cW A)(C:cW B)(T:A.aN=B.aN):(nK A B).Nodup:=by
 have V:=v.2.2.2.2.2.2.2.2.1;have m:=C.2.2.2.2.2.2.2.2.1;rw[IC];unfold nK;rw[IB];refine⟨fun l n=>?_,Bj.imp fun {l l'} d x hx y D e=>?_⟩
 ·rw[mem_range]at n
  have c:l<B.aN.length:=by rw[<-T];exact n
  rw[IB];refine⟨fun e he=>?_,DG (fun {e e'} r o d x hx y D g=>?_) (OI v n)⟩
  ·rw[zB]
   refine DG (fun {f G} u k d g=>?_) (OI C c);obtain⟨f1,f2⟩:=(AK c).1 u;obtain⟨g1,g2⟩:=(AK c).1 k
   injection g with H x2 L
   rw[yt]at d;omega
  obtain⟨f,u,rfl⟩:=iG.1 hx;obtain⟨G,k,rfl⟩:=iG.1 D;obtain⟨f1,f2⟩:=(AK c).1 u;obtain⟨g1,g2⟩:=(AK c).1 k;obtain⟨e1,e2⟩:=(AK n).1 r;obtain⟨e3,e4⟩:=(AK n).1 o;obtain⟨N,P,_⟩:=m f f1;obtain⟨Q,R,_⟩:=m G g1
  injection g with H x2 L
  have y1:=OH H N.1 N.2 Q.1 Q.2;have y2:=OH L P.1 P.2 R.1 R.2;rw[yt]at d;omega
 grind
def qzX (g:cW A)(k:cW B)(m:A.aN=B.aN)(y:A.st*B.st<=20)(V:A.aN.length<=20):dG A B=0/\cW (iM A B)/\(iM A B).st=A.st*B.st/\(iM A B).aN=A.aN:=by
 have hm:=Wy g k m y A.aN.length (cP _);have x:dG A B=0:=by
  unfold dG;rw[ba ⟨g,k,m⟩,aM U,aM (by show ¬65536<kG A B A.aN.length;omega)]
 have C:iM A B=⟨A.st*B.st,A.cj*B.st+B.cj,A.aN,gF fE (nK A B),nL A B⟩:=by unfold iM;rw[ba x]
 rw[C];refine⟨x,?_,rfl,rfl⟩;have n:=qzW g k m;have o:=Jh A B A.aN.length;rw[MR]at o;obtain⟨D,a2,a3,a4,a5,G,a7,H,a9,_⟩:=g;obtain⟨L,b2,N,P,b5,b6,b7,b8,Q,_⟩:=k;have d:1<=A.st*B.st:=by
  have:=w9 D L U U
  simpa using this
 refine OE d (by grind) (GH a3 a4 N P) ?_ G ?_ H (fun e he=>?_) ?_
 ·show ((ni A B A.st.toNat).length:Int)=A.st*B.st
  rw[Jf,D8,jW U,jW U]
 ·show (gF fE (nK A B)).length<=_
  rw[Et qk];omega
 ·obtain⟨l,c,h1⟩:=tN.1 ((GB qk).1 he)
  rw[mem_range]at c;have r:l<B.aN.length:=by rw[<-m];exact c
  obtain⟨R,u,v⟩:=tN.1 h1;obtain⟨f,T,rfl⟩:=iG.1 v;obtain⟨s1,d1,_⟩:=a9 R ((AK c).1 u).1;obtain⟨s2,d2,_⟩:=Q f ((AK r).1 T).1;exact⟨GH s1.1 s1.2 s2.1 s2.2,GH d1.1 d1.2 d2.1 d2.2,by grind,by grind⟩
 have h1:=VW qk (l:=nK A B);have v:(gF fE (nK A B)).Pairwise (·≠·):=IC.1 ((Oc qk).nodup_iff.2 n);exact(h1.and v).imp fun {a b} h=>oE fun c=>h.2 (Wu c h.1)
end
def zk:j6 20=4:=by
 obtain⟨h1,c⟩:=VD 20;have d:=c 4 dc;generalize j6 20=r at h1 d;have:r=0\/r=1\/r=2\/r=3\/r=4:=U
 grind
def Hk {a b x y:Int}(n:1<=a)(f:a<=4096)(o:1<=b)(g:b<=4096)(k:0<=x)(hx:x<=(nq 20 a b).1)(d:0<=y)(c:y<=(nq 20 a b).2):x*y<=20:=by
 unfold nq at hx c;rw[zk]at hx c;have m:((4:Nat):Int)=4:=rfl;rw[m]at hx c;by_cases h:a*b>20
 ·rw[ba h]at hx c
  by_cases h1:a<=4
  ·rw[ba h1]at hx c
   have:a=1\/a=2\/a=3\/a=4:=U;have hm:=w9 hx c d U
   grind
  rw[aM h1]at hx c;by_cases e:b<=4
  ·rw[ba e]at hx c
   have:b=1\/b=2\/b=3\/b=4:=U;have hm:=w9 hx c d U
   grind
  rw[aM e]at hx c;have hm:=w9 hx c d dc;omega
 rw[aM h]at hx c;have hm:=w9 hx c d U
 grind
def qta {a b:Int}(g:1<=a)(c:a<=4096)(k:1<=b)(d:b<=4096):(1<=(nq 20 a b).1/\(nq 20 a b).1<=4096)/\1<=(nq 20 a b).2/\(nq 20 a b).2<=4096:=by
 unfold nq;rw[zk];have e:((4:Nat):Int)=4:=rfl;rw[e];by_cases h:a*b>20
 ·rw[ba h]
  by_cases h1:a<=4
  ·rw[ba h1]
   have:a=1\/a=2\/a=3\/a=4:=U
   grind
  rw[aM h1];by_cases f:b<=4
  ·rw[ba f]
   have:b=1\/b=2\/b=3\/b=4:=U
   grind
  grind
 grind
section
variable {t:aa}
def Wz {k:Nat}(hk:k<t.vars.length):jX t.vars [(k:Int)]:=⟨fun v hv=>by grind,sm⟩
def WA (c:fx t):∀ k,k<t.vars.length->(kb t 20 (k+1)).vg=0/\cW (kb t 20 (k+1)).eY/\(kb t 20 (k+1)).eY.aN=ao t/\(kb t 20 (k+1)).eY.st<=20
 | 0,hk=>by
  have d:=Wz hk;have e:kb t 20 1=nZ t 20 0:=rfl;rw[e];have x:dh t [(0:Int)]=0:=(Ez c d).1;obtain⟨h1,f,g,m⟩:=OG (M':=20) (OF c d) dc dc;have h1:cK (dY t [(0:Int)]) 20=0:=h1;unfold nZ;rw[aM U,aM U]
  exact⟨rfl,f,m,g⟩
 | k+1,hk=>by
  obtain⟨i1,i2,i3,i4⟩:=WA c k U;have d:=Wz hk;have e:kb t 20 (k+1+1)=n0 t 20 (kb t 20 (k+1)) ((k+1:Nat):Int):=rfl;rw[e];generalize kb t 20 (k+1)=X' at i1 i2 i3 i4 ⊢;generalize ((k+1:Nat):Int)=v at d ⊢;have x:dh t [v]=0:=(Ez c d).1;have o:=OF c d;have f:=o.2.1;have g:=o.1;have m:=i2.2.1;have n:=i2.1;obtain⟨⟨y,C⟩,D,G⟩:=qta n m g f;obtain⟨Q,r,H,R⟩:=OG i2 y C;obtain⟨T,u,L,V⟩:=OG o D G;have hm:=Hk n m g f (by have:=r.1;omega) H (by have:=u.1;omega) L;have N:(dY t [v]).aN=ao t:=rfl;have P:=tC t;have ho:=c.M;obtain⟨r1,r2,r3,r4⟩:=qzX r u (by grind) hm (by grind);unfold n0
  grind
def Â (c:fx t):fa t 20=0:=by
 have e:lX 20=20:=dc;have key:(kb t 20 t.vars.length).vg=0/\cW (kb t 20 t.vars.length).eY:=by
  cases m:t.vars.length with
  | zero =>
   have d:jX t.vars []:=⟨fun v hv=>absurd hv jd,Pairwise.nil⟩
   have f:dh t []=0:=(Ez c d).1;have g:(kb t 20 0).eY=dY t []:=by show kQ t [] (dh t [])=_;unfold kQ;rw[ba f]
   exact⟨f,by rw[g];exact OF c d⟩
  | succ k =>
   have:=WA c k U
   grind
 unfold fa
 grind
end
end
end Go.Proofs.YtmapkjoefdgjfaaGreatDoor
