/- Several texts. -/
import Derived.Test.YtmapkjoefdgjfaaGreatDoorMW5E
import Derived.Shelf.SlSortCmp.NoneTotal
import Derived.Shelf.SlicesE.Delete
import Derived.Test.YtmapkjoefdgjfaaGreatDoorMW1E
import Derived.Lib.ItoaLen
set_option linter.unusedSimpArgs false
set_option linter.unusedVariables false
set_option linter.defProp false
set_option maxRecDepth 8000
set_option maxHeartbeats 16000000
open List Nat
namespace Go.Proofs.YtmapkjoefdgjfaaGreatDoor
open Go.Sl
variable {α:Type}{S:bZ}{w0 w:World}{k i:Nat}{c:J}{Γ:List HP}{e:TypeId}{s cv ev gv:Value}{L:List (List α)}
section
open Go.Sl Go Go.Shelf Go.Sort
attribute [local irreducible] vc opsW opsD opV opW PureV ReadV Thn Blk
def rT {P:Program}{f:FuncId}{B:Func}(h1:(((P.funcs[f]?).map Func.name).getD "" == "runtime.NumGoroutine") = false := by kernel_rfl)(h2 : P.funcs[f]? = some {B with name := ((P.funcs[f]?).map Func.name).getD ""} := by kernel_rfl) : Bears P f B := ⟨_, h1, h2⟩
def BZ:Ren:=⟨rl [6,151,14,176,15,98,20,197,21,198,22,199,23,200,24,201,25,202,26,203,27,204,28,132,29,133,46,211,47,154,48,155,49,212,50,213,57,225],rl [0,0,3,3,4,4,5,5,9,9,22,139,24,190,25,248,39,175,45,210,46,211,50,183,53,218,55,220,66,250,70,254,76,279,77,267],fun k=>k⟩
set_option maxRecDepth 100000 in
def Ff:SlLaysF0.n6 ai BZ:=by constructor<;>first|exact an|kernel_rfl|(intro w;kernel_rfl)|exact rT
def B0:Ren:=⟨rl [6,189,14,208,15,98,20,215,21,216,22,217,23,218,24,219,25,220,26,221,27,222,28,132,29,133,46,226,47,154,48,155,49,227,50,228,57,233],rl [0,0,3,3,4,4,5,5,9,9,22,290,24,291,25,293,39,175,45,210,46,211,50,183,53,218,55,220,66,250,70,254,76,279,77,267],fun k=>k⟩
set_option maxRecDepth 100000 in
def Nh:SlLaysF0.n6 ai B0:=by constructor<;>first|exact an|kernel_rfl|(intro w;kernel_rfl)|exact rT
def fX:Ty (Int × Int):=⟨2,fun a=>[E a.1,E a.2],fun _=>rfl,(0,0)⟩
instance IX:kq fX:=⟨fun x v hv=>by simp only[fX,ee,fI,pP]at hv;rcases hv with rfl|rfl<;>rfl⟩
def B1 {a:Ren}(L:SlLaysF0.n6 ai a)[Inhabited α]{T:Ty α}[O':kq T](r:0<T.sz)(u:∀ w,(isAgg (a.t 24)).run ai w=.ok true w)(z:∀ w,(Go.sizeOf (a.t 24)).run ai w=.ok T.sz w){d:α->α->Int}(hO:SWO (ltOf d)){g:Nat}[ao ai g](h:∀ w x y,Calls ai g #[.agg (T.enc x).toArray,.agg (T.enc y).toArray] w fun e w'=>e=.returned (E (d x y))/\∃ (q:Nat) (os:Array Obj),w'=Sort.grow (w.drewN q) os){xs:List α}(Y:Z w0 w (X T e s xs::Γ))(A:xs.length<4611686018427387904) :
  Calls ai (a.f 6) #[s,.func (.func g) #[] #[]] w fun l w'=>l=.returned (.tuple #[])/\Z w0 w' (X T e s (iu d xs)::Γ):=by
 rcases Y.E5 r with ⟨rfl,rfl⟩|⟨b,off,cap,rfl,D,B,hH,j⟩
 ·refine uJ (AnyF.slices_SortFunc_none L none 0 _ w) ?_
  rintro e w' ⟨rfl,rfl⟩;exact⟨rfl,by rw[Ŗ hO];exact Y⟩
 have C:=AnyQ.slices_SortFunc_eq L T.sz u z T.enc T.ok (fun x v hv=>O'.ok x v hv) d hO g #[] b off cap xs.toArray w (fun args w=>ao.run inferInstance args w)
  (by intro m os o F x y;exact h _ x y) hH B (by simpa using A)
 have o:xs.length=xs.toArray.size:=sm;rw[o];refine C.mono ?_;rintro l w' ⟨he,n,os,rfl⟩;refine⟨he,?_⟩;have h1:=j (iu d xs) (HD hO) n os;rw[<-o];exact h1
def zw:(∀ w,(isAgg (BZ.t 24)).run ai w=.ok true w)/\∀ w,(Go.sizeOf (BZ.t 24)).run ai w=.ok 3 w:=by
 have h:fa ai 190 3:=inferInstance;exact h.agg
def Fg:(∀ w,(isAgg (B0.t 24)).run ai w=.ok true w)/\∀ w,(Go.sizeOf (B0.t 24)).run ai w=.ok 2 w:=by
 have h:fa ai 291 2:=inferInstance;exact h.agg
set_option maxRecDepth 100000 in
def YQ {xs:List de}(Y:Z w0 w (X aT e s xs::Γ))(a:xs.length<4611686018427387904) :
  Calls ai 151 #[s,.func (.func 152) #[] #[]] w fun b w'=>b=.returned (.tuple #[])/\Z w0 w' (X aT e s (iu jg xs)::Γ):=by
 have h:=B1 (T:=aT) (g:=152) Ff (fe _) zw.1 zw.2 wV (fun w x y=>RE x y) Y a;exact h
set_option maxRecDepth 100000 in
def YL {xs:List de}(Y:Z w0 w (X aT e s xs::Γ))(a:xs.length<4611686018427387904) :
  Calls ai 151 #[s,.func (.func 195) #[] #[]] w fun b w'=>b=.returned (.tuple #[])/\Z w0 w' (X aT e s (iu jg xs)::Γ):=by
 have h:=B1 (T:=aT) (g:=195) Ff (fe _) zw.1 zw.2 wV (fun w x y=>İ x y) Y a;exact h
set_option maxRecDepth 100000 in
def ο {xs:List (Int × Int)}(Y:Z w0 w (X fX e s xs::Γ))(a:xs.length<4611686018427387904) :
  Calls ai 189 #[s,.func (.func 190) #[] #[]] w fun b w'=>b=.returned (.tuple #[])/\Z w0 w' (X fX e s (iu oP xs)::Γ):=by
 have h:=B1 (T:=fX) (g:=190) Nh (fe _) Fg.1 Fg.2 BS (fun w x y=>Zx x.1 x.2 y.1 y.2) Y a;exact h
def Ni:Ren:=⟨rl [45,170],rl [0,0,3,3,4,4,22,140,23,4],fun k=>k⟩
set_option maxRecDepth 100000 in
def Nj:SlLaysE.n45 ai Ni:=by constructor<;>first|exact an|kernel_rfl|(intro w;kernel_rfl)|exact rT
def T5 (xs:List Bool):xs.flatMap ah.enc=xs.map Value.bool:=by
 induction xs with
 | nil=>rfl
 | cons x xs a=>rw[kO,a];rfl
set_option maxRecDepth 100000 in
def YF {b off cap:Nat}{xs:List Bool}(Y:Z w0 w (X ah e (.slice (some ⟨b,off,none⟩) xs.length cap) xs::Γ))(a:cap<=9223372036854775807)(hk:k<xs.length) :
  Calls ai 170 #[.slice (some ⟨b,off,none⟩) xs.length cap,E k,E ((k:Int)+1)] w fun n w'=>n=.returned (.slice (some ⟨b,off,none⟩) (xs.eraseIdx k).length cap)/\Z w0 w' (X ah e (.slice (some ⟨b,off,none⟩) (xs.eraseIdx k).length cap) (xs.eraseIdx k)::Γ):=by
 rw[show ((k:Int)+1)=((k+1:Nat):Int) from by omega];rcases Y.E5 (fe _) with ⟨h,_⟩|⟨D,o,r,h,u,F,hH,d⟩
 ·cases h
 cases h;have f:(xs.eraseIdx k).length=xs.length-1:=length_eraseIdx_of_lt hk;have g:Sort.flatK ah.enc 1 xs.toArray=(xs.map Value.bool).toArray:=by rw[<-T5];exact HU ah xs
 have l:Sort.Holds Value.bool w b off xs.toArray:=by
  intro j t;have m:j<xs.length:=by simpa using t
  have:=hH j (by rw[show ah.sz=1 from rfl,g];simpa using t);rw[show ah.sz=1 from rfl,g]at this
  simpa [m] using this
 obtain⟨i0,j,m,_⟩:=bm.ub (show bm ai 140 4 1 1 from inferInstance);have v:=AnyE.slices_Delete Nj Value.bool (fun _=>rfl) false (fun w=>kr) i0 j m b off cap k (k+1) xs.toArray w l (by simpa using u) a (le_succ _) (by simpa using succ_le_of_lt hk);have x:xs.length=xs.toArray.size:=sm;rw[x];refine v.mono ?_;rintro n w' ⟨he,q,rfl⟩;have y:xs.toArray.size-(k+1-k)=(xs.eraseIdx k).length:=by rw[f];simp
 rw[y]at he;refine⟨he,?_⟩;have h1:=d (xs.eraseIdx k++[false]) (by simp[f];omega) q #[];have t:=h1.sub own_here 0 (xs.eraseIdx k).length (bu _) sm;have z:cut (xs.eraseIdx k++[false]) 0 (xs.eraseIdx k).length=xs.eraseIdx k:=by simp[cut]
 have A:ssub (.slice (some ⟨b,off,none⟩) xs.length cap) ah.sz 0 (xs.eraseIdx k).length=.slice (some ⟨b,off,none⟩) (xs.eraseIdx k).length cap:=by simp[ssub,zV,ah]
 rw[z,A]at t;have B:(xs.toArray.toList.take k++xs.toArray.toList.drop (k+1)++replicate (k+1-k) false)=xs.eraseIdx k++[false]:=by
  rw[eraseIdx_eq_take_drop_succ];simp
 rw[B];have C:Sort.putRow Value.bool (Sort.ahead w q) b off (xs.eraseIdx k++[false]).toArray=Go.Proofs.sortWorldK ah.enc ah.sz w b off q (xs.eraseIdx k++[false]).toArray #[]:=by
  unfold Go.Proofs.sortWorldK Sort.putRowK;rw[grow_empty,show ah.sz=1 from rfl,show Sort.flatK ah.enc 1 (xs.eraseIdx k++[false]).toArray=((xs.eraseIdx k++[false]).map Value.bool).toArray from by rw[<-T5];exact HU ah _];exact Ú _ _ _ _ _
 rw[C];exact t
end
section
open Go.Sl Go
attribute [local irreducible] vc opsW opsD opV opW PureV ReadV Thn Blk
instance IY:rO ai 291:=⟨kr⟩
instance IZ:zm ai 291 fX:=⟨fun a b w=>rO.run (P:=ai) (t:=291) inferInstance w⟩
def ς {xs:List (Int × Int)}(Y:Z w0 w (X fX 291 s xs::Γ))(hn:xs.length<=65536) :
  Calls ai 193 #[s] w fun e w'=>∃ d,e=.returned d/\Z w0 w' (X fX 291 d (lL xs)::Γ):=by
 refine bA an Tryz.func193 ?_;refine aB ?_ ?_<;>intro h1
 ·have he:lL xs=xs:=by
   match xs,h1 with
   | [],_=>rfl
   | [_],_=>rfl
   | _::_::_,h=>simp only[length_cons]at h;omega
  refine O ?_;exact bf (v:=s) rfl rfl ⟨s,rfl,by rw[he];exact Y.cw⟩
 have j':2<=xs.length:=U;refine O ?_;refine cP [2,5,10,59] (G:=Nat) (fun k=>[(3,E k)]) (fun k w=>1<=k/\k<=xs.length/\lL (xs.take k)=xs.take k/\Z w0 w (X fX 291 s xs::Γ)) (fun k=>xs.length-k) 1 (fun _=>rfl) ⟨rfl,az⟩ ⟨cD _,U,by cases xs with|nil=>rfl|cons a r=>rfl,Y.cw⟩ ?_;clear Y;rintro σ k w ⟨B,hk,l,Y⟩;refine aB ?_ ?_<;>intro D
 ·have t:k<xs.length:=U
  have g:=HC fX.dflt B t;have ek:((k:Int)-1).toNat=k-1:=U;rw[<-ek]at g;refine O ?_;refine r8 ?_;clear Y;intro w Y;refine O ?_;refine eY rfl (Q1 (T:=fX) (a:=xs.getD k fX.dflt) (b:=xs.getD ((k:Int)-1).toNat fX.dflt) rfl rfl) ?_;refine aB ?_ ?_<;>intro N
  ·rw[aM N.symm,fS,l]at g
   refine O ?_;refine dQ [3,3,5,5,29,53] (G:=Nat) (H:=Nat) (fun d q=>[(3,E q),(5,E d)]) (fun d q w=>1<=d/\k+d<=xs.length/\k<=q/\q<k+d/\∃ C:List (Int × Int),C.length=xs.length/\C.take q=lL (xs.take (k+d))/\(∀ j,k+d<=j+1->C.getD j fX.dflt=xs.getD j fX.dflt)/\Z w0 w (X fX 291 s C::Γ)) (fun d _=>xs.length-(k+d)) 1 k (fun _ _=>rfl) ⟨rfl,rfl,az⟩ ⟨cD _,U,cD _,U,xs,rfl,g.symm,fun _ _=>rfl,Y.cw⟩ ?_;clear Y;rintro σ d q w ⟨H',u,F,J',C,P,n,m,Y⟩;have P':(cut C k xs.length).length=xs.length-k:=yK U;have A:=yb (T:=fX) (bk (s:=s) Y) (lo:=k) (hi:=xs.length) U U;refine aB ?_ ?_<;>intro h4
   ·have x:k+d<xs.length:=U
    have f:=HC fX.dflt (show 0<k+d by omega) x;refine O ?_;refine r8 ?_;clear Y A;intro w Y;have A:=yb (T:=fX) (bk (s:=s) Y) (lo:=k) (hi:=xs.length) U U;have K:((d:Int)-1).toNat=d-1:=U;have R:(cut C k xs.length).getD d fX.dflt=xs.getD (k+d) fX.dflt:=by rw[<-m (k+d) U];simp[cut,List.getD,wG,x]
    have e2:(cut C k xs.length).getD ((d:Int)-1).toNat fX.dflt=xs.getD (k+d-1) fX.dflt:=by
     rw[<-m (k+d-1) U,K];simp[cut,List.getD,wG,show k+(d-1)=k+d-1 by omega,show k+d-1<xs.length by omega]
    refine O ?_;refine eY rfl (Q3 (T:=fX) (a:=(cut C k xs.length).getD d fX.dflt) (b:=(cut C k xs.length).getD ((d:Int)-1).toNat fX.dflt) rfl rfl) ?_;refine O ?_;rw[R,e2];refine jw ?_ ?_<;>intro V
    ·have o:¬xs.getD (k+d-1) fX.dflt=xs.getD (k+d) fX.dflt:=fun e=>V e.symm
     rw[aC o]at f;refine O ?_;refine Cf (T:=fX) (s:=s) (j:=q) (x':=(cut C k xs.length).getD d fX.dflt) rfl rfl rfl rfl Y inferInstance U ?_;clear Y A;intro w Y;rw[R]at Y;refine O ?_;have y:q<C.length:=U;refine⟨d+1,q+1,⟨rfl,rfl,az⟩,aU,⟨U,U,U,U,C.set q (xs.getD (k+d) fX.dflt),by rw[gY];exact P,?_,fun j hj=>?_,Y.cw⟩,U⟩
     ·rw[eC fX.dflt (by rw[gY];exact y),GG (cD _),n,kB,aM ⟨rfl,y⟩]
      exact f.symm
     rw[kB,aC U];exact m j U
    have o:xs.getD (k+d-1) fX.dflt=xs.getD (k+d) fX.dflt:=by
     exact V.symm
    rw[aM o,fS]at f;refine O ?_;exact⟨d+1,q,⟨rfl,rfl,az⟩,aU,⟨U,U,F,U,C,P,by rw[n,<-f];rfl,fun j hj=>m j U,Y.cw⟩,U⟩
   have o:k+d=xs.length:=U;have K:q<=xs.length:=U;have x:lL xs=C.take q:=by rw[n,o,kV]
   refine O ?_;have y:=yb (T:=fX) (bk (s:=s) Y) (lo:=q) (hi:=C.length) U (cD _);refine Q4 (T:=fX) (s:=s) (j:=q) (z:=((0,0):Int × Int)) rfl rfl rfl rfl Y inferInstance U ?_;clear Y A y;intro w Y;have f:(C.take q).length=q:=by rw[jd];omega
   have R:(C.take q++replicate (C.length-q) ((0,0):Int × Int)).length=C.length:=by rw[length_append,f,nD];omega
   refine O ?_;have D:=Y.sub (s:=s) own_here 0 q (bu _) (by rw[length_append,f];omega);have V:cut (C.take q++replicate (C.length-q) ((0,0):Int × Int)) 0 q=C.take q:=by simp[cut,f]
   rw[V,<-x]at D;exact bf (v:=ssub s fX.sz 0 q) rfl rfl ⟨_,rfl,D.cw⟩
  rw[aC (fun e=>N e.symm),l]at g;refine O ?_;refine⟨k+1,⟨rfl,az⟩,aU,⟨U,U,?_,Y.cw⟩,U⟩;rw[g,eC fX.dflt t]
 have u:k=xs.length:=U;rw[u,kV]at l;refine O ?_;exact bf (v:=s) rfl rfl ⟨s,rfl,by rw[l];exact Y.cw⟩
def yc {g:α->Int}{n:Nat}{l:List α}{x:Nat}:((fV g n l).getD x []).length<=l.length:=by
 by_cases h:x<n
 ·rw[Ip h];exact uC _ _
 rw[iD,uK (by rw[yM];omega)];exact bu _
def Rc (j:cX w0 cv ev gv S)(A:S.aS.length<=4096)(he:S.aD.length<=65536)(r:∀ e∈S.aD,0<=e.cK/\e.cK<S.aS.length) :
  Calls ai 150 #[cM S cv ev gv] w0 fun e w'=>∃ v ss,e=.returned v/\Z w0 w' [aj aT 190 ss (cQ S),X ap 139 v ss]:=by
 have t:=j.aS;have u:=j.aD;have y:=j.aQ;have Y:=Z.start w0;refine bA an Tryz.func150 ?_;unfold cM
 repeat (first|refine du ?_|(refine gX ?_;clear Y;intro p w Y)|(refine fA ?_;clear Y;intro s w Y))
 have Y:=Y.gI (T:=aT) (e:=190) S.aS.length;rw[<-Mh (g:=fun e:de=>e.cK),show ((S.aS.length:Int)).toNat=S.aS.length from by omega]at Y;refine dQ [5,5,13,29] (G:=Nat) (H:=List Value) (fun k ss=>[(13,E k)]) (fun k ss w=>k<=S.aD.length/\ss.length=S.aS.length/\Z w0 w [aj aT 190 ss (fV (fun e:de=>e.cK) S.aS.length (S.aD.take k)),X ap 139 s ss]) (fun k ss=>S.aD.length-k) 0 (replicate S.aS.length (nS)) (fun _ _=>rfl) ⟨rfl,az⟩ ⟨bu _,sm,by rw[wK];exact Y.aY⟩ ?_;clear Y;rintro B k ss w ⟨hk,m,Y⟩;refine aB ?_ ?_<;>intro C
 ·have d:k<S.aD.length:=U
  have hm:=r _ (cH aT.dflt d);have f:=Mi (g:=fun e:de=>e.cK) (n:=S.aS.length) (dflt:=aT.dflt) d hm.1 hm.2;have z:=yM (g:=fun e:de=>e.cK) (n:=S.aS.length) (l:=S.aD.take k);have h:=yc (g:=fun e:de=>e.cK) (n:=S.aS.length) (l:=S.aD.take k) (x:=(S.aD.getD k aT.dflt).cK.toNat);rw[jd]at h;obtain⟨a,o⟩:=À (S.aD.getD k aT.dflt);rw[<-o]at hm f h;refine eE ?_;intro p w Y;rw[<-o]at Y;have q:a.cK.toNat<(fV (fun e:de=>e.cK) S.aS.length (S.aD.take k)).length:=U;replace Y:=Y.swap.gV q;refine fz (pl [0,1,2,3,4,5,6,7,8,9] (.cI 2::.cI 5::.cI 7::pl [10] (.cI 2::pl [11,12] []))) Y kr ?_;clear Y;intro w Y;refine O ?_;refine jK aT (x1:=a) rfl rfl rfl (fY rfl) (fe _) Y ?_;clear Y;intro s2 w Y;refine l7 ?_;intro s w Y;replace Y:=Z.o9 q U Y.tail;replace Y:=Y.swap.tail;rw[<-f]at Y;exact⟨k+1,ss.set a.cK.toNat s,⟨rfl,az⟩,aU,⟨U,by rw[gY];exact m,Y⟩,U⟩
 rw[gH U]at Y;refine O ?_;exact bf (v:=s) rfl rfl ⟨s,ss,rfl,Y⟩
def ij (S:bZ)(c:J)(k:Nat):List (List (Int × Int)):=(fV (fun e:de=>e.bh) S.st.toNat (S.aD.take k)).map fun l=>l.map fun e=>(e.cK,c.getD e.dst.toNat W.dflt)
def T6:(ij S c k).length=S.st.toNat:=by unfold ij;rw[iz,yM]
def τ {β:Type}{f:List α->List β}(a:f []=[]):(L.map f).getD i []=f (L.getD i []):=by
 simp only[iD,tr]
 cases L[i]? with
 | none=>exact a.symm
 | some _=>rfl
def IH:(ij S c k).getD i []=((fV (fun e:de=>e.bh) S.st.toNat (S.aD.take k)).getD i []).map fun e=>(e.cK,c.getD e.dst.toNat W.dflt):=by
 unfold ij;exact τ rfl
def υ:ij S c 0=replicate S.st.toNat []:=by
 unfold ij;rw[wK,Mh,map_replicate];rfl
def ω (hk:k<S.aD.length)(b:0<=(S.aD.getD k aT.dflt).bh)(h1:(S.aD.getD k aT.dflt).bh<S.st.toNat) :
  ij S c (k+1)=(ij S c k).set (S.aD.getD k aT.dflt).bh.toNat ((ij S c k).getD (S.aD.getD k aT.dflt).bh.toNat []++[((S.aD.getD k aT.dflt).cK,c.getD (S.aD.getD k aT.dflt).dst.toNat W.dflt)]):=by
 rw[IH];unfold ij;rw[Mi (g:=fun e:de=>e.bh) (dflt:=aT.dflt) hk b h1,map_set,oh];rfl
def T7:((ij S c k).getD i []).length<=S.aD.length:=by
 rw[IH,iz];exact pT yc (by rw[jd];omega)
def ϊ (hi:i<S.st.toNat):(ij S c S.aD.length).getD i []=Iq S c i:=by
 rw[IH,Ip hi,kV];rfl
def EO {n:Int}(a:0<=n)(h1:n<=65536):(jf n).length<=21:=Lib.itoa_length_le n U U
def T8 {α:Type}{f:α->List UInt8}{m:Nat}:∀ {l:List α},(∀ a∈l,(f a).length<=m)->(l.flatMap f).length<=l.length*m
 | [],_=>sm
 | a::l,h=>by
  have:=T8 (f:=f) (m:=m) (l:=l) fun b d=>h b (iR _ d);have:=h a gz;rw[kO,length_append,length_cons,qD,wy];omega
def kl (S:bZ)(c:J)(k:Nat):List ByteArray:=(List.range k).map fun s=>⟨(lq S c s).toArray⟩
def ϋ (S:bZ)(c:J)(k:Nat):kl S c (k+1)=kl S c k++[⟨(lq S c k).toArray⟩]:=by simp[kl,l5]
def II (S:bZ)(c:J)(k:Nat):(kl S c k).length=k:=by simp[kl]
def ό (S:bZ)(c:J){n:Nat}(hk:k<n):(kl S c k++replicate (n-k) (⟨#[]⟩:ByteArray)).set k ⟨(lq S c k).toArray⟩=kl S c (k+1)++replicate (n-(k+1)) ⟨#[]⟩:=by
 have a:n-k=(n-(k+1))+1:=U;rw[a,DP,ϋ,fL,yE _ _ (by rw[II];omega),II,r7];rfl
def ύ {ss:List Value}(h:k<ss.length):ss.drop k=cG ss k::ss.drop (k+1):=by
 rw[wI h,l9,am h]
def ώ (h:k<L.length):L.drop k=L.getD k []::L.drop (k+1):=by
 rw[wI h,am h]
def Yv {sc se sg cl:Value}(hS:cX w0 sc se sg S)(hv:dR S)(hT:lR w0)(hc:RS W w0 cl c)(_l:(c.length:Int)=S.st)(j':∀ i:Nat,i<c.length->0<=c.getD i W.dflt/\c.getD i W.dflt<=65536) :
  Calls ai 173 #[cM S sc se sg,cl] w0 fun e w'=>∃ v,e=.returned (.tuple #[v,E ((cU (kf S c)).length:Nat)])/\Z w0 w' [X W 3 v (fb (kf S c))]:=by
 have _m:=hS.aS;have _n:=hS.aD;have _o:=hS.aQ;have Y:=Z.start w0;obtain⟨a1,a2,a3,a4,a5,a6,a7,_p,H',_⟩:=hv;obtain⟨n,hn⟩:=À S.st.toNat;have _d:S.st=(n:Int):=U;refine bA an Tryz.func173 ?_;unfold cM;rw[_d]
 repeat (first|refine du ?_|(refine gX ?_;clear Y;intro p w Y)|(refine fA ?_;clear Y;intro s w Y))
 have Y:=Y.gI (T:=fX) (e:=291) n;obtain⟨ps,rfl⟩:=À p;obtain⟨A,rfl⟩:=À s;have Y:Z w0 w [aj fX 291 (replicate n (nS)) (replicate n []),X ap 290 A (replicate n (nS)),ak ps 142 [E n,E S.bR,sc,se,sg]]:=Y;rw[hn,<-υ (c:=c),<-hn]at Y;refine dQ [8,8,21,44] (G:=Nat) (H:=List Value) (fun k h=>[(21,E k)]) (fun k h w=>k<=S.aD.length/\h.length=n/\Z w0 w [aj fX 291 h (ij S c k),X ap 290 A h,ak ps 142 [E n,E S.bR,sc,se,sg]]) (fun k h=>S.aD.length-k) 0 (replicate n (nS)) (fun _ _=>rfl) ⟨rfl,az⟩ ⟨bu _,sm,Y⟩ ?_;clear Y;rintro σ k h w ⟨hk,N,Y⟩;refine aB ?_ ?_<;>intro h2
 ·have B:k<S.aD.length:=U
  obtain⟨a,Q⟩:=À (S.aD.getD k aT.dflt);have hm:=H' _ (cH aT.dflt B);have d:=ω (c:=c) B hm.1.1 U;rw[<-Q]at hm d;obtain⟨⟨m1,m2⟩,⟨m3,m4⟩,m5,m6⟩:=hm;have o:=T6 (S:=S) (c:=c) (k:=k);have J':=T7 (S:=S) (c:=c) (k:=k) (i:=a.bh.toNat);refine db ?_;intro p w Y;have Y:Z w0 w [ak p 190 [E a.bh,E a.cK,E a.dst],aj fX 291 h (ij S c k),X ap 290 A h,ak ps 142 [E n,E S.bR,sc,se,sg]]:=by rw[Q];exact Y
  have hi:a.bh.toNat<(ij S c k).length:=U;replace Y:=Y.swap.gV hi;refine fz (pl [0,1,2,3,4,5,6,7,8,9,10,11,12,13,14,15] (.cI 2::.cI 5::.cI 7::pl [16] (.cI 2::.cI 5::.cI 7::pl [17] (.cI 2::pl [18,19] [])))) Y kr ?_;clear Y;intro w Y
  repeat refine du ?_
  refine Ó rfl rfl ?_
  repeat refine du ?_
  refine jK fX (x1:=(a.cK,c.getD a.dst.toNat W.dflt)) rfl rfl rfl (fY rfl) (fe _) Y ?_;clear Y;intro s2 w Y;refine nX ?_;intro s w Y;replace Y:=Z.o9 hi U Y.tail;replace Y:=Y.swap.tail;rw[<-d]at Y;exact⟨k+1,h.set a.bh.toNat s,⟨rfl,az⟩,aU,⟨U,by rw[gY];exact N,Y⟩,U⟩
 have _e:k=S.aD.length:=U;rw[_e]at Y;refine O ?_;refine Cm kz ⟨#[]⟩ rfl rfl rfl rfl U U U Y ?_;clear Y;intro D w Y;refine O ?_;rw[show ((n:Int)).toNat=n from by omega]at Y;obtain⟨t,u⟩:=À (ij S c S.aD.length);have _q:t.length=n:=by rw[u,hn];exact T6
 have _f:∀ i,i<n->t.getD i []=Iq S c i:=fun i hi=>by rw[u];exact ϊ U
 have _g:∀ i:Nat,(t.getD i []).length<=65536:=fun i=>by rw[u];exact pT T7 U
 have _h:∀ i:Nat,∀ x∈t.getD i [],(0<=x.1/\x.1<=65536)/\0<=x.2/\x.2<=65536:=fun i x hx=>by
  rw[u,IH]at hx;obtain⟨e,he,rfl⟩:=iS.1 hx;have d:e∈S.aD:=by
   by_cases hi:i<S.st.toNat
   ·exact pO ((Al (g:=fun e:de=>e.bh) hi).1 he).1
   rw[iD,uK (by rw[yM];omega)]at he;simp at he
  obtain⟨_,⟨q1,q2⟩,q3,q4⟩:=H' e d;have:=j' e.dst.toNat U;exact⟨⟨q3,U⟩,this⟩
 have Y:Z w0 w [aj fX 291 (h.drop 0) (t.drop 0),X ap 290 A h,X kz 9 D (kl S c 0++replicate (n-0) ⟨#[]⟩)]:=by
  rw[u,Bs,Bs,Kh,show kl S c 0=[] from rfl,kL];exact Y.aY
 clear u;have N:h.length=n:=N;refine cP [10,12,14,14,50,85] (G:=Nat) (fun k=>[(50,E k)]) (fun k w=>k<=n/\Z w0 w [aj fX 291 (h.drop k) (t.drop k),X ap 290 A h,X kz 9 D (kl S c k++replicate (n-k) ⟨#[]⟩)]) (fun k=>n-k) 0 (fun _=>rfl) ⟨rfl,az⟩ ⟨bu _,Y⟩ ?_;clear Y;rintro σ k w ⟨hk,Y⟩;have _r:(kl S c k++replicate (n-k) (⟨#[]⟩:ByteArray)).length=n:=by rw[length_append,II,nD];omega
 refine aB ?_ ?_<;>intro h3
 ·have B:k<n:=U
  rw[ύ U,ώ U]at Y;replace Y:=Y.xM;obtain⟨rw,P'⟩:=À (cG h k);obtain⟨Rk,R'⟩:=À (t.getD k []);have T':=_g k;have F:=_h k;have K:=_f k B;rw[<-R']at T' F K;rw[<-P',<-R']at Y;refine O ?_;rw[<-P'];refine aL rfl (ο (s:=rw) (xs:=Rk) Y U) ?_;rintro _ w' ⟨rfl,d⟩;clear Y;have Y:=d;clear d;refine⟨_,rfl,?_⟩;have _s:=HD BS (l:=Rk);refine db ?_;intro C w Y;obtain⟨y,V'⟩:=À (c.getD k W.dflt);have q:=j' k U;rw[<-V']at q ⊢;refine aL rfl (J0 (n:=y) (hT.at Y) U U) ?_;refine gZ ?_;clear Y;intro w' Y;have _t:=EO q.1 q.2;have Y:Z w0 w' [ak C 297 [.pointer none,nS],X fH 5 (nS) (cO []),X fX 291 rw (iu oP Rk),aj fX 291 (h.drop (k+1)) (t.drop (k+1)),X ap 290 A h,X kz 9 D (kl S c k++replicate (n-k) ⟨#[]⟩)]:=by rw[show cO []=[] from rfl];exact(Y.nil (T:=fH) (e:=5)).aY
  refine O ?_;refine aL rfl (Pb (l:=[]) (b:=nM y) Y (.inl rfl) dc (by show (jf y).length<=_;omega)) ?_;rintro _ w' ⟨⟨v,rfl⟩,r,d⟩;clear Y;have Y:=d;clear d;refine⟨_,rfl,?_⟩;rw[kL,show (nM y).data.toList=jf y from by simp[nM]]at Y;refine O ?_;have Y:Z w0 w' [X fX 291 rw (iu oP Rk),ak C 297 [.pointer (some C),r],X fH 5 r (cO (jf y)),aj fX 291 (h.drop (k+1)) (t.drop (k+1)),X ap 290 A h,X kz 9 D (kl S c k++replicate (n-k) ⟨#[]⟩)]:=Y.aY;refine aL rfl (ς (s:=rw) (xs:=iu oP Rk) Y U) ?_;rintro _ w' ⟨zv,rfl,d⟩;clear Y;have Y:=d;clear d;refine⟨_,rfl,?_⟩;obtain⟨o,hZ⟩:=À (lL (iu oP Rk));have _u:o.length<=65536:=by rw[hZ];exact pT (Tr _) U
  have _a:∀ x∈o,(0<=x.1/\x.1<=65536)/\0<=x.2/\x.2<=65536:=fun x hx=>by
   rw[hZ,Mq,Mn BS]at hx;exact F x hx
  have _i:∀ x∈o,(nf x).length<=44:=fun x hx=>by
   obtain⟨⟨q1,q2⟩,q3,q4⟩:=_a x hx;have i1:=EO q1 q2;have i2:=EO q3 q4;unfold nf;simp only[length_append,length_cons];omega
  have P:lq S c k=jf y++o.flatMap nf:=by unfold lq;rw[<-K,<-V',hZ]
  rw[<-hZ]at Y;refine O ?_;have Y:Z w0 w' [ak C 297 [.pointer (some C),r],X fH 5 r (cO (jf y++(o.take 0).flatMap nf)),X fX 291 zv o,aj fX 291 (h.drop (k+1)) (t.drop (k+1)),X ap 290 A h,X kz 9 D (kl S c k++replicate (n-k) ⟨#[]⟩)]:=by
   rw[wK,Be,fS];exact Y.aY
  refine dQ [14,14,66,80] (G:=Nat) (H:=Value) (fun m r=>[(66,E m)]) (fun m r w=>m<=o.length/\Z w0 w [ak C 297 [.pointer (some C),r],X fH 5 r (cO (jf y++(o.take m).flatMap nf)),X fX 291 zv o,aj fX 291 (h.drop (k+1)) (t.drop (k+1)),X ap 290 A h,X kz 9 D (kl S c k++replicate (n-k) ⟨#[]⟩)]) (fun m _=>o.length-m) 0 r (fun _ _=>rfl) ⟨rfl,az⟩ ⟨bu _,Y⟩ ?_;clear Y;rintro σ m r w ⟨hm,Y⟩;have _j:(jf y++(o.take m).flatMap nf).length<=10000000:=by
   have:=T8 (f:=nf) (m:=44) (l:=o.take m) fun a Q=>_i a (pO Q);rw[jd]at this;rw[length_append];have R:min m o.length*44<=65536*44:=zX U (cD _);omega
  refine aB ?_ ?_<;>intro h4
  ·have _b:m<o.length:=U
   obtain⟨z,hz⟩:=À (o.getD m fX.dflt);have _c:=_a _ (cH fX.dflt _b);rw[<-hz]at _c;obtain⟨⟨q1,q2⟩,q3,q4⟩:=_c;have i1:=EO q1 q2;have i2:=EO q3 q4;refine db ?_;intro p w Y;have Y:Z w0 w [ak p 291 [E z.1,E z.2],ak C 297 [.pointer (some C),r],X fH 5 r (cO (jf y++(o.take m).flatMap nf)),X fX 291 zv o,aj fX 291 (h.drop (k+1)) (t.drop (k+1)),X ap 290 A h,X kz 9 D (kl S c k++replicate (n-k) ⟨#[]⟩)]:=by rw[hz];exact Y
   refine fz (pl [0,1,5,6,2] (.cI 6::pl [3,4,7,8,9] [])) Y kr ?_;clear Y;intro w Y;refine Ag ?_;refine eY (v:=.pointer (some (p.add 0))) rfl (Bk (n:=2) (j:=0) rfl rfl U U) ?_;refine O ?_;refine eY (v:=.pointer (some (p.add 1))) rfl (Bk (n:=2) (j:=1) rfl rfl U U) ?_;refine O ?_;refine aL rfl (J0 (n:=z.1) (hT.at Y) U U) ?_;refine jT ?_;intro w' Y;have z1:(nM z.1).size=(jf z.1).length:=rfl;have z2:(nM z.2).size=(jf z.2).length:=rfl;refine eY rfl (Lw (a:=⟨#[32]⟩) (b:=nM z.1) rfl rfl (by show 1+(nM z.1).size<=_;omega)) ?_;obtain⟨A1,Q⟩:=À ((⟨#[32]⟩:ByteArray)++nM z.1);have _v:A1.size<=22:=by rw[Q,KD];show 1+_<=_;omega
   rw[<-Q];refine O ?_;refine eY rfl (Lw (a:=A1) (b:=⟨#[58]⟩) rfl rfl (by show _+1<=_;omega)) ?_;obtain⟨A2,R⟩:=À (A1++(⟨#[58]⟩:ByteArray));have _w:A2.size<=23:=by rw[R,KD];show _+1<=_;omega
   rw[<-R];refine O ?_;refine aL rfl (J0 (n:=z.2) (hT.at Y) U U) ?_;refine jT ?_;intro w' Y;refine eY rfl (Lw (a:=A2) (b:=nM z.2) rfl rfl U) ?_;obtain⟨A3,V⟩:=À (A2++nM z.2);have _x:A3.size<=44:=by rw[V,KD];omega
   have hA:A3.data.toList=nf z:=by
    rw[V,R,Q];simp[nf,nM]
   rw[<-V];refine O ?_;have Y:Z w0 w' [ak C 297 [.pointer (some C),r],X fH 5 r (cO (jf y++(o.take m).flatMap nf)),X fX 291 zv o,aj fX 291 (h.drop (k+1)) (t.drop (k+1)),X ap 290 A h,X kz 9 D (kl S c k++replicate (n-k) ⟨#[]⟩)]:=Y.aY;refine aL rfl (Pb (b:=A3) Y (.inr rfl) U U) ?_;rintro _ w' ⟨⟨v,rfl⟩,_k,d⟩;clear Y;have Y:=d;clear d;refine⟨_,rfl,?_⟩;refine O ?_;refine⟨m+1,_k,⟨rfl,az⟩,aU,⟨U,?_⟩,U⟩;rw[eC fX.dflt _b,wA,<-hz,kO,Be,fS,<-fL,<-hA];exact Y.aY
  rw[gH U,<-P]at Y;have Q:lq S c k≠[]:=by
   rw[P];intro e;exact(Ir q.1).2.1 (append_eq_nil_iff.1 e).1
  rw[gH U,<-P]at _j;refine O ?_;refine aL rfl (W7 (l:=lq S c k) Y Q U) ?_;rintro _ w' ⟨rfl,d⟩;clear Y;have Y:=d;clear d;refine⟨_,rfl,?_⟩;refine iE ?_;intro w Y;rw[ό S c B]at Y;exact⟨k+1,⟨rfl,az⟩,aU,⟨U,Y.aY⟩,U⟩
 have o:n=k:=U;subst o;have d:kl S c n=kf S c:=by rw[hn];rfl
 rw[r7,CB,fS,d]at Y;have J':(kf S c).length<=65536:=by rw[<-d,II];omega
 refine O ?_;refine aL rfl (QZ (L:=kf S c) (bk (s:=D) Y) J') ?_;rintro _ w' ⟨v,rfl,al⟩;refine aI ?_;clear al Y;intro Y;refine O ?_;exact cR (v:=v) (v':=E ((cU (kf S c)).length:Nat)) rfl rfl rfl ⟨v,rfl,Y.aY⟩
def Ϗ (hk:k<S.aD.length):(S.aD.map (sP S true)).getD k eT.dflt=⟨(S.aD.getD k aT.dflt).dst,(S.aD.getD k aT.dflt).bh,S.aS.getD (S.aD.getD k aT.dflt).cK.toNat W.dflt⟩:=by
 simp[List.getD,hk,sP]
def JR (hv:dR S):rP S.st.toNat (jC S true) where
 ok l f a b:=by
  obtain⟨x,hx,rfl⟩:=fJ f;have d:x<S.st.toNat:=by simpa [jC,fV] using hx
  have h1:(jC S true)[x]=(jC S true).getD x []:=by rw[iD,kN hx];rfl
  rw[h1]at b;have h:=((Al (g:=fun a:fW=>a.bh) (l:=S.aD.map (sP S true)) d).1 b).1;obtain⟨e,he,rfl⟩:=iS.1 h;obtain⟨_,_,_,_,_,_,_,j,m,_⟩:=hv;obtain⟨⟨n,s1⟩,⟨d0,d1⟩,o,q⟩:=m e he;have:=j _ (cH W.dflt (show e.cK.toNat<S.aS.length by omega));show kH S.st.toNat ⟨e.dst,e.bh,S.aS.getD e.cK.toNat W.dflt⟩;exact⟨d0,(by show e.dst<_;omega),n,(by show e.bh<_;omega),this.1,this.2⟩
 bh i h a b:=by
  have d:i<S.st.toNat:=by simpa [jC,fV] using h
  exact((Al (g:=fun a:fW=>a.bh) (l:=S.aD.map (sP S true)) d).1 b).2
 len:=yM
def ϐ {fv:Value}{fr:J}(hS:cX w0 cv ev gv S)(hv:dR S)(hf:RS W w0 fv fr)(P':fr.Nodup)(Q:∀ i∈fr,0<=i/\i<(S.st.toNat:Int)) :
  Calls ai 119 #[cM S cv ev gv,fv,.bool true] w0 fun e w'=>∃ v,e=.returned v/\Z w0 w' [X W 3 v (Cr S fr true)]:=by
 have _k:=hS.aS;have _l:=hS.aD;have _m:=hS.aQ;have D:=JR hv;obtain⟨a1,a2,a3,a4,a5,a6,a7,_n,_c,_⟩:=hv;obtain⟨n,hn⟩:=À S.st.toNat;have _d:S.st=(n:Int):=U;have _o:fr.length<=n:=by rw[hn];exact Mv P' Q
 rw[<-hn]at D Q;have Y:=Z.start w0;refine bA an Tryz.func119 ?_;unfold cM;rw[_d]
 repeat (first|refine du ?_|(refine gX ?_;clear Y;intro p w Y)|(refine fA ?_;clear Y;intro s w Y))
 have Y:=Y.gI (T:=eT) (e:=181) n;obtain⟨ps,rfl⟩:=À p;obtain⟨B,rfl⟩:=À s;have Y:Z w0 w [aj eT 181 (replicate n (nS)) (replicate n []),X ap 176 B (replicate n (nS)),ak ps 142 [E n,E S.bR,cv,ev,gv]]:=Y;obtain⟨L,hL⟩:=À (S.aD.map (sP S true));have _p:L.length=S.aD.length:=by rw[hL,iz]
 rw[<-Mh (g:=fun a:fW=>a.bh)]at Y;refine dQ [9,10,26,60] (G:=Nat) (H:=List Value) (fun k h=>[(26,E k)]) (fun k h w=>k<=S.aD.length/\h.length=n/\Z w0 w [aj eT 181 h (fV (fun a:fW=>a.bh) n (L.take k)),X ap 176 B h,ak ps 142 [E n,E S.bR,cv,ev,gv]]) (fun k h=>S.aD.length-k) 0 (replicate n (nS)) (fun _ _=>rfl) ⟨rfl,az⟩ ⟨bu _,sm,by rw[wK];exact Y⟩ ?_;clear Y;rintro σ k h w ⟨hk,_e,Y⟩;refine aB ?_ ?_<;>intro h2
 ·have u:k<S.aD.length:=U
  have m:=Ϗ u;rw[<-hL]at m;obtain⟨a,R⟩:=À (S.aD.getD k aT.dflt);have hm:=_c _ (cH aT.dflt u);rw[<-R]at hm m;obtain⟨c,j⟩:=À (S.aS.getD a.cK.toNat W.dflt);rw[<-j]at m;obtain⟨⟨m1,m2⟩,⟨m3,m4⟩,m5,m6⟩:=hm;have f:=Mi (g:=fun a:fW=>a.bh) (n:=n) (dflt:=eT.dflt) (l:=L) (k:=k) U (by rw[m];exact m3) (by rw[m];simp only;omega);have y:=yM (g:=fun a:fW=>a.bh) (n:=n) (l:=L.take k);have j':=yc (g:=fun a:fW=>a.bh) (n:=n) (l:=L.take k) (x:=a.dst.toNat);rw[jd]at j';rw[m]at f;refine db ?_;intro o w Y;have Y:Z w0 w [ak o 190 [E a.bh,E a.cK,E a.dst],aj eT 181 h (fV (fun a:fW=>a.bh) n (L.take k)),X ap 176 B h,ak ps 142 [E n,E S.bR,cv,ev,gv]]:=by rw[R];exact Y
  refine sh [10,10,30,40] (G:=Addr) (fun x=>[(10,.pointer (some x))]) (fun x w=>Z w0 w [ak x 181 [E a.bh,E a.dst,E c],ak o 190 [E a.bh,E a.cK,E a.dst],aj eT 181 h (fV (fun a:fW=>a.bh) n (L.take k)),X ap 176 B h,ak ps 142 [E n,E S.bR,cv,ev,gv]]) (fun _=>rfl) ?_ ?_
  ·refine wu (.s [0,2,4,6,1,3,5,7,8,9] (.d 10 [] (.c 11 [1,3,5,7,9] (.s [12] (.jE []))) (.d 11 [1,3,5,7,9] (.s [10,12] (.jE [])) (.stop)))) Y kr kr ?_;clear Y;intro w Y
   refine O ?_;refine jq ?_ (jq ?_ pZ)
   ·refine db ?_;intro p w Y
    rw[<-j]at Y;exact⟨_,⟨rfl,az⟩,aU,Y⟩
   refine db ?_;intro p w Y;rw[<-j]at Y;exact⟨_,⟨rfl,az⟩,aU,Y⟩
  clear Y;rintro σ x w Y;refine iE ?_;intro w Y;have Y:Z w0 w [ak x 181 [E a.dst,E a.bh,E c],aj eT 181 h (fV (fun a:fW=>a.bh) n (L.take k)),X ap 176 B h,ak ps 142 [E n,E S.bR,cv,ev,gv]]:=by
   simp only[mM,mI]at Y;exact Y.aY
  have t:a.dst.toNat<(fV (fun a:fW=>a.bh) n (L.take k)).length:=U;replace Y:=Y.swap.gV t;refine fz (pl [0,1,2,3,4,5,6,7,8,9] (.cI 2::.cI 5::.cI 7::pl [10] (.cI 2::pl [11,12] []))) Y kr ?_;clear Y;intro w Y;refine O ?_;refine jK eT (x1:=⟨a.dst,a.bh,c⟩) rfl rfl rfl (fY rfl) (fe _) Y ?_;clear Y;intro s2 w Y;refine l7 ?_;intro s w Y;replace Y:=Z.o9 t U Y.tail;replace Y:=Y.swap.tail;rw[<-f]at Y;exact⟨k+1,h.set a.dst.toNat s,⟨rfl,az⟩,aU,⟨U,by rw[gY];exact _e,Y⟩,U⟩
 rw[gH U]at Y;have R':fV (fun a:fW=>a.bh) n L=jC S true:=by rw[hL,hn];rfl
 rw[R']at Y;clear R';obtain⟨A,hA⟩:=À (jC S true);rw[<-hA]at Y D;refine l7 ?_;intro s w Y;obtain⟨F,rfl⟩:=À s;have Y:Z w0 w [X W 3 F (replicate n 0),aj eT 181 h A,X ap 176 B h,ak ps 142 [E n,E S.bR,cv,ev,gv]]:=Y;have j':(replicate ((n:Int)).toNat (0:Int)).length=n:=sm;refine cP [12,12,66,72] (G:=Nat) (fun k=>[(66,E k)]) (fun k w=>k<=n/\Z w0 w [X W 3 F (replicate k 1125899906842624++replicate (n-k) 0),aj eT 181 h A,X ap 176 B h,ak ps 142 [E n,E S.bR,cv,ev,gv]]) (fun k=>n-k) 0 (fun _=>rfl) ⟨rfl,az⟩ ⟨bu _,Y⟩ ?_;clear Y;rintro σ k w ⟨hk,Y⟩;have _q:(replicate k (1125899906842624:Int)++replicate (n-k) 0).length=n:=by rw[length_append,nD,nD];omega
 refine aB ?_ ?_<;>intro h3
 ·refine fm ?_;intro w Y
  refine⟨k+1,⟨rfl,az⟩,aU,⟨U,?_⟩,U⟩;have e:(replicate k (1125899906842624:Int)++replicate (n-k) 0).set k 1125899906842624=replicate (k+1) 1125899906842624++replicate (n-(k+1)) 0:=by
   have f:n-k=(n-(k+1))+1:=U;rw[f,DP,yE _ _ (by rw[nD];exact cD _),nD,r7,mI,GW,fL];rfl
  rw[e]at Y;exact Y.aY
 have H':n=k:=U;subst H';rw[r7,CB,fS]at Y;refine l7 ?_;intro s w Y;obtain⟨wv,rfl⟩:=À s;refine aL rfl (ns (hf.at Y) U) ?_;rintro _ w' ⟨C,rfl,al⟩;refine aI ?_;clear al Y;intro Y;refine O ?_;rw[show ((n:Int)).toNat=n from by omega]at Y;have Y:Z w0 w' [X W 3 C fr,X ah 4 wv (replicate n false),X W 3 F (replicate n 1125899906842624),aj eT 181 h A,X ap 176 B h]:=Y.aY;refine cP [16,16,80,90] (G:=Nat) (fun k=>[(80,E k)]) (fun k w=>k<=fr.length/\Z w0 w [X W 3 C fr,X ah 4 wv ((fr.take k).foldl (fun o i=>o.set i.toNat true) (replicate n false)),X W 3 F ((fr.take k).foldl (fun o i=>o.set i.toNat 0) (replicate n 1125899906842624)),aj eT 181 h A,X ap 176 B h]) (fun k=>fr.length-k) 0 (fun _=>rfl) ⟨rfl,az⟩ ⟨bu _,Y⟩ ?_;clear Y;rintro σ k w ⟨hk,Y⟩;have l1:((fr.take k).foldl (fun o i=>o.set i.toNat true) (replicate n false)).length=n:=by rw[EI,nD]
 have l2:((fr.take k).foldl (fun o i=>o.set i.toNat (0:Int)) (replicate n 1125899906842624)).length=n:=by rw[EI,nD]
 refine aB ?_ ?_<;>intro h4
 ·have u:k<fr.length:=U
  have f:=Q _ (cH W.dflt u);refine fm ?_;intro w Y;refine⟨k+1,⟨rfl,az⟩,aU,⟨U,?_⟩,U⟩;rw[eC W.dflt u,ti,ti];exact Y
 rw[gH U]at Y;have T':=Tx P' Q;have Y:Z w0 w [X W 3 C (fk n fr).q,X ah 4 wv (fk n fr).waits,X W 3 F (fk n fr).out,aj eT 181 h A,X ap 176 B h]:=Y;refine O ?_;refine dQ [14,14,17,17,19,19,91,150] (G:=Nat) (H:=Value) (fun j C=>[(14,C)]) (fun j C w=>∃ f,f=kY (cz A) j (fk n fr)/\gu n f/\Z w0 w [X W 3 C f.q,X ah 4 wv f.waits,X W 3 F f.out,aj eT 181 h A,X ap 176 B h]) (fun j C=>pY (kY (cz A) j (fk n fr))) 0 C (fun _ _=>rfl) ⟨rfl,az⟩ ⟨_,rfl,T',Y⟩ ?_;clear Y;rintro σ j C w ⟨f,hX,bL,Y⟩;have _r:=bL.ql;have _s:=bL.ol;have _t:=bL.wl;have _u:=D.len;refine aB ?_ ?_<;>intro h5
 ·obtain⟨i,r,hq⟩:∃ i r,f.q=i::r:=by
   cases hq:f.q with
   | nil=>rw[hq]at h5;simp at h5
   | cons i r=>exact⟨i,r,rfl⟩
  obtain⟨_f,_v,_g,_h⟩:=bL.pop hq;have j':f.q.length=r.length+1:=by rw[hq];rfl
  have V':f.q.getD (Int.toNat 0) W.dflt=i:=by rw[hq];rfl
  refine iE ?_;intro w Y;rw[V'];refine O ?_;rw[V']at Y;have Y:=Y.sub (s:=C) own_here 1 f.q.length U (cD _);have _i:cut f.q 1 f.q.length=r:=by rw[hq];simp[cut]
  rw[_i]at Y;obtain⟨q2,_a⟩:=À (ssub C W.sz (Int.toNat 1) f.q.length);have Y:Z w0 w [X W 3 q2 r,X ah 4 wv (f.waits.set i.toNat false),X W 3 F f.out,aj eT 181 h A,X ap 176 B h]:=by rw[_a];exact Y
  rw[<-_a];obtain⟨AR,K⟩:=À (A.getD i.toNat []);have N:∀ a∈AR,kH n a:=fun a R=>D.ok _ (Iw (i:=i.toNat) U) a (by rw[<-K];exact R);have _j:AR.length<=S.aD.length:=by
   rw[K,hA];exact pT yc (by rw[iz];exact cD _)
  have J':cz A f=AR.foldl (dP i) ⟨f.out,f.waits.set i.toNat false,r⟩:=by unfold cz;rw[hq,K]
  have y:=(Y.bQ 3 rfl).row (i:=i.toNat) U;rw[<-K]at y;refine O ?_;refine dQ [14,14,19,19,107,150] (G:=Nat) (H:=Value) (fun k q'=>[(107,E k),(14,q')]) (fun k q' w=>k<=AR.length/\Z w0 w [X W 3 q' ((AR.take k).foldl (dP i) ⟨f.out,f.waits.set i.toNat false,r⟩).q,X ah 4 wv ((AR.take k).foldl (dP i) ⟨f.out,f.waits.set i.toNat false,r⟩).waits,X W 3 F ((AR.take k).foldl (dP i) ⟨f.out,f.waits.set i.toNat false,r⟩).out,aj eT 181 h A,X ap 176 B h]) (fun k _=>AR.length-k) 0 q2 (fun _ _=>rfl) ⟨rfl,rfl,az⟩ ⟨bu _,Y⟩ ?_;clear Y y;rintro σ k q' w ⟨hk,Y⟩;have hY:=(_f.BT (L:=AR.take k) ⟨_g,_h⟩ (fun a R=>N a (pO R))).1;obtain⟨t,V⟩:=À ((AR.take k).foldl (dP i) ⟨f.out,f.waits.set i.toNat false,r⟩);rw[<-V]at Y hY;have y1:=hY.ol;have y2:=hY.wl;have y3:=hY.ql;have y4:=hY.ob i.toNat U;have y:=(Y.bQ 3 rfl).row (i:=i.toNat) U;rw[<-K]at y;refine aB ?_ ?_<;>intro h6
  ·have u:k<AR.length:=U
   have R:=N _ (cH eT.dflt u);obtain⟨a,m⟩:=À (AR.getD k eT.dflt);rw[<-m]at R;obtain⟨b1,b2,b3,b4,b5,b6⟩:=R;have y5:=hY.ob a.dst.toNat U;have z:(AR.take (k+1)).foldl (dP i) ⟨f.out,f.waits.set i.toNat false,r⟩=dP i t a:=by rw[eC eT.dflt u,ti,<-V,<-m];rfl
   refine db ?_;intro p w Y;have Y:Z w0 w [ak p 181 [E a.bh,E a.dst,E a.wt],X W 3 q' t.q,X ah 4 wv t.waits,X W 3 F t.out,aj eT 181 h A,X ap 176 B h]:=by rw[m];exact Y
   refine r8 ?_;clear Y y;intro w Y;refine aB ?_ ?_<;>intro h7
   ·have hs:dP i t a=t:=by unfold dP;rw[aM h7]
    refine O ?_;exact⟨k+1,q',⟨rfl,rfl,az⟩,aU,⟨U,by rw[z,hs];exact Y.aY⟩,U⟩
   have _b:¬t.out.getD i.toNat W.dflt+a.wt≥t.out.getD a.dst.toNat W.dflt:=U;refine O ?_;refine fz (pl [0,1,2,3,4,5,6,7,8,9,10,11] []) Y kr ?_;clear Y;intro w Y;refine iE ?_;intro w Y;by_cases P:t.waits.getD a.dst.toNat ah.dflt=true
   ·have hs:dP i t a=⟨t.out.set a.dst.toNat (t.out.getD i.toNat W.dflt+a.wt),t.waits,t.q⟩:=by unfold dP;rw[aC _b,aM P]
    rw[P];refine O ?_;exact⟨k+1,q',⟨rfl,rfl,az⟩,aU,⟨U,by rw[z,hs];exact Y.aY⟩,U⟩
   have hs:dP i t a=⟨t.out.set a.dst.toNat (t.out.getD i.toNat W.dflt+a.wt),t.waits.set a.dst.toNat true,t.q++[a.dst]⟩:=by unfold dP;rw[aC _b,aC P]
   rw[tt]at P;rw[P];refine O ?_;refine fz (pl [0,1,2,3,4,5,6] (.cI 2::pl [7] (.cI 2::pl [8,9,10] []))) Y kr ?_;clear Y;intro w Y
   repeat (first|refine du ?_|(refine tq ?_;clear Y;intro w Y)|(refine fA ?_;clear Y;intro s w Y))
   exact⟨k+1,s,⟨rfl,rfl,az⟩,aU,⟨U,by rw[z,hs];exact Y.aY⟩,U⟩
  have H':k=AR.length:=U;rw[H',kV,<-J']at V;refine O ?_;refine⟨j+1,q',⟨rfl,az⟩,aU,⟨t,by rw[V,hX];rfl,hY,Y.aY⟩,?_⟩;have:=(bL.step D.ok).2.1 (by unfold ed;rw[hq];rfl);rw[hX]at this;exact this
 have b:ed f=true:=by
  unfold ed
  cases hq:f.q with
  | nil=>rfl
  | cons i r =>
   have:f.q.length=r.length+1:=by rw[hq];rfl
   omega
 have m:Cr S fr true=f.out:=by
  unfold Cr;rw[<-hA,<-hn,ow (Mj A) (n:=j) (by rw[<-hX];exact b),<-hX]
 rw[m];refine O ?_;exact bf (v:=F) rfl rfl ⟨F,rfl,Y.aY⟩
def cX.mi (h:cX w cv ev gv S):([Value.int .i64 S.st,E S.bR,cv,ev,gv]).all Value.oneCell'=true:=by
 simp only[eD,eN,h.aS.one,h.aD.one,h.aQ.one];rfl
def Dy {g:List Bool}{i:Int}:∀ {k:Nat},i∈gM g k↔0<=i/\i<(k:Int)/\g.getD i.toNat ah.dflt=true
 | k=>by
  unfold gM;rw[mem_filterMap];constructor
  ·rintro⟨j,a,h⟩
   rw[mem_range]at a;split at h
   ·rename_i I
    cases h;exact⟨U,U,I⟩
   cases h
  rintro⟨a,h1,I⟩;exact⟨i.toNat,by rw[mem_range];omega,by rw[aM I];congr 1;omega⟩
def Gi {g:List Bool}:∀ k:Nat,(gM g k).Nodup
 | 0=>by simp[gM]
 | k+1=>by
  have f:=Gi (g:=g) k;unfold gM at *
  rw[l5,Km,zU];refine⟨f,by simp only[GO,GP];split<;>simp,fun a l b d e=>?_⟩;have:=(Dy (g:=g) (k:=k)).1 l;rw[mem_filterMap]at d;obtain⟨j,m,h⟩:=d;rw[dp]at m;split at h
  ·cases h;omega
  cases h
noncomputable def iH (S:bZ):Int:=if iT S=true then 0 else 2
noncomputable def tX (S:bZ):J:=if iT S=true then mW S else []
def Wl (b:cX w0 cv ev gv S) :
  Calls ai 91 #[cM S cv ev gv] w0 fun e w'=>∃ v,e=.returned (.tuple #[v,bI (iH S)])/\Z w0 w' [X W 3 v (tX S)]:=by
 have Y:=Z.start w0;have n:=b.mi;refine bA an Tryz.func91 ?_;unfold cM;refine db ?_;intro p w Y;have Y:Z w0 w [ak p 142 [E S.st,E S.bR,cv,ev,gv]]:=Y;refine aL rfl (Ei (S:=S) (b.at Y)) ?_;refine gZ ?_;clear Y;intro w' Y;by_cases hv:iT S=true
 ·rw[hv]
  have a:dR S:=nr fun h=>by rw[we h]at hv;cases hv
  have d:iH S=0:=by unfold iH;rw[aM hv]
  have f:tX S=Cr S (vL S.aQ) true:=by unfold tX;rw[aM hv];rfl
  rw[d,f];refine O ?_;refine fz (pl [0,1,2] (.cI 0::pl [3,4,5] [])) Y kr ?_;clear Y;intro w Y;refine O ?_;have j:S.aQ.length<=4096:=by obtain⟨_,o,_,_,l,_⟩:=a;omega
  refine aL rfl (Zz (S:=S) (b.at Y) j) ?_;rintro _ w' ⟨q,rfl,al⟩;refine aI ?_;clear al Y;intro Y;refine O ?_;refine aL rfl (ϐ (S:=S) (fr:=vL S.aQ) (b.at Y) a (Y.rs 0 rfl) (Gi _) (fun i m=>?_)) ?_
  ·have:=(Dy (g:=S.aQ) (k:=S.aQ.length)).1 m
   obtain⟨_,_,_,_,l,_⟩:=a;omega
  rintro _ w' ⟨v,rfl,al⟩;refine aI ?_;clear al Y;intro Y;refine O ?_;exact cR (v:=v) (v':=.nilIface) rfl rfl rfl ⟨v,by rw[fK rfl],Y.aY⟩
 rw[tt]at hv;rw[hv];have d:iH S=2:=by unfold iH;rw[aC (by rw[hv];simp)]
 have f:tX S=[]:=by unfold tX;rw[aC (by rw[hv];simp)]
 rw[d,f];refine O ?_;exact cR (v:=nS) (v':=.iface 57 (E 2)) rfl rfl rfl ⟨_,by rw[cS dc],(gm Y).nil⟩
end
end Go.Proofs.YtmapkjoefdgjfaaGreatDoor
