/- Several texts. -/
import Derived.Test.YtmapkjoefdgjfaaGreatDoorMW5H
import Derived.Shelf.SlSortCmp.NoneTotal
import Derived.Shelf.SlicesE.Delete
import Derived.Test.YtmapkjoefdgjfaaGreatDoorMW1H
import Derived.Lib.ItoaLen
set_option linter.unusedSimpArgs false
set_option linter.unusedVariables false
set_option linter.defProp false
set_option maxRecDepth 8000
set_option maxHeartbeats 16000000
open List Nat
namespace Go.Proofs.YtmapkjoefdgjfaaGreatDoor
open Go.Sl
variable {α:Type}{S:ct}{w0 w:World}{k i:Nat}{c:J}{Γ:List HP}{e:TypeId}{s cv ev gv:Value}{L:List (List α)}
section
open Go.Sl Go Go.Shelf Go.Sort
attribute [local irreducible] vc opsW opsD opV opW PureV ReadV Thn Blk
def tB {P:Program}{f:FuncId}{B:Func}(h1:(((P.funcs[f]?).map Func.name).getD "" == "runtime.NumGoroutine") = false := by kernel_rfl)(h2 : P.funcs[f]? = some {B with name := ((P.funcs[f]?).map Func.name).getD ""} := by kernel_rfl) : Bears P f B := ⟨_, h1, h2⟩
def Di:Ren:=⟨rl [6,151,14,176,15,98,20,197,21,198,22,199,23,200,24,201,25,202,26,203,27,204,28,132,29,133,46,211,47,154,48,155,49,212,50,213,57,225],rl [0,0,3,3,4,4,5,5,9,9,22,139,24,190,25,248,39,175,45,210,46,211,50,183,53,218,55,220,66,250,70,254,76,279,77,267],fun k=>k⟩
set_option maxRecDepth 100000 in
def G3:SlLaysF0.n6 ak Di:=by constructor<;>first|exact ar|kernel_rfl|(intro w;kernel_rfl)|exact tB
def Dj:Ren:=⟨rl [6,189,14,208,15,98,20,215,21,216,22,217,23,218,24,219,25,220,26,221,27,222,28,132,29,133,46,226,47,154,48,155,49,227,50,228,57,233],rl [0,0,3,3,4,4,5,5,9,9,22,290,24,291,25,293,39,175,45,210,46,211,50,183,53,218,55,220,66,250,70,254,76,279,77,267],fun k=>k⟩
set_option maxRecDepth 100000 in
def Pn:SlLaysF0.n6 ak Dj:=by constructor<;>first|exact ar|kernel_rfl|(intro w;kernel_rfl)|exact tB
def gS:Ty (Int × Int):=⟨2,fun a=>[E a.1,E a.2],fun _=>rfl,(0,0)⟩
instance Kt:lU gS:=⟨fun x v hv=>by simp only[gS,gT,jd,pQ]at hv;rcases hv with rfl|rfl<;>rfl⟩
def Dk {a:Ren}(L:SlLaysF0.n6 ak a)[Inhabited α]{T:Ty α}[O':lU T](r:0<T.sz)(u:∀ w,(isAgg (a.t 24)).run ak w=.ok true w)(z:∀ w,(Go.sizeOf (a.t 24)).run ak w=.ok T.sz w){d:α->α->Int}(hO:SWO (ltOf d)){g:Nat}[au ak g](h:∀ w x y,Calls ak g #[.agg (T.enc x).toArray,.agg (T.enc y).toArray] w fun e w'=>e=.returned (E (d x y))/\∃ (q:Nat) (os:Array Obj),w'=Sort.grow (w.drewN q) os){xs:List α}(Y:Z w0 w (X T e s xs::Γ))(A:xs.length<4611686018427387904) :
  Calls ak (a.f 6) #[s,.func (.func g) #[] #[]] w fun l w'=>l=.returned (.tuple #[])/\Z w0 w' (X T e s (gF d xs)::Γ):=by
 rcases Y.GW r with ⟨rfl,rfl⟩|⟨b,off,cap,rfl,D,B,hH,j⟩
 ·refine wh (AnyF.slices_SortFunc_none L none 0 _ w) ?_
  rintro e w' ⟨rfl,rfl⟩;exact⟨rfl,by rw[qzY hO];exact Y⟩
 have C:=AnyQ.slices_SortFunc_eq L T.sz u z T.enc T.ok (fun x v hv=>O'.ok x v hv) d hO g #[] b off cap xs.toArray w (fun args w=>au.run inferInstance args w)
  (by intro m os o F x y;exact h _ x y) hH B (by simpa using A)
 have o:xs.length=xs.toArray.size:=sm;rw[o];refine C.mono ?_;rintro l w' ⟨he,n,os,rfl⟩;refine⟨he,?_⟩;have h1:=j (gF d xs) (Et hO) n os;rw[<-o];exact h1
def A0:(∀ w,(isAgg (Di.t 24)).run ak w=.ok true w)/\∀ w,(Go.sizeOf (Di.t 24)).run ak w=.ok 3 w:=by
 have h:fi ak 190 3:=inferInstance;exact h.agg
def G4:(∀ w,(isAgg (Dj.t 24)).run ak w=.ok true w)/\∀ w,(Go.sizeOf (Dj.t 24)).run ak w=.ok 2 w:=by
 have h:fi ak 291 2:=inferInstance;exact h.agg
set_option maxRecDepth 100000 in
def ĩ {xs:List dr}(Y:Z w0 w (X aV e s xs::Γ))(a:xs.length<4611686018427387904) :
  Calls ak 151 #[s,.func (.func 152) #[] #[]] w fun b w'=>b=.returned (.tuple #[])/\Z w0 w' (X aV e s (gF fE xs)::Γ):=by
 have h:=Dk (T:=aV) (g:=152) G3 (fg _) A0.1 A0.2 qk (fun w x y=>Ud x y) Y a;exact h
set_option maxRecDepth 100000 in
def Ĥ {xs:List dr}(Y:Z w0 w (X aV e s xs::Γ))(a:xs.length<4611686018427387904) :
  Calls ak 151 #[s,.func (.func 195) #[] #[]] w fun b w'=>b=.returned (.tuple #[])/\Z w0 w' (X aV e s (gF fE xs)::Γ):=by
 have h:=Dk (T:=aV) (g:=195) G3 (fg _) A0.1 A0.2 qk (fun w x y=>Ϧ x y) Y a;exact h
set_option maxRecDepth 100000 in
def qvE {xs:List (Int × Int)}(Y:Z w0 w (X gS e s xs::Γ))(a:xs.length<4611686018427387904) :
  Calls ak 189 #[s,.func (.func 190) #[] #[]] w fun b w'=>b=.returned (.tuple #[])/\Z w0 w' (X gS e s (gF qW xs)::Γ):=by
 have h:=Dk (T:=gS) (g:=190) Pn (fg _) G4.1 G4.2 Db (fun w x y=>œ x.1 x.2 y.1 y.2) Y a;exact h
def Po:Ren:=⟨rl [45,170],rl [0,0,3,3,4,4,22,140,23,4],fun k=>k⟩
set_option maxRecDepth 100000 in
def Pp:SlLaysE.n45 ak Po:=by constructor<;>first|exact ar|kernel_rfl|(intro w;kernel_rfl)|exact tB
def WV (xs:List Bool):xs.flatMap ah.enc=xs.map Value.bool:=by
 induction xs with
 | nil=>rfl
 | cons x xs a=>rw[pA,a];rfl
set_option maxRecDepth 100000 in
def Ġ {b off cap:Nat}{xs:List Bool}(Y:Z w0 w (X ah e (.slice (some ⟨b,off,none⟩) xs.length cap) xs::Γ))(a:cap<=9223372036854775807)(hk:k<xs.length) :
  Calls ak 170 #[.slice (some ⟨b,off,none⟩) xs.length cap,E k,E ((k:Int)+1)] w fun n w'=>n=.returned (.slice (some ⟨b,off,none⟩) (xs.eraseIdx k).length cap)/\Z w0 w' (X ah e (.slice (some ⟨b,off,none⟩) (xs.eraseIdx k).length cap) (xs.eraseIdx k)::Γ):=by
 rw[show ((k:Int)+1)=((k+1:Nat):Int) from by omega];rcases Y.GW (fg _) with ⟨h,_⟩|⟨D,o,r,h,u,F,hH,d⟩
 ·cases h
 cases h;have f:(xs.eraseIdx k).length=xs.length-1:=L0 hk;have g:Sort.flatK ah.enc 1 xs.toArray=(xs.map Value.bool).toArray:=by rw[<-WV];exact Js ah xs
 have l:Sort.Holds Value.bool w b off xs.toArray:=by
  intro j t;have m:j<xs.length:=by simpa using t
  have:=hH j (by rw[show ah.sz=1 from rfl,g];simpa using t);rw[show ah.sz=1 from rfl,g]at this
  simpa [m] using this
 obtain⟨i0,j,m,_⟩:=bw.vH (show bw ak 140 4 1 1 from inferInstance);have v:=AnyE.slices_Delete Pp Value.bool (fun _=>rfl) false (fun w=>kr) i0 j m b off cap k (k+1) xs.toArray w l (by simpa using u) a (le_succ _) (by simpa using succ_le_of_lt hk);have x:xs.length=xs.toArray.size:=sm;rw[x];refine v.mono ?_;rintro n w' ⟨he,q,rfl⟩;have y:xs.toArray.size-(k+1-k)=(xs.eraseIdx k).length:=by rw[f];simp
 rw[y]at he;refine⟨he,?_⟩;have h1:=d (xs.eraseIdx k++[false]) (by simp[f];omega) q #[];have t:=h1.sub own_here 0 (xs.eraseIdx k).length (bC _) sm;have z:cut (xs.eraseIdx k++[false]) 0 (xs.eraseIdx k).length=xs.eraseIdx k:=by simp[cut]
 have A:ssub (.slice (some ⟨b,off,none⟩) xs.length cap) ah.sz 0 (xs.eraseIdx k).length=.slice (some ⟨b,off,none⟩) (xs.eraseIdx k).length cap:=by simp[ssub,Ac,ah]
 rw[z,A]at t;have B:(xs.toArray.toList.take k++xs.toArray.toList.drop (k+1)++replicate (k+1-k) false)=xs.eraseIdx k++[false]:=by
  rw[eraseIdx_eq_take_drop_succ];simp
 rw[B];have C:Sort.putRow Value.bool (Sort.ahead w q) b off (xs.eraseIdx k++[false]).toArray=Go.Proofs.sortWorldK ah.enc ah.sz w b off q (xs.eraseIdx k++[false]).toArray #[]:=by
  unfold Go.Proofs.sortWorldK Sort.putRowK;rw[grow_empty,show ah.sz=1 from rfl,show Sort.flatK ah.enc 1 (xs.eraseIdx k++[false]).toArray=((xs.eraseIdx k++[false]).map Value.bool).toArray from by rw[<-WV];exact Js ah _];exact ϊ _ _ _ _ _
 rw[C];exact t
end
section
open Go.Sl Go
attribute [local irreducible] vc opsW opsD opV opW PureV ReadV Thn Blk
instance Ku:tu ak 291:=⟨kr⟩
instance Kv:AU ak 291 gS:=⟨fun a b w=>tu.run (P:=ak) (t:=291) inferInstance w⟩
def qvr {xs:List (Int × Int)}(Y:Z w0 w (X gS 291 s xs::Γ))(hn:xs.length<=65536) :
  Calls ak 193 #[s] w fun e w'=>∃ d,e=.returned d/\Z w0 w' (X gS 291 d (ml xs)::Γ):=by
 refine bI ar Tryz.func193 ?_;refine aC ?_ ?_<;>intro h1
 ·have he:ml xs=xs:=by
   match xs,h1 with
   | [],_=>rfl
   | [_],_=>rfl
   | _::_::_,h=>simp only[length_cons]at h;omega
  refine O ?_;exact bo (v:=s) rfl rfl ⟨s,rfl,by rw[he];exact Y.cu⟩
 have j':2<=xs.length:=U;refine O ?_;refine de [2,5,10,59] (G:=Nat) (fun k=>[(3,E k)]) (fun k w=>1<=k/\k<=xs.length/\ml (xs.take k)=xs.take k/\Z w0 w (X gS 291 s xs::Γ)) (fun k=>xs.length-k) 1 (fun _=>rfl) ⟨rfl,az⟩ ⟨cP _,U,by cases xs with|nil=>rfl|cons a r=>rfl,Y.cu⟩ ?_;clear Y;rintro σ k w ⟨B,hk,l,Y⟩;refine aC ?_ ?_<;>intro D
 ·have t:k<xs.length:=U
  have g:=Je gS.dflt B t;have ek:((k:Int)-1).toNat=k-1:=U;rw[<-ek]at g;refine O ?_;refine qM ?_;clear Y;intro w Y;refine O ?_;refine fR rfl (TE (T:=gS) (a:=xs.getD k gS.dflt) (b:=xs.getD ((k:Int)-1).toNat gS.dflt) rfl rfl) ?_;refine aC ?_ ?_<;>intro N
  ·rw[ba N.symm,gj,l]at g
   refine O ?_;refine dP [3,3,5,5,29,53] (G:=Nat) (H:=Nat) (fun d q=>[(3,E q),(5,E d)]) (fun d q w=>1<=d/\k+d<=xs.length/\k<=q/\q<k+d/\∃ C:List (Int × Int),C.length=xs.length/\C.take q=ml (xs.take (k+d))/\(∀ j,k+d<=j+1->C.getD j gS.dflt=xs.getD j gS.dflt)/\Z w0 w (X gS 291 s C::Γ)) (fun d _=>xs.length-(k+d)) 1 k (fun _ _=>rfl) ⟨rfl,rfl,az⟩ ⟨cP _,U,cP _,U,xs,rfl,g.symm,fun _ _=>rfl,Y.cu⟩ ?_;clear Y;rintro σ d q w ⟨H',u,F,J',C,P,n,m,Y⟩;have P':(cut C k xs.length).length=xs.length-k:=Ar U;have A:=zJ (T:=gS) (bB (s:=s) Y) (lo:=k) (hi:=xs.length) U U;refine aC ?_ ?_<;>intro h4
   ·have x:k+d<xs.length:=U
    have f:=Je gS.dflt (show 0<k+d by omega) x;refine O ?_;refine qM ?_;clear Y A;intro w Y;have A:=zJ (T:=gS) (bB (s:=s) Y) (lo:=k) (hi:=xs.length) U U;have K:((d:Int)-1).toNat=d-1:=U;have R:(cut C k xs.length).getD d gS.dflt=xs.getD (k+d) gS.dflt:=by rw[<-m (k+d) U];simp[cut,List.getD,yj,x]
    have e2:(cut C k xs.length).getD ((d:Int)-1).toNat gS.dflt=xs.getD (k+d-1) gS.dflt:=by
     rw[<-m (k+d-1) U,K];simp[cut,List.getD,yj,show k+(d-1)=k+d-1 by omega,show k+d-1<xs.length by omega]
    refine O ?_;refine fR rfl (TF (T:=gS) (a:=(cut C k xs.length).getD d gS.dflt) (b:=(cut C k xs.length).getD ((d:Int)-1).toNat gS.dflt) rfl rfl) ?_;refine O ?_;rw[R,e2];refine j2 ?_ ?_<;>intro V
    ·have o:¬xs.getD (k+d-1) gS.dflt=xs.getD (k+d) gS.dflt:=fun e=>V e.symm
     rw[aM o]at f;refine O ?_;refine vW (T:=gS) (s:=s) (j:=q) (x':=(cut C k xs.length).getD d gS.dflt) rfl rfl rfl rfl Y inferInstance U ?_;clear Y A;intro w Y;rw[R]at Y;refine O ?_;have y:q<C.length:=U;refine⟨d+1,q+1,⟨rfl,rfl,az⟩,aX,⟨U,U,U,U,C.set q (xs.getD (k+d) gS.dflt),by rw[iU];exact P,?_,fun j hj=>?_,Y.cu⟩,U⟩
     ·rw[eX gS.dflt (by rw[iU];exact y),Io (cP _),n,nI,ba ⟨rfl,y⟩]
      exact f.symm
     rw[nI,aM U];exact m j U
    have o:xs.getD (k+d-1) gS.dflt=xs.getD (k+d) gS.dflt:=by
     exact V.symm
    rw[ba o,gj]at f;refine O ?_;exact⟨d+1,q,⟨rfl,rfl,az⟩,aX,⟨U,U,F,U,C,P,by rw[n,<-f];rfl,fun j hj=>m j U,Y.cu⟩,U⟩
   have o:k+d=xs.length:=U;have K:q<=xs.length:=U;have x:ml xs=C.take q:=by rw[n,o,mK]
   refine O ?_;have y:=zJ (T:=gS) (bB (s:=s) Y) (lo:=q) (hi:=C.length) U (cP _);refine TG (T:=gS) (s:=s) (j:=q) (z:=((0,0):Int × Int)) rfl rfl rfl rfl Y inferInstance U ?_;clear Y A y;intro w Y;have f:(C.take q).length=q:=by rw[jC];omega
   have R:(C.take q++replicate (C.length-q) ((0,0):Int × Int)).length=C.length:=by rw[length_append,f,mp];omega
   refine O ?_;have D:=Y.sub (s:=s) own_here 0 q (bC _) (by rw[length_append,f];omega);have V:cut (C.take q++replicate (C.length-q) ((0,0):Int × Int)) 0 q=C.take q:=by simp[cut,f]
   rw[V,<-x]at D;exact bo (v:=ssub s gS.sz 0 q) rfl rfl ⟨_,rfl,D.cu⟩
  rw[aM (fun e=>N e.symm),l]at g;refine O ?_;refine⟨k+1,⟨rfl,az⟩,aX,⟨U,U,?_,Y.cu⟩,U⟩;rw[g,eX gS.dflt t]
 have u:k=xs.length:=U;rw[u,mK]at l;refine O ?_;exact bo (v:=s) rfl rfl ⟨s,rfl,by rw[l];exact Y.cu⟩
def zK {g:α->Int}{n:Nat}{l:List α}{x:Nat}:((gQ g n l).getD x []).length<=l.length:=by
 by_cases h:x<n
 ·rw[Gz h];exact wV _ _
 rw[ow,xS (by rw[Av];omega)];exact bC _
def TN (j:dE w0 cv ev gv S)(A:S.aN.length<=4096)(he:S.aH.length<=65536)(r:∀ e∈S.aH,0<=e.cU/\e.cU<S.aN.length) :
  Calls ak 150 #[df S cv ev gv] w0 fun e w'=>∃ v ss,e=.returned v/\Z w0 w' [ai aV 190 ss (da S),X aA 139 v ss]:=by
 have t:=j.aN;have u:=j.aH;have y:=j.aW;have Y:=Z.start w0;refine bI ar Tryz.func150 ?_;unfold df
 repeat (first|refine dS ?_|(refine iT ?_;clear Y;intro p w Y)|(refine gA ?_;clear Y;intro s w Y))
 have Y:=Y.iJ (T:=aV) (e:=190) S.aN.length;rw[<-N7 (g:=fun e:dr=>e.cU),show ((S.aN.length:Int)).toNat=S.aN.length from by omega]at Y;refine dP [5,5,13,29] (G:=Nat) (H:=List Value) (fun k ss=>[(13,E k)]) (fun k ss w=>k<=S.aH.length/\ss.length=S.aN.length/\Z w0 w [ai aV 190 ss (gQ (fun e:dr=>e.cU) S.aN.length (S.aH.take k)),X aA 139 s ss]) (fun k ss=>S.aH.length-k) 0 (replicate S.aN.length (nS)) (fun _ _=>rfl) ⟨rfl,az⟩ ⟨bC _,sm,by rw[yn];exact Y.bj⟩ ?_;clear Y;rintro B k ss w ⟨hk,m,Y⟩;refine aC ?_ ?_<;>intro C
 ·have d:k<S.aH.length:=U
  have hm:=r _ (cS aV.dflt d);have f:=N8 (g:=fun e:dr=>e.cU) (n:=S.aN.length) (dflt:=aV.dflt) d hm.1 hm.2;have z:=Av (g:=fun e:dr=>e.cU) (n:=S.aN.length) (l:=S.aH.take k);have h:=zK (g:=fun e:dr=>e.cU) (n:=S.aN.length) (l:=S.aH.take k) (x:=(S.aH.getD k aV.dflt).cU.toNat);rw[jC]at h;obtain⟨a,o⟩:=À (S.aH.getD k aV.dflt);rw[<-o]at hm f h;refine ep ?_;intro p w Y;rw[<-o]at Y;have q:a.cU.toNat<(gQ (fun e:dr=>e.cU) S.aN.length (S.aH.take k)).length:=U;replace Y:=Y.swap.ja q;refine gi (pl [0,1,2,3,4,5,6,7,8,9] (.cY 2::.cY 5::.cY 7::pl [10] (.cY 2::pl [11,12] []))) Y kr ?_;clear Y;intro w Y;refine O ?_;refine jA aV (x1:=a) rfl rfl rfl (fP rfl) (fg _) Y ?_;clear Y;intro s2 w Y;refine kO ?_;intro s w Y;replace Y:=Z.re q U Y.tail;replace Y:=Y.swap.tail;rw[<-f]at Y;exact⟨k+1,ss.set a.cU.toNat s,⟨rfl,az⟩,aX,⟨U,by rw[iU];exact m,Y⟩,U⟩
 rw[io U]at Y;refine O ?_;exact bo (v:=s) rfl rfl ⟨s,ss,rfl,Y⟩
def jk (S:ct)(c:J)(k:Nat):List (List (Int × Int)):=(gQ (fun e:dr=>e.br) S.st.toNat (S.aH.take k)).map fun l=>l.map fun e=>(e.cU,c.getD e.dst.toNat W.dflt)
def WW:(jk S c k).length=S.st.toNat:=by unfold jk;rw[lA,Av]
def qxU {β:Type}{f:List α->List β}(a:f []=[]):(L.map f).getD i []=f (L.getD i []):=by
 simp only[ow,vh]
 cases L[i]? with
 | none=>exact a.symm
 | some _=>rfl
def Kg:(jk S c k).getD i []=((gQ (fun e:dr=>e.br) S.st.toNat (S.aH.take k)).getD i []).map fun e=>(e.cU,c.getD e.dst.toNat W.dflt):=by
 unfold jk;exact qxU rfl
def qrm:jk S c 0=replicate S.st.toNat []:=by
 unfold jk;rw[yn,N7,map_replicate];rfl
def qrn (hk:k<S.aH.length)(b:0<=(S.aH.getD k aV.dflt).br)(h1:(S.aH.getD k aV.dflt).br<S.st.toNat) :
  jk S c (k+1)=(jk S c k).set (S.aH.getD k aV.dflt).br.toNat ((jk S c k).getD (S.aH.getD k aV.dflt).br.toNat []++[((S.aH.getD k aV.dflt).cU,c.getD (S.aH.getD k aV.dflt).dst.toNat W.dflt)]):=by
 rw[Kg];unfold jk;rw[N8 (g:=fun e:dr=>e.br) (dflt:=aV.dflt) hk b h1,map_set,qG];rfl
def WX:((jk S c k).getD i []).length<=S.aH.length:=by
 rw[Kg,lA];exact rN zK (by rw[jC];omega)
def quZ (hi:i<S.st.toNat):(jk S c S.aH.length).getD i []=JQ S c i:=by
 rw[Kg,Gz hi,mK];rfl
def GJ {n:Int}(a:0<=n)(h1:n<=65536):(kf n).length<=21:=Lib.itoa_length_le n U U
def WY {α:Type}{f:α->List UInt8}{m:Nat}:∀ {l:List α},(∀ a∈l,(f a).length<=m)->(l.flatMap f).length<=l.length*m
 | [],_=>sm
 | a::l,h=>by
  have:=WY (f:=f) (m:=m) (l:=l) fun b d=>h b (nt _ d);have:=h a ku;rw[pA,length_append,length_cons,r8,x8];omega
def lM (S:ct)(c:J)(k:Nat):List ByteArray:=(List.range k).map fun s=>⟨(mJ S c s).toArray⟩
def qu1 (S:ct)(c:J)(k:Nat):lM S c (k+1)=lM S c k++[⟨(mJ S c k).toArray⟩]:=by simp[lM,lN]
def Kh (S:ct)(c:J)(k:Nat):(lM S c k).length=k:=by simp[lM]
def qxV (S:ct)(c:J){n:Nat}(hk:k<n):(lM S c k++replicate (n-k) (⟨#[]⟩:ByteArray)).set k ⟨(mJ S c k).toArray⟩=lM S c (k+1)++replicate (n-(k+1)) ⟨#[]⟩:=by
 have a:n-k=(n-(k+1))+1:=U;rw[a,Cz,qu1,fk,xQ _ _ (by rw[Kh];omega),Kh,pW];rfl
def qxW {ss:List Value}(h:k<ss.length):ss.drop k=cL ss k::ss.drop (k+1):=by
 rw[xd h,qL,aq h]
def qxX (h:k<L.length):L.drop k=L.getD k []::L.drop (k+1):=by
 rw[xd h,aq h]
def Ě {sc se sg cl:Value}(hS:dE w0 sc se sg S)(hv:cW S)(hT:nF w0)(hc:RS W w0 cl c)(_l:(c.length:Int)=S.st)(j':∀ i:Nat,i<c.length->0<=c.getD i W.dflt/\c.getD i W.dflt<=65536) :
  Calls ak 173 #[df S sc se sg,cl] w0 fun e w'=>∃ v,e=.returned (.tuple #[v,E ((cR (jr S c)).length:Nat)])/\Z w0 w' [X W 3 v (dX (jr S c))]:=by
 have _m:=hS.aN;have _n:=hS.aH;have _o:=hS.aW;have Y:=Z.start w0;obtain⟨a1,a2,a3,a4,a5,a6,a7,_p,H',_⟩:=hv;obtain⟨n,hn⟩:=À S.st.toNat;have _d:S.st=(n:Int):=U;refine bI ar Tryz.func173 ?_;unfold df;rw[_d]
 repeat (first|refine dS ?_|(refine iT ?_;clear Y;intro p w Y)|(refine gA ?_;clear Y;intro s w Y))
 have Y:=Y.iJ (T:=gS) (e:=291) n;obtain⟨ps,rfl⟩:=À p;obtain⟨A,rfl⟩:=À s;have Y:Z w0 w [ai gS 291 (replicate n (nS)) (replicate n []),X aA 290 A (replicate n (nS)),am ps 142 [E n,E S.cj,sc,se,sg]]:=Y;rw[hn,<-qrm (c:=c),<-hn]at Y;refine dP [8,8,21,44] (G:=Nat) (H:=List Value) (fun k h=>[(21,E k)]) (fun k h w=>k<=S.aH.length/\h.length=n/\Z w0 w [ai gS 291 h (jk S c k),X aA 290 A h,am ps 142 [E n,E S.cj,sc,se,sg]]) (fun k h=>S.aH.length-k) 0 (replicate n (nS)) (fun _ _=>rfl) ⟨rfl,az⟩ ⟨bC _,sm,Y⟩ ?_;clear Y;rintro σ k h w ⟨hk,N,Y⟩;refine aC ?_ ?_<;>intro h2
 ·have B:k<S.aH.length:=U
  obtain⟨a,Q⟩:=À (S.aH.getD k aV.dflt);have hm:=H' _ (cS aV.dflt B);have d:=qrn (c:=c) B hm.1.1 U;rw[<-Q]at hm d;obtain⟨⟨m1,m2⟩,⟨m3,m4⟩,m5,m6⟩:=hm;have o:=WW (S:=S) (c:=c) (k:=k);have J':=WX (S:=S) (c:=c) (k:=k) (i:=a.br.toNat);refine dj ?_;intro p w Y;have Y:Z w0 w [am p 190 [E a.br,E a.cU,E a.dst],ai gS 291 h (jk S c k),X aA 290 A h,am ps 142 [E n,E S.cj,sc,se,sg]]:=by rw[Q];exact Y
  have hi:a.br.toNat<(jk S c k).length:=U;replace Y:=Y.swap.ja hi;refine gi (pl [0,1,2,3,4,5,6,7,8,9,10,11,12,13,14,15] (.cY 2::.cY 5::.cY 7::pl [16] (.cY 2::.cY 5::.cY 7::pl [17] (.cY 2::pl [18,19] [])))) Y kr ?_;clear Y;intro w Y
  repeat refine dS ?_
  refine ξ rfl rfl ?_
  repeat refine dS ?_
  refine jA gS (x1:=(a.cU,c.getD a.dst.toNat W.dflt)) rfl rfl rfl (fP rfl) (fg _) Y ?_;clear Y;intro s2 w Y;refine qJ ?_;intro s w Y;replace Y:=Z.re hi U Y.tail;replace Y:=Y.swap.tail;rw[<-d]at Y;exact⟨k+1,h.set a.br.toNat s,⟨rfl,az⟩,aX,⟨U,by rw[iU];exact N,Y⟩,U⟩
 have _e:k=S.aH.length:=U;rw[_e]at Y;refine O ?_;refine Ct l6 ⟨#[]⟩ rfl rfl rfl rfl U U U Y ?_;clear Y;intro D w Y;refine O ?_;rw[show ((n:Int)).toNat=n from by omega]at Y;obtain⟨t,u⟩:=À (jk S c S.aH.length);have _q:t.length=n:=by rw[u,hn];exact WW
 have _f:∀ i,i<n->t.getD i []=JQ S c i:=fun i hi=>by rw[u];exact quZ U
 have _g:∀ i:Nat,(t.getD i []).length<=65536:=fun i=>by rw[u];exact rN WX U
 have _h:∀ i:Nat,∀ x∈t.getD i [],(0<=x.1/\x.1<=65536)/\0<=x.2/\x.2<=65536:=fun i x hx=>by
  rw[u,Kg]at hx;obtain⟨e,he,rfl⟩:=iG.1 hx;have d:e∈S.aH:=by
   by_cases hi:i<S.st.toNat
   ·exact rZ ((Aw (g:=fun e:dr=>e.br) hi).1 he).1
   rw[ow,xS (by rw[Av];omega)]at he;simp at he
  obtain⟨_,⟨q1,q2⟩,q3,q4⟩:=H' e d;have:=j' e.dst.toNat U;exact⟨⟨q3,U⟩,this⟩
 have Y:Z w0 w [ai gS 291 (h.drop 0) (t.drop 0),X aA 290 A h,X l6 9 D (lM S c 0++replicate (n-0) ⟨#[]⟩)]:=by
  rw[u,FL,FL,L1,show lM S c 0=[] from rfl,lQ];exact Y.bj
 clear u;have N:h.length=n:=N;refine de [10,12,14,14,50,85] (G:=Nat) (fun k=>[(50,E k)]) (fun k w=>k<=n/\Z w0 w [ai gS 291 (h.drop k) (t.drop k),X aA 290 A h,X l6 9 D (lM S c k++replicate (n-k) ⟨#[]⟩)]) (fun k=>n-k) 0 (fun _=>rfl) ⟨rfl,az⟩ ⟨bC _,Y⟩ ?_;clear Y;rintro σ k w ⟨hk,Y⟩;have _r:(lM S c k++replicate (n-k) (⟨#[]⟩:ByteArray)).length=n:=by rw[length_append,Kh,mp];omega
 refine aC ?_ ?_<;>intro h3
 ·have B:k<n:=U
  rw[qxW U,qxX U]at Y;replace Y:=Y.zo;obtain⟨rw,P'⟩:=À (cL h k);obtain⟨Rk,R'⟩:=À (t.getD k []);have T':=_g k;have F:=_h k;have K:=_f k B;rw[<-R']at T' F K;rw[<-P',<-R']at Y;refine O ?_;rw[<-P'];refine aR rfl (qvE (s:=rw) (xs:=Rk) Y U) ?_;rintro _ w' ⟨rfl,d⟩;clear Y;have Y:=d;clear d;refine⟨_,rfl,?_⟩;have _s:=Et Db (l:=Rk);refine dj ?_;intro C w Y;obtain⟨y,V'⟩:=À (c.getD k W.dflt);have q:=j' k U;rw[<-V']at q ⊢;refine aR rfl (LK (n:=y) (hT.at Y) U U) ?_;refine gk ?_;clear Y;intro w' Y;have _t:=GJ q.1 q.2;have Y:Z w0 w' [am C 297 [.pointer none,nS],X gB 5 (nS) (dq []),X gS 291 rw (gF qW Rk),ai gS 291 (h.drop (k+1)) (t.drop (k+1)),X aA 290 A h,X l6 9 D (lM S c k++replicate (n-k) ⟨#[]⟩)]:=by rw[show dq []=[] from rfl];exact(Y.nil (T:=gB) (e:=5)).bj
  refine O ?_;refine aR rfl (Ry (l:=[]) (b:=qh y) Y (.inl rfl) dc (by show (kf y).length<=_;omega)) ?_;rintro _ w' ⟨⟨v,rfl⟩,r,d⟩;clear Y;have Y:=d;clear d;refine⟨_,rfl,?_⟩;rw[lQ,show (qh y).data.toList=kf y from by simp[qh]]at Y;refine O ?_;have Y:Z w0 w' [X gS 291 rw (gF qW Rk),am C 297 [.pointer (some C),r],X gB 5 r (dq (kf y)),ai gS 291 (h.drop (k+1)) (t.drop (k+1)),X aA 290 A h,X l6 9 D (lM S c k++replicate (n-k) ⟨#[]⟩)]:=Y.bj;refine aR rfl (qvr (s:=rw) (xs:=gF qW Rk) Y U) ?_;rintro _ w' ⟨zv,rfl,d⟩;clear Y;have Y:=d;clear d;refine⟨_,rfl,?_⟩;obtain⟨o,hZ⟩:=À (ml (gF qW Rk));have _u:o.length<=65536:=by rw[hZ];exact rN (Oe _) U
  have _a:∀ x∈o,(0<=x.1/\x.1<=65536)/\0<=x.2/\x.2<=65536:=fun x hx=>by
   rw[hZ,JS,GB Db]at hx;exact F x hx
  have _i:∀ x∈o,(oY x).length<=44:=fun x hx=>by
   obtain⟨⟨q1,q2⟩,q3,q4⟩:=_a x hx;have i1:=GJ q1 q2;have i2:=GJ q3 q4;unfold oY;simp only[length_append,length_cons];omega
  have P:mJ S c k=kf y++o.flatMap oY:=by unfold mJ;rw[<-K,<-V',hZ]
  rw[<-hZ]at Y;refine O ?_;have Y:Z w0 w' [am C 297 [.pointer (some C),r],X gB 5 r (dq (kf y++(o.take 0).flatMap oY)),X gS 291 zv o,ai gS 291 (h.drop (k+1)) (t.drop (k+1)),X aA 290 A h,X l6 9 D (lM S c k++replicate (n-k) ⟨#[]⟩)]:=by
   rw[yn,Cu,gj];exact Y.bj
  refine dP [14,14,66,80] (G:=Nat) (H:=Value) (fun m r=>[(66,E m)]) (fun m r w=>m<=o.length/\Z w0 w [am C 297 [.pointer (some C),r],X gB 5 r (dq (kf y++(o.take m).flatMap oY)),X gS 291 zv o,ai gS 291 (h.drop (k+1)) (t.drop (k+1)),X aA 290 A h,X l6 9 D (lM S c k++replicate (n-k) ⟨#[]⟩)]) (fun m _=>o.length-m) 0 r (fun _ _=>rfl) ⟨rfl,az⟩ ⟨bC _,Y⟩ ?_;clear Y;rintro σ m r w ⟨hm,Y⟩;have _j:(kf y++(o.take m).flatMap oY).length<=10000000:=by
   have:=WY (f:=oY) (m:=44) (l:=o.take m) fun a Q=>_i a (rZ Q);rw[jC]at this;rw[length_append];have R:min m o.length*44<=65536*44:=xc U (cP _);omega
  refine aC ?_ ?_<;>intro h4
  ·have _b:m<o.length:=U
   obtain⟨z,hz⟩:=À (o.getD m gS.dflt);have _c:=_a _ (cS gS.dflt _b);rw[<-hz]at _c;obtain⟨⟨q1,q2⟩,q3,q4⟩:=_c;have i1:=GJ q1 q2;have i2:=GJ q3 q4;refine dj ?_;intro p w Y;have Y:Z w0 w [am p 291 [E z.1,E z.2],am C 297 [.pointer (some C),r],X gB 5 r (dq (kf y++(o.take m).flatMap oY)),X gS 291 zv o,ai gS 291 (h.drop (k+1)) (t.drop (k+1)),X aA 290 A h,X l6 9 D (lM S c k++replicate (n-k) ⟨#[]⟩)]:=by rw[hz];exact Y
   refine gi (pl [0,1,5,6,2] (.cY 6::pl [3,4,7,8,9] [])) Y kr ?_;clear Y;intro w Y;refine Bz ?_;refine fR (v:=.pointer (some (p.add 0))) rfl (CE (n:=2) (j:=0) rfl rfl U U) ?_;refine O ?_;refine fR (v:=.pointer (some (p.add 1))) rfl (CE (n:=2) (j:=1) rfl rfl U U) ?_;refine O ?_;refine aR rfl (LK (n:=z.1) (hT.at Y) U U) ?_;refine iw ?_;intro w' Y;have z1:(qh z.1).size=(kf z.1).length:=rfl;have z2:(qh z.2).size=(kf z.2).length:=rfl;refine fR rfl (Nt (a:=⟨#[32]⟩) (b:=qh z.1) rfl rfl (by show 1+(qh z.1).size<=_;omega)) ?_;obtain⟨A1,Q⟩:=À ((⟨#[32]⟩:ByteArray)++qh z.1);have _v:A1.size<=22:=by rw[Q,Mv];show 1+_<=_;omega
   rw[<-Q];refine O ?_;refine fR rfl (Nt (a:=A1) (b:=⟨#[58]⟩) rfl rfl (by show _+1<=_;omega)) ?_;obtain⟨A2,R⟩:=À (A1++(⟨#[58]⟩:ByteArray));have _w:A2.size<=23:=by rw[R,Mv];show _+1<=_;omega
   rw[<-R];refine O ?_;refine aR rfl (LK (n:=z.2) (hT.at Y) U U) ?_;refine iw ?_;intro w' Y;refine fR rfl (Nt (a:=A2) (b:=qh z.2) rfl rfl U) ?_;obtain⟨A3,V⟩:=À (A2++qh z.2);have _x:A3.size<=44:=by rw[V,Mv];omega
   have hA:A3.data.toList=oY z:=by
    rw[V,R,Q];simp[oY,qh]
   rw[<-V];refine O ?_;have Y:Z w0 w' [am C 297 [.pointer (some C),r],X gB 5 r (dq (kf y++(o.take m).flatMap oY)),X gS 291 zv o,ai gS 291 (h.drop (k+1)) (t.drop (k+1)),X aA 290 A h,X l6 9 D (lM S c k++replicate (n-k) ⟨#[]⟩)]:=Y.bj;refine aR rfl (Ry (b:=A3) Y (.inr rfl) U U) ?_;rintro _ w' ⟨⟨v,rfl⟩,_k,d⟩;clear Y;have Y:=d;clear d;refine⟨_,rfl,?_⟩;refine O ?_;refine⟨m+1,_k,⟨rfl,az⟩,aX,⟨U,?_⟩,U⟩;rw[eX gS.dflt _b,ya,<-hz,pA,Cu,gj,<-fk,<-hA];exact Y.bj
  rw[io U,<-P]at Y;have Q:mJ S c k≠[]:=by
   rw[P];intro e;exact(JU q.1).2.1 (append_eq_nil_iff.1 e).1
  rw[io U,<-P]at _j;refine O ?_;refine aR rfl (ZZ (l:=mJ S c k) Y Q U) ?_;rintro _ w' ⟨rfl,d⟩;clear Y;have Y:=d;clear d;refine⟨_,rfl,?_⟩;refine jD ?_;intro w Y;rw[qxV S c B]at Y;exact⟨k+1,⟨rfl,az⟩,aX,⟨U,Y.bj⟩,U⟩
 have o:n=k:=U;subst o;have d:lM S c n=jr S c:=by rw[hn];rfl
 rw[pW,Bk,gj,d]at Y;have J':(jr S c).length<=65536:=by rw[<-d,Kh];omega
 refine O ?_;refine aR rfl (Tw (L:=jr S c) (bB (s:=D) Y) J') ?_;rintro _ w' ⟨v,rfl,aw⟩;refine aO ?_;clear aw Y;intro Y;refine O ?_;exact dw (v:=v) (v':=E ((cR (jr S c)).length:Nat)) rfl rfl rfl ⟨v,rfl,Y.bj⟩
def qz3 (hk:k<S.aH.length):(S.aH.map (ul S true)).getD k fM.dflt=⟨(S.aH.getD k aV.dflt).dst,(S.aH.getD k aV.dflt).br,S.aN.getD (S.aH.getD k aV.dflt).cU.toNat W.dflt⟩:=by
 simp[List.getD,hk,ul]
def Lt (hv:cW S):tw S.st.toNat (kJ S true) where
 ok l f a b:=by
  obtain⟨x,hx,rfl⟩:=ga f;have d:x<S.st.toNat:=by simpa [kJ,gQ] using hx
  have h1:(kJ S true)[x]=(kJ S true).getD x []:=by rw[ow,mL hx];rfl
  rw[h1]at b;have h:=((Aw (g:=fun a:gR=>a.br) (l:=S.aH.map (ul S true)) d).1 b).1;obtain⟨e,he,rfl⟩:=iG.1 h;obtain⟨_,_,_,_,_,_,_,j,m,_⟩:=hv;obtain⟨⟨n,s1⟩,⟨d0,d1⟩,o,q⟩:=m e he;have:=j _ (cS W.dflt (show e.cU.toNat<S.aN.length by omega));show me S.st.toNat ⟨e.dst,e.br,S.aN.getD e.cU.toNat W.dflt⟩;exact⟨d0,(by show e.dst<_;omega),n,(by show e.br<_;omega),this.1,this.2⟩
 br i h a b:=by
  have d:i<S.st.toNat:=by simpa [kJ,gQ] using h
  exact((Aw (g:=fun a:gR=>a.br) (l:=S.aH.map (ul S true)) d).1 b).2
 len:=Av
def qyf {fv:Value}{fr:J}(hS:dE w0 cv ev gv S)(hv:cW S)(hf:RS W w0 fv fr)(P':fr.Nodup)(Q:∀ i∈fr,0<=i/\i<(S.st.toNat:Int)) :
  Calls ak 119 #[df S cv ev gv,fv,.bool true] w0 fun e w'=>∃ v,e=.returned v/\Z w0 w' [X W 3 v (DN S fr true)]:=by
 have _k:=hS.aN;have _l:=hS.aH;have _m:=hS.aW;have D:=Lt hv;obtain⟨a1,a2,a3,a4,a5,a6,a7,_n,_c,_⟩:=hv;obtain⟨n,hn⟩:=À S.st.toNat;have _d:S.st=(n:Int):=U;have _o:fr.length<=n:=by rw[hn];exact JX P' Q
 rw[<-hn]at D Q;have Y:=Z.start w0;refine bI ar Tryz.func119 ?_;unfold df;rw[_d]
 repeat (first|refine dS ?_|(refine iT ?_;clear Y;intro p w Y)|(refine gA ?_;clear Y;intro s w Y))
 have Y:=Y.iJ (T:=fM) (e:=181) n;obtain⟨ps,rfl⟩:=À p;obtain⟨B,rfl⟩:=À s;have Y:Z w0 w [ai fM 181 (replicate n (nS)) (replicate n []),X aA 176 B (replicate n (nS)),am ps 142 [E n,E S.cj,cv,ev,gv]]:=Y;obtain⟨L,hL⟩:=À (S.aH.map (ul S true));have _p:L.length=S.aH.length:=by rw[hL,lA]
 rw[<-N7 (g:=fun a:gR=>a.br)]at Y;refine dP [9,10,26,60] (G:=Nat) (H:=List Value) (fun k h=>[(26,E k)]) (fun k h w=>k<=S.aH.length/\h.length=n/\Z w0 w [ai fM 181 h (gQ (fun a:gR=>a.br) n (L.take k)),X aA 176 B h,am ps 142 [E n,E S.cj,cv,ev,gv]]) (fun k h=>S.aH.length-k) 0 (replicate n (nS)) (fun _ _=>rfl) ⟨rfl,az⟩ ⟨bC _,sm,by rw[yn];exact Y⟩ ?_;clear Y;rintro σ k h w ⟨hk,_e,Y⟩;refine aC ?_ ?_<;>intro h2
 ·have u:k<S.aH.length:=U
  have m:=qz3 u;rw[<-hL]at m;obtain⟨a,R⟩:=À (S.aH.getD k aV.dflt);have hm:=_c _ (cS aV.dflt u);rw[<-R]at hm m;obtain⟨c,j⟩:=À (S.aN.getD a.cU.toNat W.dflt);rw[<-j]at m;obtain⟨⟨m1,m2⟩,⟨m3,m4⟩,m5,m6⟩:=hm;have f:=N8 (g:=fun a:gR=>a.br) (n:=n) (dflt:=fM.dflt) (l:=L) (k:=k) U (by rw[m];exact m3) (by rw[m];simp only;omega);have y:=Av (g:=fun a:gR=>a.br) (n:=n) (l:=L.take k);have j':=zK (g:=fun a:gR=>a.br) (n:=n) (l:=L.take k) (x:=a.dst.toNat);rw[jC]at j';rw[m]at f;refine dj ?_;intro o w Y;have Y:Z w0 w [am o 190 [E a.br,E a.cU,E a.dst],ai fM 181 h (gQ (fun a:gR=>a.br) n (L.take k)),X aA 176 B h,am ps 142 [E n,E S.cj,cv,ev,gv]]:=by rw[R];exact Y
  refine rJ [10,10,30,40] (G:=Addr) (fun x=>[(10,.pointer (some x))]) (fun x w=>Z w0 w [am x 181 [E a.br,E a.dst,E c],am o 190 [E a.br,E a.cU,E a.dst],ai fM 181 h (gQ (fun a:gR=>a.br) n (L.take k)),X aA 176 B h,am ps 142 [E n,E S.cj,cv,ev,gv]]) (fun _=>rfl) ?_ ?_
  ·refine u7 (.s [0,2,4,6,1,3,5,7,8,9] (.d 10 [] (.c 11 [1,3,5,7,9] (.s [12] (.jz []))) (.d 11 [1,3,5,7,9] (.s [10,12] (.jz [])) (.stop)))) Y kr kr ?_;clear Y;intro w Y
   refine O ?_;refine jl ?_ (jl ?_ pP)
   ·refine dj ?_;intro p w Y
    rw[<-j]at Y;exact⟨_,⟨rfl,az⟩,aX,Y⟩
   refine dj ?_;intro p w Y;rw[<-j]at Y;exact⟨_,⟨rfl,az⟩,aX,Y⟩
  clear Y;rintro σ x w Y;refine jD ?_;intro w Y;have Y:Z w0 w [am x 181 [E a.dst,E a.br,E c],ai fM 181 h (gQ (fun a:gR=>a.br) n (L.take k)),X aA 176 B h,am ps 142 [E n,E S.cj,cv,ev,gv]]:=by
   simp only[mY,lO]at Y;exact Y.bj
  have t:a.dst.toNat<(gQ (fun a:gR=>a.br) n (L.take k)).length:=U;replace Y:=Y.swap.ja t;refine gi (pl [0,1,2,3,4,5,6,7,8,9] (.cY 2::.cY 5::.cY 7::pl [10] (.cY 2::pl [11,12] []))) Y kr ?_;clear Y;intro w Y;refine O ?_;refine jA fM (x1:=⟨a.dst,a.br,c⟩) rfl rfl rfl (fP rfl) (fg _) Y ?_;clear Y;intro s2 w Y;refine kO ?_;intro s w Y;replace Y:=Z.re t U Y.tail;replace Y:=Y.swap.tail;rw[<-f]at Y;exact⟨k+1,h.set a.dst.toNat s,⟨rfl,az⟩,aX,⟨U,by rw[iU];exact _e,Y⟩,U⟩
 rw[io U]at Y;have R':gQ (fun a:gR=>a.br) n L=kJ S true:=by rw[hL,hn];rfl
 rw[R']at Y;clear R';obtain⟨A,hA⟩:=À (kJ S true);rw[<-hA]at Y D;refine kO ?_;intro s w Y;obtain⟨F,rfl⟩:=À s;have Y:Z w0 w [X W 3 F (replicate n 0),ai fM 181 h A,X aA 176 B h,am ps 142 [E n,E S.cj,cv,ev,gv]]:=Y;have j':(replicate ((n:Int)).toNat (0:Int)).length=n:=sm;refine de [12,12,66,72] (G:=Nat) (fun k=>[(66,E k)]) (fun k w=>k<=n/\Z w0 w [X W 3 F (replicate k 1125899906842624++replicate (n-k) 0),ai fM 181 h A,X aA 176 B h,am ps 142 [E n,E S.cj,cv,ev,gv]]) (fun k=>n-k) 0 (fun _=>rfl) ⟨rfl,az⟩ ⟨bC _,Y⟩ ?_;clear Y;rintro σ k w ⟨hk,Y⟩;have _q:(replicate k (1125899906842624:Int)++replicate (n-k) 0).length=n:=by rw[length_append,mp,mp];omega
 refine aC ?_ ?_<;>intro h3
 ·refine dD ?_;intro w Y
  refine⟨k+1,⟨rfl,az⟩,aX,⟨U,?_⟩,U⟩;have e:(replicate k (1125899906842624:Int)++replicate (n-k) 0).set k 1125899906842624=replicate (k+1) 1125899906842624++replicate (n-(k+1)) 0:=by
   have f:n-k=(n-(k+1))+1:=U;rw[f,Cz,xQ _ _ (by rw[mp];exact cP _),mp,pW,lO,CI,fk];rfl
  rw[e]at Y;exact Y.bj
 have H':n=k:=U;subst H';rw[pW,Bk,gj]at Y;refine kO ?_;intro s w Y;obtain⟨wv,rfl⟩:=À s;refine aR rfl (pU (hf.at Y) U) ?_;rintro _ w' ⟨C,rfl,aw⟩;refine aO ?_;clear aw Y;intro Y;refine O ?_;rw[show ((n:Int)).toNat=n from by omega]at Y;have Y:Z w0 w' [X W 3 C fr,X ah 4 wv (replicate n false),X W 3 F (replicate n 1125899906842624),ai fM 181 h A,X aA 176 B h]:=Y.bj;refine de [16,16,80,90] (G:=Nat) (fun k=>[(80,E k)]) (fun k w=>k<=fr.length/\Z w0 w [X W 3 C fr,X ah 4 wv ((fr.take k).foldl (fun o i=>o.set i.toNat true) (replicate n false)),X W 3 F ((fr.take k).foldl (fun o i=>o.set i.toNat 0) (replicate n 1125899906842624)),ai fM 181 h A,X aA 176 B h]) (fun k=>fr.length-k) 0 (fun _=>rfl) ⟨rfl,az⟩ ⟨bC _,Y⟩ ?_;clear Y;rintro σ k w ⟨hk,Y⟩;have l1:((fr.take k).foldl (fun o i=>o.set i.toNat true) (replicate n false)).length=n:=by rw[GC,mp]
 have l2:((fr.take k).foldl (fun o i=>o.set i.toNat (0:Int)) (replicate n 1125899906842624)).length=n:=by rw[GC,mp]
 refine aC ?_ ?_<;>intro h4
 ·have u:k<fr.length:=U
  have f:=Q _ (cS W.dflt u);refine dD ?_;intro w Y;refine⟨k+1,⟨rfl,az⟩,aX,⟨U,?_⟩,U⟩;rw[eX W.dflt u,u0,u0];exact Y
 rw[io U]at Y;have T':=V5 P' Q;have Y:Z w0 w [X W 3 C (fZ n fr).q,X ah 4 wv (fZ n fr).waits,X W 3 F (fZ n fr).out,ai fM 181 h A,X aA 176 B h]:=Y;refine O ?_;refine dP [14,14,17,17,19,19,91,150] (G:=Nat) (H:=Value) (fun j C=>[(14,C)]) (fun j C w=>∃ f,f=ln (cQ A) j (fZ n fr)/\iz n f/\Z w0 w [X W 3 C f.q,X ah 4 wv f.waits,X W 3 F f.out,ai fM 181 h A,X aA 176 B h]) (fun j C=>rP (ln (cQ A) j (fZ n fr))) 0 C (fun _ _=>rfl) ⟨rfl,az⟩ ⟨_,rfl,T',Y⟩ ?_;clear Y;rintro σ j C w ⟨f,hX,bX,Y⟩;have _r:=bX.ql;have _s:=bX.ol;have _t:=bX.wl;have _u:=D.len;refine aC ?_ ?_<;>intro h5
 ·obtain⟨i,r,hq⟩:∃ i r,f.q=i::r:=by
   cases hq:f.q with
   | nil=>rw[hq]at h5;simp at h5
   | cons i r=>exact⟨i,r,rfl⟩
  obtain⟨_f,_v,_g,_h⟩:=bX.pop hq;have j':f.q.length=r.length+1:=by rw[hq];rfl
  have V':f.q.getD (Int.toNat 0) W.dflt=i:=by rw[hq];rfl
  refine jD ?_;intro w Y;rw[V'];refine O ?_;rw[V']at Y;have Y:=Y.sub (s:=C) own_here 1 f.q.length U (cP _);have _i:cut f.q 1 f.q.length=r:=by rw[hq];simp[cut]
  rw[_i]at Y;obtain⟨q2,_a⟩:=À (ssub C W.sz (Int.toNat 1) f.q.length);have Y:Z w0 w [X W 3 q2 r,X ah 4 wv (f.waits.set i.toNat false),X W 3 F f.out,ai fM 181 h A,X aA 176 B h]:=by rw[_a];exact Y
  rw[<-_a];obtain⟨AR,K⟩:=À (A.getD i.toNat []);have N:∀ a∈AR,me n a:=fun a R=>D.ok _ (J0 (i:=i.toNat) U) a (by rw[<-K];exact R);have _j:AR.length<=S.aH.length:=by
   rw[K,hA];exact rN zK (by rw[lA];exact cP _)
  have J':cQ A f=AR.foldl (eN i) ⟨f.out,f.waits.set i.toNat false,r⟩:=by unfold cQ;rw[hq,K]
  have y:=(Y.bN 3 rfl).row (i:=i.toNat) U;rw[<-K]at y;refine O ?_;refine dP [14,14,19,19,107,150] (G:=Nat) (H:=Value) (fun k q'=>[(107,E k),(14,q')]) (fun k q' w=>k<=AR.length/\Z w0 w [X W 3 q' ((AR.take k).foldl (eN i) ⟨f.out,f.waits.set i.toNat false,r⟩).q,X ah 4 wv ((AR.take k).foldl (eN i) ⟨f.out,f.waits.set i.toNat false,r⟩).waits,X W 3 F ((AR.take k).foldl (eN i) ⟨f.out,f.waits.set i.toNat false,r⟩).out,ai fM 181 h A,X aA 176 B h]) (fun k _=>AR.length-k) 0 q2 (fun _ _=>rfl) ⟨rfl,rfl,az⟩ ⟨bC _,Y⟩ ?_;clear Y y;rintro σ k q' w ⟨hk,Y⟩;have hY:=(_f.Dc (L:=AR.take k) ⟨_g,_h⟩ (fun a R=>N a (rZ R))).1;obtain⟨t,V⟩:=À ((AR.take k).foldl (eN i) ⟨f.out,f.waits.set i.toNat false,r⟩);rw[<-V]at Y hY;have y1:=hY.ol;have y2:=hY.wl;have y3:=hY.ql;have y4:=hY.ob i.toNat U;have y:=(Y.bN 3 rfl).row (i:=i.toNat) U;rw[<-K]at y;refine aC ?_ ?_<;>intro h6
  ·have u:k<AR.length:=U
   have R:=N _ (cS fM.dflt u);obtain⟨a,m⟩:=À (AR.getD k fM.dflt);rw[<-m]at R;obtain⟨b1,b2,b3,b4,b5,b6⟩:=R;have y5:=hY.ob a.dst.toNat U;have z:(AR.take (k+1)).foldl (eN i) ⟨f.out,f.waits.set i.toNat false,r⟩=eN i t a:=by rw[eX fM.dflt u,u0,<-V,<-m];rfl
   refine dj ?_;intro p w Y;have Y:Z w0 w [am p 181 [E a.br,E a.dst,E a.wt],X W 3 q' t.q,X ah 4 wv t.waits,X W 3 F t.out,ai fM 181 h A,X aA 176 B h]:=by rw[m];exact Y
   refine qM ?_;clear Y y;intro w Y;refine aC ?_ ?_<;>intro h7
   ·have hs:eN i t a=t:=by unfold eN;rw[ba h7]
    refine O ?_;exact⟨k+1,q',⟨rfl,rfl,az⟩,aX,⟨U,by rw[z,hs];exact Y.bj⟩,U⟩
   have _b:¬t.out.getD i.toNat W.dflt+a.wt≥t.out.getD a.dst.toNat W.dflt:=U;refine O ?_;refine gi (pl [0,1,2,3,4,5,6,7,8,9,10,11] []) Y kr ?_;clear Y;intro w Y;refine jD ?_;intro w Y;by_cases P:t.waits.getD a.dst.toNat ah.dflt=true
   ·have hs:eN i t a=⟨t.out.set a.dst.toNat (t.out.getD i.toNat W.dflt+a.wt),t.waits,t.q⟩:=by unfold eN;rw[aM _b,ba P]
    rw[P];refine O ?_;exact⟨k+1,q',⟨rfl,rfl,az⟩,aX,⟨U,by rw[z,hs];exact Y.bj⟩,U⟩
   have hs:eN i t a=⟨t.out.set a.dst.toNat (t.out.getD i.toNat W.dflt+a.wt),t.waits.set a.dst.toNat true,t.q++[a.dst]⟩:=by unfold eN;rw[aM _b,aM P]
   rw[tL]at P;rw[P];refine O ?_;refine gi (pl [0,1,2,3,4,5,6] (.cY 2::pl [7] (.cY 2::pl [8,9,10] []))) Y kr ?_;clear Y;intro w Y
   repeat (first|refine dS ?_|(refine uP ?_;clear Y;intro w Y)|(refine gA ?_;clear Y;intro s w Y))
   exact⟨k+1,s,⟨rfl,rfl,az⟩,aX,⟨U,by rw[z,hs];exact Y.bj⟩,U⟩
  have H':k=AR.length:=U;rw[H',mK,<-J']at V;refine O ?_;refine⟨j+1,q',⟨rfl,az⟩,aX,⟨t,by rw[V,hX];rfl,hY,Y.bj⟩,?_⟩;have:=(bX.step D.ok).2.1 (by unfold fb;rw[hq];rfl);rw[hX]at this;exact this
 have b:fb f=true:=by
  unfold fb
  cases hq:f.q with
  | nil=>rfl
  | cons i r =>
   have:f.q.length=r.length+1:=by rw[hq];rfl
   omega
 have m:DN S fr true=f.out:=by
  unfold DN;rw[<-hA,<-hn,li (N9 A) (n:=j) (by rw[<-hX];exact b),<-hX]
 rw[m];refine O ?_;exact bo (v:=F) rfl rfl ⟨F,rfl,Y.bj⟩
def dE.nG (h:dE w cv ev gv S):([Value.int .i64 S.st,E S.cj,cv,ev,gv]).all Value.oneCell'=true:=by
 simp only[fo,fB,h.aN.one,h.aH.one,h.aW.one];rfl
def Fc {g:List Bool}{i:Int}:∀ {k:Nat},i∈iN g k↔0<=i/\i<(k:Int)/\g.getD i.toNat ah.dflt=true
 | k=>by
  unfold iN;rw[mem_filterMap];constructor
  ·rintro⟨j,a,h⟩
   rw[mem_range]at a;split at h
   ·rename_i I
    cases h;exact⟨U,U,I⟩
   cases h
  rintro⟨a,h1,I⟩;exact⟨i.toNat,by rw[mem_range];omega,by rw[ba I];congr 1;omega⟩
def H0 {g:List Bool}:∀ k:Nat,(iN g k).Nodup
 | 0=>by simp[iN]
 | k+1=>by
  have f:=H0 (g:=g) k;unfold iN at *
  rw[lN,Mc,DY];refine⟨f,by simp only[Is,It];split<;>simp,fun a l b d e=>?_⟩;have:=(Fc (g:=g) (k:=k)).1 l;rw[mem_filterMap]at d;obtain⟨j,m,h⟩:=d;rw[fU]at m;split at h
  ·cases h;omega
  cases h
noncomputable def jI (S:ct):Int:=if jY S=true then 0 else 2
noncomputable def vC (S:ct):J:=if jY S=true then oN S else []
def YO (b:dE w0 cv ev gv S) :
  Calls ak 91 #[df S cv ev gv] w0 fun e w'=>∃ v,e=.returned (.tuple #[v,bS (jI S)])/\Z w0 w' [X W 3 v (vC S)]:=by
 have Y:=Z.start w0;have n:=b.nG;refine bI ar Tryz.func91 ?_;unfold df;refine dj ?_;intro p w Y;have Y:Z w0 w [am p 142 [E S.st,E S.cj,cv,ev,gv]]:=Y;refine aR rfl (F5 (S:=S) (b.at Y)) ?_;refine gk ?_;clear Y;intro w' Y;by_cases hv:jY S=true
 ·rw[hv]
  have a:cW S:=oE fun h=>by rw[xP h]at hv;cases hv
  have d:jI S=0:=by unfold jI;rw[ba hv]
  have f:vC S=DN S (xq S.aW) true:=by unfold vC;rw[ba hv];rfl
  rw[d,f];refine O ?_;refine gi (pl [0,1,2] (.cY 0::pl [3,4,5] [])) Y kr ?_;clear Y;intro w Y;refine O ?_;have j:S.aW.length<=4096:=by obtain⟨_,o,_,_,l,_⟩:=a;omega
  refine aR rfl (ŕ (S:=S) (b.at Y) j) ?_;rintro _ w' ⟨q,rfl,aw⟩;refine aO ?_;clear aw Y;intro Y;refine O ?_;refine aR rfl (qyf (S:=S) (fr:=xq S.aW) (b.at Y) a (Y.rs 0 rfl) (H0 _) (fun i m=>?_)) ?_
  ·have:=(Fc (g:=S.aW) (k:=S.aW.length)).1 m
   obtain⟨_,_,_,_,l,_⟩:=a;omega
  rintro _ w' ⟨v,rfl,aw⟩;refine aO ?_;clear aw Y;intro Y;refine O ?_;exact dw (v:=v) (v':=.nilIface) rfl rfl rfl ⟨v,by rw[ff rfl],Y.bj⟩
 rw[tL]at hv;rw[hv];have d:jI S=2:=by unfold jI;rw[aM (by rw[hv];simp)]
 have f:vC S=[]:=by unfold vC;rw[aM (by rw[hv];simp)]
 rw[d,f];refine O ?_;exact dw (v:=nS) (v':=.iface 57 (E 2)) rfl rfl rfl ⟨_,by rw[c9 dc],(iH Y).nil⟩
end
end Go.Proofs.YtmapkjoefdgjfaaGreatDoor
