/- Several texts. -/
import Derived.Test.YtmapkjoefdgjfaaGreatDoorMW5D
import Derived.Shelf.SlSortCmp.NoneTotal
import Derived.Shelf.SlicesE.Delete
import Derived.Test.YtmapkjoefdgjfaaGreatDoorMW1D
import Derived.Lib.ItoaLen
set_option linter.unusedSimpArgs false
set_option linter.unusedVariables false
set_option linter.defProp false
set_option maxRecDepth 8000
set_option maxHeartbeats 16000000
open List Nat
namespace Go.Proofs.YtmapkjoefdgjfaaGreatDoor
open Go.Sl
variable {α:Type}{S:bV}{w0 w:World}{k i:Nat}{c:J}{Γ:List HP}{e:TypeId}{s cv ev gv:Value}{L:List (List α)}
section
open Go.Sl Go Go.Shelf Go.Sort
attribute [local irreducible] vc opsW opsD opV opW PureV ReadV Thn Blk
def rN {P:Program}{f:FuncId}{B:Func}(h1:(((P.funcs[f]?).map Func.name).getD "" == "runtime.NumGoroutine") = false := by kernel_rfl)(h2 : P.funcs[f]? = some {B with name := ((P.funcs[f]?).map Func.name).getD ""} := by kernel_rfl) : Bears P f B := ⟨_, h1, h2⟩
def BR:Ren:=⟨rl [6,151,14,176,15,98,20,197,21,198,22,199,23,200,24,201,25,202,26,203,27,204,28,132,29,133,46,211,47,154,48,155,49,212,50,213,57,225],rl [0,0,3,3,4,4,5,5,9,9,22,139,24,190,25,248,39,175,45,210,46,211,50,183,53,218,55,220,66,250,70,254,76,279,77,267],fun k=>k⟩
set_option maxRecDepth 100000 in
def E3:SlLaysF0.n6 aj BR:=by constructor<;>first|exact ao|kernel_rfl|(intro w;kernel_rfl)|exact rN
def BS:Ren:=⟨rl [6,189,14,208,15,98,20,215,21,216,22,217,23,218,24,219,25,220,26,221,27,222,28,132,29,133,46,226,47,154,48,155,49,227,50,228,57,233],rl [0,0,3,3,4,4,5,5,9,9,22,290,24,291,25,293,39,175,45,210,46,211,50,183,53,218,55,220,66,250,70,254,76,279,77,267],fun k=>k⟩
set_option maxRecDepth 100000 in
def M0:SlLaysF0.n6 aj BS:=by constructor<;>first|exact ao|kernel_rfl|(intro w;kernel_rfl)|exact rN
def fY:Ty (Int × Int):=⟨2,fun a=>[E a.1,E a.2],fun _=>rfl,(0,0)⟩
instance IC:ku fY:=⟨fun x v hv=>by simp only[fY,dZ,fM,pL]at hv;rcases hv with rfl|rfl<;>rfl⟩
def BT {a:Ren}(L:SlLaysF0.n6 aj a)[Inhabited α]{T:Ty α}[O':ku T](r:0<T.sz)(u:∀ w,(isAgg (a.t 24)).run aj w=.ok true w)(z:∀ w,(Go.sizeOf (a.t 24)).run aj w=.ok T.sz w){d:α->α->Int}(hO:SWO (ltOf d)){g:Nat}[ap aj g](h:∀ w x y,Calls aj g #[.agg (T.enc x).toArray,.agg (T.enc y).toArray] w fun e w'=>e=.returned (E (d x y))/\∃ (q:Nat) (os:Array Obj),w'=Sort.grow (w.drewN q) os){xs:List α}(Y:M w0 w (X T e s xs::Γ))(A:xs.length<4611686018427387904) :
  Calls aj (a.f 6) #[s,.func (.func g) #[] #[]] w fun l w'=>l=.returned (.tuple #[])/\M w0 w' (X T e s (ir d xs)::Γ):=by
 rcases Y.ES r with ⟨rfl,rfl⟩|⟨b,off,cap,rfl,D,B,hH,j⟩
 ·refine uD (AnyF.slices_SortFunc_none L none 0 _ w) ?_
  rintro e w' ⟨rfl,rfl⟩;exact⟨rfl,by rw[Ŀ hO];exact Y⟩
 have C:=AnyQ.slices_SortFunc_eq L T.sz u z T.enc T.ok (fun x v hv=>O'.ok x v hv) d hO g #[] b off cap xs.toArray w (fun args w=>ap.run inferInstance args w)
  (by intro m os o F x y;exact h _ x y) hH B (by simpa using A)
 have o:xs.length=xs.toArray.size:=sm;rw[o];refine C.mono ?_;rintro l w' ⟨he,n,os,rfl⟩;refine⟨he,?_⟩;have h1:=j (ir d xs) (Hq hO) n os;rw[<-o];exact h1
def zm:(∀ w,(isAgg (BR.t 24)).run aj w=.ok true w)/\∀ w,(Go.sizeOf (BR.t 24)).run aj w=.ok 3 w:=by
 have h:eT aj 190 3:=inferInstance;exact h.agg
def E4:(∀ w,(isAgg (BS.t 24)).run aj w=.ok true w)/\∀ w,(Go.sizeOf (BS.t 24)).run aj w=.ok 2 w:=by
 have h:eT aj 291 2:=inferInstance;exact h.agg
set_option maxRecDepth 100000 in
def Yi {xs:List cS}(Y:M w0 w (X aM e s xs::Γ))(a:xs.length<4611686018427387904) :
  Calls aj 151 #[s,.func (.func 152) #[] #[]] w fun b w'=>b=.returned (.tuple #[])/\M w0 w' (X aM e s (ir ji xs)::Γ):=by
 have h:=BT (T:=aM) (g:=152) E3 (fb _) zm.1 zm.2 wT (fun w x y=>Rp x y) Y a;exact h
set_option maxRecDepth 100000 in
def Yd {xs:List cS}(Y:M w0 w (X aM e s xs::Γ))(a:xs.length<4611686018427387904) :
  Calls aj 151 #[s,.func (.func 195) #[] #[]] w fun b w'=>b=.returned (.tuple #[])/\M w0 w' (X aM e s (ir ji xs)::Γ):=by
 have h:=BT (T:=aM) (g:=195) E3 (fb _) zm.1 zm.2 wT (fun w x y=>ě x y) Y a;exact h
set_option maxRecDepth 100000 in
def Ξ {xs:List (Int × Int)}(Y:M w0 w (X fY e s xs::Γ))(a:xs.length<4611686018427387904) :
  Calls aj 189 #[s,.func (.func 190) #[] #[]] w fun b w'=>b=.returned (.tuple #[])/\M w0 w' (X fY e s (ir oM xs)::Γ):=by
 have h:=BT (T:=fY) (g:=190) M0 (fb _) E4.1 E4.2 BK (fun w x y=>Y0 x.1 x.2 y.1 y.2) Y a;exact h
def M2:Ren:=⟨rl [45,170],rl [0,0,3,3,4,4,22,140,23,4],fun k=>k⟩
set_option maxRecDepth 100000 in
def M3:SlLaysE.n45 aj M2:=by constructor<;>first|exact ao|kernel_rfl|(intro w;kernel_rfl)|exact rN
def TS (xs:List Bool):xs.flatMap ah.enc=xs.map Value.bool:=by
 induction xs with
 | nil=>rfl
 | cons x xs a=>rw[kQ,a];rfl
set_option maxRecDepth 100000 in
def X7 {b off cap:Nat}{xs:List Bool}(Y:M w0 w (X ah e (.slice (some ⟨b,off,none⟩) xs.length cap) xs::Γ))(a:cap<=9223372036854775807)(hk:k<xs.length) :
  Calls aj 170 #[.slice (some ⟨b,off,none⟩) xs.length cap,E k,E ((k:Int)+1)] w fun n w'=>n=.returned (.slice (some ⟨b,off,none⟩) (xs.eraseIdx k).length cap)/\M w0 w' (X ah e (.slice (some ⟨b,off,none⟩) (xs.eraseIdx k).length cap) (xs.eraseIdx k)::Γ):=by
 rw[show ((k:Int)+1)=((k+1:Nat):Int) from by omega];rcases Y.ES (fb _) with ⟨h,_⟩|⟨D,o,r,h,u,F,hH,d⟩
 ·cases h
 cases h;have f:(xs.eraseIdx k).length=xs.length-1:=length_eraseIdx_of_lt hk;have g:Sort.flatK ah.enc 1 xs.toArray=(xs.map Value.bool).toArray:=by rw[<-TS];exact HD ah xs
 have l:Sort.Holds Value.bool w b off xs.toArray:=by
  intro j t;have m:j<xs.length:=by simpa using t
  have:=hH j (by rw[show ah.sz=1 from rfl,g];simpa using t);rw[show ah.sz=1 from rfl,g]at this
  simpa [m] using this
 obtain⟨i0,j,m,_⟩:=bh.tZ (show bh aj 140 4 1 1 from inferInstance);have v:=AnyE.slices_Delete M3 Value.bool (fun _=>rfl) false (fun w=>kr) i0 j m b off cap k (k+1) xs.toArray w l (by simpa using u) a (le_succ _) (by simpa using succ_le_of_lt hk);have x:xs.length=xs.toArray.size:=sm;rw[x];refine v.mono ?_;rintro n w' ⟨he,q,rfl⟩;have y:xs.toArray.size-(k+1-k)=(xs.eraseIdx k).length:=by rw[f];simp
 rw[y]at he;refine⟨he,?_⟩;have h1:=d (xs.eraseIdx k++[false]) (by simp[f];omega) q #[];have t:=h1.sub own_here 0 (xs.eraseIdx k).length (br _) sm;have z:cut (xs.eraseIdx k++[false]) 0 (xs.eraseIdx k).length=xs.eraseIdx k:=by simp[cut]
 have A:ssub (.slice (some ⟨b,off,none⟩) xs.length cap) ah.sz 0 (xs.eraseIdx k).length=.slice (some ⟨b,off,none⟩) (xs.eraseIdx k).length cap:=by simp[ssub,zN,ah]
 rw[z,A]at t;have B:(xs.toArray.toList.take k++xs.toArray.toList.drop (k+1)++replicate (k+1-k) false)=xs.eraseIdx k++[false]:=by
  rw[eraseIdx_eq_take_drop_succ];simp
 rw[B];have C:Sort.putRow Value.bool (Sort.ahead w q) b off (xs.eraseIdx k++[false]).toArray=Go.Proofs.sortWorldK ah.enc ah.sz w b off q (xs.eraseIdx k++[false]).toArray #[]:=by
  unfold Go.Proofs.sortWorldK Sort.putRowK;rw[grow_empty,show ah.sz=1 from rfl,show Sort.flatK ah.enc 1 (xs.eraseIdx k++[false]).toArray=((xs.eraseIdx k++[false]).map Value.bool).toArray from by rw[<-TS];exact HD ah _];exact Z8 _ _ _ _ _
 rw[C];exact t
end
section
open Go.Sl Go
attribute [local irreducible] vc opsW opsD opV opW PureV ReadV Thn Blk
instance ID:rJ aj 291:=⟨kr⟩
instance IE:zb aj 291 fY:=⟨fun a b w=>rJ.run (P:=aj) (t:=291) inferInstance w⟩
def Ο {xs:List (Int × Int)}(Y:M w0 w (X fY 291 s xs::Γ))(hn:xs.length<=65536) :
  Calls aj 193 #[s] w fun e w'=>∃ d,e=.returned d/\M w0 w' (X fY 291 d (lN xs)::Γ):=by
 refine bB ao Tryz.func193 ?_;refine aA ?_ ?_<;>intro h1
 ·have he:lN xs=xs:=by
   match xs,h1 with
   | [],_=>rfl
   | [_],_=>rfl
   | _::_::_,h=>simp only[length_cons]at h;omega
  refine W ?_;exact bk (v:=s) rfl rfl ⟨s,rfl,by rw[he];exact Y.cq⟩
 have j':2<=xs.length:=U;refine W ?_;refine cN [2,5,10,59] (G:=Nat) (fun k=>[(3,E k)]) (fun k w=>1<=k/\k<=xs.length/\lN (xs.take k)=xs.take k/\M w0 w (X fY 291 s xs::Γ)) (fun k=>xs.length-k) 1 (fun _=>rfl) ⟨rfl,au⟩ ⟨cz _,U,by cases xs with|nil=>rfl|cons a r=>rfl,Y.cq⟩ ?_;clear Y;rintro σ k w ⟨B,hk,l,Y⟩;refine aA ?_ ?_<;>intro D
 ·have t:k<xs.length:=U
  have g:=Ho fY.dflt B t;have ek:((k:Int)-1).toNat=k-1:=U;rw[<-ek]at g;refine W ?_;refine r5 ?_;clear Y;intro w Y;refine W ?_;refine fi rfl (QK (T:=fY) (a:=xs.getD k fY.dflt) (b:=xs.getD ((k:Int)-1).toNat fY.dflt) rfl rfl) ?_;refine aA ?_ ?_<;>intro N
  ·rw[aP N.symm,fI,l]at g
   refine W ?_;refine dN [3,3,5,5,29,53] (G:=Nat) (H:=Nat) (fun d q=>[(3,E q),(5,E d)]) (fun d q w=>1<=d/\k+d<=xs.length/\k<=q/\q<k+d/\∃ C:List (Int × Int),C.length=xs.length/\C.take q=lN (xs.take (k+d))/\(∀ j,k+d<=j+1->C.getD j fY.dflt=xs.getD j fY.dflt)/\M w0 w (X fY 291 s C::Γ)) (fun d _=>xs.length-(k+d)) 1 k (fun _ _=>rfl) ⟨rfl,rfl,au⟩ ⟨cz _,U,cz _,U,xs,rfl,g.symm,fun _ _=>rfl,Y.cq⟩ ?_;clear Y;rintro σ d q w ⟨H',u,F,J',C,P,n,m,Y⟩;have P':(cut C k xs.length).length=xs.length-k:=yI U;have A:=xY (T:=fY) (bm (s:=s) Y) (lo:=k) (hi:=xs.length) U U;refine aA ?_ ?_<;>intro h4
   ·have x:k+d<xs.length:=U
    have f:=Ho fY.dflt (show 0<k+d by omega) x;refine W ?_;refine r5 ?_;clear Y A;intro w Y;have A:=xY (T:=fY) (bm (s:=s) Y) (lo:=k) (hi:=xs.length) U U;have K:((d:Int)-1).toNat=d-1:=U;have R:(cut C k xs.length).getD d fY.dflt=xs.getD (k+d) fY.dflt:=by rw[<-m (k+d) U];simp[cut,List.getD,wE,x]
    have e2:(cut C k xs.length).getD ((d:Int)-1).toNat fY.dflt=xs.getD (k+d-1) fY.dflt:=by
     rw[<-m (k+d-1) U,K];simp[cut,List.getD,wE,show k+(d-1)=k+d-1 by omega,show k+d-1<xs.length by omega]
    refine W ?_;refine fi rfl (QL (T:=fY) (a:=(cut C k xs.length).getD d fY.dflt) (b:=(cut C k xs.length).getD ((d:Int)-1).toNat fY.dflt) rfl rfl) ?_;refine W ?_;rw[R,e2];refine jy ?_ ?_<;>intro V
    ·have o:¬xs.getD (k+d-1) fY.dflt=xs.getD (k+d) fY.dflt:=fun e=>V e.symm
     rw[aH o]at f;refine W ?_;refine B5 (T:=fY) (s:=s) (j:=q) (x':=(cut C k xs.length).getD d fY.dflt) rfl rfl rfl rfl Y inferInstance U ?_;clear Y A;intro w Y;rw[R]at Y;refine W ?_;have y:q<C.length:=U;refine⟨d+1,q+1,⟨rfl,rfl,au⟩,aV,⟨U,U,U,U,C.set q (xs.getD (k+d) fY.dflt),by rw[gS];exact P,?_,fun j hj=>?_,Y.cq⟩,U⟩
     ·rw[eD fY.dflt (by rw[gS];exact y),Gt (cz _),n,kD,aP ⟨rfl,y⟩]
      exact f.symm
     rw[kD,aH U];exact m j U
    have o:xs.getD (k+d-1) fY.dflt=xs.getD (k+d) fY.dflt:=by
     exact V.symm
    rw[aP o,fI]at f;refine W ?_;exact⟨d+1,q,⟨rfl,rfl,au⟩,aV,⟨U,U,F,U,C,P,by rw[n,<-f];rfl,fun j hj=>m j U,Y.cq⟩,U⟩
   have o:k+d=xs.length:=U;have K:q<=xs.length:=U;have x:lN xs=C.take q:=by rw[n,o,lL]
   refine W ?_;have y:=xY (T:=fY) (bm (s:=s) Y) (lo:=q) (hi:=C.length) U (cz _);refine QM (T:=fY) (s:=s) (j:=q) (z:=((0,0):Int × Int)) rfl rfl rfl rfl Y inferInstance U ?_;clear Y A y;intro w Y;have f:(C.take q).length=q:=by rw[jf];omega
   have R:(C.take q++replicate (C.length-q) ((0,0):Int × Int)).length=C.length:=by rw[length_append,f,np];omega
   refine W ?_;have D:=Y.sub (s:=s) own_here 0 q (br _) (by rw[length_append,f];omega);have V:cut (C.take q++replicate (C.length-q) ((0,0):Int × Int)) 0 q=C.take q:=by simp[cut,f]
   rw[V,<-x]at D;exact bk (v:=ssub s fY.sz 0 q) rfl rfl ⟨_,rfl,D.cq⟩
  rw[aH (fun e=>N e.symm),l]at g;refine W ?_;refine⟨k+1,⟨rfl,au⟩,aV,⟨U,U,?_,Y.cq⟩,U⟩;rw[g,eD fY.dflt t]
 have u:k=xs.length:=U;rw[u,lL]at l;refine W ?_;exact bk (v:=s) rfl rfl ⟨s,rfl,by rw[l];exact Y.cq⟩
def xZ {g:α->Int}{n:Nat}{l:List α}{x:Nat}:((fV g n l).getD x []).length<=l.length:=by
 by_cases h:x<n
 ·rw[H2 h];exact ux _ _
 rw[iB,uE (by rw[yK];omega)];exact br _
def QS (j:cV w0 cv ev gv S)(A:S.aT.length<=4096)(he:S.aB.length<=65536)(r:∀ e∈S.aB,0<=e.cG/\e.cG<S.aT.length) :
  Calls aj 150 #[cK S cv ev gv] w0 fun e w'=>∃ v ss,e=.returned v/\M w0 w' [ai aM 190 ss (cM S),X ar 139 v ss]:=by
 have t:=j.aT;have u:=j.aB;have y:=j.aR;have Y:=M.start w0;refine bB ao Tryz.func150 ?_;unfold cK
 repeat (first|refine dB ?_|(refine iy ?_;clear Y;intro p w Y)|(refine fR ?_;clear Y;intro s w Y))
 have Y:=Y.gJ (T:=aM) (e:=190) S.aT.length;rw[<-L1 (g:=fun e:cS=>e.cG),show ((S.aT.length:Int)).toNat=S.aT.length from by omega]at Y;refine dN [5,5,13,29] (G:=Nat) (H:=List Value) (fun k ss=>[(13,E k)]) (fun k ss w=>k<=S.aB.length/\ss.length=S.aT.length/\M w0 w [ai aM 190 ss (fV (fun e:cS=>e.cG) S.aT.length (S.aB.take k)),X ar 139 s ss]) (fun k ss=>S.aB.length-k) 0 (replicate S.aT.length (nS)) (fun _ _=>rfl) ⟨rfl,au⟩ ⟨br _,sm,by rw[wI];exact Y.bb⟩ ?_;clear Y;rintro B k ss w ⟨hk,m,Y⟩;refine aA ?_ ?_<;>intro C
 ·have d:k<S.aB.length:=U
  have hm:=r _ (cD aM.dflt d);have f:=L3 (g:=fun e:cS=>e.cG) (n:=S.aT.length) (dflt:=aM.dflt) d hm.1 hm.2;have z:=yK (g:=fun e:cS=>e.cG) (n:=S.aT.length) (l:=S.aB.take k);have h:=xZ (g:=fun e:cS=>e.cG) (n:=S.aT.length) (l:=S.aB.take k) (x:=(S.aB.getD k aM.dflt).cG.toNat);rw[jf]at h;obtain⟨a,o⟩:=À (S.aB.getD k aM.dflt);rw[<-o]at hm f h;refine eB ?_;intro p w Y;rw[<-o]at Y;have q:a.cG.toNat<(fV (fun e:cS=>e.cG) S.aT.length (S.aB.take k)).length:=U;replace Y:=Y.swap.gW q;refine fQ (pl [0,1,2,3,4,5,6,7,8,9] (.cJ 2::.cJ 5::.cJ 7::pl [10] (.cJ 2::pl [11,12] []))) Y kr ?_;clear Y;intro w Y;refine W ?_;refine jG aM (x1:=a) rfl rfl rfl (fX rfl) (fb _) Y ?_;clear Y;intro s2 w Y;refine lw ?_;intro s w Y;replace Y:=M.oZ q U Y.tail;replace Y:=Y.swap.tail;rw[<-f]at Y;exact⟨k+1,ss.set a.cG.toNat s,⟨rfl,au⟩,aV,⟨U,by rw[gS];exact m,Y⟩,U⟩
 rw[gH U]at Y;refine W ?_;exact bk (v:=s) rfl rfl ⟨s,ss,rfl,Y⟩
def ij (S:bV)(c:J)(k:Nat):List (List (Int × Int)):=(fV (fun e:cS=>e.ba) S.st.toNat (S.aB.take k)).map fun l=>l.map fun e=>(e.cG,c.getD e.dst.toNat O.dflt)
def TT:(ij S c k).length=S.st.toNat:=by unfold ij;rw[iW,yK]
def Ρ {β:Type}{f:List α->List β}(a:f []=[]):(L.map f).getD i []=f (L.getD i []):=by
 simp only[iB,tq]
 cases L[i]? with
 | none=>exact a.symm
 | some _=>rfl
def Ip:(ij S c k).getD i []=((fV (fun e:cS=>e.ba) S.st.toNat (S.aB.take k)).getD i []).map fun e=>(e.cG,c.getD e.dst.toNat O.dflt):=by
 unfold ij;exact Ρ rfl
def Τ:ij S c 0=replicate S.st.toNat []:=by
 unfold ij;rw[wI,L1,map_replicate];rfl
def Υ (hk:k<S.aB.length)(b:0<=(S.aB.getD k aM.dflt).ba)(h1:(S.aB.getD k aM.dflt).ba<S.st.toNat) :
  ij S c (k+1)=(ij S c k).set (S.aB.getD k aM.dflt).ba.toNat ((ij S c k).getD (S.aB.getD k aM.dflt).ba.toNat []++[((S.aB.getD k aM.dflt).cG,c.getD (S.aB.getD k aM.dflt).dst.toNat O.dflt)]):=by
 rw[Ip];unfold ij;rw[L3 (g:=fun e:cS=>e.ba) (dflt:=aM.dflt) hk b h1,map_set,pX];rfl
def TU:((ij S c k).getD i []).length<=S.aB.length:=by
 rw[Ip,iW];exact oD xZ (by rw[jf];omega)
def Φ (hi:i<S.st.toNat):(ij S c S.aB.length).getD i []=H3 S c i:=by
 rw[Ip,H2 hi,lL];rfl
def ED {n:Int}(a:0<=n)(h1:n<=65536):(jh n).length<=21:=Lib.itoa_length_le n U U
def TV {α:Type}{f:α->List UInt8}{m:Nat}:∀ {l:List α},(∀ a∈l,(f a).length<=m)->(l.flatMap f).length<=l.length*m
 | [],_=>sm
 | a::l,h=>by
  have:=TV (f:=f) (m:=m) (l:=l) fun b d=>h b (iR _ d);have:=h a gA;rw[kQ,length_append,length_cons,qB,ww];omega
def kn (S:bV)(c:J)(k:Nat):List ByteArray:=(List.range k).map fun s=>⟨(lp S c s).toArray⟩
def Χ (S:bV)(c:J)(k:Nat):kn S c (k+1)=kn S c k++[⟨(lp S c k).toArray⟩]:=by simp[kn,lz]
def Iq (S:bV)(c:J)(k:Nat):(kn S c k).length=k:=by simp[kn]
def Ψ (S:bV)(c:J){n:Nat}(hk:k<n):(kn S c k++replicate (n-k) (⟨#[]⟩:ByteArray)).set k ⟨(lp S c k).toArray⟩=kn S c (k+1)++replicate (n-(k+1)) ⟨#[]⟩:=by
 have a:n-k=(n-(k+1))+1:=U;rw[a,DE,Χ,fG,yB _ _ (by rw[Iq];omega),Iq,rZ];rfl
def Ω {ss:List Value}(h:k<ss.length):ss.drop k=cF ss k::ss.drop (k+1):=by
 rw[wG h,l9,al h]
def γ (h:k<L.length):L.drop k=L.getD k []::L.drop (k+1):=by
 rw[wG h,al h]
def XW {sc se sg cl:Value}(hS:cV w0 sc se sg S)(hv:dP S)(hT:lT w0)(hc:RS O w0 cl c)(_l:(c.length:Int)=S.st)(j':∀ i:Nat,i<c.length->0<=c.getD i O.dflt/\c.getD i O.dflt<=65536) :
  Calls aj 173 #[cK S sc se sg,cl] w0 fun e w'=>∃ v,e=.returned (.tuple #[v,E ((cP (kg S c)).length:Nat)])/\M w0 w' [X O 3 v (fg (kg S c))]:=by
 have _m:=hS.aT;have _n:=hS.aB;have _o:=hS.aR;have Y:=M.start w0;obtain⟨a1,a2,a3,a4,a5,a6,a7,_p,H',_⟩:=hv;obtain⟨n,hn⟩:=À S.st.toNat;have _d:S.st=(n:Int):=U;refine bB ao Tryz.func173 ?_;unfold cK;rw[_d]
 repeat (first|refine dB ?_|(refine iy ?_;clear Y;intro p w Y)|(refine fR ?_;clear Y;intro s w Y))
 have Y:=Y.gJ (T:=fY) (e:=291) n;obtain⟨ps,rfl⟩:=À p;obtain⟨A,rfl⟩:=À s;have Y:M w0 w [ai fY 291 (replicate n (nS)) (replicate n []),X ar 290 A (replicate n (nS)),ak ps 142 [E n,E S.bL,sc,se,sg]]:=Y;rw[hn,<-Τ (c:=c),<-hn]at Y;refine dN [8,8,21,44] (G:=Nat) (H:=List Value) (fun k h=>[(21,E k)]) (fun k h w=>k<=S.aB.length/\h.length=n/\M w0 w [ai fY 291 h (ij S c k),X ar 290 A h,ak ps 142 [E n,E S.bL,sc,se,sg]]) (fun k h=>S.aB.length-k) 0 (replicate n (nS)) (fun _ _=>rfl) ⟨rfl,au⟩ ⟨br _,sm,Y⟩ ?_;clear Y;rintro σ k h w ⟨hk,N,Y⟩;refine aA ?_ ?_<;>intro h2
 ·have B:k<S.aB.length:=U
  obtain⟨a,Q⟩:=À (S.aB.getD k aM.dflt);have hm:=H' _ (cD aM.dflt B);have d:=Υ (c:=c) B hm.1.1 U;rw[<-Q]at hm d;obtain⟨⟨m1,m2⟩,⟨m3,m4⟩,m5,m6⟩:=hm;have o:=TT (S:=S) (c:=c) (k:=k);have J':=TU (S:=S) (c:=c) (k:=k) (i:=a.ba.toNat);refine c9 ?_;intro p w Y;have Y:M w0 w [ak p 190 [E a.ba,E a.cG,E a.dst],ai fY 291 h (ij S c k),X ar 290 A h,ak ps 142 [E n,E S.bL,sc,se,sg]]:=by rw[Q];exact Y
  have hi:a.ba.toNat<(ij S c k).length:=U;replace Y:=Y.swap.gW hi;refine fQ (pl [0,1,2,3,4,5,6,7,8,9,10,11,12,13,14,15] (.cJ 2::.cJ 5::.cJ 7::pl [16] (.cJ 2::.cJ 5::.cJ 7::pl [17] (.cJ 2::pl [18,19] [])))) Y kr ?_;clear Y;intro w Y
  repeat refine dB ?_
  refine Z2 rfl rfl ?_
  repeat refine dB ?_
  refine jG fY (x1:=(a.cG,c.getD a.dst.toNat O.dflt)) rfl rfl rfl (fX rfl) (fb _) Y ?_;clear Y;intro s2 w Y;refine ot ?_;intro s w Y;replace Y:=M.oZ hi U Y.tail;replace Y:=Y.swap.tail;rw[<-d]at Y;exact⟨k+1,h.set a.ba.toNat s,⟨rfl,au⟩,aV,⟨U,by rw[gS];exact N,Y⟩,U⟩
 have _e:k=S.aB.length:=U;rw[_e]at Y;refine W ?_;refine Cb kB ⟨#[]⟩ rfl rfl rfl rfl U U U Y ?_;clear Y;intro D w Y;refine W ?_;rw[show ((n:Int)).toNat=n from by omega]at Y;obtain⟨t,u⟩:=À (ij S c S.aB.length);have _q:t.length=n:=by rw[u,hn];exact TT
 have _f:∀ i,i<n->t.getD i []=H3 S c i:=fun i hi=>by rw[u];exact Φ U
 have _g:∀ i:Nat,(t.getD i []).length<=65536:=fun i=>by rw[u];exact oD TU U
 have _h:∀ i:Nat,∀ x∈t.getD i [],(0<=x.1/\x.1<=65536)/\0<=x.2/\x.2<=65536:=fun i x hx=>by
  rw[u,Ip]at hx;obtain⟨e,he,rfl⟩:=iQ.1 hx;have d:e∈S.aB:=by
   by_cases hi:i<S.st.toNat
   ·exact pU ((Ad (g:=fun e:cS=>e.ba) hi).1 he).1
   rw[iB,uE (by rw[yK];omega)]at he;simp at he
  obtain⟨_,⟨q1,q2⟩,q3,q4⟩:=H' e d;have:=j' e.dst.toNat U;exact⟨⟨q3,U⟩,this⟩
 have Y:M w0 w [ai fY 291 (h.drop 0) (t.drop 0),X ar 290 A h,X kB 9 D (kn S c 0++replicate (n-0) ⟨#[]⟩)]:=by
  rw[u,DQ,DQ,JU,show kn S c 0=[] from rfl,kq];exact Y.bb
 clear u;have N:h.length=n:=N;refine cN [10,12,14,14,50,85] (G:=Nat) (fun k=>[(50,E k)]) (fun k w=>k<=n/\M w0 w [ai fY 291 (h.drop k) (t.drop k),X ar 290 A h,X kB 9 D (kn S c k++replicate (n-k) ⟨#[]⟩)]) (fun k=>n-k) 0 (fun _=>rfl) ⟨rfl,au⟩ ⟨br _,Y⟩ ?_;clear Y;rintro σ k w ⟨hk,Y⟩;have _r:(kn S c k++replicate (n-k) (⟨#[]⟩:ByteArray)).length=n:=by rw[length_append,Iq,np];omega
 refine aA ?_ ?_<;>intro h3
 ·have B:k<n:=U
  rw[Ω U,γ U]at Y;replace Y:=Y.xJ;obtain⟨rw,P'⟩:=À (cF h k);obtain⟨Rk,R'⟩:=À (t.getD k []);have T':=_g k;have F:=_h k;have K:=_f k B;rw[<-R']at T' F K;rw[<-P',<-R']at Y;refine W ?_;rw[<-P'];refine aU rfl (Ξ (s:=rw) (xs:=Rk) Y U) ?_;rintro _ w' ⟨rfl,d⟩;clear Y;have Y:=d;clear d;refine⟨_,rfl,?_⟩;have _s:=Hq BK (l:=Rk);refine c9 ?_;intro C w Y;obtain⟨y,V'⟩:=À (c.getD k O.dflt);have q:=j' k U;rw[<-V']at q ⊢;refine aU rfl (JH (n:=y) (hT.at Y) U U) ?_;refine j7 ?_;clear Y;intro w' Y;have _t:=ED q.1 q.2;have Y:M w0 w' [ak C 297 [.pointer none,nS],X fH 5 (nS) (cL []),X fY 291 rw (ir oM Rk),ai fY 291 (h.drop (k+1)) (t.drop (k+1)),X ar 290 A h,X kB 9 D (kn S c k++replicate (n-k) ⟨#[]⟩)]:=by rw[show cL []=[] from rfl];exact(Y.nil (T:=fH) (e:=5)).bb
  refine W ?_;refine aU rfl (OY (l:=[]) (b:=nM y) Y (.inl rfl) dc (by show (jh y).length<=_;omega)) ?_;rintro _ w' ⟨⟨v,rfl⟩,r,d⟩;clear Y;have Y:=d;clear d;refine⟨_,rfl,?_⟩;rw[kq,show (nM y).data.toList=jh y from by simp[nM]]at Y;refine W ?_;have Y:M w0 w' [X fY 291 rw (ir oM Rk),ak C 297 [.pointer (some C),r],X fH 5 r (cL (jh y)),ai fY 291 (h.drop (k+1)) (t.drop (k+1)),X ar 290 A h,X kB 9 D (kn S c k++replicate (n-k) ⟨#[]⟩)]:=Y.bb;refine aU rfl (Ο (s:=rw) (xs:=ir oM Rk) Y U) ?_;rintro _ w' ⟨zv,rfl,d⟩;clear Y;have Y:=d;clear d;refine⟨_,rfl,?_⟩;obtain⟨o,hZ⟩:=À (lN (ir oM Rk));have _u:o.length<=65536:=by rw[hZ];exact oD (Te _) U
  have _a:∀ x∈o,(0<=x.1/\x.1<=65536)/\0<=x.2/\x.2<=65536:=fun x hx=>by
   rw[hZ,Mb,L8 BK]at hx;exact F x hx
  have _i:∀ x∈o,(na x).length<=44:=fun x hx=>by
   obtain⟨⟨q1,q2⟩,q3,q4⟩:=_a x hx;have i1:=ED q1 q2;have i2:=ED q3 q4;unfold na;simp only[length_append,length_cons];omega
  have P:lp S c k=jh y++o.flatMap na:=by unfold lp;rw[<-K,<-V',hZ]
  rw[<-hZ]at Y;refine W ?_;have Y:M w0 w' [ak C 297 [.pointer (some C),r],X fH 5 r (cL (jh y++(o.take 0).flatMap na)),X fY 291 zv o,ai fY 291 (h.drop (k+1)) (t.drop (k+1)),X ar 290 A h,X kB 9 D (kn S c k++replicate (n-k) ⟨#[]⟩)]:=by
   rw[wI,A7,fI];exact Y.bb
  refine dN [14,14,66,80] (G:=Nat) (H:=Value) (fun m r=>[(66,E m)]) (fun m r w=>m<=o.length/\M w0 w [ak C 297 [.pointer (some C),r],X fH 5 r (cL (jh y++(o.take m).flatMap na)),X fY 291 zv o,ai fY 291 (h.drop (k+1)) (t.drop (k+1)),X ar 290 A h,X kB 9 D (kn S c k++replicate (n-k) ⟨#[]⟩)]) (fun m _=>o.length-m) 0 r (fun _ _=>rfl) ⟨rfl,au⟩ ⟨br _,Y⟩ ?_;clear Y;rintro σ m r w ⟨hm,Y⟩;have _j:(jh y++(o.take m).flatMap na).length<=10000000:=by
   have:=TV (f:=na) (m:=44) (l:=o.take m) fun a Q=>_i a (pU Q);rw[jf]at this;rw[length_append];have R:min m o.length*44<=65536*44:=xQ U (cz _);omega
  refine aA ?_ ?_<;>intro h4
  ·have _b:m<o.length:=U
   obtain⟨z,hz⟩:=À (o.getD m fY.dflt);have _c:=_a _ (cD fY.dflt _b);rw[<-hz]at _c;obtain⟨⟨q1,q2⟩,q3,q4⟩:=_c;have i1:=ED q1 q2;have i2:=ED q3 q4;refine c9 ?_;intro p w Y;have Y:M w0 w [ak p 291 [E z.1,E z.2],ak C 297 [.pointer (some C),r],X fH 5 r (cL (jh y++(o.take m).flatMap na)),X fY 291 zv o,ai fY 291 (h.drop (k+1)) (t.drop (k+1)),X ar 290 A h,X kB 9 D (kn S c k++replicate (n-k) ⟨#[]⟩)]:=by rw[hz];exact Y
   refine fQ (pl [0,1,5,6,2] (.cJ 6::pl [3,4,7,8,9] [])) Y kr ?_;clear Y;intro w Y;refine zZ ?_;refine fi (v:=.pointer (some (p.add 0))) rfl (Bf (n:=2) (j:=0) rfl rfl U U) ?_;refine W ?_;refine fi (v:=.pointer (some (p.add 1))) rfl (Bf (n:=2) (j:=1) rfl rfl U U) ?_;refine W ?_;refine aU rfl (JH (n:=z.1) (hT.at Y) U U) ?_;refine lU ?_;intro w' Y;have z1:(nM z.1).size=(jh z.1).length:=rfl;have z2:(nM z.2).size=(jh z.2).length:=rfl;refine fi rfl (Le (a:=⟨#[32]⟩) (b:=nM z.1) rfl rfl (by show 1+(nM z.1).size<=_;omega)) ?_;obtain⟨A1,Q⟩:=À ((⟨#[32]⟩:ByteArray)++nM z.1);have _v:A1.size<=22:=by rw[Q,Kg];show 1+_<=_;omega
   rw[<-Q];refine W ?_;refine fi rfl (Le (a:=A1) (b:=⟨#[58]⟩) rfl rfl (by show _+1<=_;omega)) ?_;obtain⟨A2,R⟩:=À (A1++(⟨#[58]⟩:ByteArray));have _w:A2.size<=23:=by rw[R,Kg];show _+1<=_;omega
   rw[<-R];refine W ?_;refine aU rfl (JH (n:=z.2) (hT.at Y) U U) ?_;refine lU ?_;intro w' Y;refine fi rfl (Le (a:=A2) (b:=nM z.2) rfl rfl U) ?_;obtain⟨A3,V⟩:=À (A2++nM z.2);have _x:A3.size<=44:=by rw[V,Kg];omega
   have hA:A3.data.toList=na z:=by
    rw[V,R,Q];simp[na,nM]
   rw[<-V];refine W ?_;have Y:M w0 w' [ak C 297 [.pointer (some C),r],X fH 5 r (cL (jh y++(o.take m).flatMap na)),X fY 291 zv o,ai fY 291 (h.drop (k+1)) (t.drop (k+1)),X ar 290 A h,X kB 9 D (kn S c k++replicate (n-k) ⟨#[]⟩)]:=Y.bb;refine aU rfl (OY (b:=A3) Y (.inr rfl) U U) ?_;rintro _ w' ⟨⟨v,rfl⟩,_k,d⟩;clear Y;have Y:=d;clear d;refine⟨_,rfl,?_⟩;refine W ?_;refine⟨m+1,_k,⟨rfl,au⟩,aV,⟨U,?_⟩,U⟩;rw[eD fY.dflt _b,wy,<-hz,kQ,A7,fI,<-fG,<-hA];exact Y.bb
  rw[gH U,<-P]at Y;have Q:lp S c k≠[]:=by
   rw[P];intro e;exact(H4 q.1).2.1 (append_eq_nil_iff.1 e).1
  rw[gH U,<-P]at _j;refine W ?_;refine aU rfl (WA (l:=lp S c k) Y Q U) ?_;rintro _ w' ⟨rfl,d⟩;clear Y;have Y:=d;clear d;refine⟨_,rfl,?_⟩;refine iC ?_;intro w Y;rw[Ψ S c B]at Y;exact⟨k+1,⟨rfl,au⟩,aV,⟨U,Y.bb⟩,U⟩
 have o:n=k:=U;subst o;have d:kn S c n=kg S c:=by rw[hn];rfl
 rw[rZ,Cq,fI,d]at Y;have J':(kg S c).length<=65536:=by rw[<-d,Iq];omega
 refine W ?_;refine aU rfl (QI (L:=kg S c) (bm (s:=D) Y) J') ?_;rintro _ w' ⟨v,rfl,an⟩;refine aL ?_;clear an Y;intro Y;refine W ?_;exact cX (v:=v) (v':=E ((cP (kg S c)).length:Nat)) rfl rfl rfl ⟨v,rfl,Y.bb⟩
def δ (hk:k<S.aB.length):(S.aB.map (sO S true)).getD k eX.dflt=⟨(S.aB.getD k aM.dflt).dst,(S.aB.getD k aM.dflt).ba,S.aT.getD (S.aB.getD k aM.dflt).cG.toNat O.dflt⟩:=by
 simp[List.getD,hk,sO]
def Jy (hv:dP S):rK S.st.toNat (jD S true) where
 ok l f a b:=by
  obtain⟨x,hx,rfl⟩:=fF f;have d:x<S.st.toNat:=by simpa [jD,fV] using hx
  have h1:(jD S true)[x]=(jD S true).getD x []:=by rw[iB,kP hx];rfl
  rw[h1]at b;have h:=((Ad (g:=fun a:fW=>a.ba) (l:=S.aB.map (sO S true)) d).1 b).1;obtain⟨e,he,rfl⟩:=iQ.1 h;obtain⟨_,_,_,_,_,_,_,j,m,_⟩:=hv;obtain⟨⟨n,s1⟩,⟨d0,d1⟩,o,q⟩:=m e he;have:=j _ (cD O.dflt (show e.cG.toNat<S.aT.length by omega));show kK S.st.toNat ⟨e.dst,e.ba,S.aT.getD e.cG.toNat O.dflt⟩;exact⟨d0,(by show e.dst<_;omega),n,(by show e.ba<_;omega),this.1,this.2⟩
 ba i h a b:=by
  have d:i<S.st.toNat:=by simpa [jD,fV] using h
  exact((Ad (g:=fun a:fW=>a.ba) (l:=S.aB.map (sO S true)) d).1 b).2
 len:=yK
def ε {fv:Value}{fr:J}(hS:cV w0 cv ev gv S)(hv:dP S)(hf:RS O w0 fv fr)(P':fr.Nodup)(Q:∀ i∈fr,0<=i/\i<(S.st.toNat:Int)) :
  Calls aj 119 #[cK S cv ev gv,fv,.bool true] w0 fun e w'=>∃ v,e=.returned v/\M w0 w' [X O 3 v (Cg S fr true)]:=by
 have _k:=hS.aT;have _l:=hS.aB;have _m:=hS.aR;have D:=Jy hv;obtain⟨a1,a2,a3,a4,a5,a6,a7,_n,_c,_⟩:=hv;obtain⟨n,hn⟩:=À S.st.toNat;have _d:S.st=(n:Int):=U;have _o:fr.length<=n:=by rw[hn];exact Mg P' Q
 rw[<-hn]at D Q;have Y:=M.start w0;refine bB ao Tryz.func119 ?_;unfold cK;rw[_d]
 repeat (first|refine dB ?_|(refine iy ?_;clear Y;intro p w Y)|(refine fR ?_;clear Y;intro s w Y))
 have Y:=Y.gJ (T:=eX) (e:=181) n;obtain⟨ps,rfl⟩:=À p;obtain⟨B,rfl⟩:=À s;have Y:M w0 w [ai eX 181 (replicate n (nS)) (replicate n []),X ar 176 B (replicate n (nS)),ak ps 142 [E n,E S.bL,cv,ev,gv]]:=Y;obtain⟨L,hL⟩:=À (S.aB.map (sO S true));have _p:L.length=S.aB.length:=by rw[hL,iW]
 rw[<-L1 (g:=fun a:fW=>a.ba)]at Y;refine dN [9,10,26,60] (G:=Nat) (H:=List Value) (fun k h=>[(26,E k)]) (fun k h w=>k<=S.aB.length/\h.length=n/\M w0 w [ai eX 181 h (fV (fun a:fW=>a.ba) n (L.take k)),X ar 176 B h,ak ps 142 [E n,E S.bL,cv,ev,gv]]) (fun k h=>S.aB.length-k) 0 (replicate n (nS)) (fun _ _=>rfl) ⟨rfl,au⟩ ⟨br _,sm,by rw[wI];exact Y⟩ ?_;clear Y;rintro σ k h w ⟨hk,_e,Y⟩;refine aA ?_ ?_<;>intro h2
 ·have u:k<S.aB.length:=U
  have m:=δ u;rw[<-hL]at m;obtain⟨a,R⟩:=À (S.aB.getD k aM.dflt);have hm:=_c _ (cD aM.dflt u);rw[<-R]at hm m;obtain⟨c,j⟩:=À (S.aT.getD a.cG.toNat O.dflt);rw[<-j]at m;obtain⟨⟨m1,m2⟩,⟨m3,m4⟩,m5,m6⟩:=hm;have f:=L3 (g:=fun a:fW=>a.ba) (n:=n) (dflt:=eX.dflt) (l:=L) (k:=k) U (by rw[m];exact m3) (by rw[m];simp only;omega);have y:=yK (g:=fun a:fW=>a.ba) (n:=n) (l:=L.take k);have j':=xZ (g:=fun a:fW=>a.ba) (n:=n) (l:=L.take k) (x:=a.dst.toNat);rw[jf]at j';rw[m]at f;refine c9 ?_;intro o w Y;have Y:M w0 w [ak o 190 [E a.ba,E a.cG,E a.dst],ai eX 181 h (fV (fun a:fW=>a.ba) n (L.take k)),X ar 176 B h,ak ps 142 [E n,E S.bL,cv,ev,gv]]:=by rw[R];exact Y
  refine th [10,10,30,40] (G:=Addr) (fun x=>[(10,.pointer (some x))]) (fun x w=>M w0 w [ak x 181 [E a.ba,E a.dst,E c],ak o 190 [E a.ba,E a.cG,E a.dst],ai eX 181 h (fV (fun a:fW=>a.ba) n (L.take k)),X ar 176 B h,ak ps 142 [E n,E S.bL,cv,ev,gv]]) (fun _=>rfl) ?_ ?_
  ·refine xL (.s [0,2,4,6,1,3,5,7,8,9] (.d 10 [] (.c 11 [1,3,5,7,9] (.s [12] (.j6 []))) (.d 11 [1,3,5,7,9] (.s [10,12] (.j6 [])) (.stop)))) Y kr kr ?_;clear Y;intro w Y
   refine W ?_;refine jF ?_ (jF ?_ qt)
   ·refine c9 ?_;intro p w Y
    rw[<-j]at Y;exact⟨_,⟨rfl,au⟩,aV,Y⟩
   refine c9 ?_;intro p w Y;rw[<-j]at Y;exact⟨_,⟨rfl,au⟩,aV,Y⟩
  clear Y;rintro σ x w Y;refine iC ?_;intro w Y;have Y:M w0 w [ak x 181 [E a.dst,E a.ba,E c],ai eX 181 h (fV (fun a:fW=>a.ba) n (L.take k)),X ar 176 B h,ak ps 142 [E n,E S.bL,cv,ev,gv]]:=by
   simp only[mM,mJ]at Y;exact Y.bb
  have t:a.dst.toNat<(fV (fun a:fW=>a.ba) n (L.take k)).length:=U;replace Y:=Y.swap.gW t;refine fQ (pl [0,1,2,3,4,5,6,7,8,9] (.cJ 2::.cJ 5::.cJ 7::pl [10] (.cJ 2::pl [11,12] []))) Y kr ?_;clear Y;intro w Y;refine W ?_;refine jG eX (x1:=⟨a.dst,a.ba,c⟩) rfl rfl rfl (fX rfl) (fb _) Y ?_;clear Y;intro s2 w Y;refine lw ?_;intro s w Y;replace Y:=M.oZ t U Y.tail;replace Y:=Y.swap.tail;rw[<-f]at Y;exact⟨k+1,h.set a.dst.toNat s,⟨rfl,au⟩,aV,⟨U,by rw[gS];exact _e,Y⟩,U⟩
 rw[gH U]at Y;have R':fV (fun a:fW=>a.ba) n L=jD S true:=by rw[hL,hn];rfl
 rw[R']at Y;clear R';obtain⟨A,hA⟩:=À (jD S true);rw[<-hA]at Y D;refine lw ?_;intro s w Y;obtain⟨F,rfl⟩:=À s;have Y:M w0 w [X O 3 F (replicate n 0),ai eX 181 h A,X ar 176 B h,ak ps 142 [E n,E S.bL,cv,ev,gv]]:=Y;have j':(replicate ((n:Int)).toNat (0:Int)).length=n:=sm;refine cN [12,12,66,72] (G:=Nat) (fun k=>[(66,E k)]) (fun k w=>k<=n/\M w0 w [X O 3 F (replicate k 1125899906842624++replicate (n-k) 0),ai eX 181 h A,X ar 176 B h,ak ps 142 [E n,E S.bL,cv,ev,gv]]) (fun k=>n-k) 0 (fun _=>rfl) ⟨rfl,au⟩ ⟨br _,Y⟩ ?_;clear Y;rintro σ k w ⟨hk,Y⟩;have _q:(replicate k (1125899906842624:Int)++replicate (n-k) 0).length=n:=by rw[length_append,np,np];omega
 refine aA ?_ ?_<;>intro h3
 ·refine eQ ?_;intro w Y
  refine⟨k+1,⟨rfl,au⟩,aV,⟨U,?_⟩,U⟩;have e:(replicate k (1125899906842624:Int)++replicate (n-k) 0).set k 1125899906842624=replicate (k+1) 1125899906842624++replicate (n-(k+1)) 0:=by
   have f:n-k=(n-(k+1))+1:=U;rw[f,DE,yB _ _ (by rw[np];exact cz _),np,rZ,mJ,GK,fG];rfl
  rw[e]at Y;exact Y.bb
 have H':n=k:=U;subst H';rw[rZ,Cq,fI]at Y;refine lw ?_;intro s w Y;obtain⟨wv,rfl⟩:=À s;refine aU rfl (nH (hf.at Y) U) ?_;rintro _ w' ⟨C,rfl,an⟩;refine aL ?_;clear an Y;intro Y;refine W ?_;rw[show ((n:Int)).toNat=n from by omega]at Y;have Y:M w0 w' [X O 3 C fr,X ah 4 wv (replicate n false),X O 3 F (replicate n 1125899906842624),ai eX 181 h A,X ar 176 B h]:=Y.bb;refine cN [16,16,80,90] (G:=Nat) (fun k=>[(80,E k)]) (fun k w=>k<=fr.length/\M w0 w [X O 3 C fr,X ah 4 wv ((fr.take k).foldl (fun o i=>o.set i.toNat true) (replicate n false)),X O 3 F ((fr.take k).foldl (fun o i=>o.set i.toNat 0) (replicate n 1125899906842624)),ai eX 181 h A,X ar 176 B h]) (fun k=>fr.length-k) 0 (fun _=>rfl) ⟨rfl,au⟩ ⟨br _,Y⟩ ?_;clear Y;rintro σ k w ⟨hk,Y⟩;have l1:((fr.take k).foldl (fun o i=>o.set i.toNat true) (replicate n false)).length=n:=by rw[Ex,np]
 have l2:((fr.take k).foldl (fun o i=>o.set i.toNat (0:Int)) (replicate n 1125899906842624)).length=n:=by rw[Ex,np]
 refine aA ?_ ?_<;>intro h4
 ·have u:k<fr.length:=U
  have f:=Q _ (cD O.dflt u);refine eQ ?_;intro w Y;refine⟨k+1,⟨rfl,au⟩,aV,⟨U,?_⟩,U⟩;rw[eD O.dflt u,tf,tf];exact Y
 rw[gH U]at Y;have T':=Tk P' Q;have Y:M w0 w [X O 3 C (fo n fr).q,X ah 4 wv (fo n fr).waits,X O 3 F (fo n fr).out,ai eX 181 h A,X ar 176 B h]:=Y;refine W ?_;refine dN [14,14,17,17,19,19,91,150] (G:=Nat) (H:=Value) (fun j C=>[(14,C)]) (fun j C w=>∃ f,f=kX (cu A) j (fo n fr)/\gu n f/\M w0 w [X O 3 C f.q,X ah 4 wv f.waits,X O 3 F f.out,ai eX 181 h A,X ar 176 B h]) (fun j C=>pT (kX (cu A) j (fo n fr))) 0 C (fun _ _=>rfl) ⟨rfl,au⟩ ⟨_,rfl,T',Y⟩ ?_;clear Y;rintro σ j C w ⟨f,hX,bI,Y⟩;have _r:=bI.ql;have _s:=bI.ol;have _t:=bI.wl;have _u:=D.len;refine aA ?_ ?_<;>intro h5
 ·obtain⟨i,r,hq⟩:∃ i r,f.q=i::r:=by
   cases hq:f.q with
   | nil=>rw[hq]at h5;simp at h5
   | cons i r=>exact⟨i,r,rfl⟩
  obtain⟨_f,_v,_g,_h⟩:=bI.pop hq;have j':f.q.length=r.length+1:=by rw[hq];rfl
  have V':f.q.getD (Int.toNat 0) O.dflt=i:=by rw[hq];rfl
  refine iC ?_;intro w Y;rw[V'];refine W ?_;rw[V']at Y;have Y:=Y.sub (s:=C) own_here 1 f.q.length U (cz _);have _i:cut f.q 1 f.q.length=r:=by rw[hq];simp[cut]
  rw[_i]at Y;obtain⟨q2,_a⟩:=À (ssub C O.sz (Int.toNat 1) f.q.length);have Y:M w0 w [X O 3 q2 r,X ah 4 wv (f.waits.set i.toNat false),X O 3 F f.out,ai eX 181 h A,X ar 176 B h]:=by rw[_a];exact Y
  rw[<-_a];obtain⟨AR,K⟩:=À (A.getD i.toNat []);have N:∀ a∈AR,kK n a:=fun a R=>D.ok _ (Ic (i:=i.toNat) U) a (by rw[<-K];exact R);have _j:AR.length<=S.aB.length:=by
   rw[K,hA];exact oD xZ (by rw[iW];exact cz _)
  have J':cu A f=AR.foldl (dM i) ⟨f.out,f.waits.set i.toNat false,r⟩:=by unfold cu;rw[hq,K]
  have y:=(Y.bJ 3 rfl).row (i:=i.toNat) U;rw[<-K]at y;refine W ?_;refine dN [14,14,19,19,107,150] (G:=Nat) (H:=Value) (fun k q'=>[(107,E k),(14,q')]) (fun k q' w=>k<=AR.length/\M w0 w [X O 3 q' ((AR.take k).foldl (dM i) ⟨f.out,f.waits.set i.toNat false,r⟩).q,X ah 4 wv ((AR.take k).foldl (dM i) ⟨f.out,f.waits.set i.toNat false,r⟩).waits,X O 3 F ((AR.take k).foldl (dM i) ⟨f.out,f.waits.set i.toNat false,r⟩).out,ai eX 181 h A,X ar 176 B h]) (fun k _=>AR.length-k) 0 q2 (fun _ _=>rfl) ⟨rfl,rfl,au⟩ ⟨br _,Y⟩ ?_;clear Y y;rintro σ k q' w ⟨hk,Y⟩;have hY:=(_f.BL (L:=AR.take k) ⟨_g,_h⟩ (fun a R=>N a (pU R))).1;obtain⟨t,V⟩:=À ((AR.take k).foldl (dM i) ⟨f.out,f.waits.set i.toNat false,r⟩);rw[<-V]at Y hY;have y1:=hY.ol;have y2:=hY.wl;have y3:=hY.ql;have y4:=hY.ob i.toNat U;have y:=(Y.bJ 3 rfl).row (i:=i.toNat) U;rw[<-K]at y;refine aA ?_ ?_<;>intro h6
  ·have u:k<AR.length:=U
   have R:=N _ (cD eX.dflt u);obtain⟨a,m⟩:=À (AR.getD k eX.dflt);rw[<-m]at R;obtain⟨b1,b2,b3,b4,b5,b6⟩:=R;have y5:=hY.ob a.dst.toNat U;have z:(AR.take (k+1)).foldl (dM i) ⟨f.out,f.waits.set i.toNat false,r⟩=dM i t a:=by rw[eD eX.dflt u,tf,<-V,<-m];rfl
   refine c9 ?_;intro p w Y;have Y:M w0 w [ak p 181 [E a.ba,E a.dst,E a.wt],X O 3 q' t.q,X ah 4 wv t.waits,X O 3 F t.out,ai eX 181 h A,X ar 176 B h]:=by rw[m];exact Y
   refine r5 ?_;clear Y y;intro w Y;refine aA ?_ ?_<;>intro h7
   ·have hs:dM i t a=t:=by unfold dM;rw[aP h7]
    refine W ?_;exact⟨k+1,q',⟨rfl,rfl,au⟩,aV,⟨U,by rw[z,hs];exact Y.bb⟩,U⟩
   have _b:¬t.out.getD i.toNat O.dflt+a.wt≥t.out.getD a.dst.toNat O.dflt:=U;refine W ?_;refine fQ (pl [0,1,2,3,4,5,6,7,8,9,10,11] []) Y kr ?_;clear Y;intro w Y;refine iC ?_;intro w Y;by_cases P:t.waits.getD a.dst.toNat ah.dflt=true
   ·have hs:dM i t a=⟨t.out.set a.dst.toNat (t.out.getD i.toNat O.dflt+a.wt),t.waits,t.q⟩:=by unfold dM;rw[aH _b,aP P]
    rw[P];refine W ?_;exact⟨k+1,q',⟨rfl,rfl,au⟩,aV,⟨U,by rw[z,hs];exact Y.bb⟩,U⟩
   have hs:dM i t a=⟨t.out.set a.dst.toNat (t.out.getD i.toNat O.dflt+a.wt),t.waits.set a.dst.toNat true,t.q++[a.dst]⟩:=by unfold dM;rw[aH _b,aH P]
   rw[rX]at P;rw[P];refine W ?_;refine fQ (pl [0,1,2,3,4,5,6] (.cJ 2::pl [7] (.cJ 2::pl [8,9,10] []))) Y kr ?_;clear Y;intro w Y
   repeat (first|refine dB ?_|(refine tG ?_;clear Y;intro w Y)|(refine fR ?_;clear Y;intro s w Y))
   exact⟨k+1,s,⟨rfl,rfl,au⟩,aV,⟨U,by rw[z,hs];exact Y.bb⟩,U⟩
  have H':k=AR.length:=U;rw[H',lL,<-J']at V;refine W ?_;refine⟨j+1,q',⟨rfl,au⟩,aV,⟨t,by rw[V,hX];rfl,hY,Y.bb⟩,?_⟩;have:=(bI.step D.ok).2.1 (by unfold dX;rw[hq];rfl);rw[hX]at this;exact this
 have b:dX f=true:=by
  unfold dX
  cases hq:f.q with
  | nil=>rfl
  | cons i r =>
   have:f.q.length=r.length+1:=by rw[hq];rfl
   omega
 have m:Cg S fr true=f.out:=by
  unfold Cg;rw[<-hA,<-hn,oo (L4 A) (n:=j) (by rw[<-hX];exact b),<-hX]
 rw[m];refine W ?_;exact bk (v:=F) rfl rfl ⟨F,rfl,Y.bb⟩
def cV.mh (h:cV w cv ev gv S):([Value.int .i64 S.st,E S.bL,cv,ev,gv]).all Value.oneCell'=true:=by
 simp only[ew,eN,h.aT.one,h.aB.one,h.aR.one];rfl
def Dn {g:List Bool}{i:Int}:∀ {k:Nat},i∈gN g k↔0<=i/\i<(k:Int)/\g.getD i.toNat ah.dflt=true
 | k=>by
  unfold gN;rw[mem_filterMap];constructor
  ·rintro⟨j,a,h⟩
   rw[mem_range]at a;split at h
   ·rename_i I
    cases h;exact⟨U,U,I⟩
   cases h
  rintro⟨a,h1,I⟩;exact⟨i.toNat,by rw[mem_range];omega,by rw[aP I];congr 1;omega⟩
def F5 {g:List Bool}:∀ k:Nat,(gN g k).Nodup
 | 0=>by simp[gN]
 | k+1=>by
  have f:=F5 (g:=g) k;unfold gN at *
  rw[lz,JZ,zM];refine⟨f,by simp only[GC,GD];split<;>simp,fun a l b d e=>?_⟩;have:=(Dn (g:=g) (k:=k)).1 l;rw[mem_filterMap]at d;obtain⟨j,m,h⟩:=d;rw[dp]at m;split at h
  ·cases h;omega
  cases h
noncomputable def iF (S:bV):Int:=if iS S=true then 0 else 2
noncomputable def tV (S:bV):J:=if iS S=true then mT S else []
def VO (b:cV w0 cv ev gv S) :
  Calls aj 91 #[cK S cv ev gv] w0 fun e w'=>∃ v,e=.returned (.tuple #[v,bO (iF S)])/\M w0 w' [X O 3 v (tV S)]:=by
 have Y:=M.start w0;have n:=b.mh;refine bB ao Tryz.func91 ?_;unfold cK;refine c9 ?_;intro p w Y;have Y:M w0 w [ak p 142 [E S.st,E S.bL,cv,ev,gv]]:=Y;refine aU rfl (D9 (S:=S) (b.at Y)) ?_;refine j7 ?_;clear Y;intro w' Y;by_cases hv:iS S=true
 ·rw[hv]
  have a:dP S:=nl fun h=>by rw[wc h]at hv;cases hv
  have d:iF S=0:=by unfold iF;rw[aP hv]
  have f:tV S=Cg S (vI S.aR) true:=by unfold tV;rw[aP hv];rfl
  rw[d,f];refine W ?_;refine fQ (pl [0,1,2] (.cJ 0::pl [3,4,5] [])) Y kr ?_;clear Y;intro w Y;refine W ?_;have j:S.aR.length<=4096:=by obtain⟨_,o,_,_,l,_⟩:=a;omega
  refine aU rfl (Y2 (S:=S) (b.at Y) j) ?_;rintro _ w' ⟨q,rfl,an⟩;refine aL ?_;clear an Y;intro Y;refine W ?_;refine aU rfl (ε (S:=S) (fr:=vI S.aR) (b.at Y) a (Y.rs 0 rfl) (F5 _) (fun i m=>?_)) ?_
  ·have:=(Dn (g:=S.aR) (k:=S.aR.length)).1 m
   obtain⟨_,_,_,_,l,_⟩:=a;omega
  rintro _ w' ⟨v,rfl,an⟩;refine aL ?_;clear an Y;intro Y;refine W ?_;exact cX (v:=v) (v':=.nilIface) rfl rfl rfl ⟨v,by rw[gy rfl],Y.bb⟩
 rw[rX]at hv;rw[hv];have d:iF S=2:=by unfold iF;rw[aH (by rw[hv];simp)]
 have f:tV S=[]:=by unfold tV;rw[aH (by rw[hv];simp)]
 rw[d,f];refine W ?_;exact cX (v:=nS) (v':=.iface 57 (E 2)) rfl rfl rfl ⟨_,by rw[dq dc],(iY Y).nil⟩
end
end Go.Proofs.YtmapkjoefdgjfaaGreatDoor
