/- Several texts. -/
import Derived.Test.YtmapkjoefdgjfaaGreatDoorMW5
import Derived.Shelf.SlSortCmp.NoneTotal
import Derived.Shelf.SlicesE.Delete
import Derived.Test.YtmapkjoefdgjfaaGreatDoorMW1
import Derived.Lib.ItoaLen
set_option linter.unusedSimpArgs false
set_option linter.unusedVariables false
set_option maxRecDepth 8000
set_option maxHeartbeats 16000000
open List Nat
namespace Go.Proofs.YtmapkjoefdgjfaaGreatDoor
section
open Go.Sl Go Go.Shelf Go.Sort
attribute [local irreducible] vc opsW opsD opV opW PureV ReadV Thn Blk
theorem nF {P:Program}{f:FuncId}{B:Func}(h1:(((P.funcs[f]?).map Func.name).getD "" == "runtime.NumGoroutine") = false := by kernel_rfl) (h2 : P.funcs[f]? = some {B with name := ((P.funcs[f]?).map Func.name).getD ""} := by kernel_rfl) : Bears P f B := ⟨_, h1, h2⟩
def zb:Ren:=⟨rl [6,151,14,176,15,98,20,197,21,198,22,199,23,200,24,201,25,202,26,203,27,204,28,132,29,133,46,211,47,154,48,155,49,212,50,213,57,225],rl [0,0,3,3,4,4,5,5,9,9,22,139,24,190,25,248,39,175,45,210,46,211,50,183,53,218,55,220,66,250,70,254,76,279,77,267],fun k=>k⟩
set_option maxRecDepth 100000 in
theorem qxa:SlLaysF0.n6 Tryz.prog zb:=by constructor<;>first|exact mixed|kernel_rfl|(intro w;kernel_rfl)|exact nF
def zc:Ren:=⟨rl [6,189,14,208,15,98,20,215,21,216,22,217,23,218,24,219,25,220,26,221,27,222,28,132,29,133,46,226,47,154,48,155,49,227,50,228,57,233],rl [0,0,3,3,4,4,5,5,9,9,22,290,24,291,25,293,39,175,45,210,46,211,50,183,53,218,55,220,66,250,70,254,76,279,77,267],fun k=>k⟩
set_option maxRecDepth 100000 in
theorem qyZ:SlLaysF0.n6 Tryz.prog zc:=by constructor<;>first|exact mixed|kernel_rfl|(intro w;kernel_rfl)|exact nF
def eh:Ty (Int × Int):=⟨2,fun a=>[.int .i64 a.1,.int .i64 a.2],fun _=>rfl,(0,0)⟩
instance qxT:Bn eh:=⟨fun x v hv=>by simp only[eh,mem_cons,not_mem_nil,or_false]at hv;rcases hv with rfl|rfl<;>rfl⟩
theorem zd {ren:Ren}(L:SlLaysF0.n6 Tryz.prog ren) {α:Type} [Inhabited α] {T:Ty α} [O:Bn T] (hT:0<T.sz) (aE:∀ w,(isAgg (ren.t 24)).run Tryz.prog w=.ok true w) (zE:∀ w,(Go.sizeOf (ren.t 24)).run Tryz.prog w=.ok T.sz w) {cf:α->α->Int}(hO:SWO (ltOf cf)) {g:Nat} [Ae Tryz.prog g]
  (yf:∀ w x y,Calls Tryz.prog g #[.agg (T.enc x).toArray,.agg (T.enc y).toArray] w fun e w'=>e=.returned (.int .i64 (cf x y))/\∃ (q:Nat) (os:Array Obj),w'=Sort.grow (w.drewN q) os)
  {w0 w:World}{Γ:List HP}{e:TypeId}{s:Value}{xs:List α}(hw:Sat w0 w (OS T e s xs::Γ)) (hn:xs.length<4611686018427387904) :
  Calls Tryz.prog (ren.f 6) #[s,.func (.func g) #[] #[]] w fun e' w'=>e'=.returned (.tuple #[])/\Sat w0 w' (OS T e s (dN cf xs)::Γ):=by
 rcases hw.qwT hT with ⟨rfl,rfl⟩|⟨b,off,cap,rfl,hc,hb,hH,cO⟩
 ·refine Calls.mono (AnyF.slices_SortFunc_none L none 0 _ w) ?_
  rintro e w' ⟨rfl,rfl⟩;exact⟨rfl,by rw[qva hO];exact hw⟩
 ·have hS:=AnyQ.slices_SortFunc_eq L T.sz aE zE T.enc T.ok (fun x v hv=>O.ok x v hv) cf hO g #[] b off cap xs.toArray w (fun args w=>Ae.run inferInstance args w)
   (by intro m os dk hs x y;exact yf _ x y) hH hb (by simpa using hn)
  have e0:xs.length=xs.toArray.size:=by simp
  rw[e0];refine hS.mono ?_;rintro e' w' ⟨he,n,os,rfl⟩;refine⟨he,?_⟩;have h1:=cO (dN cf xs) (zT hO) n os;rw[<-e0];exact h1
theorem vQ:(∀ w,(isAgg (zb.t 24)).run Tryz.prog w=.ok true w)/\∀ w,(Go.sizeOf (zb.t 24)).run Tryz.prog w=.ok 3 w:=by
 have h:AH Tryz.prog 190 3:=inferInstance;exact h.agg
theorem qxb:(∀ w,(isAgg (zc.t 24)).run Tryz.prog w=.ok true w)/\∀ w,(Go.sizeOf (zc.t 24)).run Tryz.prog w=.ok 2 w:=by
 have h:AH Tryz.prog 291 2:=inferInstance;exact h.agg
set_option maxRecDepth 100000 in
theorem qrI {w0 w:World}{Γ:List HP}{e:TypeId}{s:Value}{xs:List Au}(hw:Sat w0 w (OS ax e s xs::Γ)) (hn:xs.length<4611686018427387904) :
  Calls Tryz.prog 151 #[s,.func (.func 152) #[] #[]] w fun e' w'=>e'=.returned (.tuple #[])/\Sat w0 w' (OS ax e s (dN df xs)::Γ):=by
 have h:=zd (T:=ax) (g:=152) qxa (zero_lt_succ _) vQ.1 vQ.2 kK (fun w x y=>qkV x y) hw hn;exact h
set_option maxRecDepth 100000 in
theorem qrJ {w0 w:World}{Γ:List HP}{e:TypeId}{s:Value}{xs:List Au}(hw:Sat w0 w (OS ax e s xs::Γ)) (hn:xs.length<4611686018427387904) :
  Calls Tryz.prog 151 #[s,.func (.func 195) #[] #[]] w fun e' w'=>e'=.returned (.tuple #[])/\Sat w0 w' (OS ax e s (dN df xs)::Γ):=by
 have h:=zd (T:=ax) (g:=195) qxa (zero_lt_succ _) vQ.1 vQ.2 kK (fun w x y=>qry x y) hw hn;exact h
set_option maxRecDepth 100000 in
theorem qrK {w0 w:World}{Γ:List HP}{e:TypeId}{s:Value}{xs:List (Int × Int)}(hw:Sat w0 w (OS eh e s xs::Γ)) (hn:xs.length<4611686018427387904) :
  Calls Tryz.prog 189 #[s,.func (.func 190) #[] #[]] w fun e' w'=>e'=.returned (.tuple #[])/\Sat w0 w' (OS eh e s (dN lV xs)::Γ):=by
 have h:=zd (T:=eh) (g:=190) qyZ (zero_lt_succ _) qxb.1 qxb.2 yW (fun w x y=>qo0 x.1 x.2 y.1 y.2) hw hn;exact h
def qy0:Ren:=⟨rl [45,170],rl [0,0,3,3,4,4,22,140,23,4],fun k=>k⟩
set_option maxRecDepth 100000 in
theorem qy1:SlLaysE.n45 Tryz.prog qy0:=by constructor<;>first|exact mixed|kernel_rfl|(intro w;kernel_rfl)|exact nF
theorem qkc (xs:List Bool):xs.flatMap ah.enc=xs.map Value.bool:=by
 induction xs with
 | nil=>rfl
 | cons x xs ih=>rw[flatMap_cons,ih];rfl
set_option maxRecDepth 100000 in
theorem qtK {w0 w:World}{Γ:List HP}{e:TypeId}{b off cap k:Nat}{xs:List Bool}(hw:Sat w0 w (OS ah e (.slice (some ⟨b,off,none⟩) xs.length cap) xs::Γ)) (kR:cap<=9223372036854775807) (hk:k<xs.length) :
  Calls Tryz.prog 170 #[.slice (some ⟨b,off,none⟩) xs.length cap,.int .i64 k,.int .i64 ((k:Int)+1)] w fun e' w'=>e'=.returned (.slice (some ⟨b,off,none⟩) (xs.eraseIdx k).length cap)/\Sat w0 w' (OS ah e (.slice (some ⟨b,off,none⟩) (xs.eraseIdx k).length cap) (xs.eraseIdx k)::Γ):=by
 rw[show ((k:Int)+1)=((k+1:Nat):Int) from by omega];rcases hw.qwT (zero_lt_succ _) with ⟨h,_⟩|⟨b',off',cap',h,hc,hb,hH,cO⟩
 ·cases h
 cases h;have hlE:(xs.eraseIdx k).length=xs.length-1:=length_eraseIdx_of_lt hk;have ot:Sort.flatK ah.enc 1 xs.toArray=(xs.map Value.bool).toArray:=by rw[<-qkc];exact qfH ah xs
 have hH2:Sort.Holds Value.bool w b off xs.toArray:=by
  intro j hj;have hj2:j<xs.length:=by simpa using hj
  have:=hH j (by rw[show ah.sz=1 from rfl,ot];simpa using hj);rw[show ah.sz=1 from rfl,ot]at this
  simpa [hj2] using this
 obtain⟨i0,hi0,ml,_⟩:=Ah.info (show Ah Tryz.prog 140 4 1 1 from inferInstance);have hD:=AnyE.slices_Delete qy1 Value.bool (fun _=>rfl) false (fun w=>kr) i0 hi0 ml b off cap k (k+1) xs.toArray w hH2 (by simpa using hc) kR (le_succ _) (by simpa using succ_le_of_lt hk);have e0:xs.length=xs.toArray.size:=by simp
 rw[e0];refine hD.mono ?_;rintro e' w' ⟨he,q,rfl⟩;have e1:xs.toArray.size-(k+1-k)=(xs.eraseIdx k).length:=by rw[hlE];simp
 rw[e1]at he;refine⟨he,?_⟩;have h1:=cO (xs.eraseIdx k++[false]) (by simp[hlE];omega) q #[];have h2:=h1.sub own_here 0 (xs.eraseIdx k).length (zero_le _) (by simp);have e3:cut (xs.eraseIdx k++[false]) 0 (xs.eraseIdx k).length=xs.eraseIdx k:=by simp[cut]
 have e4:ssub (.slice (some ⟨b,off,none⟩) xs.length cap) ah.sz 0 (xs.eraseIdx k).length=.slice (some ⟨b,off,none⟩) (xs.eraseIdx k).length cap:=by simp[ssub,w8,ah]
 rw[e3,e4]at h2;have e5:(xs.toArray.toList.take k++xs.toArray.toList.drop (k+1)++replicate (k+1-k) false)=xs.eraseIdx k++[false]:=by
  rw[eraseIdx_eq_take_drop_succ];simp
 rw[e5];have e6:Sort.putRow Value.bool (Sort.ahead w q) b off (xs.eraseIdx k++[false]).toArray=Go.Proofs.sortWorldK ah.enc ah.sz w b off q (xs.eraseIdx k++[false]).toArray #[]:=by
  unfold Go.Proofs.sortWorldK Sort.putRowK;rw[grow_empty,show ah.sz=1 from rfl,show Sort.flatK ah.enc 1 (xs.eraseIdx k++[false]).toArray=((xs.eraseIdx k++[false]).map Value.bool).toArray from by rw[<-qkc];exact qfH ah _];exact qn1 _ _ _ _ _
 rw[e6];exact h2
end
section
open Go.Sl Go
attribute [local irreducible] vc opsW opsD opV opW PureV ReadV Thn Blk
instance qxN:B9 Tryz.prog 291:=⟨kr⟩
instance qxO:C6 Tryz.prog 291 eh:=⟨fun a b w=>B9.run (P:=Tryz.prog) (t:=291) inferInstance w⟩
theorem qrz {w0 w:World}{Γ:List HP}{s:Value}{xs:List (Int × Int)}(hw:Sat w0 w (OS eh 291 s xs::Γ)) (hn:xs.length<=65536) :
  Calls Tryz.prog 193 #[s] w fun e w'=>∃ s',e=.returned s'/\Sat w0 w' (OS eh 291 s' (ix xs)::Γ):=by
 refine bn (args:=[s]) mixed Tryz.func193 ?_;refine ab ?_;refine ai ?_ ?_<;>intro h1
 ·have he:ix xs=xs:=by
   match xs,h1 with
   | [],_=>rfl
   | [_],_=>rfl
   | _::_::_,h=>simp only[length_cons]at h;omega
  refine ab ?_;exact aW (v:=s) rfl rfl ⟨s,rfl,by rw[he];exact hw.bG⟩
 have nW:2<=xs.length:=by omega
 refine ab ?_;refine cd [2,5,10,59] (G:=Nat) (fun k=>[(3,.int .i64 k)]) (fun k w=>1<=k/\k<=xs.length/\ix (xs.take k)=xs.take k/\Sat w0 w (OS eh 291 s xs::Γ)) (fun k=>xs.length-k) 1 (fun _=>rfl) ⟨rfl,trivial⟩ ⟨Nat.le_refl _,by omega,by cases xs with|nil=>rfl|cons a r=>rfl,hw.bG⟩ ?_;clear hw;rintro σ k w ⟨jb,hk,uM,hw⟩;refine ab ?_;refine ai ?_ ?_<;>intro h2
 ·have aK:k<xs.length:=by omega
  have rW:=qfM eh.dflt jb aK;have ek:((k:Int)-1).toNat=k-1:=by omega
  rw[<-ek]at rW;refine ab ?_;refine nK ?_;clear hw;intro w hw;refine ab ?_;refine eD rfl (qmt (T:=eh) (a:=xs.getD k eh.dflt) (b:=xs.getD ((k:Int)-1).toNat eh.dflt) rfl rfl) ?_;refine ab ?_;refine ai ?_ ?_<;>intro h3
  ·rw[if_pos h3.symm,append_nil,uM]at rW
   refine ab ?_;refine dj [3,3,5,5,29,53] (G:=Nat) (H:=Nat) (fun k2 q=>[(3,.int .i64 q),(5,.int .i64 k2)]) (fun k2 q w=>1<=k2/\k+k2<=xs.length/\k<=q/\q<k+k2/\∃ C:List (Int × Int),C.length=xs.length/\C.take q=ix (xs.take (k+k2))/\(∀ j,k+k2<=j+1->C.getD j eh.dflt=xs.getD j eh.dflt)/\Sat w0 w (OS eh 291 s C::Γ)) (fun k2 _=>xs.length-(k+k2)) 1 k (fun _ _=>rfl) ⟨rfl,rfl,trivial⟩ ⟨Nat.le_refl _,by omega,Nat.le_refl _,by omega,xs,rfl,rW.symm,fun _ _=>rfl,hw.bG⟩ ?_;clear hw;rintro σ k2 q w ⟨gW,fT,hkq,hqk,C,hC,xQ,uN,hw⟩;have eN:(cut C k xs.length).length=xs.length-k:=xR om;have hr:=wE (T:=eh) (aM (s:=s) hw) (lo:=k) (hi:=xs.length) om om;refine ab ?_;refine ai ?_ ?_<;>intro h4
   ·have eT:k+k2<xs.length:=by omega
    have mU:=qfM eh.dflt (show 0<k+k2 by omega) eT;refine ab ?_;refine nK ?_;clear hw hr;intro w hw;have hr:=wE (T:=eh) (aM (s:=s) hw) (lo:=k) (hi:=xs.length) om om;have ek2:((k2:Int)-1).toNat=k2-1:=by omega
    have e1:(cut C k xs.length).getD k2 eh.dflt=xs.getD (k+k2) eh.dflt:=by rw[<-uN (k+k2) om];simp[cut,List.getD,getElem?_take,eT]
    have e2:(cut C k xs.length).getD ((k2:Int)-1).toNat eh.dflt=xs.getD (k+k2-1) eh.dflt:=by
     rw[<-uN (k+k2-1) om,ek2];simp[cut,List.getD,getElem?_take,show k+(k2-1)=k+k2-1 by omega,show k+k2-1<xs.length by omega]
    refine ab ?_;refine eD rfl (qmu (T:=eh) (a:=(cut C k xs.length).getD k2 eh.dflt) (b:=(cut C k xs.length).getD ((k2:Int)-1).toNat eh.dflt) rfl rfl) ?_;refine ab ?_;rw[e1,e2];refine ai ?_ ?_<;>intro h5
    ·have rn:¬xs.getD (k+k2-1) eh.dflt=xs.getD (k+k2) eh.dflt:=fun e=>h5 e.symm
     rw[if_neg rn]at mU;refine ab ?_;refine zO (T:=eh) (s:=s) (j:=q) (x':=(cut C k xs.length).getD k2 eh.dflt) rfl rfl rfl rfl hw inferInstance om ?_;clear hw hr;intro w hw;rw[e1]at hw;refine ab ?_;have hqC:q<C.length:=by omega
     refine⟨k2+1,q+1,⟨rfl,rfl,trivial⟩,aH,⟨by omega,by omega,by omega,by omega,C.set q (xs.getD (k+k2) eh.dflt),by rw[length_set];exact hC,?_,fun j hj=>?_,hw.bG⟩,by omega⟩
     ·rw[dJ eh.dflt (by rw[length_set];exact hqC),take_set_of_le (Nat.le_refl _),xQ,ia,if_pos ⟨rfl,hqC⟩]
      exact mU.symm
     ·rw[ia,if_neg om];exact uN j om
    ·have rn:xs.getD (k+k2-1) eh.dflt=xs.getD (k+k2) eh.dflt:=by
      exact h5.symm
     rw[if_pos rn,append_nil]at mU;refine ab ?_;exact⟨k2+1,q,⟨rfl,rfl,trivial⟩,aH,⟨by omega,by omega,hkq,by omega,C,hC,by rw[xQ,<-mU];rfl,fun j hj=>uN j om,hw.bG⟩,by omega⟩
   ·have qx:k+k2=xs.length:=by omega
    have hqn:q<=xs.length:=by omega
    have hcq:ix xs=C.take q:=by rw[xQ,qx,take_length]
    refine ab ?_;have lg:=wE (T:=eh) (aM (s:=s) hw) (lo:=q) (hi:=C.length) om (Nat.le_refl _);refine qmJ (T:=eh) (s:=s) (j:=q) (z:=((0,0):Int × Int)) rfl rfl rfl rfl hw inferInstance om ?_;clear hw hr lg;intro w hw;have jY:(C.take q).length=q:=by rw[length_take];omega
    have jv:(C.take q++replicate (C.length-q) ((0,0):Int × Int)).length=C.length:=by rw[length_append,jY,length_replicate];omega
    refine ab ?_;have h2:=hw.sub (s:=s) own_here 0 q (zero_le _) (by rw[length_append,jY];omega);have e3:cut (C.take q++replicate (C.length-q) ((0,0):Int × Int)) 0 q=C.take q:=by simp[cut,jY]
    rw[e3,<-hcq]at h2;exact aW (v:=ssub s eh.sz 0 q) rfl rfl ⟨_,rfl,h2.bG⟩
  ·rw[if_neg (fun e=>h3 e.symm),uM]at rW
   refine ab ?_;refine⟨k+1,⟨rfl,trivial⟩,aH,⟨by omega,by omega,?_,hw.bG⟩,by omega⟩;rw[rW,dJ eh.dflt aK]
 have fT:k=xs.length:=by omega
 rw[fT,take_length]at uM;refine ab ?_;exact aW (v:=s) rfl rfl ⟨s,rfl,by rw[uM];exact hw.bG⟩
theorem uF {α:Type}{g:α->Int}{n:Nat}{l:List α}{x:Nat}:((ef g n l).getD x []).length<=l.length:=by
 by_cases h:x<n
 ·rw[qgW h];exact length_filter_le _ _
 ·rw[getD_eq_getElem?_getD,getElem?_eq_none (by rw[ve];omega)];exact zero_le _
theorem qk8 {w0:World}{cv ev gv:Value}{S:Ak}(hS:Aw w0 cv ev gv S) (hc:S.au.length<=4096) (he:S.ak.length<=65536) (hl:∀ e∈S.ak,0<=e.bI/\e.bI<S.au.length) :
  Calls Tryz.prog 150 #[bN S cv ev gv] w0 fun e w'=>∃ v ss,e=.returned v/\Sat w0 w' [Ab ax 190 ss (bL S),OS al 139 v ss]:=by
 have vE:=hS.au;have nS:=hS.ak;have hgv:=hS.goals;have hw:=Sat.start w0;refine bn (args:=[bN S cv ev gv]) mixed Tryz.func150 ?_;unfold bN
 repeat (first|refine bV ?_|(refine dK ?_;clear hw;intro p w hw)|(refine cB ?_;clear hw;intro s w hw))
 have hw:=hw.fu (T:=ax) (e:=190) S.au.length;rw[<-qjk (g:=fun e:Au=>e.bI),show ((S.au.length:Int)).toNat=S.au.length from by omega]at hw;refine dj [5,5,13,29] (G:=Nat) (H:=List Value) (fun k ss=>[(13,.int .i64 k)]) (fun k ss w=>k<=S.ak.length/\ss.length=S.au.length/\Sat w0 w [Ab ax 190 ss (ef (fun e:Au=>e.bI) S.au.length (S.ak.take k)),OS al 139 s ss]) (fun k ss=>S.ak.length-k) 0 (replicate S.au.length (.slice none 0 0)) (fun _ _=>rfl) ⟨rfl,trivial⟩ ⟨zero_le _,by simp,by rw[take_zero];exact hw.aT⟩ ?_;clear hw;rintro σ k ss w ⟨hk,jX,hw⟩;refine ab ?_;refine ai ?_ ?_<;>intro h2
 ·have aK:k<S.ak.length:=by omega
  have hm:=hl _ (bY ax.dflt aK);have r7:=qjl (g:=fun e:Au=>e.bI) (n:=S.au.length) (dflt:=ax.dflt) aK hm.1 hm.2;have kL:=ve (g:=fun e:Au=>e.bI) (n:=S.au.length) (l:=S.ak.take k);have iI:=uF (g:=fun e:Au=>e.bI) (n:=S.au.length) (l:=S.ak.take k) (x:=(S.ak.getD k ax.dflt).bI.toNat);rw[length_take]at iI;obtain⟨a,ha⟩:∃ a,a=S.ak.getD k ax.dflt:=⟨_,rfl⟩
  rw[<-ha]at hm r7 iI;refine db ?_;intro p w hw;rw[<-ha]at hw;have hi:a.bI.toNat<(ef (fun e:Au=>e.bI) S.au.length (S.ak.take k)).length:=by omega
  replace hw:=hw.swap.fb hi;refine fP (pl [0,1,2,3,4,5,6,7,8,9] (.chk 2::.chk 5::.chk 7::pl [10] (.chk 2::pl [11,12] []))) hw kr ?_;clear hw;intro w hw;refine ab ?_;refine jh ax (x1:=a) rfl rfl rfl (le_of_ble_eq_true rfl) (zero_lt_succ _) hw ?_;clear hw;intro s2 w hw;refine kq ?_;intro s w hw;replace hw:=Sat.lS hi om hw.tail;replace hw:=hw.swap.tail;rw[<-r7]at hw;exact⟨k+1,ss.set a.bI.toNat s,⟨rfl,trivial⟩,aH,⟨by omega,by rw[length_set];exact jX,hw⟩,by omega⟩
 ·rw[take_of_length_le om]at hw
  refine ab ?_;exact aW (v:=s) rfl rfl ⟨s,ss,rfl,hw⟩
def fg (S:Ak) (c:List Int) (k:Nat):List (List (Int × Int)):=(ef (fun e:Au=>e.src) S.st.toNat (S.ak.take k)).map fun l=>l.map fun e=>(e.bI,c.getD e.dst.toNat aa.dflt)
theorem qkK {S:Ak}{c:List Int}{k:Nat}:(fg S c k).length=S.st.toNat:=by unfold fg;rw[length_map,ve]
theorem qtt {α β:Type}{f:List α->List β}(hf:f []=[]) {L:List (List α)}{i:Nat}:(L.map f).getD i []=f (L.getD i []):=by
 simp only[getD_eq_getElem?_getD,getElem?_map]
 cases L[i]? with
 | none=>exact hf.symm
 | some _=>rfl
theorem qfU {S:Ak}{c:List Int}{k i:Nat}:(fg S c k).getD i []=((ef (fun e:Au=>e.src) S.st.toNat (S.ak.take k)).getD i []).map fun e=>(e.bI,c.getD e.dst.toNat aa.dflt):=by
 unfold fg;exact qtt rfl
theorem qoy {S:Ak}{c:List Int}:fg S c 0=replicate S.st.toNat []:=by
 unfold fg;rw[take_zero,qjk,map_replicate];rfl
theorem qoz {S:Ak}{c:List Int}{k:Nat}(hk:k<S.ak.length) (h0:0<=(S.ak.getD k ax.dflt).src) (h1:(S.ak.getD k ax.dflt).src<S.st.toNat) :
  fg S c (k+1)=(fg S c k).set (S.ak.getD k ax.dflt).src.toNat ((fg S c k).getD (S.ak.getD k ax.dflt).src.toNat []++[((S.ak.getD k ax.dflt).bI,c.getD (S.ak.getD k ax.dflt).dst.toNat aa.dflt)]):=by
 rw[qfU];unfold fg;rw[qjl (g:=fun e:Au=>e.src) (dflt:=ax.dflt) hk h0 h1,map_set,map_append];rfl
theorem qny {S:Ak}{c:List Int}{k i:Nat}:((fg S c k).getD i []).length<=S.ak.length:=by
 rw[qfU,length_map];exact Nat.le_trans uF (by rw[length_take];omega)
theorem qrg {S:Ak}{c:List Int}{i:Nat}(hi:i<S.st.toNat):(fg S c S.ak.length).getD i []=toL S c i:=by
 rw[qfU,qgW hi,take_length];rfl
theorem qeI {n:Int}(h0:0<=n) (h1:n<=65536):(fS n).length<=21:=Lib.itoa_length_le n om om
theorem qrh {α:Type}{f:α->List UInt8}{m:Nat}:∀ {l:List α},(∀ a∈l,(f a).length<=m)->(l.flatMap f).length<=l.length*m
 | [],_=>by simp
 | a::l,h=>by
  have:=qrh (f:=f) (m:=m) (l:=l) fun b hb=>h b (mem_cons_of_mem _ hb);have:=h a mem_cons_self;rw[flatMap_cons,length_append,length_cons,Nat.add_mul,Nat.one_mul];omega
def iq (S:Ak) (c:List Int) (k:Nat):List ByteArray:=(List.range k).map fun s=>⟨(iZ S c s).toArray⟩
theorem qri (S:Ak) (c:List Int) (k:Nat):iq S c (k+1)=iq S c k++[⟨(iZ S c k).toArray⟩]:=by simp[iq,range_succ]
theorem qfV (S:Ak) (c:List Int) (k:Nat):(iq S c k).length=k:=by simp[iq]
theorem qtu (S:Ak) (c:List Int) {k n:Nat}(hk:k<n):(iq S c k++replicate (n-k) (⟨#[]⟩:ByteArray)).set k ⟨(iZ S c k).toArray⟩=iq S c (k+1)++replicate (n-(k+1)) ⟨#[]⟩:=by
 have hr:n-k=(n-(k+1))+1:=by omega
 rw[hr,replicate_succ,qri,append_assoc,set_append_right _ _ (by rw[qfV];omega),qfV,Nat.sub_self];rfl
theorem qtv {ss:List Value}{k:Nat}(h:k<ss.length):ss.drop k=cU ss k::ss.drop (k+1):=by
 rw[drop_eq_getElem_cons h,ng,getD_at h]
theorem qtw {α:Type}{L:List (List α)}{k:Nat}(h:k<L.length):L.drop k=L.getD k []::L.drop (k+1):=by
 rw[drop_eq_getElem_cons h,getD_at h]
theorem qrX {w0:World}{sc se sg cl:Value}{S:Ak}{c:List Int}(hS:Aw w0 sc se sg S) (hv:Ar S) (hT:Bv w0) (hc:RS aa w0 cl c) (eN:(c.length:Int)=S.st) (mY:∀ i:Nat,i<c.length->0<=c.getD i aa.dflt/\c.getD i aa.dflt<=65536) :
  Calls Tryz.prog 173 #[bN S sc se sg,cl] w0 fun e w'=>∃ v,e=.returned (.tuple #[v,.int .i64 ((bF (fj S c)).length:Nat)])/\Sat w0 w' [OS aa 3 v (cm (fj S c))]:=by
 have hsc:=hS.au;have wK:=hS.ak;have hsg:=hS.goals;have hw:=Sat.start w0;obtain⟨a1,a2,a3,a4,a5,a6,a7,gg,hed,_⟩:=hv;obtain⟨n,hn⟩:∃ n,n=S.st.toNat:=⟨_,rfl⟩
 have l7:S.st=(n:Int):=by omega
 refine bn (args:=[bN S sc se sg,cl]) mixed Tryz.func173 ?_;unfold bN;rw[l7]
 repeat (first|refine bV ?_|(refine dK ?_;clear hw;intro p w hw)|(refine cB ?_;clear hw;intro s w hw))
 have hw:=hw.fu (T:=eh) (e:=291) n;obtain⟨ps,uQ⟩:∃ q,q=p:=⟨p,rfl⟩
 subst uQ;obtain⟨tv,htv⟩:∃ q,q=s:=⟨s,rfl⟩
 subst htv;have hw:Sat w0 w [Ab eh 291 (replicate n (.slice none 0 0)) (replicate n []),OS al 290 tv (replicate n (.slice none 0 0)),Ad ps 142 [.int .i64 n,.int .i64 S.aY,sc,se,sg]]:=hw;rw[hn,<-qoy (c:=c),<-hn]at hw;refine dj [8,8,21,44] (G:=Nat) (H:=List Value) (fun k ss=>[(21,.int .i64 k)]) (fun k ss w=>k<=S.ak.length/\ss.length=n/\Sat w0 w [Ab eh 291 ss (fg S c k),OS al 290 tv ss,Ad ps 142 [.int .i64 n,.int .i64 S.aY,sc,se,sg]]) (fun k ss=>S.ak.length-k) 0 (replicate n (.slice none 0 0)) (fun _ _=>rfl) ⟨rfl,trivial⟩ ⟨zero_le _,by simp,hw⟩ ?_
 ·clear hw
  rintro σ k ss w ⟨hk,jX,hw⟩;refine ab ?_;refine ai ?_ ?_<;>intro h2
  ·have aK:k<S.ak.length:=by omega
   obtain⟨a,ha⟩:∃ a,a=S.ak.getD k ax.dflt:=⟨_,rfl⟩
   have hm:=hed _ (bY ax.dflt aK);have r7:=qoz (c:=c) aK hm.1.1 om;rw[<-ha]at hm r7;obtain⟨⟨m1,m2⟩,⟨m3,m4⟩,m5,m6⟩:=hm;have kL:=qkK (S:=S) (c:=c) (k:=k);have iI:=qny (S:=S) (c:=c) (k:=k) (i:=a.src.toNat);refine cK ?_;intro p w hw;have hw:Sat w0 w [Ad p 190 [.int .i64 a.src,.int .i64 a.bI,.int .i64 a.dst],Ab eh 291 ss (fg S c k),OS al 290 tv ss,Ad ps 142 [.int .i64 n,.int .i64 S.aY,sc,se,sg]]:=by rw[ha];exact hw
   have hi:a.src.toNat<(fg S c k).length:=by omega
   replace hw:=hw.swap.fb hi;refine fP (pl [0,1,2,3,4,5,6,7,8,9,10,11,12,13,14,15] (.chk 2::.chk 5::.chk 7::pl [16] (.chk 2::.chk 5::.chk 7::pl [17] (.chk 2::pl [18,19] [])))) hw kr ?_;clear hw;intro w hw
   repeat refine bV ?_
   refine qjU rfl rfl ?_
   repeat refine bV ?_
   refine jh eh (x1:=(a.bI,c.getD a.dst.toNat aa.dflt)) rfl rfl rfl (le_of_ble_eq_true rfl) (zero_lt_succ _) hw ?_;clear hw;intro s2 w hw;refine nV ?_;intro s w hw;replace hw:=Sat.lS hi om hw.tail;replace hw:=hw.swap.tail;rw[<-r7]at hw;exact⟨k+1,ss.set a.src.toNat s,⟨rfl,trivial⟩,aH,⟨by omega,by rw[length_set];exact jX,hw⟩,by omega⟩
  have cH:k=S.ak.length:=by omega
  rw[cH]at hw;refine ab ?_;refine zJ iC ⟨#[]⟩ rfl rfl rfl rfl om om om hw ?_;clear hw;intro xv w hw;refine ab ?_;rw[show ((n:Int)).toNat=n from by omega]at hw;obtain⟨Rw,hRw⟩:∃ q,q=fg S c S.ak.length:=⟨_,rfl⟩
  have hRl:Rw.length=n:=by rw[hRw,hn];exact qkK
  have hRg:∀ i,i<n->Rw.getD i []=toL S c i:=fun i hi=>by rw[hRw];exact qrg om
  have hRb:∀ i:Nat,(Rw.getD i []).length<=65536:=fun i=>by rw[hRw];exact Nat.le_trans qny om
  have hRe:∀ i:Nat,∀ x∈Rw.getD i [],(0<=x.1/\x.1<=65536)/\0<=x.2/\x.2<=65536:=fun i x hx=>by
   rw[hRw,qfU]at hx;obtain⟨e,he,rfl⟩:=mem_map.1 hx;have hem:e∈S.ak:=by
    by_cases hi:i<S.st.toNat
    ·exact mem_of_mem_take ((vd (g:=fun e:Au=>e.src) hi).1 he).1
    ·rw[getD_eq_getElem?_getD,getElem?_eq_none (by rw[ve];omega)]at he;simp at he
   obtain⟨_,⟨q1,q2⟩,q3,q4⟩:=hed e hem;have:=mY e.dst.toNat om;exact⟨⟨q3,by omega⟩,this⟩
  have hw:Sat w0 w [Ab eh 291 (ss.drop 0) (Rw.drop 0),OS al 290 tv ss,OS iC 9 xv (iq S c 0++replicate (n-0) ⟨#[]⟩)]:=by
   rw[hRw,drop_zero,drop_zero,Nat.sub_zero,show iq S c 0=[] from rfl,nil_append];exact hw.aT
  clear hRw;have jX:ss.length=n:=jX;refine cd [10,12,14,14,50,85] (G:=Nat) (fun k=>[(50,.int .i64 k)]) (fun k w=>k<=n/\Sat w0 w [Ab eh 291 (ss.drop k) (Rw.drop k),OS al 290 tv ss,OS iC 9 xv (iq S c k++replicate (n-k) ⟨#[]⟩)]) (fun k=>n-k) 0 (fun _=>rfl) ⟨rfl,trivial⟩ ⟨zero_le _,hw⟩ ?_;clear hw;rintro σ k w ⟨hk,hw⟩;have ku:(iq S c k++replicate (n-k) (⟨#[]⟩:ByteArray)).length=n:=by rw[length_append,qfV,length_replicate];omega
  refine ab ?_;refine ai ?_ ?_<;>intro h3
  ·have aK:k<n:=by omega
   rw[qtv om,qtw om]at hw;replace hw:=hw.tc;obtain⟨rw,hrw⟩:∃ q,q=cU ss k:=⟨_,rfl⟩
   obtain⟨Rk,hRk⟩:∃ q,q=Rw.getD k []:=⟨_,rfl⟩
   have qzr:=hRb k;have qxy:=hRe k;have qxz:=hRg k aK;rw[<-hRk]at qzr qxy qxz;rw[<-hrw,<-hRk]at hw;refine ab ?_;rw[<-hrw];refine aJ rfl (qrK (s:=rw) (xs:=Rk) hw om) ?_;rintro _ w' ⟨rfl,dA⟩;clear hw;have hw:=dA;clear dA;refine⟨_,rfl,?_⟩;have iL:=zT yW (l:=Rk);refine cK ?_;intro p w hw;obtain⟨pb,uI⟩:∃ q,q=p:=⟨p,rfl⟩
   subst uI;obtain⟨ck,hck⟩:∃ q,q=c.getD k aa.dflt:=⟨_,rfl⟩
   have wk:=mY k om;rw[<-hck]at wk ⊢;refine aJ rfl (qg0 (n:=ck) (hT.at hw) om om) ?_;refine mf ?_;clear hw;intro w' hw;have q6:=qeI wk.1 wk.2;have hw:Sat w0 w' [Ad pb 297 [.pointer none,.slice none 0 0],OS dQ 5 (.slice none 0 0) (bP []),OS eh 291 rw (dN lV Rk),Ab eh 291 (ss.drop (k+1)) (Rw.drop (k+1)),OS al 290 tv ss,OS iC 9 xv (iq S c k++replicate (n-k) ⟨#[]⟩)]:=by rw[show bP []=[] from rfl];exact(hw.nil (T:=dQ) (e:=5)).aT
   refine ab ?_;refine aJ rfl (qnG (l:=[]) (b:=kH ck) hw (.inl rfl) (by decide) (by show (fS ck).length<=_;omega)) ?_;rintro _ w' ⟨⟨v,rfl⟩,sv,dA⟩;clear hw;have hw:=dA;clear dA;refine⟨_,rfl,?_⟩;rw[nil_append,show (kH ck).data.toList=fS ck from by simp[kH]]at hw;refine ab ?_;have hw:Sat w0 w' [OS eh 291 rw (dN lV Rk),Ad pb 297 [.pointer (some pb),sv],OS dQ 5 sv (bP (fS ck)),Ab eh 291 (ss.drop (k+1)) (Rw.drop (k+1)),OS al 290 tv ss,OS iC 9 xv (iq S c k++replicate (n-k) ⟨#[]⟩)]:=hw.aT;refine aJ rfl (qrz (s:=rw) (xs:=dN lV Rk) hw om) ?_;rintro _ w' ⟨zv,rfl,dA⟩;clear hw;have hw:=dA;clear dA;refine⟨_,rfl,?_⟩;obtain⟨Z,hZ⟩:∃ q,q=ix (dN lV Rk):=⟨_,rfl⟩
   have hZl:Z.length<=65536:=by rw[hZ];exact Nat.le_trans (qpX _) om
   have hZe:∀ x∈Z,(0<=x.1/\x.1<=65536)/\0<=x.2/\x.2<=65536:=fun x hx=>by
    rw[hZ,qiI,qgk yW]at hx;exact qxy x hx
   have hZp:∀ x∈Z,(kp x).length<=44:=fun x hx=>by
    obtain⟨⟨q1,q2⟩,q3,q4⟩:=hZe x hx;have i1:=qeI q1 q2;have i2:=qeI q3 q4;unfold kp;simp only[length_append,length_cons];omega
   have htx:iZ S c k=fS ck++Z.flatMap kp:=by unfold iZ;rw[<-qxz,<-hck,hZ]
   rw[<-hZ]at hw;refine ab ?_;have hw:Sat w0 w' [Ad pb 297 [.pointer (some pb),sv],OS dQ 5 sv (bP (fS ck++(Z.take 0).flatMap kp)),OS eh 291 zv Z,Ab eh 291 (ss.drop (k+1)) (Rw.drop (k+1)),OS al 290 tv ss,OS iC 9 xv (iq S c k++replicate (n-k) ⟨#[]⟩)]:=by
    rw[take_zero,flatMap_nil,append_nil];exact hw.aT
   refine dj [14,14,66,80] (G:=Nat) (H:=Value) (fun m sv=>[(66,.int .i64 m)]) (fun m sv w=>m<=Z.length/\Sat w0 w [Ad pb 297 [.pointer (some pb),sv],OS dQ 5 sv (bP (fS ck++(Z.take m).flatMap kp)),OS eh 291 zv Z,Ab eh 291 (ss.drop (k+1)) (Rw.drop (k+1)),OS al 290 tv ss,OS iC 9 xv (iq S c k++replicate (n-k) ⟨#[]⟩)]) (fun m _=>Z.length-m) 0 sv (fun _ _=>rfl) ⟨rfl,trivial⟩ ⟨zero_le _,hw⟩ ?_;clear hw;rintro σ m sv w ⟨hm,hw⟩;have hTl:(fS ck++(Z.take m).flatMap kp).length<=10000000:=by
    have:=qrh (f:=kp) (m:=44) (l:=Z.take m) fun a ha=>hZp a (mem_of_mem_take ha);rw[length_take]at this;rw[length_append];have h9:min m Z.length*44<=65536*44:=Nat.mul_le_mul om (Nat.le_refl _);omega
   refine ab ?_;refine ai ?_ ?_<;>intro h4
   ·have eT:m<Z.length:=by omega
    obtain⟨z,hz⟩:∃ q,q=Z.getD m eh.dflt:=⟨_,rfl⟩
    have hze:=hZe _ (bY eh.dflt eT);rw[<-hz]at hze;obtain⟨⟨q1,q2⟩,q3,q4⟩:=hze;have i1:=qeI q1 q2;have i2:=qeI q3 q4;refine cK ?_;intro p w hw;have hw:Sat w0 w [Ad p 291 [.int .i64 z.1,.int .i64 z.2],Ad pb 297 [.pointer (some pb),sv],OS dQ 5 sv (bP (fS ck++(Z.take m).flatMap kp)),OS eh 291 zv Z,Ab eh 291 (ss.drop (k+1)) (Rw.drop (k+1)),OS al 290 tv ss,OS iC 9 xv (iq S c k++replicate (n-k) ⟨#[]⟩)]:=by rw[hz];exact hw
    refine fP (pl [0,1,5,6,2] (.chk 6::pl [3,4,7,8,9] [])) hw kr ?_;clear hw;intro w hw;refine xN ?_;refine eD (v:=.pointer (some (p.add 0))) rfl (zh (n:=2) (j:=0) rfl rfl om om) ?_;refine ab ?_;refine eD (v:=.pointer (some (p.add 1))) rfl (zh (n:=2) (j:=1) rfl rfl om om) ?_;refine ab ?_;refine aJ rfl (qg0 (n:=z.1) (hT.at hw) om om) ?_;refine mf ?_;clear hw;intro w' hw;refine ab ?_;have z1:(kH z.1).size=(fS z.1).length:=rfl;have z2:(kH z.2).size=(fS z.2).length:=rfl;refine eD rfl (qf9 (a:=⟨#[32]⟩) (b:=kH z.1) rfl rfl (by show 1+(kH z.1).size<=_;omega)) ?_;obtain⟨A1,hA1⟩:∃ q,q=(⟨#[32]⟩:ByteArray)++kH z.1:=⟨_,rfl⟩
    have zA1:A1.size<=22:=by rw[hA1,ByteArray.size_append];show 1+_<=_;omega
    rw[<-hA1];refine ab ?_;refine eD rfl (qf9 (a:=A1) (b:=⟨#[58]⟩) rfl rfl (by show _+1<=_;omega)) ?_;obtain⟨A2,hA2⟩:∃ q,q=A1++(⟨#[58]⟩:ByteArray):=⟨_,rfl⟩
    have zA2:A2.size<=23:=by rw[hA2,ByteArray.size_append];show _+1<=_;omega
    rw[<-hA2];refine ab ?_;refine aJ rfl (qg0 (n:=z.2) (hT.at hw) om om) ?_;refine mf ?_;clear hw;intro w' hw;refine ab ?_;refine eD rfl (qf9 (a:=A2) (b:=kH z.2) rfl rfl om) ?_;obtain⟨A3,hA3⟩:∃ q,q=A2++kH z.2:=⟨_,rfl⟩
    have zA3:A3.size<=44:=by rw[hA3,ByteArray.size_append];omega
    have hA:A3.data.toList=kp z:=by
     rw[hA3,hA2,hA1];simp[kp,kH]
    rw[<-hA3];refine ab ?_;have hw:Sat w0 w' [Ad pb 297 [.pointer (some pb),sv],OS dQ 5 sv (bP (fS ck++(Z.take m).flatMap kp)),OS eh 291 zv Z,Ab eh 291 (ss.drop (k+1)) (Rw.drop (k+1)),OS al 290 tv ss,OS iC 9 xv (iq S c k++replicate (n-k) ⟨#[]⟩)]:=hw.aT;refine aJ rfl (qnG (b:=A3) hw (.inr rfl) om om) ?_;rintro _ w' ⟨⟨v,rfl⟩,sv2,dA⟩;clear hw;have hw:=dA;clear dA;refine⟨_,rfl,?_⟩;refine ab ?_;refine⟨m+1,sv2,⟨rfl,trivial⟩,aH,⟨by omega,?_⟩,by omega⟩;rw[dJ eh.dflt eT,flatMap_append,<-hz,flatMap_cons,flatMap_nil,append_nil,<-append_assoc,<-hA];exact hw.aT
   rw[take_of_length_le om,<-htx]at hw;have cY:iZ S c k≠[]:=by
    rw[htx];intro e;exact(qfT wk.1).2.1 (append_eq_nil_iff.1 e).1
   rw[take_of_length_le om,<-htx]at hTl;refine ab ?_;refine aJ rfl (qr0 (l:=iZ S c k) hw cY om) ?_;rintro _ w' ⟨rfl,dA⟩;clear hw;have hw:=dA;clear dA;refine⟨_,rfl,?_⟩;refine fy ?_;intro w hw;rw[qtu S c aK]at hw;exact⟨k+1,⟨rfl,trivial⟩,aH,⟨by omega,hw.aT⟩,by omega⟩
  have fT:n=k:=by omega
  subst fT;have cZ:iq S c n=fj S c:=by rw[hn];rfl
  rw[Nat.sub_self,replicate_zero,append_nil,cZ]at hw;have iI:(fj S c).length<=65536:=by rw[<-cZ,qfV];omega
  refine ab ?_;refine aJ rfl (qk2 (L:=fj S c) (aM (s:=xv) hw) iI) ?_;rintro _ w' ⟨v,rfl,aj⟩;refine aA ?_;clear aj hw;intro hw;refine ab ?_;exact dz (v:=v) (v':=.int .i64 ((bF (fj S c)).length:Nat)) rfl rfl rfl ⟨v,rfl,hw.aT⟩
theorem qvd {S:Ak}{k:Nat}(hk:k<S.ak.length):(S.ak.map (oz S true)).getD k dx.dflt=⟨(S.ak.getD k ax.dflt).dst,(S.ak.getD k ax.dflt).src,S.au.getD (S.ak.getD k ax.dflt).bI.toNat aa.dflt⟩:=by
 simp[List.getD,hk,oz]
theorem qlx {S:Ak}(hv:Ar S):Cc S.st.toNat (gk S true) where
 ok l hl a ha:=by
  obtain⟨x,hx,rfl⟩:=getElem_of_mem hl;have mZ:x<S.st.toNat:=by simpa [gk,ef] using hx
  have h1:(gk S true)[x]=(gk S true).getD x []:=by rw[getD_eq_getElem?_getD,getElem?_eq_getElem hx];rfl
  rw[h1]at ha;have h2:=((vd (g:=fun a:AL=>a.src) (l:=S.ak.map (oz S true)) mZ).1 ha).1;obtain⟨e,he,rfl⟩:=mem_map.1 h2;obtain⟨_,_,_,_,_,_,_,hc,hE,_⟩:=hv;obtain⟨⟨s0,s1⟩,⟨d0,d1⟩,l0,l1⟩:=hE e he;have:=hc _ (bY aa.dflt (show e.bI.toNat<S.au.length by omega));show Bj S.st.toNat ⟨e.dst,e.src,S.au.getD e.bI.toNat aa.dflt⟩;exact⟨d0,(by show e.dst<_;omega),s0,(by show e.src<_;omega),this.1,this.2⟩
 src i hi a ha:=by
  have eO:i<S.st.toNat:=by simpa [gk,ef] using hi
  exact((vd (g:=fun a:AL=>a.src) (l:=S.ak.map (oz S true)) eO).1 ha).2
 len:=ve
theorem qtJ {w0:World}{cv ev gv fv:Value}{S:Ak}{fr:List Int}(hS:Aw w0 cv ev gv S) (hv:Ar S) (hf:RS aa w0 fv fr) (hfn:fr.Nodup) (hfb:∀ i∈fr,0<=i/\i<(S.st.toNat:Int)) :
  Calls Tryz.prog 119 #[bN S cv ev gv,fv,.bool true] w0 fun e w'=>∃ v,e=.returned v/\Sat w0 w' [OS aa 3 v (zU S fr true)]:=by
 have vE:=hS.au;have nS:=hS.ak;have hgv:=hS.goals;have hAo:=qlx hv;obtain⟨a1,a2,a3,a4,a5,a6,a7,gg,hed,_⟩:=hv;obtain⟨n,hn⟩:∃ n,n=S.st.toNat:=⟨_,rfl⟩
 have l7:S.st=(n:Int):=by omega
 have ot:fr.length<=n:=by rw[hn];exact qex hfn hfb
 rw[<-hn]at hAo hfb;have hw:=Sat.start w0;refine bn (args:=[bN S cv ev gv,fv,.bool true]) mixed Tryz.func119 ?_;unfold bN;rw[l7]
 repeat (first|refine bV ?_|(refine dK ?_;clear hw;intro p w hw)|(refine cB ?_;clear hw;intro s w hw))
 have hw:=hw.fu (T:=dx) (e:=181) n;obtain⟨ps,uQ⟩:∃ q,q=p:=⟨p,rfl⟩
 subst uQ;obtain⟨av,hav⟩:∃ q,q=s:=⟨s,rfl⟩
 subst hav;have hw:Sat w0 w [Ab dx 181 (replicate n (.slice none 0 0)) (replicate n []),OS al 176 av (replicate n (.slice none 0 0)),Ad ps 142 [.int .i64 n,.int .i64 S.aY,cv,ev,gv]]:=hw;obtain⟨L,hL⟩:∃ L,L=S.ak.map (oz S true):=⟨_,rfl⟩
 have hLl:L.length=S.ak.length:=by rw[hL,length_map]
 rw[<-qjk (g:=fun a:AL=>a.src)]at hw;refine dj [9,10,26,60] (G:=Nat) (H:=List Value) (fun k ss=>[(26,.int .i64 k)]) (fun k ss w=>k<=S.ak.length/\ss.length=n/\Sat w0 w [Ab dx 181 ss (ef (fun a:AL=>a.src) n (L.take k)),OS al 176 av ss,Ad ps 142 [.int .i64 n,.int .i64 S.aY,cv,ev,gv]]) (fun k ss=>S.ak.length-k) 0 (replicate n (.slice none 0 0)) (fun _ _=>rfl) ⟨rfl,trivial⟩ ⟨zero_le _,by simp,by rw[take_zero];exact hw⟩ ?_
 ·clear hw
  rintro σ k ss w ⟨hk,jX,hw⟩;refine ab ?_;refine ai ?_ ?_<;>intro h2
  ·have aK:k<S.ak.length:=by omega
   have rO:=qvd aK;rw[<-hL]at rO;obtain⟨a,ha⟩:∃ a,a=S.ak.getD k ax.dflt:=⟨_,rfl⟩
   have hm:=hed _ (bY ax.dflt aK);rw[<-ha]at hm rO;obtain⟨c,hc⟩:∃ c,c=S.au.getD a.bI.toNat aa.dflt:=⟨_,rfl⟩
   rw[<-hc]at rO;obtain⟨⟨m1,m2⟩,⟨m3,m4⟩,m5,m6⟩:=hm;have r7:=qjl (g:=fun a:AL=>a.src) (n:=n) (dflt:=dx.dflt) (l:=L) (k:=k) om (by rw[rO];exact m3) (by rw[rO];simp only;omega);have kL:=ve (g:=fun a:AL=>a.src) (n:=n) (l:=L.take k);have iI:=uF (g:=fun a:AL=>a.src) (n:=n) (l:=L.take k) (x:=a.dst.toNat);rw[length_take]at iI;rw[rO]at r7;refine cK ?_;intro p w hw;obtain⟨pe,qZ⟩:∃ q,q=p:=⟨p,rfl⟩
   subst qZ;have hw:Sat w0 w [Ad pe 190 [.int .i64 a.src,.int .i64 a.bI,.int .i64 a.dst],Ab dx 181 ss (ef (fun a:AL=>a.src) n (L.take k)),OS al 176 av ss,Ad ps 142 [.int .i64 n,.int .i64 S.aY,cv,ev,gv]]:=by rw[ha];exact hw
   refine rp [10,10,30,40] (G:=Addr) (fun x=>[(10,.pointer (some x))]) (fun x w=>Sat w0 w [Ad x 181 [.int .i64 a.src,.int .i64 a.dst,.int .i64 c],Ad pe 190 [.int .i64 a.src,.int .i64 a.bI,.int .i64 a.dst],Ab dx 181 ss (ef (fun a:AL=>a.src) n (L.take k)),OS al 176 av ss,Ad ps 142 [.int .i64 n,.int .i64 S.aY,cv,ev,gv]]) (fun _=>rfl) ?_ ?_
   ·refine qeV (.s [0,2,4,6,1,3,5,7,8,9] (.d 10 [] (.c 11 [1,3,5,7,9] (.s [12] (.lin []))) (.d 11 [1,3,5,7,9] (.s [10,12] (.lin [])) (.stop)))) hw kr kr ?_;clear hw;intro w hw
    refine ab ?_;refine jz ?_ (jz ?_ pU)
    ·refine cK ?_;intro p w hw
     rw[<-hc]at hw;exact⟨_,⟨rfl,trivial⟩,aH,hw⟩
    ·refine cK ?_;intro p w hw
     rw[<-hc]at hw;exact⟨_,⟨rfl,trivial⟩,aH,hw⟩
   clear hw;rintro σ x w hw;refine fy ?_;intro w hw;have hw:Sat w0 w [Ad x 181 [.int .i64 a.dst,.int .i64 a.src,.int .i64 c],Ab dx 181 ss (ef (fun a:AL=>a.src) n (L.take k)),OS al 176 av ss,Ad ps 142 [.int .i64 n,.int .i64 S.aY,cv,ev,gv]]:=by
    simp only[set_cons_succ,set_cons_zero]at hw;exact hw.aT
   have hi:a.dst.toNat<(ef (fun a:AL=>a.src) n (L.take k)).length:=by omega
   replace hw:=hw.swap.fb hi;refine fP (pl [0,1,2,3,4,5,6,7,8,9] (.chk 2::.chk 5::.chk 7::pl [10] (.chk 2::pl [11,12] []))) hw kr ?_;clear hw;intro w hw;refine ab ?_;refine jh dx (x1:=⟨a.dst,a.src,c⟩) rfl rfl rfl (le_of_ble_eq_true rfl) (zero_lt_succ _) hw ?_;clear hw;intro s2 w hw;refine kq ?_;intro s w hw;replace hw:=Sat.lS hi om hw.tail;replace hw:=hw.swap.tail;rw[<-r7]at hw;exact⟨k+1,ss.set a.dst.toNat s,⟨rfl,trivial⟩,aH,⟨by omega,by rw[length_set];exact jX,hw⟩,by omega⟩
  rw[take_of_length_le om]at hw;have wW:ef (fun a:AL=>a.src) n L=gk S true:=by rw[hL,hn];rfl
  rw[wW]at hw;clear wW;obtain⟨A,hA⟩:∃ A,A=gk S true:=⟨_,rfl⟩
  rw[<-hA]at hw hAo;refine kq ?_;intro s w hw;obtain⟨ov,uL⟩:∃ q,q=s:=⟨s,rfl⟩
  subst uL;have hw:Sat w0 w [OS aa 3 ov (replicate n 0),Ab dx 181 ss A,OS al 176 av ss,Ad ps 142 [.int .i64 n,.int .i64 S.aY,cv,ev,gv]]:=hw;have iI:(replicate ((n:Int)).toNat (0:Int)).length=n:=by simp
  refine cd [12,12,66,72] (G:=Nat) (fun k=>[(66,.int .i64 k)]) (fun k w=>k<=n/\Sat w0 w [OS aa 3 ov (replicate k 1125899906842624++replicate (n-k) 0),Ab dx 181 ss A,OS al 176 av ss,Ad ps 142 [.int .i64 n,.int .i64 S.aY,cv,ev,gv]]) (fun k=>n-k) 0 (fun _=>rfl) ⟨rfl,trivial⟩ ⟨zero_le _,hw⟩ ?_;clear hw;rintro σ k w ⟨hk,hw⟩;have l6:(replicate k (1125899906842624:Int)++replicate (n-k) 0).length=n:=by rw[length_append,length_replicate,length_replicate];omega
  refine ab ?_;refine ai ?_ ?_<;>intro h3
  ·refine fi ?_;intro w hw
   refine⟨k+1,⟨rfl,trivial⟩,aH,⟨by omega,?_⟩,by omega⟩;have e:(replicate k (1125899906842624:Int)++replicate (n-k) 0).set k 1125899906842624=replicate (k+1) 1125899906842624++replicate (n-(k+1)) 0:=by
    have hr:n-k=(n-(k+1))+1:=by omega
    rw[hr,replicate_succ,set_append_right _ _ (by rw[length_replicate];exact Nat.le_refl _),length_replicate,Nat.sub_self,set_cons_zero,replicate_succ',append_assoc];rfl
   rw[e]at hw;exact hw.aT
  have fT:n=k:=by omega
  subst fT;rw[Nat.sub_self,replicate_zero,append_nil]at hw;refine kq ?_;intro s w hw;obtain⟨wv,hwv⟩:∃ q,q=s:=⟨s,rfl⟩
  subst hwv;refine aJ rfl (lx (hf.at hw) om) ?_;rintro _ w' ⟨qv,rfl,aj⟩;refine aA ?_;clear aj hw;intro hw;refine ab ?_;rw[show ((n:Int)).toNat=n from by omega]at hw;have hw:Sat w0 w' [OS aa 3 qv fr,OS ah 4 wv (replicate n false),OS aa 3 ov (replicate n 1125899906842624),Ab dx 181 ss A,OS al 176 av ss]:=hw.aT;refine cd [16,16,80,90] (G:=Nat) (fun k=>[(80,.int .i64 k)]) (fun k w=>k<=fr.length/\Sat w0 w [OS aa 3 qv fr,OS ah 4 wv ((fr.take k).foldl (fun o i=>o.set i.toNat true) (replicate n false)),OS aa 3 ov ((fr.take k).foldl (fun o i=>o.set i.toNat 0) (replicate n 1125899906842624)),Ab dx 181 ss A,OS al 176 av ss]) (fun k=>fr.length-k) 0 (fun _=>rfl) ⟨rfl,trivial⟩ ⟨zero_le _,hw⟩ ?_;clear hw;rintro σ k w ⟨hk,hw⟩;have l1:((fr.take k).foldl (fun o i=>o.set i.toNat true) (replicate n false)).length=n:=by rw[qc3,length_replicate]
  have l2:((fr.take k).foldl (fun o i=>o.set i.toNat (0:Int)) (replicate n 1125899906842624)).length=n:=by rw[qc3,length_replicate]
  refine ab ?_;refine ai ?_ ?_<;>intro h4
  ·have aK:k<fr.length:=by omega
   have hb:=hfb _ (bY aa.dflt aK);refine fi ?_;intro w hw;refine⟨k+1,⟨rfl,trivial⟩,aH,⟨by omega,?_⟩,by omega⟩;rw[dJ aa.dflt aK,foldl_append,foldl_append];exact hw
  rw[take_of_length_le om]at hw;have qyP:=qmF hfn hfb;have hw:Sat w0 w [OS aa 3 qv (dG n fr).q,OS ah 4 wv (dG n fr).waits,OS aa 3 ov (dG n fr).out,Ab dx 181 ss A,OS al 176 av ss]:=hw;refine ab ?_;refine dj [14,14,17,17,19,19,91,150] (G:=Nat) (H:=Value) (fun j qv=>[(14,qv)]) (fun j qv w=>∃ X,X=gE (bB A) j (dG n fr)/\AN n X/\Sat w0 w [OS aa 3 qv X.q,OS ah 4 wv X.waits,OS aa 3 ov X.out,Ab dx 181 ss A,OS al 176 av ss]) (fun j qv=>l8 (gE (bB A) j (dG n fr))) 0 qv (fun _ _=>rfl) ⟨rfl,trivial⟩ ⟨_,rfl,qyP,hw⟩ ?_;clear hw;rintro σ j qv w ⟨X,hX,br,hw⟩;have jY:=br.ql;have l5:=br.ol;have xr:=br.wl;have hAl:=hAo.len;refine ab ?_;refine ai ?_ ?_<;>intro h5
  ·obtain⟨i,r,hq⟩:∃ i r,X.q=i::r:=by
    cases hq:X.q with
    | nil=>rw[hq]at h5;simp at h5
    | cons i r=>exact⟨i,r,rfl⟩
   obtain⟨xV,qy,hi0,uk⟩:=br.pop hq;have iI:X.q.length=r.length+1:=by rw[hq];rfl
   have hg0:X.q.getD (Int.toNat 0) aa.dflt=i:=by rw[hq];rfl
   refine fy ?_;intro w hw;rw[hg0];refine ab ?_;rw[hg0]at hw;have hw:=hw.sub (s:=qv) own_here 1 X.q.length om (Nat.le_refl _);have mE:cut X.q 1 X.q.length=r:=by rw[hq];simp[cut]
   rw[mE]at hw;obtain⟨q2,hq2⟩:∃ q2,q2=ssub qv aa.sz (Int.toNat 1) X.q.length:=⟨_,rfl⟩
   have hw:Sat w0 w [OS aa 3 q2 r,OS ah 4 wv (X.waits.set i.toNat false),OS aa 3 ov X.out,Ab dx 181 ss A,OS al 176 av ss]:=by rw[hq2];exact hw
   rw[<-hq2];obtain⟨AR,hAR⟩:∃ AR,AR=A.getD i.toNat []:=⟨_,rfl⟩
   have xt:∀ a∈AR,Bj n a:=fun a ha=>hAo.ok _ (qfF (i:=i.toNat) om) a (by rw[<-hAR];exact ha);have qzR:AR.length<=S.ak.length:=by
    rw[hAR,hA];exact Nat.le_trans uF (by rw[length_map];exact Nat.le_refl _)
   have fE:bB A X=AR.foldl (cF i) ⟨X.out,X.waits.set i.toNat false,r⟩:=by unfold bB;rw[hq,hAR]
   have dp:=(hw.focus 3 rfl).row (i:=i.toNat) om;rw[<-hAR]at dp;refine ab ?_;refine dj [14,14,19,19,107,150] (G:=Nat) (H:=Value) (fun k q'=>[(107,.int .i64 k),(14,q')]) (fun k q' w=>k<=AR.length/\Sat w0 w [OS aa 3 q' ((AR.take k).foldl (cF i) ⟨X.out,X.waits.set i.toNat false,r⟩).q,OS ah 4 wv ((AR.take k).foldl (cF i) ⟨X.out,X.waits.set i.toNat false,r⟩).waits,OS aa 3 ov ((AR.take k).foldl (cF i) ⟨X.out,X.waits.set i.toNat false,r⟩).out,Ab dx 181 ss A,OS al 176 av ss]) (fun k _=>AR.length-k) 0 q2 (fun _ _=>rfl) ⟨rfl,rfl,trivial⟩ ⟨zero_le _,hw⟩ ?_;clear hw dp;rintro σ k q' w ⟨hk,hw⟩;have hY:=(xV.y6 (L:=AR.take k) ⟨hi0,uk⟩ (fun a ha=>xt a (mem_of_mem_take ha))).1;obtain⟨Y,hYe⟩:∃ Y,Y=(AR.take k).foldl (cF i) ⟨X.out,X.waits.set i.toNat false,r⟩:=⟨_,rfl⟩
   rw[<-hYe]at hw hY;have y1:=hY.ol;have y2:=hY.wl;have y3:=hY.ql;have y4:=hY.ob i.toNat om;have dp:=(hw.focus 3 rfl).row (i:=i.toNat) om;rw[<-hAR]at dp;refine ab ?_;refine ai ?_ ?_<;>intro h6
   ·have aK:k<AR.length:=by omega
    have ha:=xt _ (bY dx.dflt aK);obtain⟨a,rO⟩:∃ a,a=AR.getD k dx.dflt:=⟨_,rfl⟩
    rw[<-rO]at ha;obtain⟨b1,b2,b3,b4,b5,b6⟩:=ha;have y5:=hY.ob a.dst.toNat om;have tG:(AR.take (k+1)).foldl (cF i) ⟨X.out,X.waits.set i.toNat false,r⟩=cF i Y a:=by rw[dJ dx.dflt aK,foldl_append,<-hYe,<-rO];rfl
    refine cK ?_;intro p w hw;have hw:Sat w0 w [Ad p 181 [.int .i64 a.src,.int .i64 a.dst,.int .i64 a.wt],OS aa 3 q' Y.q,OS ah 4 wv Y.waits,OS aa 3 ov Y.out,Ab dx 181 ss A,OS al 176 av ss]:=by rw[rO];exact hw
    refine nK ?_;clear hw dp;intro w hw;refine ab ?_;refine ai ?_ ?_<;>intro h7
    ·have hs:cF i Y a=Y:=by unfold cF;rw[if_pos h7]
     refine ab ?_;exact⟨k+1,q',⟨rfl,rfl,trivial⟩,aH,⟨by omega,by rw[tG,hs];exact hw.aT⟩,by omega⟩
    have h7':¬Y.out.getD i.toNat aa.dflt+a.wt≥Y.out.getD a.dst.toNat aa.dflt:=by omega
    refine ab ?_;refine fP (pl [0,1,2,3,4,5,6,7,8,9,10,11] []) hw kr ?_;clear hw;intro w hw;refine fy ?_;intro w hw;by_cases vM:Y.waits.getD a.dst.toNat ah.dflt=true
    ·have hs:cF i Y a=⟨Y.out.set a.dst.toNat (Y.out.getD i.toNat aa.dflt+a.wt),Y.waits,Y.q⟩:=by unfold cF;rw[if_neg h7',if_pos vM]
     rw[vM];refine ab ?_;exact⟨k+1,q',⟨rfl,rfl,trivial⟩,aH,⟨by omega,by rw[tG,hs];exact hw.aT⟩,by omega⟩
    ·have hs:cF i Y a=⟨Y.out.set a.dst.toNat (Y.out.getD i.toNat aa.dflt+a.wt),Y.waits.set a.dst.toNat true,Y.q++[a.dst]⟩:=by unfold cF;rw[if_neg h7',if_neg vM]
     rw[Bool.not_eq_true]at vM;rw[vM];refine ab ?_;refine fP (pl [0,1,2,3,4,5,6] (.chk 2::pl [7] (.chk 2::pl [8,9,10] []))) hw kr ?_;clear hw;intro w hw
     repeat (first|refine bV ?_|(refine fL ?_;clear hw;intro w hw)|(refine cB ?_;clear hw;intro s w hw))
     exact⟨k+1,s,⟨rfl,rfl,trivial⟩,aH,⟨by omega,by rw[tG,hs];exact hw.aT⟩,by omega⟩
   have fT:k=AR.length:=by omega
   rw[fT,take_length,<-fE]at hYe;refine ab ?_;refine⟨j+1,q',⟨rfl,trivial⟩,aH,⟨Y,by rw[hYe,hX];rfl,hY,hw.aT⟩,?_⟩;have:=(br.step hAo.ok).2.1 (by unfold cR;rw[hq];rfl);rw[hX]at this;exact this
  have yY:cR X=true:=by
   unfold cR
   cases hq:X.q with
   | nil=>rfl
   | cons i r =>
    have:X.q.length=r.length+1:=by rw[hq];rfl
    omega
  have r9:zU S fr true=X.out:=by
   unfold zU;rw[<-hA,<-hn,fixF_eq (qd4 A) (n:=j) (by rw[<-hX];exact yY),<-hX]
  rw[r9];refine ab ?_;exact aW (v:=ov) rfl rfl ⟨ov,rfl,hw.aT⟩
theorem Aw.jE {w:World}{cv ev gv:Value}{S:Ak}(h:Aw w cv ev gv S):([Value.int .i64 S.st,.int .i64 S.aY,cv,ev,gv]).all Value.oneCell'=true:=by
 simp only[all_cons,all_nil,h.au.one,h.ak.one,h.goals.one];rfl
theorem qf8 {g:List Bool}{i:Int}:∀ {k:Nat},i∈eP g k↔0<=i/\i<(k:Int)/\g.getD i.toNat ah.dflt=true
 | k=>by
  unfold eP;rw[mem_filterMap];constructor
  ·rintro⟨j,hj,h⟩
   rw[mem_range]at hj;split at h
   ·rename_i hg
    cases h;exact⟨by omega,by omega,hg⟩
   ·cases h
  ·rintro⟨h0,h1,hg⟩
   exact⟨i.toNat,by rw[mem_range];omega,by rw[if_pos hg];congr 1;omega⟩
theorem qin {g:List Bool}:∀ k:Nat,(eP g k).Nodup
 | 0=>by simp[eP]
 | k+1=>by
  have ih:=qin (g:=g) k;unfold eP at *
  rw[range_succ,filterMap_append,nodup_append];refine⟨ih,by simp only[filterMap_cons,filterMap_nil];split<;>simp,fun a ha b hb e=>?_⟩;have:=(qf8 (g:=g) (k:=k)).1 ha;rw[mem_filterMap]at hb;obtain⟨j,hj,h⟩:=hb;rw[mem_singleton]at hj;split at h
  ·cases h;omega
  ·cases h
noncomputable def fD (S:Ak):Int:=if fM S=true then 0 else 2
noncomputable def pG (S:Ak):List Int:=if fM S=true then j8 S else []
theorem qrB {w0:World}{cv ev gv:Value}{S:Ak}(hS:Aw w0 cv ev gv S) :
  Calls Tryz.prog 91 #[bN S cv ev gv] w0 fun e w'=>∃ v,e=.returned (.tuple #[v,bE (fD S)])/\Sat w0 w' [OS aa 3 v (pG S)]:=by
 have hw:=Sat.start w0;have ho:=hS.jE;refine bn (args:=[bN S cv ev gv]) mixed Tryz.func91 ?_;unfold bN;refine cK ?_;intro p w hw;have hw:Sat w0 w [Ad p 142 [.int .i64 S.st,.int .i64 S.aY,cv,ev,gv]]:=hw;refine aJ rfl (qdi (S:=S) (hS.at hw)) ?_;refine mf ?_;clear hw;intro w' hw;by_cases hv:fM S=true
 ·rw[hv]
  have iu:Ar S:=Classical.byContradiction fun h=>by rw[r6 h]at hv;cases hv
  have hE:fD S=0:=by unfold fD;rw[if_pos hv]
  have hR:pG S=zU S (rq S.goals) true:=by unfold pG;rw[if_pos hv];rfl
  rw[hE,hR];refine ab ?_;refine fP (pl [0,1,2] (.chk 0::pl [3,4,5] [])) hw kr ?_;clear hw;intro w hw;refine ab ?_;have kL:S.goals.length<=4096:=by obtain⟨_,h2,_,_,h5,_⟩:=iu;omega
  refine aJ rfl (ql7 (S:=S) (hS.at hw) kL) ?_;rintro _ w' ⟨fv,rfl,aj⟩;refine aA ?_;clear aj hw;intro hw;refine ab ?_;refine aJ rfl (qtJ (S:=S) (fr:=rq S.goals) (hS.at hw) iu (hw.rs 0 rfl) (qin _) (fun i hi=>?_)) ?_
  ·have:=(qf8 (g:=S.goals) (k:=S.goals.length)).1 hi
   obtain⟨_,_,_,_,h5,_⟩:=iu;omega
  rintro _ w' ⟨v,rfl,aj⟩;refine aA ?_;clear aj hw;intro hw;refine ab ?_;exact dz (v:=v) (v':=.nilIface) rfl rfl rfl ⟨v,by rw[iy rfl],hw.aT⟩
 ·rw[Bool.not_eq_true]at hv
  rw[hv];have hE:fD S=2:=by unfold fD;rw[if_neg (by rw[hv];simp)]
  have hR:pG S=[]:=by unfold pG;rw[if_neg (by rw[hv];simp)]
  rw[hE,hR];refine ab ?_;exact dz (v:=.slice none 0 0) (v':=.iface 57 (.int .i64 2)) rfl rfl rfl ⟨_,by rw[ep (by decide)],(lB hw).nil⟩
end
end Go.Proofs.YtmapkjoefdgjfaaGreatDoor
