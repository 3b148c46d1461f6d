/-
  Contract of shrink.Bisimulation.
-/
import Derived.Test.YtjdlohdcdmhigaaGreatDoorWRfn
import Derived.Test.YtjdlohdcdmhigaaGreatDoorWDst
set_option linter.unusedSimpArgs false
set_option linter.unusedVariables false
namespace Go.Proofs.YtjdlohdcdmhigaaGreatDoor
open Go.Sl Go
attribute [local irreducible] vc opsW opsD opV opW PureV ReadV Thn Blk
noncomputable def bisR (S:SysV):List Int:=if valB S=true then bsL S else []
set_option maxRecDepth 8000 in
set_option maxHeartbeats 16000000 in
theorem qhq {w0:World}{sc se sg:Value}{S:SysV}(hS:RSys w0 sc se sg S) (hT:TabI w0) :
  Calls Tryz.prog 118 #[sysV S sc se sg] w0 fun e w'=>∃ v,e=.returned (.tuple #[v,errV (dstE S)])∧(valB S=true→∃ L:List ByteArray,L.length=S.st.toNat∧bsL S=numT L)∧Sat w0 w' [OS tInt 3 v (bisR S)]:=by
 have hw:=Sat.start w0
 have oS:=hS.ones
 have hsg:=hS.goals
 refine qaf (args:=[sysV S sc se sg]) mixed Tryz.func118 rfl (by kernel_rfl) (Nat.le_of_ble_eq_true rfl) ?_
 unfold sysV
 repeat (first|refine qac ?_|(refine qaa ?_;clear hw;intro p w hw)|(refine qad ?_;clear hw;intro w hw)|(refine qab ?_;clear hw;intro s w hw))
 have hw:Sat w0 w [Box p 96 [.int .i64 S.st,.int .i64 S.ini,sc,se,sg]]:=hw
 obtain⟨ps,hps⟩:∃ q,q=p:=⟨p,rfl⟩
 subst hps
 refine qah rfl (qcd (S:=S) (hS.at hw)) ?_
 rintro _ w' ⟨rfl,hk'⟩;replace hw:=hw.call0 hk';clear hk';refine⟨_,rfl,?_⟩
 by_cases hv:valB S=true
 case neg =>
  rw [Bool.not_eq_true] at hv
  rw [hv]
  have hE:dstE S=2:=by unfold dstE;rw [if_neg (by rw [hv];simp)]
  have hR:bisR S=[]:=by unfold bisR;rw [if_neg (by rw [hv];simp)]
  rw [hE,hR]
  repeat (first|refine qac ?_|(refine qaa ?_;clear hw;intro p w hw)|(refine qae ?_;clear hw;intro w hw)|(refine qab ?_;clear hw;intro s w hw))
  exact qay (v:=.slice none 0 0) (v':=.iface 63 (.int .i64 2)) rfl rfl rfl ⟨.slice none 0 0,by rw [qan (by decide)],(fun h=>by simp [hv] at h),(qbb hw).nil⟩
 rw [hv]
 have hvs:ValS S:=Classical.byContradiction fun h=>by rw [qb5 h] at hv;cases hv
 have hE:dstE S=0:=by unfold dstE;rw [if_pos hv]
 have hR:bisR S=bsL S:=by unfold bisR;rw [if_pos hv]
 rw [hE,hR]
 obtain⟨a1,a2,a3,a4,a5,a6,a7,_⟩:=id hvs
 obtain⟨n,hn⟩:∃ n,n=S.st.toNat:=⟨_,rfl⟩
 have hnS:S.st=(n:Int):=by omega
 have hgl:S.goals.length=n:=by omega
 repeat (first|refine qac ?_|(refine qaa ?_;clear hw;intro p w hw)|(refine qad ?_;clear hw;intro w hw)|(refine qab ?_;clear hw;intro s w hw))
 refine qeu tStr ⟨#[]⟩ rfl rfl rfl rfl (by omega) (by omega) (by omega) hw ?_
 clear hw;intro xv w hw
 rw [show S.st.toNat=n from hn.symm] at hw
 repeat (first|refine qac ?_|(refine qaa ?_;clear hw;intro p w hw)|(refine qad ?_;clear hw;intro w hw)|(refine qab ?_;clear hw;intro s w hw))
 refine qak [5,6,21,22,23,24,25,26,27,28,29,30,31] (G:=Nat) (fun k=>[(21,.int .i64 k)]) (fun k w=>k≤n∧Sat w0 w [OS tStr 9 xv ((S.goals.take k).map fmtB++List.replicate (n-k) ⟨#[]⟩),Box ps 96 [.int .i64 S.st,.int .i64 S.ini,sc,se,sg]]) (fun k=>n-k) 0 (fun _=>rfl) ⟨rfl,trivial⟩ ⟨Nat.zero_le _,hw⟩ ?_
 clear hw
 rintro σ k w ⟨hk,hw⟩
 have hml:((S.goals.take k).map fmtB).length=k:=by rw [List.length_map,List.length_take];omega
 have hxl:((S.goals.take k).map fmtB++List.replicate (n-k) (⟨#[]⟩:ByteArray)).length=n:=by rw [List.length_append,hml,List.length_replicate];omega
 repeat (first|refine qac ?_|(refine qaa ?_;clear hw;intro p w hw)|(refine qad ?_;clear hw;intro w hw)|(refine qab ?_;clear hw;intro s w hw))
 refine go_if (fun h2 => ?_) (fun h2 => ?_)
 ·have hkl:k<n:=by omega
  repeat (first|refine qac ?_|(refine qaa ?_;clear hw;intro p w hw)|(refine qad ?_;clear hw;intro w hw)|(refine qab ?_;clear hw;intro s w hw))
  refine qah rfl (qlH (S.goals.getD k tBool.dflt)) ?_
  rintro _ w' ⟨rfl,hk'⟩;replace hw:=hw.call0 hk';clear hk';refine⟨_,rfl,?_⟩
  repeat (first|refine qac ?_|(refine qaa ?_;clear hw;intro p w hw)|(refine qad ?_;clear hw;intro w hw)|(refine qab ?_;clear hw;intro s w hw))
  refine⟨k+1,⟨rfl,trivial⟩,agr,⟨by omega,?_⟩,by omega⟩
  have e:((S.goals.take k).map fmtB++List.replicate (n-k) (⟨#[]⟩:ByteArray)).set k (fmtB (S.goals.getD k tBool.dflt))=(S.goals.take (k+1)).map fmtB++List.replicate (n-(k+1)) ⟨#[]⟩:=by
   have hr:n-k=(n-(k+1))+1:=by omega
   rw [hr,List.replicate_succ,qaj tBool.dflt (show k<S.goals.length by omega),List.map_append,List.append_assoc,List.set_append_right _ _ (by rw [hml];exact Nat.le_refl _),hml,Nat.sub_self]
   rfl
  rw [e] at hw
  exact hw.sel
 have hkn:k=n:=by omega
 rw [hkn,Nat.sub_self,List.replicate_zero,List.append_nil,List.take_of_length_le (by omega)] at hw
 have hgm:(S.goals.map fmtB).length=n:=by rw [List.length_map];exact hgl
 repeat (first|refine qac ?_|(refine qaa ?_;clear hw;intro p w hw)|(refine qad ?_;clear hw;intro w hw)|(refine qab ?_;clear hw;intro s w hw))
 refine qah rfl (qhf (L:=S.goals.map fmtB) (rsO (s:=xv) hw) (by omega)) ?_
 rintro _ w' ⟨cv,rfl,hk'⟩;replace hw:=hw.call1 hk';clear hk';refine⟨_,rfl,?_⟩
 have hw:Sat w0 w' [OS tInt 3 cv (numT (S.goals.map fmtB)),Box ps 96 [.int .i64 S.st,.int .i64 S.ini,sc,se,sg]]:=hw.sel
 repeat (first|refine qac ?_|(refine qaa ?_;clear hw;intro p w hw)|(refine qad ?_;clear hw;intro w hw)|(refine qab ?_;clear hw;intro s w hw))
 refine qaq [2,3,7,8,9,10,37,38,39,40,41,42,43,44,45,46,47,48] (G:=List ByteArray) (H:=Value) (fun L cv=>[(7,cv),(8,.int .i64 ((unqL L).length:Nat))]) (fun L cv w=>L.length=n∧(∃ j,itr (bsStep S) j (bsBeg S)=(numT L,(unqL L).length,false))∧Sat w0 w [OS tInt 3 cv (numT L),Box ps 96 [.int .i64 S.st,.int .i64 S.ini,sc,se,sg]]) (fun L _=>n+1-(unqL L).length) (S.goals.map fmtB) cv (fun _ _=>rfl) ⟨rfl,rfl,trivial⟩ ⟨hgm,⟨0,rfl⟩,hw⟩ ?_
 clear hw
 rintro σ L cv w ⟨hLl,⟨j,hj⟩,hw⟩
 have hun:=qcj L
 have hst:itr (bsStep S) (j+1) (bsBeg S)=(numT (refL S (numT L)),(unqL (refL S (numT L))).length,decide ((unqL (refL S (numT L))).length=(unqL L).length)):=by
  show bsStep S (itr (bsStep S) j (bsBeg S))=_
  rw [hj]
  rfl
 have hmono:=ql8 (S:=S) (l:=L) (by omega)
 repeat (first|refine qac ?_|(refine qaa ?_;clear hw;intro p w hw)|(refine qad ?_;clear hw;intro w hw)|(refine qab ?_;clear hw;intro s w hw))
 refine qah rfl (qlR (S:=S) (c:=numT L) (hS.at hw) hvs (hT.at hw) (rsO (s:=cv) hw) (by rw [qci];omega) (fun i hi => ?_)) ?_
 ·rw [qci] at hi
  have:=qcX hi
  omega
 rintro _ w' ⟨nv,rfl,hk'⟩;replace hw:=hw.call1 hk';clear hk';refine⟨_,rfl,?_⟩
 obtain⟨L2,hL2⟩:∃ q,q=refL S (numT L):=⟨_,rfl⟩
 have hL2l:L2.length=n:=by rw [hL2,ql7];exact hn.symm
 rw [←hL2] at hw hst hmono ⊢
 repeat (first|refine qac ?_|(refine qaa ?_;clear hw;intro p w hw)|(refine qad ?_;clear hw;intro w hw)|(refine qab ?_;clear hw;intro s w hw))
 refine go_if (fun h3 => ?_) (fun h3 => ?_)
 ·have hd:itr (bsStep S) (j+1) (bsBeg S)=(numT L2,(unqL L2).length,true):=by rw [hst,decide_eq_true (by omega)]
  have hfx:bsL S=numT L2:=by
   unfold bsL
   rw [fixF_eq (qhB S) (n:=j+1) (by rw [hd];rfl),hd]
  have hex:∃ L':List ByteArray,L'.length=S.st.toNat∧numT L2=numT L':=⟨L2,by rw [hL2l,hn],rfl⟩
  rw [hfx]
  repeat (first|refine qac ?_|(refine qaa ?_;clear hw;intro p w hw)|(refine qae ?_;clear hw;intro w hw)|(refine qab ?_;clear hw;intro s w hw))
  exact qay (v:=nv) (v':=.nilIface) rfl rfl rfl ⟨nv,by rw [qas rfl],fun _=>hex,hw.sel⟩
 ·have hun2:=qcj L2
  repeat (first|refine qac ?_|(refine qaa ?_;clear hw;intro p w hw)|(refine qad ?_;clear hw;intro w hw)|(refine qab ?_;clear hw;intro s w hw))
  exact⟨L2,nv,⟨rfl,rfl,trivial⟩,agr,⟨hL2l,⟨j+1,by rw [hst,decide_eq_false (by omega)]⟩,hw.sel⟩,by omega⟩
end Go.Proofs.YtjdlohdcdmhigaaGreatDoor
