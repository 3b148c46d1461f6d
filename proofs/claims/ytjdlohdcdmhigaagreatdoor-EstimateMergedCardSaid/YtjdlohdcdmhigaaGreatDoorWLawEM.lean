/-
  The statement 'EstimateMerged' returns true.
-/
import Derived.Test.YtjdlohdcdmhigaaGreatDoorMW2
import Derived.Test.YtjdlohdcdmhigaaGreatDoorWI47
import Derived.Test.YtjdlohdcdmhigaaGreatDoorWEsM
set_option linter.unusedSimpArgs false
set_option linter.unusedVariables false
namespace Go.Proofs.YtjdlohdcdmhigaaGreatDoor
open Go.Sl Go
attribute [local irreducible] vc opsW opsD opV opW PureV ReadV Thn Blk
set_option maxRecDepth 8000 in
set_option maxHeartbeats 8000000 in
theorem qcD {w0:World}{a b c d:Value}{vs:List OpV}{t:TTask}{M:Int}(hT:TabI w0) (ht:RTask w0 a b c d vs t) :
  Calls Tryz.prog 5 #[.agg #[a,b,c,d],.int .i64 M] w0 fun e w'=>e=.returned (.bool true)∧Sat w0 w' []:=by
 have hw:=Sat.start w0
 refine qaf (args:=[.agg #[a,b,c,d],.int .i64 M]) mixed Tryz.func5 rfl (by kernel_rfl) (Nat.le_of_ble_eq_true rfl) ?_
 repeat (first|refine qac ?_|(refine qaa ?_;clear hw;intro p w hw)|(refine qad ?_;clear hw;intro w hw)|(refine qab ?_;clear hw;intro s w hw))
 obtain⟨pt,hpt⟩:∃ pt,pt=p:=⟨p,rfl⟩
 subst hpt
 refine qah rfl (qkd (ht.at hw)) ?_
 rintro _ w' ⟨⟨r,rfl,hr⟩,hk'⟩
 replace hw:=hw.call0 hk'
 clear hk'
 refine⟨_,rfl,?_⟩
 cases r
 ·repeat (first|refine qac ?_|(refine qaa ?_;clear hw;intro p w hw)|(refine qad ?_;clear hw;intro w hw)|(refine qab ?_;clear hw;intro s w hw))
  refine qah rfl qdO ?_
  rintro _ w' ⟨rfl,hk'⟩;replace hw:=hw.call0 hk';clear hk';refine⟨_,rfl,?_⟩
  repeat (first|refine qac ?_|(refine qaa ?_;clear hw;intro p w hw)|(refine qad ?_;clear hw;intro w hw)|(refine qab ?_;clear hw;intro s w hw))
  exact qai (v:=.bool true) rfl rfl ⟨rfl,qbb hw⟩
 have hs:=hr.1 rfl
 have hg:=hs.good
 have hnv:=hg.vars
 have hvs:=ht.1
 repeat (first|refine qac ?_|(refine qaa ?_;clear hw;intro p w hw)|(refine qad ?_;clear hw;intro w hw)|(refine qab ?_;clear hw;intro s w hw))
 refine qah rfl qdO ?_
 rintro _ w' ⟨rfl,hk'⟩;replace hw:=hw.call0 hk';clear hk';refine⟨_,rfl,?_⟩
 repeat (first|refine qac ?_|(refine qaa ?_;clear hw;intro p w hw)|(refine qad ?_;clear hw;intro w hw)|(refine qab ?_;clear hw;intro s w hw))
 have hw:Sat w0 w' [Box pt 26 [a,b,c,d]]:=hw
 refine qaq [5,6,24,25,26,27,28,29,30,31] (G:=Nat) (H:=Value) (fun k ov=>[(24,.int .i64 k),(5,ov)]) (fun k ov w=>k≤t.vars.length∧Sat w0 w [OS tInt 3 ov (sameL k),Box pt 26 [a,b,c,d]]) (fun k _=>t.vars.length-k) 0 (.slice none 0 0) (fun _ _=>rfl) ⟨rfl,rfl,trivial⟩ ⟨Nat.zero_le _,hw.nil⟩ ?_
 clear hw
 rintro _ k ov w ⟨hk,hw⟩
 repeat (first|refine qac ?_|(refine qaa ?_;clear hw;intro p w hw)|(refine qad ?_;clear hw;intro w hw)|(refine qab ?_;clear hw;intro s w hw))
 refine go_if (fun g1 => ?_) (fun g1 => ?_)
 ·have hkn:k<t.vars.length:=by omega
  have hsl:(sameL k).length≤64:=by rw [qbk];omega
  repeat (first|refine qac ?_|(refine qaa ?_;clear hw;intro p w hw)|(refine qad ?_;clear hw;intro w hw)|(refine qab ?_;clear hw;intro s w hw))
  rw [←qdq] at hw
  exact⟨k+1,s,⟨rfl,rfl,trivial⟩,agr,⟨by omega,hw.sel⟩,by omega⟩
 have hkn:k=t.vars.length:=by omega
 subst hkn
 repeat (first|refine qac ?_|(refine qaa ?_;clear hw;intro p w hw)|(refine qad ?_;clear hw;intro w hw)|(refine qab ?_;clear hw;intro s w hw))
 refine qah rfl (qii (M:=M) (ht.at hw) hg (hT.at hw)) ?_
 rintro _ w' hres
 rcases hres with ⟨hE,rfl,hk'⟩|⟨hE,pb,rfl,hk'⟩
 ·replace hw:=hw.call0 hk';clear hk';refine⟨_,rfl,?_⟩
  obtain⟨e1,he1⟩:∃ e,e=errV (bldErr t M):=⟨_,rfl⟩
  rw [←he1]
  repeat (first|refine qac ?_|(refine qaa ?_;clear hw;intro p w hw)|(refine qad ?_;clear hw;intro w hw)|(refine qab ?_;clear hw;intro s w hw))
  refine qah rfl (qcS (M:=M) (hT.at hw) hg (ht.at hw) (rsO (s:=ov) hw)) ?_
  rintro _ w' hres
  rcases hres with ⟨_,rfl,hk'⟩|⟨hE2,_⟩
  rotate_left
  ·exact absurd hE2 hE
  replace hw:=hw.call0 hk';clear hk';refine⟨_,rfl,?_⟩
  rw [←he1]
  repeat (first|refine qac ?_|(refine qaa ?_;clear hw;intro p w hw)|(refine qad ?_;clear hw;intro w hw)|(refine qab ?_;clear hw;intro s w hw))
  refine qah rfl (he1 ▸ qec (bldErr t M)) ?_
  rintro _ w' ⟨rfl,hk'⟩;replace hw:=hw.call0 hk';clear hk';refine⟨_,rfl,?_⟩
  repeat (first|refine qac ?_|(refine qaa ?_;clear hw;intro p w hw)|(refine qad ?_;clear hw;intro w hw)|(refine qab ?_;clear hw;intro s w hw))
  refine qah rfl (he1 ▸ qec (bldErr t M)) ?_
  rintro _ w' ⟨rfl,hk'⟩;replace hw:=hw.call0 hk';clear hk';refine⟨_,rfl,?_⟩
  rw [qan hE] at he1
  subst he1
  repeat (first|refine qac ?_|(refine qaa ?_;clear hw;intro p w hw)|(refine qae ?_;clear hw;intro w hw)|(refine qab ?_;clear hw;intro s w hw))
  refine go_if (fun g2 => ?_) (fun g2 => ?_)
  ·exact absurd trivial g2
  repeat (first|refine qac ?_|(refine qaa ?_;clear hw;intro p w hw)|(refine qae ?_;clear hw;intro w hw)|(refine qab ?_;clear hw;intro s w hw))
  exact qai (v:=.bool true) rfl rfl ⟨rfl,qbb hw⟩
 replace hw:=hw.call1 hk';clear hk';refine⟨_,rfl,?_⟩
 repeat (first|refine qac ?_|(refine qaa ?_;clear hw;intro p w hw)|(refine qad ?_;clear hw;intro w hw)|(refine qab ?_;clear hw;intro s w hw))
 refine qah rfl (qcS (M:=M) (hT.at hw) hg (ht.at hw) (rsO (s:=ov) hw)) ?_
 rintro _ w' hres
 rcases hres with ⟨hE2,_⟩|⟨_,hA,pm,rfl,hk'⟩
 ·exact absurd hE hE2
 replace hw:=hw.call1 hk';clear hk';refine⟨_,rfl,?_⟩
 repeat (first|refine qac ?_|(refine qaa ?_;clear hw;intro p w hw)|(refine qad ?_;clear hw;intro w hw)|(refine qab ?_;clear hw;intro s w hw))
 rw [show (Value.nilIface)=errV 0 from (qas rfl).symm]
 refine qah rfl (qec 0) ?_
 rintro _ w' ⟨rfl,hk'⟩;replace hw:=hw.call0 hk';clear hk';refine⟨_,rfl,?_⟩
 repeat (first|refine qac ?_|(refine qaa ?_;clear hw;intro p w hw)|(refine qad ?_;clear hw;intro w hw)|(refine qab ?_;clear hw;intro s w hw))
 refine qah rfl (qec 0) ?_
 rintro _ w' ⟨rfl,hk'⟩;replace hw:=hw.call0 hk';clear hk';refine⟨_,rfl,?_⟩
 rw [qas rfl]
 repeat (first|refine qac ?_|(refine qaa ?_;clear hw;intro p w hw)|(refine qad ?_;clear hw;intro w hw)|(refine qab ?_;clear hw;intro s w hw))
 refine qah rfl (qih (ht.at hw) hs) ?_
 rintro _ w' ⟨qv,os,ss,Zs,rfl,hZ,hZl,hZ0,hk'⟩
 replace hw:=hw.call2 hk';clear hk';refine⟨_,rfl,?_⟩
 have hosl:=hZ.1
 have hw:Sat w0 w' [RowsAt tInt 3 ss (statesL t.vars),OS tVal 22 qv os,RdH (fun w=>RAbs w pm t (bldS t M) (bldD t M)),RdH (fun w=>REst w pb t (mrgH t M)),Box pt 26 [a,b,c,d]]:=hw.sel
 repeat (first|refine qac ?_|(refine qaa ?_;clear hw;intro p w hw)|(refine qad ?_;clear hw;intro w hw)|(refine qab ?_;clear hw;intro s w hw))
 refine qak [4,12,57,58,59,60,61,62,63,64,65,66,67,68] (G:=Nat) (fun k=>[(57,.int .i64 k),(4,.bool false)]) (fun k w=>k≤Zs.length∧Sat w0 w [RowsAt tInt 3 ss (statesL t.vars),OS tVal 22 qv os,RdH (fun w=>RAbs w pm t (bldS t M) (bldD t M)),RdH (fun w=>REst w pb t (mrgH t M)),Box pt 26 [a,b,c,d]]) (fun k=>Zs.length-k) 0 (fun _=>rfl) ⟨rfl,rfl,trivial⟩ ⟨Nat.zero_le _,hw⟩ ?_
 clear hw
 rintro σ k w ⟨hk,hw⟩
 repeat (first|refine qac ?_|(refine qaa ?_;clear hw;intro p w hw)|(refine qae ?_;clear hw;intro w hw)|(refine qab ?_;clear hw;intro s w hw))
 refine go_if (fun h1 => ?_) (fun h1 => ?_)
 ·have hkl:k<Zs.length:=by omega
  have hok:=hZ.ok hg hkl
  have hrs:∀ {Γ:List HP}(w:World),Sat w0 w (RowsAt tInt 3 ss (statesL t.vars)::Γ)→RS tInt w (vget os k) (Zs.getD k []):=fun w h=>hZ.rs ht.init h hkl
  obtain⟨z,hz⟩:∃ z,z=Zs.getD k []:=⟨_,rfl⟩
  rw [←hz] at hok hrs
  repeat (first|refine qac ?_|(refine qaa ?_;clear hw;intro p w hw)|(refine qad ?_;clear hw;intro w hw)|(refine qab ?_;clear hw;intro s w hw))
  refine qah rfl (qba (hw.rdE 3 rfl) (hrs _ hw)) ?_
  rintro _ w' ⟨rfl,hk'⟩;replace hw:=hw.call0 hk';clear hk';refine⟨_,rfl,?_⟩
  have hH:estV t (mrgH t M) z=mrgH t M z:=by rw [estV,if_pos hok]
  rw [hH]
  repeat (first|refine qac ?_|(refine qaa ?_;clear hw;intro p w hw)|(refine qad ?_;clear hw;intro w hw)|(refine qab ?_;clear hw;intro s w hw))
  refine qah rfl (qhn (hw.rdE 2 rfl) hA.1 (hA.2 z hok) (hrs _ hw) hok) ?_
  rintro _ w' ⟨rfl,hk'⟩;replace hw:=hw.call0 hk';clear hk';refine⟨_,rfl,?_⟩
  unfold mrgH
  repeat (first|refine qac ?_|(refine qaa ?_;clear hw;intro p w hw)|(refine qad ?_;clear hw;intro w hw)|(refine qab ?_;clear hw;intro s w hw))
  refine go_if (fun h3 => ?_) (fun h3 => ?_)
  ·exact absurd trivial h3
  repeat (first|refine qac ?_|(refine qaa ?_;clear hw;intro p w hw)|(refine qae ?_;clear hw;intro w hw)|(refine qab ?_;clear hw;intro s w hw))
  exact⟨k+1,⟨rfl,rfl,trivial⟩,agr,⟨by omega,hw⟩,by omega⟩
 repeat (first|refine qac ?_|(refine qaa ?_;clear hw;intro p w hw)|(refine qae ?_;clear hw;intro w hw)|(refine qab ?_;clear hw;intro s w hw))
 exact qai (v:=.bool true) rfl rfl ⟨rfl,qbb hw⟩
end Go.Proofs.YtjdlohdcdmhigaaGreatDoor
