/-
  Contracts of the relaxation's 'Max' and of 'estimate.HMax'.
-/
import Derived.Test.YtjdlohdcdmhigaaGreatDoorWRlxV
import Derived.Test.YtjdlohdcdmhigaaGreatDoorMTA
import Derived.Test.YtjdlohdcdmhigaaGreatDoorMW10
set_option linter.unusedSimpArgs false
set_option linter.unusedVariables false
namespace Go.Proofs.YtjdlohdcdmhigaaGreatDoor
open Go.Sl Go
attribute [local irreducible] vc opsW opsD opV opW PureV ReadV Thn Blk
theorem RRlx.at {w0 w:World}{Γ:List HP}{pr:Addr}{t:TTask}(h:RRlx w0 pr t) (hw:Sat w0 w Γ):RRlx w pr t:=by
 obtain⟨a,c,fv,uv,nv,frv,us,ss,hbx,ha,hc,hf,huv,hul,hU,hnv,hssl,hnd,hfr⟩:=h.ex
 exact⟨a,c,fv,uv,nv,frv,us,ss,hbx.at hw,ha.at hw,hc.at hw,hf.at hw,huv.at hw,hul,fun i hi=>⟨(hU i hi).op,(hU i hi).eff,(hU i hi).cost,(hU i hi).makes,(hU i hi).needs.at hw⟩,hnv.at hw,hssl,fun f hf=>(hnd f hf).at hw,hfr.at hw⟩
set_option maxRecDepth 8000 in
set_option maxHeartbeats 4000000 in
theorem qlV {w0:World}{pr:Addr}{sv:Value}{t:TTask}{z:List Int}(hr:RRlx w0 pr t) (hg:GoodT t) (hs:RS tInt w0 sv z) (hok:StateOk t.vars z) :
  Calls Tryz.prog 264 #[.pointer (some pr),sv] w0 fun e w'=>e=.returned (.int .i64 (hmaxH t z))∧Sat w0 w' []:=by
 have hr':=hr
 obtain⟨a,c,fv,uv,nv,frv,us,ss,hbx,ha,hc,hf,huv,hul,hU,hnv,hssl,hnd,hfr⟩:=hr.ex
 have hgl:=qaK hg.goal
 have hvl:=hg.vars
 have hw:=Sat.start w0
 refine qaf (args:=[.pointer (some pr),sv]) mixed Tryz.func264 rfl (by kernel_rfl) (Nat.le_of_ble_eq_true rfl) ?_
 repeat (first|refine qac ?_|(refine qaa ?_;clear hw;intro p w hw)|(refine qad ?_;clear hw;intro w hw)|(refine qab ?_;clear hw;intro s w hw))
 refine qah rfl (qbx (ha.at hw) (hs.at hw)) ?_
 rintro _ w' ⟨⟨r,rfl,hr1⟩,hk'⟩
 replace hw:=hw.call0 hk'
 clear hk'
 refine⟨_,rfl,?_⟩
 have hrt:r=true:=hr1.2 hok
 subst hrt
 repeat (first|refine qac ?_|(refine qaa ?_;clear hw;intro p w hw)|(refine qad ?_;clear hw;intro w hw)|(refine qab ?_;clear hw;intro s w hw))
 refine qah rfl (qhj (hr'.at hw) hg (hs.at hw) hok) ?_
 rintro _ w' ⟨ov,out,rfl,hHM,hk'⟩
 replace hw:=hw.call1 hk'
 clear hk'
 refine⟨_,rfl,?_⟩
 have hol:=hHM.len
 repeat (first|refine qac ?_|(refine qaa ?_;clear hw;intro p w hw)|(refine qad ?_;clear hw;intro w hw)|(refine qab ?_;clear hw;intro s w hw))
 refine qak [6,8,28,29,30,31,32,33,34,35,36,37,38,39,40] (G:=Nat) (fun k=>[(28,.int .i64 k),(6,.int .i64 (maxG t.vars (t.goal.take k) out))]) (fun k w=>k≤t.goal.length∧Sat w0 w [OS tInt 3 ov out]) (fun k=>t.goal.length-k) 0 (fun _=>rfl) ⟨rfl,rfl,trivial⟩ ⟨Nat.zero_le _,hw⟩ ?_
 clear hw
 rintro σ k w ⟨hk,hw⟩
 repeat (first|refine qac ?_|(refine qaa ?_;clear hw;intro p w hw)|(refine qae ?_;clear hw;intro w hw)|(refine qab ?_;clear hw;intro s w hw))
 refine go_if (fun h1 => ?_) (fun h1 => ?_)
 ·have hkl:k<t.goal.length:=by omega
  have hfo:=(hg.goal k hkl).1
  repeat (first|refine qac ?_|(refine qaa ?_;clear hw;intro p w hw)|(refine qad ?_;clear hw;intro w hw)|(refine qab ?_;clear hw;intro s w hw))
  refine qah rfl (qce (f:=t.goal.getD k tFact.dflt) (hbx.at hw) (hf.at hw) hg.pos (fun i hi=>(hg.dom i hi).2) hvl hfo) ?_
  rintro _ w' ⟨rfl,hk'⟩
  replace hw:=hw.call0 hk'
  clear hk'
  refine⟨_,rfl,?_⟩
  have hnr:=qcn hg.pos hfo
  rw [←qda hg,←hol] at hnr
  have e:(if out.getD (numF t.vars (t.goal.getD k tFact.dflt)).toNat tInt.dflt>maxG t.vars (t.goal.take k) out then out.getD (numF t.vars (t.goal.getD k tFact.dflt)).toNat tInt.dflt else maxG t.vars (t.goal.take k) out)=maxG t.vars (t.goal.take (k+1)) out:=by
   rw [qaj tFact.dflt hkl,qld];unfold dg;split <;> omega
  repeat (first|refine qac ?_|(refine qaa ?_;clear hw;intro p w hw)|(refine qad ?_;clear hw;intro w hw)|(refine qab ?_;clear hw;intro s w hw))
  exact⟨k+1,⟨rfl,by rw [←e];rfl,trivial⟩,agr,⟨by omega,hw.tail⟩,by omega⟩
 have hke:k=t.goal.length:=by omega
 rw [hke,List.take_length]
 repeat (first|refine qac ?_|(refine qaa ?_;clear hw;intro p w hw)|(refine qae ?_;clear hw;intro w hw)|(refine qab ?_;clear hw;intro s w hw))
 exact qai (v:=.int .i64 (maxG t.vars t.goal out)) rfl rfl ⟨by rw [qku hok hHM],hw.sel⟩
instance inWRlxM1:MethS Tryz.prog 120 "Value" 265 := ⟨by kernel_rfl⟩
set_option maxRecDepth 8000 in
theorem qj9 {w0:World}{pr:Addr}{sv:Value}{t:TTask}{z:List Int}(hr:RRlx w0 pr t) (hg:GoodT t) (hs:RS tInt w0 sv z) (hok:StateOk t.vars z) :
  Calls Tryz.prog 265 #[.agg #[.pointer (some pr)],sv] w0 fun e w'=>e=.returned (.int .i64 (hmaxH t z))∧Sat w0 w' []:=by
 have hw:=Sat.start w0
 refine qaf (args:=[.agg #[.pointer (some pr)],sv]) mixed Tryz.func265 rfl (by kernel_rfl) (Nat.le_of_ble_eq_true rfl) ?_
 repeat (first|refine qac ?_|(refine qaa ?_;clear hw;intro p w hw)|(refine qae ?_;clear hw;intro w hw)|(refine qab ?_;clear hw;intro s w hw))
 refine qah rfl (qlV (hr.at hw) hg (hs.at hw) hok) ?_
 rintro _ w' ⟨rfl,hk'⟩
 replace hw:=hw.call0 hk'
 clear hk'
 refine⟨_,rfl,?_⟩
 repeat (first|refine qac ?_|(refine qaa ?_;clear hw;intro p w hw)|(refine qae ?_;clear hw;intro w hw)|(refine qab ?_;clear hw;intro s w hw))
 exact qai (v:=.int .i64 (hmaxH t z)) rfl rfl ⟨rfl,hw.sel⟩
theorem qlj {w:World}{t:TTask}{pr:Addr}(h:RRlx w pr t) (hg:GoodT t):HVal w (.iface 120 (.agg #[.pointer (some pr)])) t (hmaxH t) :=
 ⟨_,_,_,_,rfl,qfU _,inferInstance,fun _ _ _ _ hs hsv hok=>qj9 (h.at hs) hg hsv hok⟩
set_option maxRecDepth 8000 in
set_option maxHeartbeats 2000000 in
theorem qlW {w0:World}{a b c d:Value}{vs:List OpV}{t:TTask}(ht:RTask w0 a b c d vs t) (hg:GoodT t) :
  Calls Tryz.prog 32 #[.agg #[a,b,c,d]] w0 fun e w'=>∃ p,e=.returned (.tuple #[.pointer (some p),.nilIface])∧Sat w0 w' [RdH fun w=>REst w p t (hmaxH t)]:=by
 have hw:=Sat.start w0
 refine qaf (args:=[.agg #[a,b,c,d]]) mixed Tryz.func32 rfl (by kernel_rfl) (Nat.le_of_ble_eq_true rfl) ?_
 repeat (first|refine qac ?_|(refine qaa ?_;clear hw;intro p w hw)|(refine qad ?_;clear hw;intro w hw)|(refine qab ?_;clear hw;intro s w hw))
 obtain⟨pt,hpt⟩:∃ pt,pt=p:=⟨p,rfl⟩
 subst hpt
 refine qah rfl (qlS (ht.at hw) hg) ?_
 rintro _ w' ⟨pr,rfl,hk'⟩
 replace hw:=hw.call1 hk'
 clear hk'
 refine⟨_,rfl,?_⟩
 repeat (first|refine qac ?_|(refine qaa ?_;clear hw;intro p w hw)|(refine qad ?_;clear hw;intro w hw)|(refine qab ?_;clear hw;intro s w hw))
 refine qah rfl (qcg (h:=.iface 120 (.agg #[.pointer (some pr)])) (H:=hmaxH t) (ht.at hw) hg ⟨_,_,rfl⟩) ?_
 rintro _ w' ⟨pe,rfl,hk'⟩
 replace hw:=hw.call1 hk'
 clear hk'
 refine⟨_,rfl,?_⟩
 repeat (first|refine qac ?_|(refine qaa ?_;clear hw;intro p w hw)|(refine qad ?_;clear hw;intro w hw)|(refine qab ?_;clear hw;intro s w hw))
 have hw2:Sat w0 w' [RdH fun w=>HVal w (.iface 120 (.agg #[.pointer (some pr)])) t (hmaxH t)→REst w pe t (hmaxH t),RdH fun w=>RRlx w pr t,Box pt 26 [a,b,c,d]]:=hw
 have hw3:=Sat.rd (Δ:=[RdH fun w=>HVal w (.iface 120 (.agg #[.pointer (some pr)])) t (hmaxH t)→REst w pe t (hmaxH t),RdH fun w=>RRlx w pr t]) (φ:=fun w=>REst w pe t (hmaxH t)) (fun _ w h=>(h.rdE 0 rfl) (qlj (h.rdE 1 rfl) hg)) hw2
 exact qay (v:=.pointer (some pe)) (v':=.nilIface) rfl rfl rfl ⟨pe,rfl,hw3.sel⟩
end Go.Proofs.YtjdlohdcdmhigaaGreatDoor
