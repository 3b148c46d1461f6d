/-
  Saturated partitions as an estimate: contract of 'estimate.Saturated'; consistent, admissible.
-/
import Derived.Test.YtggdgcmjcahbbaaGreatDoorMW13
import Derived.Test.YtggdgcmjcahbbaaGreatDoorWSatVal
import Derived.Test.YtggdgcmjcahbbaaGreatDoorMW9
import Derived.Test.YtggdgcmjcahbbaaGreatDoorWEst2
import Derived.Test.YtggdgcmjcahbbaaGreatDoorTAstC
set_option linter.unusedSimpArgs false
set_option linter.unusedVariables false
namespace Go.Proofs.YtggdgcmjcahbbaaGreatDoor
open Go.Sl Go
attribute [local irreducible] vc opsW opsD opV opW PureV ReadV Thn Blk
open Classical in
noncomputable def satH (t:TTask) (Ls Ds:List (List Int)) (s:List Int):Int:=if StateOk t.vars s then valPt t Ls Ds s else 0
theorem qiR {t:TTask}{Ls Ds:List (List Int)}{s:List Int}(h:StateOk t.vars s):satH t Ls Ds s=valPt t Ls Ds s:=if_pos h
section
variable {t:TTask}{Ls Ds Ps:List (List Int)}
end
theorem qgT {t:TTask}{size:Int}(hs:SmallT t):nErr t (chsL t size)=0:=by
 have hg:=(qaM t).2 hs.good
 have hl:=qcK t size
 unfold nErr
 rw [if_neg (by rw [hg];decide),if_neg (fun⟨i,hi,h⟩=>h (qdx hi).pat),if_neg (by omega)]
theorem qon {w:World}{t:TTask}{p:Addr}{size:Int}{Ds Ps:List (List Int)}(hs:SmallT t) (h:RPt w p t (chsL t size) Ds Ps) (hR:Run t (chsL t size) (costsT t) Ds Ps):HVal w (.iface 40 (.pointer (some p))) t (satH t (chsL t size) Ds) :=
 ⟨_,_,_,_,rfl,qjh _,inferInstance,fun _ _ _ _ hw hsv hok=>by
  rw [qiR hok]
  exact qc1 (h.at hw) hR (qcK t size) (fun _ hi=>qcL hs hi) hsv⟩
set_option maxRecDepth 8000 in
set_option maxHeartbeats 2000000 in
theorem qcr {w0:World}{a b c d:Value}{vs:List OpV}{t:TTask}{size:Int}(ht:RTask w0 a b c d vs t) (hs:SmallT t) :
  Calls Tryz.prog 8 #[.agg #[a,b,c,d],.int .i64 size] w0 fun e w'=>∃ p Ds Ps,e=.returned (.tuple #[.pointer (some p),.nilIface])∧Run t (chsL t size) (costsT t) Ds Ps∧Sat w0 w' [RdH fun w=>REst w p t (satH t (chsL t size) Ds)]:=by
 have hg:=hs.good
 have hw:=Sat.start w0
 refine qab (args:=[.agg #[a,b,c,d],.int .i64 size]) mixed Tryz.func8 rfl (by kernel_rfl) (Nat.le_of_ble_eq_true rfl) ?_
 repeat (first|refine qaa ?_|(refine qaf ?_;clear hw;intro p w hw))
 obtain⟨pt,hpt⟩:∃ pt,pt=p:=⟨p,rfl⟩
 subst hpt
 refine qad rfl (qd2 (ht.at hw) hs) ?_
 rintro _ w' ⟨ov,rfl,hk'⟩
 replace hw:=hw.call1 hk'
 clear hk'
 refine⟨_,rfl,?_⟩
 obtain⟨os,hos⟩:=hw.rdE 0 rfl
 repeat refine qaa ?_
 obtain⟨os,hos⟩:=hw.rdE 0 rfl
 refine qad rfl (qgW (ht.at hw) hos (fun _ _ _ i hi=>qcL hs hi)) ?_
 rintro _ w' (⟨h1,_⟩|⟨_,_,_,_,ps,Ds,Ps,rfl,hR,hk'⟩)
 ·exact absurd (qgT hs) h1
 replace hw:=hw.call1 hk'
 clear hk'
 refine⟨_,rfl,?_⟩
 repeat refine qaa ?_
 refine qad rfl (qbW (h:=.iface 40 (.pointer (some ps))) (H:=satH t (chsL t size) Ds) (ht.at hw) hg ⟨_,_,rfl⟩) ?_
 rintro _ w' ⟨pe,rfl,hk'⟩
 replace hw:=hw.call1 hk'
 clear hk'
 refine⟨_,rfl,?_⟩
 repeat refine qaa ?_
 have hw2:Sat w0 w' (([RdH fun w=>HVal w (.iface 40 (.pointer (some ps))) t (satH t (chsL t size) Ds)→REst w pe t (satH t (chsL t size) Ds),RdH fun w=>RPt w ps t (chsL t size) Ds Ps]:List HP)++[RdH fun w=>∃ ss,RLs w ov ss (chsL t size),Box pt 26 [a,b,c,d]]):=hw
 have hw3:=Sat.rd (φ:=fun w=>REst w pe t (satH t (chsL t size) Ds)) (fun _ w h=>(h.rdE 0 rfl) (qon hs (h.rdE 1 rfl) hR)) hw2
 exact qaq (v:=.pointer (some pe)) (v':=.nilIface) rfl rfl rfl ⟨pe,Ds,Ps,rfl,hR,hw3.only⟩
end Go.Proofs.YtggdgcmjcahbbaaGreatDoor
