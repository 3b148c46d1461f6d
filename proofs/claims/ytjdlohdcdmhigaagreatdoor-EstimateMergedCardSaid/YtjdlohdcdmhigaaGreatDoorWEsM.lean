/-
  Contract of estimate.Merged.
-/
import Derived.Test.YtjdlohdcdmhigaaGreatDoorWBdM
import Derived.Test.YtjdlohdcdmhigaaGreatDoorMW5
set_option linter.unusedSimpArgs false
set_option linter.unusedVariables false
namespace Go.Proofs.YtjdlohdcdmhigaaGreatDoor
open Go.Sl Go
attribute [local irreducible] vc opsW opsD opV opW PureV ReadV Thn Blk
open Classical in
noncomputable def mrgH (t:TTask) (M:Int) (s:List Int):Int:=(bldD t M).getD (atL s (bldS t M)).toNat tInt.dflt
theorem qmX {w:World}{t:TTask}{p:Addr}{M:Int}(h:RAbs w p t (bldS t M) (bldD t M)) (hA:AbsOk t (bldS t M) (bldD t M)):HVal w (.iface 52 (.pointer (some p))) t (mrgH t M) :=
 ⟨_,_,_,_,rfl,qmt _,inferInstance,fun _ _ _ s hw hsv hok=>qhn (h.at hw) hA.1 (hA.2 s hok) hsv hok⟩
set_option maxRecDepth 8000 in
theorem qka {w0:World}{a b c d h v:Value}{T:Nat} :
  Calls Tryz.prog 41 #[.agg #[a,b,c,d],h,.iface T v] w0 fun e w'=>e=.returned (.tuple #[.pointer none,.iface T v])∧Sat w0 w' []:=by
 have hw:=Sat.start w0
 refine qaf (args:=[.agg #[a,b,c,d],h,.iface T v]) mixed Tryz.func41 rfl (by kernel_rfl) (Nat.le_of_ble_eq_true rfl) ?_
 repeat (first|refine qac ?_|(refine qaa ?_;clear hw;intro p w hw)|(refine qae ?_;clear hw;intro w hw)|(refine qab ?_;clear hw;intro s w hw))
 exact qay (v:=.pointer none) (v':=.iface T v) rfl rfl rfl ⟨rfl,qbb hw⟩
set_option maxRecDepth 8000 in
set_option maxHeartbeats 4000000 in
theorem qii {w0:World}{a b c d:Value}{vs:List OpV}{t:TTask}{M:Int}(ht:RTask w0 a b c d vs t) (hg:GoodT t) (hT:TabI w0) :
  Calls Tryz.prog 21 #[.agg #[a,b,c,d],.int .i64 M] w0 fun e w'=>(bldErr t M≠0∧e=.returned (.tuple #[.pointer none,errV (bldErr t M)])∧Sat w0 w' [])∨(bldErr t M=0∧∃ p,e=.returned (.tuple #[.pointer (some p),.nilIface])∧Sat w0 w' [RdH fun w=>REst w p t (mrgH t M)]):=by
 have hnv:=hg.vars
 have hw:=Sat.start w0
 refine qaf (args:=[.agg #[a,b,c,d],.int .i64 M]) mixed Tryz.func21 rfl (by kernel_rfl) (Nat.le_of_ble_eq_true rfl) ?_
 have hvs:=ht.1
 repeat (first|refine qac ?_|(refine qaa ?_;clear hw;intro p w hw)|(refine qad ?_;clear hw;intro w hw)|(refine qab ?_;clear hw;intro s w hw))
 obtain⟨pt,hpt⟩:∃ q,q=p:=⟨p,rfl⟩
 subst hpt
 have hw:Sat w0 w [Box pt 26 [a,b,c,d]]:=hw
 refine qaq [6,7,13,14,15,16,17,18,19,20] (G:=Nat) (H:=Value) (fun k ov=>[(13,.int .i64 k),(6,ov)]) (fun k ov w=>k≤t.vars.length∧Sat w0 w [OS tInt 3 ov (sameL k),Box pt 26 [a,b,c,d]]) (fun k _=>t.vars.length-k) 0 (.slice none 0 0) (fun _ _=>rfl) ⟨rfl,rfl,trivial⟩ ⟨Nat.zero_le _,hw.nil⟩ ?_
 clear hw
 rintro _ k ov w ⟨hk,hw⟩
 repeat (first|refine qac ?_|(refine qaa ?_;clear hw;intro p w hw)|(refine qad ?_;clear hw;intro w hw)|(refine qab ?_;clear hw;intro s w hw))
 refine go_if (fun g1 => ?_) (fun g1 => ?_)
 ·have hkn:k<t.vars.length:=by omega
  have hsl:(sameL k).length≤64:=by rw [qbk];omega
  repeat (first|refine qac ?_|(refine qaa ?_;clear hw;intro p w hw)|(refine qad ?_;clear hw;intro w hw)|(refine qab ?_;clear hw;intro s w hw))
  rw [←qdq] at hw
  exact⟨k+1,s,⟨rfl,rfl,trivial⟩,agr,⟨by omega,hw.sel⟩,by omega⟩
 have hkn:k=t.vars.length:=by omega
 subst hkn
 repeat (first|refine qac ?_|(refine qaa ?_;clear hw;intro p w hw)|(refine qad ?_;clear hw;intro w hw)|(refine qab ?_;clear hw;intro s w hw))
 refine qah rfl (qcS (M:=M) (hT.at hw) hg (ht.at hw) (rsO (s:=ov) hw)) ?_
 rintro _ w' hres
 rcases hres with ⟨hE,rfl,hk'⟩|⟨hE,hA,pm,rfl,hk'⟩
 ·replace hw:=hw.call0 hk';clear hk';refine⟨_,rfl,?_⟩
  rw [qan hE]
  repeat (first|refine qac ?_|(refine qaa ?_;clear hw;intro p w hw)|(refine qad ?_;clear hw;intro w hw)|(refine qab ?_;clear hw;intro s w hw))
  refine qah rfl qka ?_
  rintro _ w' ⟨rfl,hk'⟩;replace hw:=hw.call0 hk';clear hk';refine⟨_,rfl,?_⟩
  repeat (first|refine qac ?_|(refine qaa ?_;clear hw;intro p w hw)|(refine qad ?_;clear hw;intro w hw)|(refine qab ?_;clear hw;intro s w hw))
  exact qay (v:=.pointer none) (v':=.iface 63 (.int .i64 (bldErr t M))) rfl rfl rfl (.inl ⟨hE,rfl,hw.sel⟩)
 replace hw:=hw.call1 hk';clear hk';refine⟨_,rfl,?_⟩
 repeat (first|refine qac ?_|(refine qaa ?_;clear hw;intro p w hw)|(refine qad ?_;clear hw;intro w hw)|(refine qab ?_;clear hw;intro s w hw))
 refine qah rfl (qcg (h:=.iface 52 (.pointer (some pm))) (H:=mrgH t M) (ht.at hw) hg ⟨_,_,rfl⟩) ?_
 rintro _ w' ⟨pe,rfl,hk'⟩;replace hw:=hw.call1 hk';clear hk';refine⟨_,rfl,?_⟩
 repeat (first|refine qac ?_|(refine qaa ?_;clear hw;intro p w hw)|(refine qad ?_;clear hw;intro w hw)|(refine qab ?_;clear hw;intro s w hw))
 have hw3:=Sat.rd (Δ:=[_,_]) (φ:=fun w=>REst w pe t (mrgH t M)) (fun _ w h=>(h.rdE 0 rfl) (qmX (h.rdE 1 rfl) hA)) hw
 exact qay (v:=.pointer (some pe)) (v':=.nilIface) rfl rfl rfl (.inr ⟨hE,pe,rfl,hw3.sel⟩)
end Go.Proofs.YtjdlohdcdmhigaaGreatDoor
