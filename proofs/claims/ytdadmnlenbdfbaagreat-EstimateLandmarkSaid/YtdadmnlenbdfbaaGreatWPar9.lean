/-
  Landmarks as an estimate: contract of 'estimate.Landmark'.
-/
import Derived.Test.YtdadmnlenbdfbaaGreatWPar8
import Derived.Test.YtdadmnlenbdfbaaGreatMW5
set_option linter.unusedSimpArgs false
set_option linter.unusedVariables false
namespace Go.Proofs.YtdadmnlenbdfbaaGreat
open Go.Sl Go
attribute [local irreducible] vc opsW opsD opV opW PureV ReadV Thn Blk
instance inPar9:MethS Tryz.prog 54 "Value" 124 := ⟨by kernel_rfl⟩
set_option maxRecDepth 8000 in
theorem qke {w0:World}{a b c d sv:Value}{vs:List OpV}{t:TTask}{z:List Int}{kind:Int}(hk1:1≤kind) (hk3:kind≤3) (ht:RTask w0 a b c d vs t) (hg:GoodT t) (hs:RS tInt w0 sv z) (hok:StateOk t.vars z) :
  Calls Tryz.prog 124 #[.agg #[a,b,c,d,.int .i64 kind],sv] w0 fun e w'=>e=.returned (.int .i64 (lmkH t kind z))∧Sat w0 w' []:=by
 have hw:=Sat.start w0
 obtain⟨V,hV⟩:∃ V,V=lmkE t z kind:=⟨_,rfl⟩
 have hH:lmkH t kind z=if V.1=0 then V.2 else 0:=by rw [hV];rfl
 rw [hH]
 refine qaf (args:=[.agg #[a,b,c,d,.int .i64 kind],sv]) mixed Tryz.func124 rfl (by kernel_rfl) (Nat.le_of_ble_eq_true rfl) ?_
 repeat (first|refine qac ?_|(refine qaa ?_;clear hw;intro p w hw)|(refine qad ?_;clear hw;intro w hw)|(refine qab ?_;clear hw;intro s w hw))
 refine qaN rfl (qaQ (k:=0) (n:=4) (vs:=[a,b,c,d]) rfl (hw.boxR 0 rfl) rfl rfl) ?_
 repeat (first|refine qac ?_|(refine qaa ?_;clear hw;intro p w hw)|(refine qad ?_;clear hw;intro w hw)|(refine qab ?_;clear hw;intro s w hw))
 refine qag rfl (qeS hk1 hk3 (ht.at hw) hg (hs.at hw) hok) ?_
 rintro _ w' ⟨rfl,hk'⟩;replace hw:=hw.call0 hk';clear hk';refine⟨_,rfl,?_⟩
 rw [←hV]
 by_cases he:V.1=0
 ·rw [if_pos he,qam he]
  repeat (first|refine qac ?_|(refine qaa ?_;clear hw;intro p w hw)|(refine qad ?_;clear hw;intro w hw)|(refine qab ?_;clear hw;intro s w hw))
  exact qai (v:=.int .i64 V.2) rfl rfl ⟨rfl,qas hw⟩
 ·rw [if_neg he,qaj he]
  repeat (first|refine qac ?_|(refine qaa ?_;clear hw;intro p w hw)|(refine qad ?_;clear hw;intro w hw)|(refine qab ?_;clear hw;intro s w hw))
  exact qai (v:=.int .i64 0) rfl rfl ⟨rfl,qas hw⟩
theorem qk0 {w:World}{t:TTask}{a b c d:Value}{vs:List OpV}{kind:Int}(hk1:1≤kind) (hk3:kind≤3) (h:RTask w a b c d vs t) (hg:GoodT t):HVal w (.iface 54 (.agg #[a,b,c,d,.int .i64 kind])) t (lmkH t kind) :=
 ⟨_,_,_,_,rfl,qdI _,inferInstance,fun _ _ _ _ hs hsv hok=>qke hk1 hk3 (h.at hs) hg hsv hok⟩
set_option maxRecDepth 8000 in
theorem qeT {w0:World}{a b c d h:Value}{k:Int}(hh:∃ T v,h=.iface T v) :
  Calls Tryz.prog 19 #[.agg #[a,b,c,d],h,.iface 35 (.int .i64 k)] w0 fun e w'=>e=.returned (.tuple #[.pointer none,.iface 35 (.int .i64 k)])∧Sat w0 w' []:=by
 obtain⟨T,v,rfl⟩:=hh
 have hw:=Sat.start w0
 refine qaf (args:=[.agg #[a,b,c,d],.iface T v,.iface 35 (.int .i64 k)]) mixed Tryz.func19 rfl (by kernel_rfl) (Nat.le_of_ble_eq_true rfl) ?_
 repeat (first|refine qac ?_|(refine qaa ?_;clear hw;intro p w hw)|(refine qad ?_;clear hw;intro w hw)|(refine qab ?_;clear hw;intro s w hw))
 exact qaw (v:=.pointer none) (v':=.iface 35 (.int .i64 k)) rfl rfl rfl ⟨rfl,qas hw⟩
set_option maxRecDepth 8000 in
set_option maxHeartbeats 4000000 in
theorem qfA {w0:World}{a b c d:Value}{vs:List OpV}{t:TTask}{kind:Int}(ht:RTask w0 a b c d vs t) (hg:GoodT t) :
  Calls Tryz.prog 6 #[.agg #[a,b,c,d],.int .i64 kind] w0 fun e w'=>((kind<1∨3<kind)∧e=.returned (.tuple #[.pointer none,errV 1])∧Sat w0 w' [])∨∃ p,(1≤kind∧kind≤3)∧e=.returned (.tuple #[.pointer (some p),.nilIface])∧Sat w0 w' [RdH fun w=>REst w p t (lmkH t kind)]:=by
 have hw:=Sat.start w0
 refine qaf (args:=[.agg #[a,b,c,d],.int .i64 kind]) mixed Tryz.func6 rfl (by kernel_rfl) (Nat.le_of_ble_eq_true rfl) ?_
 repeat (first|refine qac ?_|(refine qaa ?_;clear hw;intro p w hw)|(refine qad ?_;clear hw;intro w hw)|(refine qab ?_;clear hw;intro s w hw))
 obtain⟨pt,rfl⟩:∃ x,x=p:=⟨_,rfl⟩
 refine qag rfl (qbG (ht.at hw)) ?_
 rintro _ w' ⟨rfl,hk'⟩;replace hw:=hw.call0 hk';clear hk';refine⟨_,rfl,?_⟩
 rw [qam ((qc2 t).2 hg)]
 by_cases q:kind<1∨3<kind
 ·by_cases q1:kind<1
  ·have hd1:decide (kind<1)=true:=decide_eq_true q1
   repeat (first|refine qac ?_|(refine qaa ?_;clear hw;intro p w hw)|(refine qae ?_;clear hw;intro w hw)|(refine qab ?_;clear hw;intro s w hw))
   simp only [hd1,beq_self_eq_true,qap,qaq,Bool.false_and,Bool.true_and,Bool.and_true,Bool.and_false,Bool.false_or,Bool.true_or,Bool.or_false,Bool.not_true,Bool.not_false,Bool.cond_true,Bool.cond_false,gv_fF,gv_tF]
   repeat (first|refine qac ?_|(refine qaa ?_;clear hw;intro p w hw)|(refine qae ?_;clear hw;intro w hw)|(refine qab ?_;clear hw;intro s w hw))
   refine qay [.op 0,.op 1,.op 2,.chk 0,.op 3,.op 4,.chk 0,.op 5,.op 6,.op 7,.op 8,.op 9,.op 10,.op 11] hw (by kernel_rfl) ?_;clear hw;intro w hw
   repeat (first|refine qac ?_|(refine qaa ?_;clear hw;intro p w hw)|(refine qae ?_;clear hw;intro w hw)|(refine qab ?_;clear hw;intro s w hw))
   refine qag rfl (qbR (ht.at hw) hg) ?_
   rintro _ w' ⟨a2,b2,c2,d2,vs2,rfl,hk'⟩
   replace hw:=hw.call1 hk'
   clear hk'
   refine⟨_,rfl,?_⟩
   repeat (first|refine qac ?_|(refine qaa ?_;clear hw;intro p w hw)|(refine qae ?_;clear hw;intro w hw)|(refine qab ?_;clear hw;intro s w hw))
   refine qau (vs:=[(0,.agg #[a2,b2,c2,d2]),(1,.int .i64 kind)]) (ls:=[(0,[a2,b2,c2,d2]),(1,[.int .i64 kind])]) rfl rfl rfl ?_
   repeat (first|refine qac ?_|(refine qaa ?_;clear hw;intro p w hw)|(refine qae ?_;clear hw;intro w hw)|(refine qab ?_;clear hw;intro s w hw))
   refine qag rfl (qeT (h:=.iface 54 (.agg #[a2,b2,c2,d2,.int .i64 kind])) (k:=1) ⟨_,_,rfl⟩) ?_
   rintro _ w' ⟨rfl,hk'⟩;replace hw:=hw.call0 hk';clear hk';refine⟨_,rfl,?_⟩
   repeat (first|refine qac ?_|(refine qaa ?_;clear hw;intro p w hw)|(refine qad ?_;clear hw;intro w hw)|(refine qab ?_;clear hw;intro s w hw))
   exact qaw (v:=.pointer none) (v':=.iface 35 (.int .i64 1)) rfl rfl rfl (.inl ⟨q,by rw [qaj (by decide)],qas hw⟩)
  ·have hd1:decide (kind<1)=false:=decide_eq_false q1
   have hd2:decide (3<kind)=true:=decide_eq_true (by omega)
   repeat (first|refine qac ?_|(refine qaa ?_;clear hw;intro p w hw)|(refine qae ?_;clear hw;intro w hw)|(refine qab ?_;clear hw;intro s w hw))
   simp only [hd1,hd2,beq_self_eq_true,qap,qaq,Bool.false_and,Bool.true_and,Bool.and_true,Bool.and_false,Bool.false_or,Bool.true_or,Bool.or_false,Bool.not_true,Bool.not_false,Bool.cond_true,Bool.cond_false,gv_fF,gv_tF]
   repeat (first|refine qac ?_|(refine qaa ?_;clear hw;intro p w hw)|(refine qae ?_;clear hw;intro w hw)|(refine qab ?_;clear hw;intro s w hw))
   refine qay [.op 0,.op 1,.op 2,.chk 0,.op 3,.op 4,.chk 0,.op 5,.op 6,.op 7,.op 8,.op 9,.op 10,.op 11] hw (by kernel_rfl) ?_;clear hw;intro w hw
   repeat (first|refine qac ?_|(refine qaa ?_;clear hw;intro p w hw)|(refine qae ?_;clear hw;intro w hw)|(refine qab ?_;clear hw;intro s w hw))
   refine qag rfl (qbR (ht.at hw) hg) ?_
   rintro _ w' ⟨a2,b2,c2,d2,vs2,rfl,hk'⟩
   replace hw:=hw.call1 hk'
   clear hk'
   refine⟨_,rfl,?_⟩
   repeat (first|refine qac ?_|(refine qaa ?_;clear hw;intro p w hw)|(refine qae ?_;clear hw;intro w hw)|(refine qab ?_;clear hw;intro s w hw))
   refine qau (vs:=[(0,.agg #[a2,b2,c2,d2]),(1,.int .i64 kind)]) (ls:=[(0,[a2,b2,c2,d2]),(1,[.int .i64 kind])]) rfl rfl rfl ?_
   repeat (first|refine qac ?_|(refine qaa ?_;clear hw;intro p w hw)|(refine qae ?_;clear hw;intro w hw)|(refine qab ?_;clear hw;intro s w hw))
   refine qag rfl (qeT (h:=.iface 54 (.agg #[a2,b2,c2,d2,.int .i64 kind])) (k:=1) ⟨_,_,rfl⟩) ?_
   rintro _ w' ⟨rfl,hk'⟩;replace hw:=hw.call0 hk';clear hk';refine⟨_,rfl,?_⟩
   repeat (first|refine qac ?_|(refine qaa ?_;clear hw;intro p w hw)|(refine qad ?_;clear hw;intro w hw)|(refine qab ?_;clear hw;intro s w hw))
   exact qaw (v:=.pointer none) (v':=.iface 35 (.int .i64 1)) rfl rfl rfl (.inl ⟨q,by rw [qaj (by decide)],qas hw⟩)
 have hd1:decide (kind<1)=false:=decide_eq_false (by omega)
 have hd2:decide (3<kind)=false:=decide_eq_false (by omega)
 have hk1:1≤kind:=by omega
 have hk3:kind≤3:=by omega
 repeat (first|refine qac ?_|(refine qaa ?_;clear hw;intro p w hw)|(refine qae ?_;clear hw;intro w hw)|(refine qab ?_;clear hw;intro s w hw))
 simp only [hd1,hd2,beq_self_eq_true,qap,qaq,Bool.false_and,Bool.true_and,Bool.and_true,Bool.and_false,Bool.false_or,Bool.true_or,Bool.or_false,Bool.not_true,Bool.not_false,Bool.cond_true,Bool.cond_false,gv_fF,gv_tF]
 repeat (first|refine qac ?_|(refine qaa ?_;clear hw;intro p w hw)|(refine qae ?_;clear hw;intro w hw)|(refine qab ?_;clear hw;intro s w hw))
 refine qay [.op 0,.op 1,.op 2,.chk 0,.op 3,.op 4,.chk 0,.op 5,.op 6,.op 7,.op 8,.op 9,.op 10,.op 11] hw (by kernel_rfl) ?_;clear hw;intro w hw
 repeat (first|refine qac ?_|(refine qaa ?_;clear hw;intro p w hw)|(refine qae ?_;clear hw;intro w hw)|(refine qab ?_;clear hw;intro s w hw))
 refine qag rfl (qbR (ht.at hw) hg) ?_
 rintro _ w' ⟨a2,b2,c2,d2,vs2,rfl,hk'⟩
 replace hw:=hw.call1 hk'
 clear hk'
 refine⟨_,rfl,?_⟩
 repeat (first|refine qac ?_|(refine qaa ?_;clear hw;intro p w hw)|(refine qae ?_;clear hw;intro w hw)|(refine qab ?_;clear hw;intro s w hw))
 refine qau (vs:=[(0,.agg #[a2,b2,c2,d2]),(1,.int .i64 kind)]) (ls:=[(0,[a2,b2,c2,d2]),(1,[.int .i64 kind])]) rfl rfl rfl ?_
 repeat (first|refine qac ?_|(refine qaa ?_;clear hw;intro p w hw)|(refine qae ?_;clear hw;intro w hw)|(refine qab ?_;clear hw;intro s w hw))
 refine qag rfl (qb4 (h:=.iface 54 (.agg #[a2,b2,c2,d2,.int .i64 kind])) (H:=lmkH t kind) (ht.at hw) hg ⟨_,_,rfl⟩) ?_
 rintro _ w' ⟨pe,rfl,hk'⟩
 replace hw:=hw.call1 hk'
 clear hk'
 refine⟨_,rfl,?_⟩
 repeat (first|refine qac ?_|(refine qaa ?_;clear hw;intro p w hw)|(refine qae ?_;clear hw;intro w hw)|(refine qab ?_;clear hw;intro s w hw))
 have hw2:Sat w0 w' [RdH fun w=>HVal w (.iface 54 (.agg #[a2,b2,c2,d2,.int .i64 kind])) t (lmkH t kind)→REst w pe t (lmkH t kind),RdH fun w=>RTask w a2 b2 c2 d2 vs2 t,Box pt 26 [a,b,c,d]]:=hw
 have hw3:=Sat.rd (Δ:=[RdH fun w=>HVal w (.iface 54 (.agg #[a2,b2,c2,d2,.int .i64 kind])) t (lmkH t kind)→REst w pe t (lmkH t kind),RdH fun w=>RTask w a2 b2 c2 d2 vs2 t]) (φ:=fun w=>REst w pe t (lmkH t kind)) (fun _ w h=>(h.rdE 0 rfl) (qk0 hk1 hk3 (h.rdE 1 rfl) hg)) hw2
 exact qaw (v:=.pointer (some pe)) (v':=.nilIface) rfl rfl rfl (.inr ⟨pe,⟨hk1,hk3⟩,rfl,hw3.sel⟩)
end Go.Proofs.YtdadmnlenbdfbaaGreat
