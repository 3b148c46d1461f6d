/-
  Contracts of partition's check and whole.
-/
import Derived.Test.YtdadmnlenbdfbaaGreatWLmk4
import Derived.Test.YtdadmnlenbdfbaaGreatMW9
import Derived.Test.YtdadmnlenbdfbaaGreatMTA
set_option linter.unusedSimpArgs false
set_option linter.unusedVariables false
namespace Go.Proofs.YtdadmnlenbdfbaaGreat
open Go.Sl Go
attribute [local irreducible] vc opsW opsD opV opW PureV ReadV Thn Blk
set_option maxRecDepth 8000 in
theorem qbl {w0:World}(x:Int) :
  Calls Tryz.prog 69 #[.int .i64 x] w0 fun e w'=>e=.returned (frcV (whF x))∧Sat w0 w' []:=by
 have hw:=Sat.start w0
 refine qaf (args:=[.int .i64 x]) mixed Tryz.func69 rfl (by kernel_rfl) (Nat.le_of_ble_eq_true rfl) ?_
 repeat (first|refine qac ?_|(refine qaa ?_;clear hw;intro p w hw)|(refine qad ?_;clear hw;intro w hw)|(refine qab ?_;clear hw;intro s w hw))
 exact qbK (p:=p) (vs:=[.int .i64 x,.int .i64 1]) rfl rfl rfl (hw.boxR 0 rfl) ⟨rfl,hw.sel⟩
set_option maxRecDepth 8000 in
theorem qiG {w0:World}(x:Int) :
  Calls Tryz.prog 81 #[.int .i64 x] w0 fun e w'=>(∃ r,e=.returned (.bool r)∧(r=true↔x<0∨1048576<x))∧Sat w0 w' []:=by
 have hw:=Sat.start w0
 refine qaf (args:=[.int .i64 x]) mixed Tryz.func81 rfl (by kernel_rfl) (Nat.le_of_ble_eq_true rfl) ?_
 repeat (first|refine qac ?_|(refine qaa ?_;clear hw;intro p w hw)|(refine qad ?_;clear hw;intro w hw)|(refine qab ?_;clear hw;intro s w hw))
 exact qai (v:=.bool (decide (x<0) || decide (1048576<x))) rfl rfl ⟨⟨_,rfl,by rw [Bool.or_eq_true,decide_eq_true_eq,decide_eq_true_eq]⟩,hw⟩
theorem qjP {n:Nat}{C:List (List Int)}{k:Nat}(hk:k<C.length):chkL n (C.drop k)=if C.getD k []=[] then 3 else if okOps n (C.getD k []) then chkL n (C.drop (k+1)) else 2:=by
 rw [qaR [] hk]
 conv=>lhs;unfold chkL
set_option maxRecDepth 8000 in
set_option maxHeartbeats 4000000 in
theorem qcB {w0:World}{cv ov:Value}{costs:List Int}{cs:List CutV}{C:List (List Int)}(hc:RS tInt w0 cv costs) (hcr:∀ x∈costs,0≤x∧x≤1048576) (hC:RCut w0 ov cs C) :
  Calls Tryz.prog 68 #[cv,ov] w0 fun e w'=>e=.returned (errV (chkC costs.length C))∧Sat w0 w' []:=by
 obtain⟨hCr,hCl,hCo⟩:=hC
 have hcb:=hc.big
 obtain⟨R,hR⟩:∃ R,R=chkC costs.length C:=⟨_,rfl⟩
 rw [←hR]
 have hw:=Sat.start w0
 refine qaf (args:=[cv,ov]) mixed Tryz.func68 rfl (by kernel_rfl) (Nat.le_of_ble_eq_true rfl) ?_
 repeat (first|refine qac ?_|(refine qaa ?_;clear hw;intro p w hw)|(refine qad ?_;clear hw;intro w hw)|(refine qab ?_;clear hw;intro s w hw))
 refine qag rfl (qkd (f:=81) (cs:=[]) (P:=fun x=>x<0∨1048576<x) (hc.at hw) fun w Γ hw x hx=>qiG x) ?_
 rintro _ w' ⟨⟨r,rfl,hr⟩,hk'⟩
 replace hw:=hw.call0 hk'
 clear hk'
 refine⟨_,rfl,?_⟩
 obtain rfl:r=false:=Bool.eq_false_iff.2 fun h=>by
  obtain⟨x,hx,h2⟩:=hr.1 h
  have:=hcr x hx
  omega
 repeat (first|refine qac ?_|(refine qaa ?_;clear hw;intro p w hw)|(refine qad ?_;clear hw;intro w hw)|(refine qab ?_;clear hw;intro s w hw))
 unfold chkC at hR
 refine go_if (fun h5 => ?_) (fun h5 => ?_)
 ·rw [if_pos (by omega)] at hR
  repeat (first|refine qac ?_|(refine qaa ?_;clear hw;intro p w hw)|(refine qad ?_;clear hw;intro w hw)|(refine qab ?_;clear hw;intro s w hw))
  exact qai (v:=.iface 35 (.int .i64 5)) rfl rfl ⟨by rw [hR,qaj (by decide)],qas hw⟩
 rw [if_neg (by omega)] at hR
 repeat (first|refine qac ?_|(refine qaa ?_;clear hw;intro p w hw)|(refine qad ?_;clear hw;intro w hw)|(refine qab ?_;clear hw;intro s w hw))
 refine qao [4,6,7,8,18,19,20,21,22,23,24,25,26,27,28,29,30,31,32,33,34,35,36,37,38,39,40,41,42,43,44,45,46,47,48,49,50,51,52,53,54,55,56,57,58,59] (G:=Nat) (fun k=>[(18,.int .i64 k)]) (fun k w=>k≤cs.length∧R=chkL costs.length (C.drop k)∧Sat w0 w []) (fun k=>cs.length-k) 0 (fun _=>rfl) ⟨rfl,trivial⟩ ⟨Nat.zero_le _,hR,hw⟩ ?_
 clear hw hR
 rintro σ k w ⟨hk,hR,hw⟩
 repeat (first|refine qac ?_|(refine qaa ?_;clear hw;intro p w hw)|(refine qad ?_;clear hw;intro w hw)|(refine qab ?_;clear hw;intro s w hw))
 refine go_if (fun h1 => ?_) (fun h1 => ?_)
 ·have hkl:k<cs.length:=by omega
  have hkC:k<C.length:=by omega
  have hop:=hCo k hkC
  have hone:=hop.one
  have houk:(tCut.enc (eget tCut cs k)).all Value.oneCell'=true:=by
   show ((eget tCut cs k).ops.oneCell' && ((Value.int .i64 (eget tCut cs k).cost).oneCell' && true))=true
   rw [hone];rfl
  have hen:tCut.enc (eget tCut cs k)=[(eget tCut cs k).ops,.int .i64 (eget tCut cs k).cost]:=rfl
  rw [qjP hkC] at hR
  obtain⟨c,hcd⟩:∃ c,c=C.getD k []:=⟨_,rfl⟩
  rw [←hcd] at hR hop
  have hob:=hop.big
  repeat (first|refine qac ?_|(refine qaa ?_;clear hw;intro p w hw)|(refine qad ?_;clear hw;intro w hw)|(refine qab ?_;clear hw;intro s w hw))
  refine go_if (fun h2 => ?_) (fun h2 => ?_)
  ·have hnil:c=[]:=List.length_eq_zero_iff.1 (by omega)
   rw [if_pos hnil] at hR
   repeat (first|refine qac ?_|(refine qaa ?_;clear hw;intro p w hw)|(refine qad ?_;clear hw;intro w hw)|(refine qab ?_;clear hw;intro s w hw))
   exact qai (v:=.iface 35 (.int .i64 3)) rfl rfl ⟨by rw [hR,qaj (by decide)],qas hw⟩
  have hne:c≠[]:=fun h=>by rw [h] at h2;simp at h2
  repeat (first|refine qac ?_|(refine qaa ?_;clear hw;intro p w hw)|(refine qad ?_;clear hw;intro w hw)|(refine qab ?_;clear hw;intro s w hw))
  rw [hen] at hw
  obtain⟨p6,rfl⟩:∃ x,x=p:=⟨_,rfl⟩
  refine qao [4,7,8,30,31,32,33,34,35,36,37,38,39,40,41,42,43,44,45,46,47,48,49,50,51,52,53,54,55,56,57,58] (G:=Nat) (fun i=>[(30,.int .i64 i)]) (fun i w=>i≤c.length∧(∀ j,j<i→okOp costs.length c j)∧Sat w0 w [Box p6 103 [(eget tCut cs k).ops,.int .i64 (eget tCut cs k).cost]]) (fun i=>c.length-i) 0 (fun _=>rfl) ⟨rfl,trivial⟩ ⟨Nat.zero_le _,fun j hj=>absurd hj (Nat.not_lt_zero _),hw⟩ ?_
  clear hw
  rintro σ1 i w ⟨hi,hpre,hw⟩
  repeat (first|refine qac ?_|(refine qaa ?_;clear hw;intro p w hw)|(refine qad ?_;clear hw;intro w hw)|(refine qab ?_;clear hw;intro s w hw))
  refine go_if (fun h3 => ?_) (fun h3 => ?_)
  ·have hil:i<c.length:=by omega
   have hcg:∀ o,okOp costs.length c i↔(0≤c.getD i tInt.dflt∧c.getD i tInt.dflt<costs.length∧(0<i→c.getD (i-1) tInt.dflt<c.getD i tInt.dflt)):=fun o:Unit=>Iff.rfl
   have hno:¬okOp costs.length c i→¬okOps costs.length c:=fun h h2=>h (h2 i hil)
   by_cases q1:c.getD i tInt.dflt<0
   ·have hno:=hno fun h=>by have:=h.1;omega
    have hd1:decide (c.getD i tInt.dflt<0)=true:=decide_eq_true q1
    repeat (first|refine qac ?_|(refine qaa ?_;clear hw;intro p w hw)|(refine qae ?_;clear hw;intro w hw)|(refine qab ?_;clear hw;intro s w hw))
    simp only [hd1,beq_self_eq_true,qap,qaq,Bool.false_and,Bool.true_and,Bool.and_true,Bool.and_false,Bool.false_or,Bool.true_or,Bool.or_false,Bool.not_true,Bool.not_false,Bool.cond_true,Bool.cond_false,gv_fF,gv_tF]
    have hR:R=2:=by rw [hR,if_neg hne,if_neg hno]
    repeat (first|refine qac ?_|(refine qaa ?_;clear hw;intro p w hw)|(refine qad ?_;clear hw;intro w hw)|(refine qab ?_;clear hw;intro s w hw))
    exact qai (v:=.iface 35 (.int .i64 2)) rfl rfl ⟨by rw [hR,qaj (by decide)],qas hw⟩
   have hd1:decide (c.getD i tInt.dflt<0)=false:=decide_eq_false q1
   by_cases q2:(costs.length:Int)≤c.getD i tInt.dflt
   ·have hno:=hno fun h=>by have:=h.2.1;omega
    have hd2:decide ((costs.length:Int)≤c.getD i tInt.dflt)=true:=decide_eq_true q2
    repeat (first|refine qac ?_|(refine qaa ?_;clear hw;intro p w hw)|(refine qae ?_;clear hw;intro w hw)|(refine qab ?_;clear hw;intro s w hw))
    simp only [hd1,hd2,beq_self_eq_true,qap,qaq,Bool.false_and,Bool.true_and,Bool.and_true,Bool.and_false,Bool.false_or,Bool.true_or,Bool.or_false,Bool.not_true,Bool.not_false,Bool.cond_true,Bool.cond_false,gv_fF,gv_tF]
    have hR:R=2:=by rw [hR,if_neg hne,if_neg hno]
    repeat (first|refine qac ?_|(refine qaa ?_;clear hw;intro p w hw)|(refine qad ?_;clear hw;intro w hw)|(refine qab ?_;clear hw;intro s w hw))
    exact qai (v:=.iface 35 (.int .i64 2)) rfl rfl ⟨by rw [hR,qaj (by decide)],qas hw⟩
   have hd2:decide ((costs.length:Int)≤c.getD i tInt.dflt)=false:=decide_eq_false q2
   by_cases q3:0<i
   ·have hd3:decide ((0:Int)<(i:Int))=true:=decide_eq_true (by omega)
    have ei:((i:Int)-1).toNat=i-1:=by omega
    by_cases q4:c.getD i tInt.dflt≤c.getD (i-1) tInt.dflt
    ·have hno:=hno fun h=>by have:=h.2.2 q3;omega
     have hd4:decide (c.getD i tInt.dflt≤c.getD (i-1) tInt.dflt)=true:=decide_eq_true q4
     repeat (first|refine qac ?_|(refine qaa ?_;clear hw;intro p w hw)|(refine qae ?_;clear hw;intro w hw)|(refine qab ?_;clear hw;intro s w hw))
     simp only [hd1,hd2,hd3,beq_self_eq_true,qap,qaq,Bool.false_and,Bool.true_and,Bool.and_true,Bool.and_false,Bool.false_or,Bool.true_or,Bool.or_false,Bool.not_true,Bool.not_false,Bool.cond_true,Bool.cond_false,gv_fF,gv_tF]
     repeat (first|refine qac ?_|(refine qaa ?_;clear hw;intro p w hw)|(refine qae ?_;clear hw;intro w hw)|(refine qab ?_;clear hw;intro s w hw))
     simp only [ei,hd4,beq_self_eq_true,qap,qaq,Bool.false_and,Bool.true_and,Bool.and_true,Bool.and_false,Bool.false_or,Bool.true_or,Bool.or_false,Bool.not_true,Bool.not_false,Bool.cond_true,Bool.cond_false,gv_fF,gv_tF]
     have hR:R=2:=by rw [hR,if_neg hne,if_neg hno]
     repeat (first|refine qac ?_|(refine qaa ?_;clear hw;intro p w hw)|(refine qad ?_;clear hw;intro w hw)|(refine qab ?_;clear hw;intro s w hw))
     exact qai (v:=.iface 35 (.int .i64 2)) rfl rfl ⟨by rw [hR,qaj (by decide)],qas hw⟩
    have hd4:decide (c.getD i tInt.dflt≤c.getD (i-1) tInt.dflt)=false:=decide_eq_false q4
    repeat (first|refine qac ?_|(refine qaa ?_;clear hw;intro p w hw)|(refine qae ?_;clear hw;intro w hw)|(refine qab ?_;clear hw;intro s w hw))
    simp only [hd1,hd2,hd3,beq_self_eq_true,qap,qaq,Bool.false_and,Bool.true_and,Bool.and_true,Bool.and_false,Bool.false_or,Bool.true_or,Bool.or_false,Bool.not_true,Bool.not_false,Bool.cond_true,Bool.cond_false,gv_fF,gv_tF]
    repeat (first|refine qac ?_|(refine qaa ?_;clear hw;intro p w hw)|(refine qae ?_;clear hw;intro w hw)|(refine qab ?_;clear hw;intro s w hw))
    simp only [ei,hd4,beq_self_eq_true,qap,qaq,Bool.false_and,Bool.true_and,Bool.and_true,Bool.and_false,Bool.false_or,Bool.true_or,Bool.or_false,Bool.not_true,Bool.not_false,Bool.cond_true,Bool.cond_false,gv_fF,gv_tF]
    repeat (first|refine qac ?_|(refine qaa ?_;clear hw;intro p w hw)|(refine qad ?_;clear hw;intro w hw)|(refine qab ?_;clear hw;intro s w hw))
    refine⟨i+1,⟨rfl,trivial⟩,agr,⟨by omega,fun j hj => ?_,hw⟩,by omega⟩
    by_cases e:j=i
    ·rw [e];exact⟨by omega,by omega,fun _=>by omega⟩
    ·exact hpre j (by omega)
   have hd3:decide ((0:Int)<(i:Int))=false:=decide_eq_false (by omega)
   repeat (first|refine qac ?_|(refine qaa ?_;clear hw;intro p w hw)|(refine qae ?_;clear hw;intro w hw)|(refine qab ?_;clear hw;intro s w hw))
   simp only [hd1,hd2,hd3,beq_self_eq_true,qap,qaq,Bool.false_and,Bool.true_and,Bool.and_true,Bool.and_false,Bool.false_or,Bool.true_or,Bool.or_false,Bool.not_true,Bool.not_false,Bool.cond_true,Bool.cond_false,gv_fF,gv_tF]
   repeat (first|refine qac ?_|(refine qaa ?_;clear hw;intro p w hw)|(refine qad ?_;clear hw;intro w hw)|(refine qab ?_;clear hw;intro s w hw))
   refine⟨i+1,⟨rfl,trivial⟩,agr,⟨by omega,fun j hj => ?_,hw⟩,by omega⟩
   by_cases e:j=i
   ·rw [e];exact⟨by omega,by omega,fun h=>absurd h q3⟩
   ·exact hpre j (by omega)
  have hok:okOps costs.length c:=fun j hj=>hpre j (by omega)
  rw [if_neg hne,if_pos hok] at hR
  repeat (first|refine qac ?_|(refine qaa ?_;clear hw;intro p w hw)|(refine qad ?_;clear hw;intro w hw)|(refine qab ?_;clear hw;intro s w hw))
  exact⟨k+1,⟨rfl,trivial⟩,agr,⟨by omega,hR,qas hw⟩,by omega⟩
 rw [List.drop_eq_nil_of_le (by omega)] at hR
 repeat (first|refine qac ?_|(refine qaa ?_;clear hw;intro p w hw)|(refine qad ?_;clear hw;intro w hw)|(refine qab ?_;clear hw;intro s w hw))
 exact qai (v:=.nilIface) rfl rfl ⟨by rw [hR,chkL,qam rfl],hw⟩
end Go.Proofs.YtdadmnlenbdfbaaGreat
