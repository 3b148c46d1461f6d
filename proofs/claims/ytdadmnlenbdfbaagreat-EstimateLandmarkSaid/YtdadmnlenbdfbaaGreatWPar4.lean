/-
  Contracts of slices.Contains and Equal over Booleans.
-/
import Derived.Test.YtdadmnlenbdfbaaGreatMW3
import Derived.Test.YtdadmnlenbdfbaaGreatMW17
import Derived.Test.YtdadmnlenbdfbaaGreatMW19
set_option linter.unusedSimpArgs false
set_option linter.unusedVariables false
namespace Go.Proofs.YtdadmnlenbdfbaaGreat
open Go.Sl Go
attribute [local irreducible] vc opsW opsD opV opW PureV ReadV Thn Blk
set_option maxRecDepth 8000 in
theorem qha {w0:World}{a:Value}{xs:List Bool}(ha:RS tBool w0 a xs) :
  Calls Tryz.prog 98 #[a,.bool true] w0 fun e w'=>(∃ r:Int,e=.returned (.int .i64 r)∧(0≤r↔true∈xs))∧Sat w0 w' []:=by
 have hla:=ha.big
 have hw:=Sat.start w0
 refine qaf (args:=[a,.bool true]) mixed Tryz.func98 rfl (by kernel_rfl) (Nat.le_of_ble_eq_true rfl) ?_
 repeat (first|refine qac ?_|(refine qaa ?_;clear hw;intro p w hw)|(refine qad ?_;clear hw;intro w hw)|(refine qab ?_;clear hw;intro s w hw))
 refine qao [4,5,8,9,10,11,12,13,14,15,16,17,18] (G:=Nat) (fun k=>[(8,.int .i64 k)]) (fun k w=>k≤xs.length∧(∀ i,i<k→xs.getD i tBool.dflt≠true)∧Sat w0 w []) (fun k=>xs.length-k) 0 (fun _=>rfl) ⟨rfl,trivial⟩ ⟨Nat.zero_le _,fun i hi=>absurd hi (Nat.not_lt_zero _),hw⟩ ?_
 clear hw
 rintro σ k w ⟨hk,hpre,hw⟩
 repeat (first|refine qac ?_|(refine qaa ?_;clear hw;intro p w hw)|(refine qad ?_;clear hw;intro w hw)|(refine qab ?_;clear hw;intro s w hw))
 refine go_if (fun h1 => ?_) (fun h1 => ?_)
 ·have hkl:k<xs.length:=by omega
  cases hb:xs.getD k tBool.dflt
  ·repeat (first|refine qac ?_|(refine qaa ?_;clear hw;intro p w hw)|(refine qae ?_;clear hw;intro w hw)|(refine qab ?_;clear hw;intro s w hw))
   rw [hb]
   repeat (first|refine qac ?_|(refine qaa ?_;clear hw;intro p w hw)|(refine qad ?_;clear hw;intro w hw)|(refine qab ?_;clear hw;intro s w hw))
   refine⟨k+1,⟨rfl,trivial⟩,agr,⟨by omega,fun i hi => ?_,hw⟩,by omega⟩
   by_cases h:i=k
   ·rw [h,hb];decide
   ·exact hpre i (by omega)
  ·repeat (first|refine qac ?_|(refine qaa ?_;clear hw;intro p w hw)|(refine qae ?_;clear hw;intro w hw)|(refine qab ?_;clear hw;intro s w hw))
   rw [hb]
   repeat (first|refine qac ?_|(refine qaa ?_;clear hw;intro p w hw)|(refine qad ?_;clear hw;intro w hw)|(refine qab ?_;clear hw;intro s w hw))
   refine qai (v:=.int .i64 k) rfl rfl ⟨⟨k,rfl,⟨fun _ => ?_,fun _=>by omega⟩⟩,hw⟩
   rw [←hb];exact qan _ hkl
 ·repeat (first|refine qac ?_|(refine qaa ?_;clear hw;intro p w hw)|(refine qad ?_;clear hw;intro w hw)|(refine qab ?_;clear hw;intro s w hw))
  refine qai (v:=.int .i64 (-1)) rfl rfl ⟨⟨-1,rfl,⟨fun h=>by omega,fun h => ?_⟩⟩,hw⟩
  obtain⟨i,hi,he⟩:=List.mem_iff_getElem.1 h
  exact absurd (by rw [qak hi];exact he) (hpre i (by omega))
set_option maxRecDepth 8000 in
theorem qez {w0:World}{a:Value}{xs:List Bool}(ha:RS tBool w0 a xs) :
  Calls Tryz.prog 85 #[a,.bool true] w0 fun e w'=>e=.returned (.bool (decide (true∈xs)))∧Sat w0 w' []:=by
 have hw:=Sat.start w0
 refine qaf (args:=[a,.bool true]) mixed Tryz.func85 rfl (by kernel_rfl) (Nat.le_of_ble_eq_true rfl) ?_
 repeat (first|refine qac ?_|(refine qaa ?_;clear hw;intro p w hw)|(refine qad ?_;clear hw;intro w hw)|(refine qab ?_;clear hw;intro s w hw))
 refine qag rfl (qha ha) ?_
 rintro _ w' ⟨⟨r,rfl,hr⟩,hk'⟩
 replace hw:=hw.call0 hk'
 clear hk'
 refine⟨_,rfl,?_⟩
 repeat (first|refine qac ?_|(refine qaa ?_;clear hw;intro p w hw)|(refine qad ?_;clear hw;intro w hw)|(refine qab ?_;clear hw;intro s w hw))
 refine qai (v:=.bool (decide (0≤r))) rfl rfl ⟨?_,hw⟩
 rw [decide_eq_decide.2 hr]
theorem qk1 {A B:List Bool}(hl:A.length=B.length) (h:∀ i,i<A.length→A.getD i tBool.dflt=B.getD i tBool.dflt):A=B:=by
 refine List.ext_getElem hl fun i h1 h2 => ?_
 have:=h i h1
 rwa [qak h1,qak h2] at this
set_option maxRecDepth 8000 in
set_option maxHeartbeats 2000000 in
theorem qhb {w0:World}{xa xb:Value}{A B:List Bool}(hA:RS tBool w0 xa A) (hB:RS tBool w0 xb B) :
  Calls Tryz.prog 86 #[xa,xb] w0 fun e w'=>e=.returned (.bool (decide (A=B)))∧Sat w0 w' []:=by
 have hAb:=hA.big
 have hBb:=hB.big
 have hw:=Sat.start w0
 refine qaf (args:=[xa,xb]) mixed Tryz.func86 rfl (by kernel_rfl) (Nat.le_of_ble_eq_true rfl) ?_
 repeat (first|refine qac ?_|(refine qaa ?_;clear hw;intro p w hw)|(refine qad ?_;clear hw;intro w hw)|(refine qab ?_;clear hw;intro s w hw))
 refine go_if (fun h1 => ?_) (fun h1 => ?_)
 ·repeat (first|refine qac ?_|(refine qaa ?_;clear hw;intro p w hw)|(refine qad ?_;clear hw;intro w hw)|(refine qab ?_;clear hw;intro s w hw))
  exact qai (v:=.bool false) rfl rfl ⟨by rw [decide_eq_false fun e=>by rw [e] at h1;omega],hw.sel⟩
 repeat (first|refine qac ?_|(refine qaa ?_;clear hw;intro p w hw)|(refine qad ?_;clear hw;intro w hw)|(refine qab ?_;clear hw;intro s w hw))
 refine qao [4,5,13,14,15,16,17,18,19,20,21,22,23,24,25] (G:=Nat) (fun i=>[(13,.int .i64 i)]) (fun i w=>i≤A.length∧(∀ m,m<i→A.getD m tBool.dflt=B.getD m tBool.dflt)∧Sat w0 w []) (fun i=>A.length-i) 0 (fun _=>rfl) ⟨rfl,trivial⟩ ⟨Nat.zero_le _,fun m hm=>absurd hm (Nat.not_lt_zero _),hw⟩ ?_
 clear hw
 rintro σ i w ⟨hi,hno,hw⟩
 repeat (first|refine qac ?_|(refine qaa ?_;clear hw;intro p w hw)|(refine qad ?_;clear hw;intro w hw)|(refine qab ?_;clear hw;intro s w hw))
 refine go_if (fun h2 => ?_) (fun h2 => ?_)
 ·have hil:i<A.length:=by omega
  repeat (first|refine qac ?_|(refine qaa ?_;clear hw;intro p w hw)|(refine qad ?_;clear hw;intro w hw)|(refine qab ?_;clear hw;intro s w hw))
  refine go_if (fun h3 => ?_) (fun h3 => ?_)
  ·repeat (first|refine qac ?_|(refine qaa ?_;clear hw;intro p w hw)|(refine qad ?_;clear hw;intro w hw)|(refine qab ?_;clear hw;intro s w hw))
   exact qai (v:=.bool false) rfl rfl ⟨by rw [decide_eq_false fun e=>by rw [e] at h3;simp at h3],hw.sel⟩
  ·repeat (first|refine qac ?_|(refine qaa ?_;clear hw;intro p w hw)|(refine qad ?_;clear hw;intro w hw)|(refine qab ?_;clear hw;intro s w hw))
   refine⟨i+1,⟨rfl,trivial⟩,agr,⟨by omega,fun m hm => ?_,hw.sel⟩,by omega⟩
   by_cases e:m=i
   ·subst e;simpa using h3
   ·exact hno m (by omega)
 have hie:i=A.length:=by omega
 subst hie
 repeat (first|refine qac ?_|(refine qaa ?_;clear hw;intro p w hw)|(refine qad ?_;clear hw;intro w hw)|(refine qab ?_;clear hw;intro s w hw))
 exact qai (v:=.bool true) rfl rfl ⟨by rw [decide_eq_true (qk1 (by omega) hno)],hw.sel⟩
end Go.Proofs.YtdadmnlenbdfbaaGreat
