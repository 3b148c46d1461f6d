/-
  Contracts of 'slices.Equal' over ints and facts, and of 'idastar.key'.
-/
import Derived.Test.YtggdgcmjcahbbaaGreatDoorMW3
import Derived.Test.YtggdgcmjcahbbaaGreatDoorMTA
set_option linter.unusedSimpArgs false
set_option linter.unusedVariables false
namespace Go.Proofs.YtggdgcmjcahbbaaGreatDoor
open Go.Sl Go
attribute [local irreducible] vc opsW opsD opV opW PureV ReadV Thn Blk
theorem qgb {α:Type}{d:α}{A B:List α}(hl:A.length=B.length) (h:∀ i,i<A.length→A.getD i d=B.getD i d):A=B:=by
 apply List.ext_getElem hl
 intro i h1 h2
 have:=h i h1
 rwa [qak h1,qak h2] at this
instance inWEq2:IntT Tryz.prog 3 .i64:=⟨by kernel_rfl⟩
theorem qm8 {x y:Fact}(h1:x.var=y.var) (h2:x.val=y.val):x=y:=by cases x;cases y;simp_all
instance inWEq3:EqIntsT Tryz.prog 88 2:=⟨by kernel_rfl⟩
set_option maxRecDepth 8000 in
set_option maxHeartbeats 2000000 in
theorem qcY {w0:World}{xa xb:Value}{A B:List Fact}(hA:RS tFact w0 xa A) (hB:RS tFact w0 xb B) :
  Calls Tryz.prog 71 #[xa,xb] w0 fun e w'=>(∃ r,e=.returned (.bool r)∧(r=true↔A=B))∧Sat w0 w' []:=by
 have hAb:=hA.big
 have hBb:=hB.big
 have hw:=Sat.start w0
 refine qab (args:=[xa,xb]) mixed Tryz.func71 rfl (by kernel_rfl) (Nat.le_of_ble_eq_true rfl) ?_
 repeat refine qaa ?_
 refine go_if (fun h1 => ?_) (fun h1 => ?_)
 ·repeat refine qaa ?_
  exact qae (v:=.bool false) rfl rfl ⟨⟨false,rfl,iffF fun e=>by rw [e] at h1;omega⟩,hw.sel⟩
 repeat refine qaa ?_
 refine qaj [4,5,13,14,15,16,17,18,19,20,21,22,23,24,25] (G:=Nat) (fun i=>[(13,.int .i64 i)]) (fun i w=>i≤A.length∧(∀ m,m<i→A.getD m tFact.dflt=B.getD m tFact.dflt)∧Sat w0 w []) (fun i=>A.length-i) 0 (fun _=>rfl) ⟨rfl,trivial⟩ ⟨Nat.zero_le _,fun i hi=>absurd hi (Nat.not_lt_zero _),hw.sel⟩ ?_
 clear hw
 rintro σ i w ⟨hi,hno,hw⟩
 repeat refine qaa ?_
 refine go_if (fun h2 => ?_) (fun h2 => ?_)
 ·have hil:i<A.length:=by omega
  repeat (first|refine qaa ?_|(refine qag ?_;clear hw;intro w hw))
  refine qai rfl (qkJ (us:=[(A.getD i tFact.dflt).var,(A.getD i tFact.dflt).val]) (zs:=[(B.getD i tFact.dflt).var,(B.getD i tFact.dflt).val]) rfl rfl rfl rfl) ?_
  by_cases h3:A.getD i tFact.dflt=B.getD i tFact.dflt
  ·have hd:decide ([(A.getD i tFact.dflt).var,(A.getD i tFact.dflt).val]=[(B.getD i tFact.dflt).var,(B.getD i tFact.dflt).val])=true:=decide_eq_true (by rw [h3])
   repeat refine qaC ?_
   simp only [hd,Bool.not_true]
   repeat refine qaa ?_
   refine⟨i+1,⟨rfl,trivial⟩,agr,⟨by omega,fun m hm => ?_,hw.sel⟩,by omega⟩
   by_cases e:m=i
   ·subst e;exact h3
   ·exact hno m (by omega)
  ·have hd:decide ([(A.getD i tFact.dflt).var,(A.getD i tFact.dflt).val]=[(B.getD i tFact.dflt).var,(B.getD i tFact.dflt).val])=false:=decide_eq_false fun e=>h3 (by
    injection e with e1 e2
    injection e2 with e2 _
    exact qm8 e1 e2)
   repeat refine qaC ?_
   simp only [hd,Bool.not_false]
   repeat refine qaa ?_
   exact qae (v:=.bool false) rfl rfl ⟨⟨false,rfl,iffF fun e=>h3 (by rw [e])⟩,hw.sel⟩
 have hie:i=A.length:=by omega
 subst hie
 repeat refine qaa ?_
 exact qae (v:=.bool true) rfl rfl ⟨⟨true,rfl,iffT (qgb (by omega) hno)⟩,hw.sel⟩
set_option maxRecDepth 8000 in
set_option maxHeartbeats 2000000 in
theorem qff {w0:World}{xa xb:Value}{A B:List Int}(hA:RS tInt w0 xa A) (hB:RS tInt w0 xb B) :
  Calls Tryz.prog 70 #[xa,xb] w0 fun e w'=>(∃ r,e=.returned (.bool r)∧(r=true↔A=B))∧Sat w0 w' []:=by
 have hAb:=hA.big
 have hBb:=hB.big
 have hw:=Sat.start w0
 refine qab (args:=[xa,xb]) mixed Tryz.func70 rfl (by kernel_rfl) (Nat.le_of_ble_eq_true rfl) ?_
 repeat refine qaa ?_
 refine go_if (fun h1 => ?_) (fun h1 => ?_)
 ·repeat refine qaa ?_
  exact qae (v:=.bool false) rfl rfl ⟨⟨false,rfl,iffF fun e=>by rw [e] at h1;omega⟩,hw.sel⟩
 repeat refine qaa ?_
 refine qaj [4,5,13,14,15,16,17,18,19,20,21,22,23,24,25] (G:=Nat) (fun i=>[(13,.int .i64 i)]) (fun i w=>i≤A.length∧(∀ m,m<i→A.getD m tInt.dflt=B.getD m tInt.dflt)∧Sat w0 w []) (fun i=>A.length-i) 0 (fun _=>rfl) ⟨rfl,trivial⟩ ⟨Nat.zero_le _,fun i hi=>absurd hi (Nat.not_lt_zero _),hw.sel⟩ ?_
 clear hw
 rintro σ i w ⟨hi,hno,hw⟩
 repeat refine qaa ?_
 refine go_if (fun h2 => ?_) (fun h2 => ?_)
 ·have hil:i<A.length:=by omega
  repeat (first|refine qaa ?_|(refine qag ?_;clear hw;intro w hw))
  refine go_if (fun h3 => ?_) (fun h3 => ?_)
  ·repeat refine qaa ?_
   exact qae (v:=.bool false) rfl rfl ⟨⟨false,rfl,iffF fun e=>by rw [e] at h3;exact h3 rfl⟩,hw.sel⟩
  ·repeat refine qaa ?_
   refine⟨i+1,⟨rfl,trivial⟩,agr,⟨by omega,fun m hm => ?_,hw.sel⟩,by omega⟩
   by_cases e:m=i
   ·subst e;exact h3
   ·exact hno m (by omega)
 have hie:i=A.length:=by omega
 subst hie
 repeat refine qaa ?_
 exact qae (v:=.bool true) rfl rfl ⟨⟨true,rfl,iffT (qgb (by omega) hno)⟩,hw.sel⟩
end Go.Proofs.YtggdgcmjcahbbaaGreatDoor
