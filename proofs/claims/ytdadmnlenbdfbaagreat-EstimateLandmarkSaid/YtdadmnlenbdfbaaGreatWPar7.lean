/-
  Contracts of partition.of and Heuristic.
-/
import Derived.Test.YtdadmnlenbdfbaaGreatWPar2
import Derived.Test.YtdadmnlenbdfbaaGreatWPar3
import Derived.Test.YtdadmnlenbdfbaaGreatWPar6
import Derived.Test.YtdadmnlenbdfbaaGreatWErrIs
import Derived.Test.YtdadmnlenbdfbaaGreatWLmk6
set_option linter.unusedSimpArgs false
set_option linter.unusedVariables false
namespace Go.Proofs.YtdadmnlenbdfbaaGreat
open Go.Sl Go
attribute [local irreducible] vc opsW opsD opV opW PureV ReadV Thn Blk
set_option maxRecDepth 8000 in
set_option maxHeartbeats 4000000 in
theorem qhS {w0:World}{cv ov:Value}{costs:List Int}{cs:List CutV}{C:List (List Int)}{kind:Int}(hk1:1≤kind) (hk3:kind≤3) (hc:RS tInt w0 cv costs) (hcb:costs.length≤4096) (hcr:∀ x∈costs,0≤x∧x≤1048576) (hC:RCut w0 ov cs C) :
  Calls Tryz.prog 26 #[.int .i64 kind,cv,ov] w0 fun e w'=>e=.returned (.tuple #[.int .i64 (ofV kind costs C).2,errV (ofV kind costs C).1])∧Sat w0 w' []:=by
 obtain⟨R,hR⟩:∃ R,R=ofV kind costs C:=⟨_,rfl⟩
 obtain⟨V,hV⟩:∃ V,V=valsV kind costs C:=⟨_,rfl⟩
 rw [←hR]
 unfold ofV at hR
 rw [←hV] at hR
 have hw:=Sat.start w0
 refine qaf (args:=[.int .i64 kind,cv,ov]) mixed Tryz.func26 rfl (by kernel_rfl) (Nat.le_of_ble_eq_true rfl) ?_
 have hk:kind=1∨kind=2∨kind=3:=by omega
 rcases hk with rfl|rfl|rfl
 ·repeat (first|refine qac ?_|(refine qaa ?_;clear hw;intro p w hw)|(refine qad ?_;clear hw;intro w hw)|(refine qab ?_;clear hw;intro s w hw))
  refine qag rfl (qgi (hc.at hw) hcb hcr (hC.at hw)) ?_
  rintro _ w' ⟨lv,rfl,hk'⟩
  rw [←hV] at hk' ⊢
  replace hw:=hw.call1 hk'
  clear hk'
  refine⟨_,rfl,?_⟩
  by_cases he:V.1=0
  ·rw [if_pos he] at hR
   rw [qam he]
   repeat (first|refine qac ?_|(refine qaa ?_;clear hw;intro p w hw)|(refine qad ?_;clear hw;intro w hw)|(refine qab ?_;clear hw;intro s w hw))
   refine qag rfl (qcx (rsO (s:=lv) hw)) ?_
   rintro _ w' ⟨rfl,hk'⟩;replace hw:=hw.call0 hk';clear hk';refine⟨_,rfl,?_⟩
   rw [←hR]
   by_cases he2:R.1=0
   ·rw [qam he2]
    repeat (first|refine qac ?_|(refine qaa ?_;clear hw;intro p w hw)|(refine qad ?_;clear hw;intro w hw)|(refine qab ?_;clear hw;intro s w hw))
    exact qaw (v:=.int .i64 R.2) (v':=.nilIface) rfl rfl rfl ⟨rfl,qas hw⟩
   ·rw [qaj he2]
    repeat (first|refine qac ?_|(refine qaa ?_;clear hw;intro p w hw)|(refine qad ?_;clear hw;intro w hw)|(refine qab ?_;clear hw;intro s w hw))
    exact qaw (v:=.int .i64 R.2) (v':=.iface 35 (.int .i64 R.1)) rfl rfl rfl ⟨rfl,qas hw⟩
  ·rw [if_neg he] at hR
   rw [qaj he]
   repeat (first|refine qac ?_|(refine qaa ?_;clear hw;intro p w hw)|(refine qad ?_;clear hw;intro w hw)|(refine qab ?_;clear hw;intro s w hw))
   rw [hR]
   exact qaw (v:=.int .i64 0) (v':=.iface 35 (.int .i64 V.1)) rfl rfl rfl ⟨by rw [qaj he],qas hw⟩
 ·repeat (first|refine qac ?_|(refine qaa ?_;clear hw;intro p w hw)|(refine qad ?_;clear hw;intro w hw)|(refine qab ?_;clear hw;intro s w hw))
  refine qag rfl (qfx (hc.at hw) hcb hcr (hC.at hw)) ?_
  rintro _ w' ⟨lv,rfl,hk'⟩
  rw [←hV] at hk' ⊢
  replace hw:=hw.call1 hk'
  clear hk'
  refine⟨_,rfl,?_⟩
  by_cases he:V.1=0
  ·rw [if_pos he] at hR
   rw [qam he]
   repeat (first|refine qac ?_|(refine qaa ?_;clear hw;intro p w hw)|(refine qad ?_;clear hw;intro w hw)|(refine qab ?_;clear hw;intro s w hw))
   refine qag rfl (qcx (rsO (s:=lv) hw)) ?_
   rintro _ w' ⟨rfl,hk'⟩;replace hw:=hw.call0 hk';clear hk';refine⟨_,rfl,?_⟩
   rw [←hR]
   by_cases he2:R.1=0
   ·rw [qam he2]
    repeat (first|refine qac ?_|(refine qaa ?_;clear hw;intro p w hw)|(refine qad ?_;clear hw;intro w hw)|(refine qab ?_;clear hw;intro s w hw))
    exact qaw (v:=.int .i64 R.2) (v':=.nilIface) rfl rfl rfl ⟨rfl,qas hw⟩
   ·rw [qaj he2]
    repeat (first|refine qac ?_|(refine qaa ?_;clear hw;intro p w hw)|(refine qad ?_;clear hw;intro w hw)|(refine qab ?_;clear hw;intro s w hw))
    exact qaw (v:=.int .i64 R.2) (v':=.iface 35 (.int .i64 R.1)) rfl rfl rfl ⟨rfl,qas hw⟩
  ·rw [if_neg he] at hR
   rw [qaj he]
   repeat (first|refine qac ?_|(refine qaa ?_;clear hw;intro p w hw)|(refine qad ?_;clear hw;intro w hw)|(refine qab ?_;clear hw;intro s w hw))
   rw [hR]
   exact qaw (v:=.int .i64 0) (v':=.iface 35 (.int .i64 V.1)) rfl rfl rfl ⟨by rw [qaj he],qas hw⟩
 ·repeat (first|refine qac ?_|(refine qaa ?_;clear hw;intro p w hw)|(refine qad ?_;clear hw;intro w hw)|(refine qab ?_;clear hw;intro s w hw))
  refine qag rfl (qfs (hc.at hw) hcb hcr (hC.at hw)) ?_
  rintro _ w' ⟨lv,rfl,hk'⟩
  rw [←hV] at hk' ⊢
  replace hw:=hw.call1 hk'
  clear hk'
  refine⟨_,rfl,?_⟩
  by_cases he:V.1=0
  ·rw [if_pos he] at hR
   rw [qam he]
   repeat (first|refine qac ?_|(refine qaa ?_;clear hw;intro p w hw)|(refine qad ?_;clear hw;intro w hw)|(refine qab ?_;clear hw;intro s w hw))
   refine qag rfl (qcx (rsO (s:=lv) hw)) ?_
   rintro _ w' ⟨rfl,hk'⟩;replace hw:=hw.call0 hk';clear hk';refine⟨_,rfl,?_⟩
   rw [←hR]
   by_cases he2:R.1=0
   ·rw [qam he2]
    repeat (first|refine qac ?_|(refine qaa ?_;clear hw;intro p w hw)|(refine qad ?_;clear hw;intro w hw)|(refine qab ?_;clear hw;intro s w hw))
    exact qaw (v:=.int .i64 R.2) (v':=.nilIface) rfl rfl rfl ⟨rfl,qas hw⟩
   ·rw [qaj he2]
    repeat (first|refine qac ?_|(refine qaa ?_;clear hw;intro p w hw)|(refine qad ?_;clear hw;intro w hw)|(refine qab ?_;clear hw;intro s w hw))
    exact qaw (v:=.int .i64 R.2) (v':=.iface 35 (.int .i64 R.1)) rfl rfl rfl ⟨rfl,qas hw⟩
  ·rw [if_neg he] at hR
   rw [qaj he]
   repeat (first|refine qac ?_|(refine qaa ?_;clear hw;intro p w hw)|(refine qad ?_;clear hw;intro w hw)|(refine qab ?_;clear hw;intro s w hw))
   rw [hR]
   exact qaw (v:=.int .i64 0) (v':=.iface 35 (.int .i64 V.1)) rfl rfl rfl ⟨by rw [qaj he],qas hw⟩
end Go.Proofs.YtdadmnlenbdfbaaGreat
