/-
  Contracts of simplex's positive, zero, proper, leaving.
-/
import Derived.Test.YtdadmnlenbdfbaaGreatWSimp3
import Derived.Test.YtdadmnlenbdfbaaGreatMW17
set_option linter.unusedSimpArgs false
set_option linter.unusedVariables false
namespace Go.Proofs.YtdadmnlenbdfbaaGreat
open Go.Sl Go
attribute [local irreducible] vc opsW opsD opV opW PureV ReadV Thn Blk
set_option maxRecDepth 8000 in
theorem qgm {w0:World}(f:Frc) :
  Calls Tryz.prog 90 #[frcV f] w0 fun e w'=>e=.returned (.bool (decide (0<f.num)))∧Sat w0 w' []:=by
 have hw:=Sat.start w0
 refine qaf (args:=[frcV f]) mixed Tryz.func90 rfl (by kernel_rfl) (Nat.le_of_ble_eq_true rfl) ?_
 repeat (first|refine qac ?_|(refine qaa ?_;clear hw;intro p w hw)|(refine qad ?_;clear hw;intro w hw)|(refine qab ?_;clear hw;intro s w hw))
 exact qai (v:=.bool (decide (0<f.num))) rfl rfl ⟨rfl,hw.sel⟩
set_option maxRecDepth 8000 in
theorem qbE {w0:World} :
  Calls Tryz.prog 93 #[] w0 fun e w'=>e=.returned (frcV f0F)∧Sat w0 w' []:=by
 have hw:=Sat.start w0
 refine qaf (args:=[]) mixed Tryz.func93 rfl (by kernel_rfl) (Nat.le_of_ble_eq_true rfl) ?_
 repeat (first|refine qac ?_|(refine qaa ?_;clear hw;intro p w hw)|(refine qad ?_;clear hw;intro w hw)|(refine qab ?_;clear hw;intro s w hw))
 exact qbK (p:=p) (vs:=[.int .i64 0,.int .i64 1]) rfl rfl rfl (hw.boxR 0 rfl) ⟨rfl,hw.sel⟩
set_option maxRecDepth 8000 in
set_option maxHeartbeats 4000000 in
theorem qdo {w0:World}{lv:Value}{l:List Frc}(hl:RS tFrc w0 lv l) :
  Calls Tryz.prog 99 #[lv] w0 fun e w'=>(∃ r,e=.returned (.bool r)∧(r=true↔∀ f∈l,PrpF f))∧Sat w0 w' []:=by
 have hw:=Sat.start w0
 have hll:=hl.big
 refine qaf (args:=[lv]) mixed Tryz.func99 rfl (by kernel_rfl) (Nat.le_of_ble_eq_true rfl) ?_
 repeat (first|refine qac ?_|(refine qaa ?_;clear hw;intro p w hw)|(refine qad ?_;clear hw;intro w hw)|(refine qab ?_;clear hw;intro s w hw))
 refine qao [2,4,7,8,9,10,11,12,13,14] (G:=Nat) (fun k=>[(7,.int .i64 k)]) (fun k w=>k≤l.length∧(∀ i,i<k→PrpF (l.getD i tFrc.dflt))∧Sat w0 w []) (fun k=>l.length-k) 0 (fun _=>rfl) ⟨rfl,trivial⟩ ⟨Nat.zero_le _,fun i hi=>absurd hi (Nat.not_lt_zero _),hw⟩ ?_
 clear hw
 rintro σ k w ⟨hk,hp,hw⟩
 repeat (first|refine qac ?_|(refine qaa ?_;clear hw;intro p w hw)|(refine qad ?_;clear hw;intro w hw)|(refine qab ?_;clear hw;intro s w hw))
 refine go_if (fun h1 => ?_) (fun h1 => ?_)
 ·have hkl:k<l.length:=by omega
  repeat (first|refine qac ?_|(refine qaa ?_;clear hw;intro p w hw)|(refine qad ?_;clear hw;intro w hw)|(refine qab ?_;clear hw;intro s w hw))
  refine qag rfl (qaz (l.getD k tFrc.dflt)) ?_
  rintro _ w' ⟨rfl,hk'⟩;replace hw:=hw.call0 hk';clear hk';refine⟨_,rfl,?_⟩
  by_cases hc:PrpF (l.getD k tFrc.dflt)
  ·rw [decide_eq_true hc]
   repeat (first|refine qac ?_|(refine qaa ?_;clear hw;intro p w hw)|(refine qad ?_;clear hw;intro w hw)|(refine qab ?_;clear hw;intro s w hw))
   refine⟨k+1,⟨rfl,trivial⟩,agr,⟨by omega,fun i hi => ?_,hw.sel⟩,by omega⟩
   by_cases e:i=k
   ·rw [e];exact hc
   ·exact hp i (by omega)
  ·rw [decide_eq_false hc]
   repeat (first|refine qac ?_|(refine qaa ?_;clear hw;intro p w hw)|(refine qad ?_;clear hw;intro w hw)|(refine qab ?_;clear hw;intro s w hw))
   exact qai (v:=.bool false) rfl rfl ⟨⟨false,rfl,iffF fun h=>hc (h _ (qan _ hkl))⟩,hw.sel⟩
 repeat (first|refine qac ?_|(refine qaa ?_;clear hw;intro p w hw)|(refine qad ?_;clear hw;intro w hw)|(refine qab ?_;clear hw;intro s w hw))
 refine qai (v:=.bool true) rfl rfl ⟨⟨true,rfl,iffT fun f hf => ?_⟩,hw.sel⟩
 obtain⟨i,hi,rfl⟩:=List.getElem_of_mem hf
 rw [←qak (d:=tFrc.dflt) hi]
 exact hp i (by omega)
end Go.Proofs.YtdadmnlenbdfbaaGreat
