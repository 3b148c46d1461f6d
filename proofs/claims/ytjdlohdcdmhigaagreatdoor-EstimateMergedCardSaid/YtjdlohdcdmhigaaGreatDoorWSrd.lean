/-
  Contract of 'slices.Sorted' over the values of a slice.
-/
import Derived.Test.YtjdlohdcdmhigaaGreatDoorWAps
import Derived.Test.YtjdlohdcdmhigaaGreatDoorMW3
import Derived.Test.YtjdlohdcdmhigaaGreatDoorMTA
set_option linter.unusedSimpArgs false
set_option linter.unusedVariables false
namespace Go.Proofs.YtjdlohdcdmhigaaGreatDoor
open Go.Sl Go
attribute [local irreducible] vc opsW opsD opV opW PureV ReadV Thn Blk
theorem qjF (n:Nat):sortL (sameL n)=sameL n:=by
 unfold sortL
 refine List.mergeSort_of_pairwise ?_
 unfold sameL
 rw [List.pairwise_map]
 exact List.pairwise_lt_range.imp fun h=>by simp;omega
theorem qhm {w0:World}{pb:Addr}{a:Value}{L:List Int}(hc:w0.cell? pb=some a) (ha:RS tInt w0 a L) (hl:L.length≤4096) :
  Calls Tryz.prog 78 #[.func (.func 80) #[] #[.pointer (some pb)]] w0 fun e w'=>∃ s,e=.returned s∧Sat w0 w' [OS tInt 3 s L]:=by
 have hw:=Sat.start w0
 refine qaf (args:=[.func (.func 80) #[] #[.pointer (some pb)]]) mixed Tryz.func78 rfl (by kernel_rfl) (Nat.le_of_ble_eq_true rfl) ?_
 repeat (first|refine qac ?_|(refine qaa ?_;clear hw;intro p w hw)|(refine qae ?_;clear hw;intro w hw)|(refine qab ?_;clear hw;intro s w hw))
 refine qah rfl (qe9 (qct hc hw) (ha.at hw) hl) ?_
 rintro _ w' ⟨s,rfl,hk'⟩;replace hw:=hw.call1 hk';clear hk';refine⟨_,rfl,?_⟩
 repeat (first|refine qac ?_|(refine qaa ?_;clear hw;intro p w hw)|(refine qae ?_;clear hw;intro w hw)|(refine qab ?_;clear hw;intro s w hw))
 exact qai (v:=s) rfl rfl ⟨s,rfl,hw⟩
theorem qig {w0:World}{pb:Addr}{a:Value}{L:List Int}(hc:w0.cell? pb=some a) (ha:RS tInt w0 a L) (hl:L.length≤4096) :
  Calls Tryz.prog 47 #[.func (.func 80) #[] #[.pointer (some pb)]] w0 fun e w'=>∃ s,e=.returned s∧Sat w0 w' [OS tInt 3 s (sortL L)]:=by
 have hw:=Sat.start w0
 refine qaf (args:=[.func (.func 80) #[] #[.pointer (some pb)]]) mixed Tryz.func47 rfl (by kernel_rfl) (Nat.le_of_ble_eq_true rfl) ?_
 repeat (first|refine qac ?_|(refine qaa ?_;clear hw;intro p w hw)|(refine qae ?_;clear hw;intro w hw)|(refine qab ?_;clear hw;intro s w hw))
 refine qah rfl (qhm (qct hc hw) (ha.at hw) hl) ?_
 rintro _ w' ⟨s,rfl,hk'⟩;replace hw:=hw.call1 hk';clear hk';refine⟨_,rfl,?_⟩
 repeat (first|refine qac ?_|(refine qaa ?_;clear hw;intro p w hw)|(refine qae ?_;clear hw;intro w hw)|(refine qab ?_;clear hw;intro s w hw))
 refine qah rfl (qeZ (s:=s) hw (by omega)) ?_
 rintro _ w' ⟨rfl,hw'⟩;clear hw;have hw:=hw';clear hw';refine⟨_,rfl,?_⟩
 repeat (first|refine qac ?_|(refine qaa ?_;clear hw;intro p w hw)|(refine qae ?_;clear hw;intro w hw)|(refine qab ?_;clear hw;intro s w hw))
 exact qai (v:=s) rfl rfl ⟨s,rfl,hw⟩
end Go.Proofs.YtjdlohdcdmhigaaGreatDoor
