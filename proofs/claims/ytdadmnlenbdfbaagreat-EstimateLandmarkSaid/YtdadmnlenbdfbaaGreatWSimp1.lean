/-
  Contract of simplex.less.
-/
import Derived.Test.YtdadmnlenbdfbaaGreatWFrac9
import Derived.Test.YtdadmnlenbdfbaaGreatMTA
set_option linter.unusedSimpArgs false
set_option linter.unusedVariables false
namespace Go.Proofs.YtdadmnlenbdfbaaGreat
open Go.Sl Go
attribute [local irreducible] vc opsW opsD opV opW PureV ReadV Thn Blk
set_option maxRecDepth 8000 in
set_option maxHeartbeats 4000000 in
theorem qdp {w0:World}(x f y:Frc) :
  Calls Tryz.prog 103 #[frcV x,frcV f,frcV y] w0 fun e w'=>(∃ g,e=.returned (.tuple #[frcV g,errV (lessF x f y).1])∧((lessF x f y).1=0→g=(lessF x f y).2))∧Sat w0 w' []:=by
 have hw:=Sat.start w0
 obtain⟨R,hR⟩:∃ R,R=lessF x f y:=⟨_,rfl⟩
 rw [←hR]
 unfold lessF at hR
 refine qaf (args:=[frcV x,frcV f,frcV y]) mixed Tryz.func103 rfl (by kernel_rfl) (Nat.le_of_ble_eq_true rfl) ?_
 repeat (first|refine qac ?_|(refine qaa ?_;clear hw;intro p w hw)|(refine qad ?_;clear hw;intro w hw)|(refine qab ?_;clear hw;intro s w hw))
 refine qag rfl (qgn f y) ?_
 rintro _ w' ⟨rfl,hk'⟩;replace hw:=hw.call0 hk';clear hk';refine⟨_,rfl,?_⟩
 by_cases he:(mulF f y).1=0
 ·rw [if_pos he] at hR
  rw [qam he]
  repeat (first|refine qac ?_|(refine qaa ?_;clear hw;intro p w hw)|(refine qad ?_;clear hw;intro w hw)|(refine qab ?_;clear hw;intro s w hw))
  refine qag rfl (qj0 x (mulF f y).2) ?_
  rintro _ w' ⟨rfl,hk'⟩;replace hw:=hw.call0 hk';clear hk';refine⟨_,rfl,?_⟩
  rw [←hR]
  repeat (first|refine qac ?_|(refine qaa ?_;clear hw;intro p w hw)|(refine qad ?_;clear hw;intro w hw)|(refine qab ?_;clear hw;intro s w hw))
  exact qar (vs:=[.int .i64 R.2.num,.int .i64 R.2.den]) rfl rfl rfl rfl (hw.boxR 1 rfl) ⟨⟨R.2,rfl,fun _=>rfl⟩,hw.sel⟩
 ·rw [if_neg he] at hR
  rw [qaj he]
  repeat (first|refine qac ?_|(refine qaa ?_;clear hw;intro p w hw)|(refine qad ?_;clear hw;intro w hw)|(refine qab ?_;clear hw;intro s w hw))
  refine qau (vs:=[]) (ls:=[]) rfl rfl rfl ?_
  repeat (first|refine qac ?_|(refine qaa ?_;clear hw;intro p w hw)|(refine qad ?_;clear hw;intro w hw)|(refine qab ?_;clear hw;intro s w hw))
  subst hR
  rw [qaj he]
  exact qar (vs:=[.int .i64 0,.int .i64 0]) rfl rfl rfl rfl (hw.boxR 1 rfl) ⟨⟨⟨0,0⟩,rfl,fun _=>rfl⟩,hw.sel⟩
end Go.Proofs.YtdadmnlenbdfbaaGreat
