/-
  Contract of fraction.Ceil.
-/
import Derived.Test.YtdadmnlenbdfbaaGreatWFrac7
set_option linter.unusedSimpArgs false
set_option linter.unusedVariables false
namespace Go.Proofs.YtdadmnlenbdfbaaGreat
open Go.Sl Go
attribute [local irreducible] vc opsW opsD opV opW PureV ReadV Thn Blk
set_option maxRecDepth 8000 in
set_option maxHeartbeats 4000000 in
theorem qiw {w0:World}(a:Frc) :
  Calls Tryz.prog 75 #[frcV a] w0 fun e w'=>e=.returned (.int .i64 (ceilF a))∧Sat w0 w' []:=by
 have hw:=Sat.start w0
 obtain⟨R,hR⟩:∃ R,R=ceilF a:=⟨_,rfl⟩
 rw [←hR]
 refine qaf (args:=[frcV a]) mixed Tryz.func75 rfl (by kernel_rfl) (Nat.le_of_ble_eq_true rfl) ?_
 repeat (first|refine qac ?_|(refine qaa ?_;clear hw;intro p w hw)|(refine qad ?_;clear hw;intro w hw)|(refine qab ?_;clear hw;intro s w hw))
 refine qag rfl (qcy a) ?_
 rintro _ w' ⟨rfl,hk'⟩;replace hw:=hw.call0 hk';clear hk';refine⟨_,rfl,?_⟩
 unfold ceilF at hR
 obtain⟨a1,a2,a3,a4,_⟩:=qgy a
 generalize vluF a=v at *
 have q:((v.num.tdiv v.den).natAbs:Int)≤v.num.natAbs:=by
  rw [Int.natAbs_tdiv]
  exact Int.ofNat_le.2 (Nat.div_le_self ..)
 have m:=qcG (x:=v.num.tdiv v.den) (y:=v.den) (X:=1099511627776) (Y:=1048576) (by omega) (by omega) (by omega) a2
 repeat (first|refine qac ?_|(refine qaa ?_;clear hw;intro p w hw)|(refine qad ?_;clear hw;intro w hw)|(refine qab ?_;clear hw;intro s w hw))
 refine go_if (fun h1 => ?_) (fun h1 => ?_)
 ·rw [if_pos h1] at hR
  repeat (first|refine qac ?_|(refine qaa ?_;clear hw;intro p w hw)|(refine qad ?_;clear hw;intro w hw)|(refine qab ?_;clear hw;intro s w hw))
  exact qai (v:=.int .i64 (v.num.tdiv v.den+1)) rfl rfl ⟨by rw [hR],hw.sel⟩
 rw [if_neg (by omega)] at hR
 repeat (first|refine qac ?_|(refine qaa ?_;clear hw;intro p w hw)|(refine qad ?_;clear hw;intro w hw)|(refine qab ?_;clear hw;intro s w hw))
 exact qai (v:=.int .i64 (v.num.tdiv v.den)) rfl rfl ⟨by rw [hR],hw.sel⟩
end Go.Proofs.YtdadmnlenbdfbaaGreat
