/-
  Contracts of fraction.value, Cmp and Ceil.
-/
import Derived.Test.YtdadmnlenbdfbaaGreatWFrac6
import Derived.Test.YtdadmnlenbdfbaaGreatMSlB
set_option linter.unusedSimpArgs false
set_option linter.unusedVariables false
namespace Go.Proofs.YtdadmnlenbdfbaaGreat
open Go.Sl Go
attribute [local irreducible] vc opsW opsD opV opW PureV ReadV Thn Blk
set_option maxRecDepth 8000 in
set_option maxHeartbeats 4000000 in
theorem qcy {w0:World}(a:Frc) :
  Calls Tryz.prog 84 #[frcV a] w0 fun e w'=>e=.returned (frcV (vluF a))∧Sat w0 w' []:=by
 have hw:=Sat.start w0
 obtain⟨R,hR⟩:∃ R,R=vluF a:=⟨_,rfl⟩
 rw [←hR]
 refine qaf (args:=[frcV a]) mixed Tryz.func84 rfl (by kernel_rfl) (Nat.le_of_ble_eq_true rfl) ?_
 repeat (first|refine qac ?_|(refine qaa ?_;clear hw;intro p w hw)|(refine qad ?_;clear hw;intro w hw)|(refine qab ?_;clear hw;intro s w hw))
 refine qag rfl (qaz a) ?_
 rintro _ w' ⟨rfl,hk'⟩;replace hw:=hw.call0 hk';clear hk';refine⟨_,rfl,?_⟩
 by_cases pa:PrpF a
 ·rw [decide_eq_true pa]
  have e:R=a:=by rw [hR];exact if_pos pa
  subst e
  repeat (first|refine qac ?_|(refine qaa ?_;clear hw;intro p w hw)|(refine qad ?_;clear hw;intro w hw)|(refine qab ?_;clear hw;intro s w hw))
  exact qbK (vs:=[.int .i64 R.num,.int .i64 R.den]) rfl rfl rfl (hw.boxR 0 rfl) ⟨rfl,hw.sel⟩
 ·rw [decide_eq_false pa]
  have e:R=⟨0,1⟩:=by rw [hR];exact if_neg pa
  subst e
  repeat (first|refine qac ?_|(refine qaa ?_;clear hw;intro p w hw)|(refine qad ?_;clear hw;intro w hw)|(refine qab ?_;clear hw;intro s w hw))
  exact qbK (vs:=[.int .i64 0,.int .i64 1]) rfl rfl rfl (hw.boxR 0 rfl) ⟨rfl,hw.sel⟩
theorem qgy (a:Frc):PrpF (vluF a):=by
 unfold vluF
 split
 ·rename_i h;exact h
 ·exact⟨by decide,by decide,by decide,by decide,by decide⟩
set_option maxRecDepth 8000 in
set_option maxHeartbeats 4000000 in
theorem qgj {w0:World}(a b:Frc) :
  Calls Tryz.prog 71 #[frcV a,frcV b] w0 fun e w'=>e=.returned (.int .i64 (cmpF a b))∧Sat w0 w' []:=by
 have hw:=Sat.start w0
 obtain⟨R,hR⟩:∃ R,R=cmpF a b:=⟨_,rfl⟩
 rw [←hR]
 refine qaf (args:=[frcV a,frcV b]) mixed Tryz.func71 rfl (by kernel_rfl) (Nat.le_of_ble_eq_true rfl) ?_
 repeat (first|refine qac ?_|(refine qaa ?_;clear hw;intro p w hw)|(refine qad ?_;clear hw;intro w hw)|(refine qab ?_;clear hw;intro s w hw))
 refine qay [.op 0,.op 2,.op 1,.chk 2,.op 3,.op 4,.op 5] hw (by kernel_rfl) ?_;clear hw;intro w hw
 repeat (first|refine qac ?_|(refine qaa ?_;clear hw;intro p w hw)|(refine qae ?_;clear hw;intro w hw)|(refine qab ?_;clear hw;intro s w hw))
 refine qag rfl (qcy a) ?_
 rintro _ w' ⟨rfl,hk'⟩;replace hw:=hw.call0 hk';clear hk';refine⟨_,rfl,?_⟩
 repeat (first|refine qac ?_|(refine qaa ?_;clear hw;intro p w hw)|(refine qae ?_;clear hw;intro w hw)|(refine qab ?_;clear hw;intro s w hw))
 refine qag rfl (qcy b) ?_
 rintro _ w' ⟨rfl,hk'⟩;replace hw:=hw.call0 hk';clear hk';refine⟨_,rfl,?_⟩
 repeat (first|refine qac ?_|(refine qaa ?_;clear hw;intro p w hw)|(refine qae ?_;clear hw;intro w hw)|(refine qab ?_;clear hw;intro s w hw))
 obtain⟨a1,a2,a3,a4,_⟩:=qgy a
 obtain⟨b1,b2,b3,b4,_⟩:=qgy b
 have m1:=qcG (x:=(vluF a).num) (y:=(vluF b).den) (X:=1099511627776) (Y:=1048576) a3 a4 (by omega) b2
 have m2:=qcG (x:=(vluF b).num) (y:=(vluF a).den) (X:=1099511627776) (Y:=1048576) b3 b4 (by omega) a2
 unfold cmpF at hR
 refine qay [.op 0,.op 1,.op 2,.op 3,.op 4,.op 5,.op 6,.op 7,.op 8,.op 9,.op 10,.op 11] hw (by kernel_rfl) ?_;clear hw;intro w hw
 repeat (first|refine qac ?_|(refine qaa ?_;clear hw;intro p w hw)|(refine qae ?_;clear hw;intro w hw)|(refine qab ?_;clear hw;intro s w hw))
 repeat (first|refine qac ?_|(refine qaa ?_;clear hw;intro p w hw)|(refine qad ?_;clear hw;intro w hw)|(refine qab ?_;clear hw;intro s w hw))
 refine go_if (fun h1 => ?_) (fun h1 => ?_)
 ·rw [if_pos h1] at hR
  repeat (first|refine qac ?_|(refine qaa ?_;clear hw;intro p w hw)|(refine qad ?_;clear hw;intro w hw)|(refine qab ?_;clear hw;intro s w hw))
  exact qai (v:=.int .i64 (-1)) rfl rfl ⟨by rw [hR],hw.sel⟩
 rw [if_neg (by omega)] at hR
 repeat (first|refine qac ?_|(refine qaa ?_;clear hw;intro p w hw)|(refine qad ?_;clear hw;intro w hw)|(refine qab ?_;clear hw;intro s w hw))
 refine go_if (fun h2 => ?_) (fun h2 => ?_)
 ·rw [if_pos h2] at hR
  repeat (first|refine qac ?_|(refine qaa ?_;clear hw;intro p w hw)|(refine qad ?_;clear hw;intro w hw)|(refine qab ?_;clear hw;intro s w hw))
  exact qai (v:=.int .i64 1) rfl rfl ⟨by rw [hR],hw.sel⟩
 rw [if_neg (by omega)] at hR
 repeat (first|refine qac ?_|(refine qaa ?_;clear hw;intro p w hw)|(refine qad ?_;clear hw;intro w hw)|(refine qab ?_;clear hw;intro s w hw))
 exact qai (v:=.int .i64 0) rfl rfl ⟨by rw [hR],hw.sel⟩
end Go.Proofs.YtdadmnlenbdfbaaGreat
