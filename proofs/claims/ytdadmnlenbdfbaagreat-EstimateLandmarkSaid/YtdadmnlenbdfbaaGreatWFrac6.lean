/-
  Contracts of fraction.Mul and Div.
-/
import Derived.Test.YtdadmnlenbdfbaaGreatWFrac5
set_option linter.unusedSimpArgs false
set_option linter.unusedVariables false
namespace Go.Proofs.YtdadmnlenbdfbaaGreat
open Go.Sl Go
attribute [local irreducible] vc opsW opsD opV opW PureV ReadV Thn Blk
set_option maxRecDepth 8000 in
set_option maxHeartbeats 4000000 in
theorem qgn {w0:World}(a b:Frc) :
  Calls Tryz.prog 104 #[frcV a,frcV b] w0 fun e w'=>e=.returned (.tuple #[frcV (mulF a b).2,errV (mulF a b).1])∧Sat w0 w' []:=by
 have hw:=Sat.start w0
 obtain⟨R,hR⟩:∃ R,R=mulF a b:=⟨_,rfl⟩
 rw [←hR]
 refine qaf (args:=[frcV a,frcV b]) mixed Tryz.func104 rfl (by kernel_rfl) (Nat.le_of_ble_eq_true rfl) ?_
 repeat (first|refine qac ?_|(refine qaa ?_;clear hw;intro p w hw)|(refine qad ?_;clear hw;intro w hw)|(refine qab ?_;clear hw;intro s w hw))
 refine qag rfl (qaz a) ?_
 rintro _ w' ⟨rfl,hk'⟩;replace hw:=hw.call0 hk';clear hk';refine⟨_,rfl,?_⟩
 by_cases pa:PrpF a
 case neg =>
  rw [decide_eq_false pa]
  have e:R=(2,⟨0,0⟩):=by rw [hR];exact if_pos (Or.inl pa)
  repeat (first|refine qac ?_|(refine qaa ?_;clear hw;intro p w hw)|(refine qad ?_;clear hw;intro w hw)|(refine qab ?_;clear hw;intro s w hw))
  refine qau (vs:=[]) (ls:=[]) rfl rfl rfl ?_
  repeat (first|refine qac ?_|(refine qaa ?_;clear hw;intro p w hw)|(refine qad ?_;clear hw;intro w hw)|(refine qab ?_;clear hw;intro s w hw))
  subst e
  exact qar (vs:=[.int .i64 0,.int .i64 0]) rfl rfl rfl rfl (hw.boxR 0 rfl) ⟨rfl,hw.sel⟩
 rw [decide_eq_true pa]
 repeat (first|refine qac ?_|(refine qaa ?_;clear hw;intro p w hw)|(refine qae ?_;clear hw;intro w hw)|(refine qab ?_;clear hw;intro s w hw))
 refine qag rfl (qaz b) ?_
 rintro _ w' ⟨rfl,hk'⟩;replace hw:=hw.call0 hk';clear hk';refine⟨_,rfl,?_⟩
 by_cases pb:PrpF b
 case neg =>
  rw [decide_eq_false pb]
  have e:R=(2,⟨0,0⟩):=by rw [hR];exact if_pos (Or.inr pb)
  repeat (first|refine qac ?_|(refine qaa ?_;clear hw;intro p w hw)|(refine qad ?_;clear hw;intro w hw)|(refine qab ?_;clear hw;intro s w hw))
  refine qau (vs:=[]) (ls:=[]) rfl rfl rfl ?_
  repeat (first|refine qac ?_|(refine qaa ?_;clear hw;intro p w hw)|(refine qad ?_;clear hw;intro w hw)|(refine qab ?_;clear hw;intro s w hw))
  subst e
  exact qar (vs:=[.int .i64 0,.int .i64 0]) rfl rfl rfl rfl (hw.boxR 0 rfl) ⟨rfl,hw.sel⟩
 rw [decide_eq_true pb]
 repeat (first|refine qac ?_|(refine qaa ?_;clear hw;intro p w hw)|(refine qae ?_;clear hw;intro w hw)|(refine qab ?_;clear hw;intro s w hw))
 have n1:¬(¬PrpF a∨¬PrpF b):=fun h=>h.elim (fun h=>h pa) fun h=>h pb
 obtain⟨a1,a2,a3,a4,a5⟩:=pa
 obtain⟨b1,b2,b3,b4,b5⟩:=pb
 rw [mulF,if_neg n1] at hR
 repeat (first|refine qac ?_|(refine qaa ?_;clear hw;intro p w hw)|(refine qad ?_;clear hw;intro w hw)|(refine qab ?_;clear hw;intro s w hw))
 refine qag rfl (qct (n:=a.num) (d:=a.den) (o:=b.num) (r:=b.den) (by omega) (by omega) (by omega) (by omega) (by omega) (by omega) (by omega) (by omega)) ?_
 rintro _ w' ⟨rfl,hk'⟩;replace hw:=hw.call0 hk';clear hk';refine⟨_,rfl,?_⟩
 rw [←hR]
 repeat (first|refine qac ?_|(refine qaa ?_;clear hw;intro p w hw)|(refine qad ?_;clear hw;intro w hw)|(refine qab ?_;clear hw;intro s w hw))
 exact qar (vs:=[.int .i64 R.2.num,.int .i64 R.2.den]) rfl rfl rfl rfl (hw.boxR 0 rfl) ⟨rfl,hw.sel⟩
set_option maxRecDepth 8000 in
set_option maxHeartbeats 4000000 in
theorem qbH {w0:World}(a b:Frc) :
  Calls Tryz.prog 101 #[frcV a,frcV b] w0 fun e w'=>e=.returned (.tuple #[frcV (divF 22 a b).2,errV (divF 22 a b).1])∧Sat w0 w' []:=by
 have hw:=Sat.start w0
 obtain⟨R,hR⟩:∃ R,R=divF 22 a b:=⟨_,rfl⟩
 rw [←hR]
 refine qaf (args:=[frcV a,frcV b]) mixed Tryz.func101 rfl (by kernel_rfl) (Nat.le_of_ble_eq_true rfl) ?_
 repeat (first|refine qac ?_|(refine qaa ?_;clear hw;intro p w hw)|(refine qad ?_;clear hw;intro w hw)|(refine qab ?_;clear hw;intro s w hw))
 refine qag rfl (qaz a) ?_
 rintro _ w' ⟨rfl,hk'⟩;replace hw:=hw.call0 hk';clear hk';refine⟨_,rfl,?_⟩
 by_cases pa:PrpF a
 case neg =>
  rw [decide_eq_false pa]
  have e:R=(2,⟨0,0⟩):=by rw [hR];exact if_pos (Or.inl pa)
  repeat (first|refine qac ?_|(refine qaa ?_;clear hw;intro p w hw)|(refine qad ?_;clear hw;intro w hw)|(refine qab ?_;clear hw;intro s w hw))
  refine qau (vs:=[]) (ls:=[]) rfl rfl rfl ?_
  repeat (first|refine qac ?_|(refine qaa ?_;clear hw;intro p w hw)|(refine qad ?_;clear hw;intro w hw)|(refine qab ?_;clear hw;intro s w hw))
  subst e
  exact qar (vs:=[.int .i64 0,.int .i64 0]) rfl rfl rfl rfl (hw.boxR 0 rfl) ⟨rfl,hw.sel⟩
 rw [decide_eq_true pa]
 repeat (first|refine qac ?_|(refine qaa ?_;clear hw;intro p w hw)|(refine qae ?_;clear hw;intro w hw)|(refine qab ?_;clear hw;intro s w hw))
 refine qag rfl (qaz b) ?_
 rintro _ w' ⟨rfl,hk'⟩;replace hw:=hw.call0 hk';clear hk';refine⟨_,rfl,?_⟩
 by_cases pb:PrpF b
 case neg =>
  rw [decide_eq_false pb]
  have e:R=(2,⟨0,0⟩):=by rw [hR];exact if_pos (Or.inr pb)
  repeat (first|refine qac ?_|(refine qaa ?_;clear hw;intro p w hw)|(refine qad ?_;clear hw;intro w hw)|(refine qab ?_;clear hw;intro s w hw))
  refine qau (vs:=[]) (ls:=[]) rfl rfl rfl ?_
  repeat (first|refine qac ?_|(refine qaa ?_;clear hw;intro p w hw)|(refine qad ?_;clear hw;intro w hw)|(refine qab ?_;clear hw;intro s w hw))
  subst e
  exact qar (vs:=[.int .i64 0,.int .i64 0]) rfl rfl rfl rfl (hw.boxR 0 rfl) ⟨rfl,hw.sel⟩
 rw [decide_eq_true pb]
 repeat (first|refine qac ?_|(refine qaa ?_;clear hw;intro p w hw)|(refine qae ?_;clear hw;intro w hw)|(refine qab ?_;clear hw;intro s w hw))
 have n1:¬(¬PrpF a∨¬PrpF b):=fun h=>h.elim (fun h=>h pa) fun h=>h pb
 obtain⟨a1,a2,a3,a4,a5⟩:=pa
 obtain⟨b1,b2,b3,b4,b5⟩:=pb
 rw [divF,if_neg n1] at hR
 repeat (first|refine qac ?_|(refine qaa ?_;clear hw;intro p w hw)|(refine qad ?_;clear hw;intro w hw)|(refine qab ?_;clear hw;intro s w hw))
 refine go_if (fun h1 => ?_) (fun h1 => ?_)
 ·have e:R=(22,⟨0,0⟩):=by rw [hR];exact if_pos h1
  repeat (first|refine qac ?_|(refine qaa ?_;clear hw;intro p w hw)|(refine qad ?_;clear hw;intro w hw)|(refine qab ?_;clear hw;intro s w hw))
  refine qau (vs:=[]) (ls:=[]) rfl rfl rfl ?_
  repeat (first|refine qac ?_|(refine qaa ?_;clear hw;intro p w hw)|(refine qad ?_;clear hw;intro w hw)|(refine qab ?_;clear hw;intro s w hw))
  subst e
  exact qar (vs:=[.int .i64 0,.int .i64 0]) rfl rfl rfl rfl (hw.boxR 0 rfl) ⟨rfl,hw.sel⟩
 rw [if_neg h1] at hR
 repeat (first|refine qac ?_|(refine qaa ?_;clear hw;intro p w hw)|(refine qad ?_;clear hw;intro w hw)|(refine qab ?_;clear hw;intro s w hw))
 refine go_if (fun h2 => ?_) (fun h2 => ?_)
 ·rw [if_pos h2,show -a.num=0-a.num by omega,show -b.num=0-b.num by omega] at hR
  repeat (first|refine qac ?_|(refine qaa ?_;clear hw;intro p w hw)|(refine qad ?_;clear hw;intro w hw)|(refine qab ?_;clear hw;intro s w hw))
  refine qag rfl (qct (n:=0-a.num) (d:=a.den) (o:=b.den) (r:=0-b.num) (by omega) (by omega) (by omega) (by omega) (by omega) (by omega) (by omega) (by omega)) ?_
  rintro _ w' ⟨rfl,hk'⟩;replace hw:=hw.call0 hk';clear hk';refine⟨_,rfl,?_⟩
  rw [←hR]
  repeat (first|refine qac ?_|(refine qaa ?_;clear hw;intro p w hw)|(refine qad ?_;clear hw;intro w hw)|(refine qab ?_;clear hw;intro s w hw))
  exact qar (vs:=[.int .i64 R.2.num,.int .i64 R.2.den]) rfl rfl rfl rfl (hw.boxR 0 rfl) ⟨rfl,hw.sel⟩
 rw [if_neg (by omega)] at hR
 repeat (first|refine qac ?_|(refine qaa ?_;clear hw;intro p w hw)|(refine qad ?_;clear hw;intro w hw)|(refine qab ?_;clear hw;intro s w hw))
 refine qag rfl (qct (n:=a.num) (d:=a.den) (o:=b.den) (r:=b.num) (by omega) (by omega) (by omega) (by omega) (by omega) (by omega) (by omega) (by omega)) ?_
 rintro _ w' ⟨rfl,hk'⟩;replace hw:=hw.call0 hk';clear hk';refine⟨_,rfl,?_⟩
 rw [←hR]
 repeat (first|refine qac ?_|(refine qaa ?_;clear hw;intro p w hw)|(refine qad ?_;clear hw;intro w hw)|(refine qab ?_;clear hw;intro s w hw))
 exact qar (vs:=[.int .i64 R.2.num,.int .i64 R.2.den]) rfl rfl rfl rfl (hw.boxR 0 rfl) ⟨rfl,hw.sel⟩
end Go.Proofs.YtdadmnlenbdfbaaGreat
