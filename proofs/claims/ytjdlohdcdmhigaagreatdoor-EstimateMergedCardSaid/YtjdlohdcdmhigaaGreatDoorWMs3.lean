/-
  Contracts of the comparisons that the sorts call.
-/
import Derived.Test.YtjdlohdcdmhigaaGreatDoorWMs1
import Derived.Test.YtjdlohdcdmhigaaGreatDoorMSlB
set_option linter.unusedSimpArgs false
set_option linter.unusedVariables false
namespace Go.Proofs.YtjdlohdcdmhigaaGreatDoor
open Go.Sl Go
attribute [local irreducible] vc opsW opsD opV opW PureV ReadV Thn Blk
theorem qaV {w:World}{x y:Int}:Calls Tryz.prog 157 #[.int .i64 x,.int .i64 y] w fun e w'=>e=.returned (.int .i64 (cmp3 x y))∧w'=w:=by
 unfold cmp3
 exact qlI
set_option maxRecDepth 8000 in
set_option maxHeartbeats 4000000 in
theorem qhg {w0:World}(a b:Edg) :
  Calls Tryz.prog 123 #[.agg #[.int .i64 a.src,.int .i64 a.lab,.int .i64 a.dst],.agg #[.int .i64 b.src,.int .i64 b.lab,.int .i64 b.dst]] w0 fun e w'=>e=.returned (.int .i64 (cmpE a b))∧∃ (q:Nat) (os:Array Obj),w'=Sort.grow (w0.drewN q) os:=by
 have hw:=Sat.start w0
 have hd:=Dr.refl w0
 refine qaf (args:=[.agg #[.int .i64 a.src,.int .i64 a.lab,.int .i64 a.dst],.agg #[.int .i64 b.src,.int .i64 b.lab,.int .i64 b.dst]]) mixed Tryz.func123 rfl (by kernel_rfl) (Nat.le_of_ble_eq_true rfl) ?_
 refine qbU ?_
 refine qaF ?_
 refine qdr (vs:=[.int .i64 a.src,.int .i64 a.lab,.int .i64 a.dst]) rfl hw hd ?_
 clear hw hd;intro p w hw hd
 refine qdr (vs:=[.int .i64 b.src,.int .i64 b.lab,.int .i64 b.dst]) rfl hw hd ?_
 clear hw hd;intro p2 w hw hd
 repeat (first|refine qac ?_|(refine qaa ?_;clear hw;intro p w hw)|(refine qad ?_;clear hw;intro w hw)|(refine qab ?_;clear hw;intro s w hw))
 refine qfH [.op 0,.op 1,.op 2,.op 3,.op 5,.op 6,.op 7,.op 8,.op 10,.op 11,.op 12,.op 13,.op 4,.chk 6,.chk 8,.chk 11,.chk 13,.op 9,.chk 11,.chk 13,.op 14,.op 15,.op 16,.op 17] hw hd (by kernel_rfl) ?_;clear hw hd;intro w hw hd
 repeat (first|refine qac ?_|(refine qaa ?_;clear hw;intro p w hw)|(refine qad ?_;clear hw;intro w hw)|(refine qab ?_;clear hw;intro s w hw))
 refine qah rfl qaV ?_
 rintro _ w' ⟨rfl,rfl⟩;refine⟨_,rfl,?_⟩
 repeat (first|refine qac ?_|(refine qaa ?_;clear hw;intro p w hw)|(refine qad ?_;clear hw;intro w hw)|(refine qab ?_;clear hw;intro s w hw))
 refine qah rfl qaV ?_
 rintro _ w' ⟨rfl,rfl⟩;refine⟨_,rfl,?_⟩
 repeat (first|refine qac ?_|(refine qaa ?_;clear hw;intro p w hw)|(refine qad ?_;clear hw;intro w hw)|(refine qab ?_;clear hw;intro s w hw))
 refine qah rfl qaV ?_
 rintro _ w' ⟨rfl,rfl⟩;refine⟨_,rfl,?_⟩
 repeat (first|refine qac ?_|(refine qaa ?_;clear hw;intro p w hw)|(refine qad ?_;clear hw;intro w hw)|(refine qab ?_;clear hw;intro s w hw))
 refine qby (T:=tInt) (len:=3) (parts:=[(0,.tmp 9),(1,.tmp 14),(2,.tmp 19)]) [(cmp3 a.src b.src),(cmp3 a.lab b.lab),(cmp3 a.dst b.dst)] [.int .i64 (cmp3 a.src b.src),.int .i64 (cmp3 a.lab b.lab),.int .i64 (cmp3 a.dst b.dst)] rfl rfl rfl rfl rfl (Nat.le_of_ble_eq_true rfl) (Nat.zero_lt_succ _) (Nat.le_of_ble_eq_true rfl) hw hd ?_
 clear hw hd;intro s w hw hd
 repeat (first|refine qac ?_|(refine qaa ?_;clear hw;intro p w hw)|(refine qad ?_;clear hw;intro w hw)|(refine qab ?_;clear hw;intro s w hw))
 refine qah rfl (qgf (Sat.rs hw 0 rfl)) ?_
 rintro _ w' ⟨rfl,rfl⟩;refine⟨_,rfl,?_⟩
 repeat (first|refine qac ?_|(refine qaa ?_;clear hw;intro p w hw)|(refine qad ?_;clear hw;intro w hw)|(refine qab ?_;clear hw;intro s w hw))
 exact qai (v:=.int .i64 (orL [(cmp3 a.src b.src),(cmp3 a.lab b.lab),(cmp3 a.dst b.dst)])) rfl rfl ⟨by unfold cmpE;rfl,ex_of hw hd⟩
set_option maxRecDepth 8000 in
set_option maxHeartbeats 4000000 in
theorem qlJ {w0:World}(a b:Edg) :
  Calls Tryz.prog 182 #[.agg #[.int .i64 a.src,.int .i64 a.lab,.int .i64 a.dst],.agg #[.int .i64 b.src,.int .i64 b.lab,.int .i64 b.dst]] w0 fun e w'=>e=.returned (.int .i64 (cmpE a b))∧∃ (q:Nat) (os:Array Obj),w'=Sort.grow (w0.drewN q) os:=by
 have hw:=Sat.start w0
 have hd:=Dr.refl w0
 refine qaf (args:=[.agg #[.int .i64 a.src,.int .i64 a.lab,.int .i64 a.dst],.agg #[.int .i64 b.src,.int .i64 b.lab,.int .i64 b.dst]]) mixed Tryz.func182 rfl (by kernel_rfl) (Nat.le_of_ble_eq_true rfl) ?_
 refine qbU ?_
 refine qaF ?_
 refine qdr (vs:=[.int .i64 a.src,.int .i64 a.lab,.int .i64 a.dst]) rfl hw hd ?_
 clear hw hd;intro p w hw hd
 refine qdr (vs:=[.int .i64 b.src,.int .i64 b.lab,.int .i64 b.dst]) rfl hw hd ?_
 clear hw hd;intro p2 w hw hd
 repeat (first|refine qac ?_|(refine qaa ?_;clear hw;intro p w hw)|(refine qad ?_;clear hw;intro w hw)|(refine qab ?_;clear hw;intro s w hw))
 refine qfH [.op 0,.op 1,.op 2,.op 3,.op 5,.op 6,.op 7,.op 8,.op 10,.op 11,.op 12,.op 13,.op 4,.chk 6,.chk 8,.chk 11,.chk 13,.op 9,.chk 11,.chk 13,.op 14,.op 15,.op 16,.op 17] hw hd (by kernel_rfl) ?_;clear hw hd;intro w hw hd
 repeat (first|refine qac ?_|(refine qaa ?_;clear hw;intro p w hw)|(refine qad ?_;clear hw;intro w hw)|(refine qab ?_;clear hw;intro s w hw))
 refine qah rfl qaV ?_
 rintro _ w' ⟨rfl,rfl⟩;refine⟨_,rfl,?_⟩
 repeat (first|refine qac ?_|(refine qaa ?_;clear hw;intro p w hw)|(refine qad ?_;clear hw;intro w hw)|(refine qab ?_;clear hw;intro s w hw))
 refine qah rfl qaV ?_
 rintro _ w' ⟨rfl,rfl⟩;refine⟨_,rfl,?_⟩
 repeat (first|refine qac ?_|(refine qaa ?_;clear hw;intro p w hw)|(refine qad ?_;clear hw;intro w hw)|(refine qab ?_;clear hw;intro s w hw))
 refine qah rfl qaV ?_
 rintro _ w' ⟨rfl,rfl⟩;refine⟨_,rfl,?_⟩
 repeat (first|refine qac ?_|(refine qaa ?_;clear hw;intro p w hw)|(refine qad ?_;clear hw;intro w hw)|(refine qab ?_;clear hw;intro s w hw))
 refine qby (T:=tInt) (len:=3) (parts:=[(0,.tmp 9),(1,.tmp 14),(2,.tmp 19)]) [(cmp3 a.src b.src),(cmp3 a.lab b.lab),(cmp3 a.dst b.dst)] [.int .i64 (cmp3 a.src b.src),.int .i64 (cmp3 a.lab b.lab),.int .i64 (cmp3 a.dst b.dst)] rfl rfl rfl rfl rfl (Nat.le_of_ble_eq_true rfl) (Nat.zero_lt_succ _) (Nat.le_of_ble_eq_true rfl) hw hd ?_
 clear hw hd;intro s w hw hd
 repeat (first|refine qac ?_|(refine qaa ?_;clear hw;intro p w hw)|(refine qad ?_;clear hw;intro w hw)|(refine qab ?_;clear hw;intro s w hw))
 refine qah rfl (qgf (Sat.rs hw 0 rfl)) ?_
 rintro _ w' ⟨rfl,rfl⟩;refine⟨_,rfl,?_⟩
 repeat (first|refine qac ?_|(refine qaa ?_;clear hw;intro p w hw)|(refine qad ?_;clear hw;intro w hw)|(refine qab ?_;clear hw;intro s w hw))
 exact qai (v:=.int .i64 (orL [(cmp3 a.src b.src),(cmp3 a.lab b.lab),(cmp3 a.dst b.dst)])) rfl rfl ⟨by unfold cmpE;rfl,ex_of hw hd⟩
end Go.Proofs.YtjdlohdcdmhigaaGreatDoor
