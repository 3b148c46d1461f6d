/-
  Contract of the comparison of refine's pairs.
-/
import Derived.Test.YtjdlohdcdmhigaaGreatDoorWMs3
import Derived.Test.YtjdlohdcdmhigaaGreatDoorMSlB
set_option linter.unusedSimpArgs false
set_option linter.unusedVariables false
namespace Go.Proofs.YtjdlohdcdmhigaaGreatDoor
open Go.Sl Go
attribute [local irreducible] vc opsW opsD opV opW PureV ReadV Thn Blk
instance inMs4:ArrT Tryz.prog 275 2:=⟨3,by kernel_rfl,fun w=>by kernel_rfl⟩
set_option maxRecDepth 8000 in
set_option maxHeartbeats 4000000 in
theorem qjZ {w0:World}(a1 a2 b1 b2:Int) :
  Calls Tryz.prog 177 #[.agg #[.int .i64 a1,.int .i64 a2],.agg #[.int .i64 b1,.int .i64 b2]] w0 fun e w'=>e=.returned (.int .i64 (cmpP (a1,a2) (b1,b2)))∧∃ (q:Nat) (os:Array Obj),w'=Sort.grow (w0.drewN q) os:=by
 have hw:=Sat.start w0
 have hd:=Dr.refl w0
 refine qaf (args:=[.agg #[.int .i64 a1,.int .i64 a2],.agg #[.int .i64 b1,.int .i64 b2]]) mixed Tryz.func177 rfl (by kernel_rfl) (Nat.le_of_ble_eq_true rfl) ?_
 refine qbU ?_
 refine qaF ?_
 refine qdr (vs:=[.int .i64 a1,.int .i64 a2]) rfl hw hd ?_
 clear hw hd;intro p w hw hd
 refine qdr (vs:=[.int .i64 b1,.int .i64 b2]) rfl hw hd ?_
 clear hw hd;intro p2 w hw hd
 repeat (first|refine qac ?_|(refine qaa ?_;clear hw;intro p w hw)|(refine qad ?_;clear hw;intro w hw)|(refine qab ?_;clear hw;intro s w hw))
 refine qfH [.op 0,.op 1,.op 2,.op 3,.op 5,.op 6,.op 7,.op 8,.op 4,.chk 6,.chk 8,.op 9,.op 10,.op 11,.op 12] hw hd (by kernel_rfl) ?_;clear hw hd;intro w hw hd
 refine qcL ?_
 refine qaw (v:=.pointer (some (p.add 0))) rfl (qa2 (n:=2) (j:=0) rfl rfl (by omega) (by omega)) ?_
 repeat (first|refine qac ?_|(refine qaa ?_;clear hw;intro p w hw)|(refine qad ?_;clear hw;intro w hw)|(refine qab ?_;clear hw;intro s w hw))
 refine qaw (v:=.pointer (some (p2.add 0))) rfl (qa2 (n:=2) (j:=0) rfl rfl (by omega) (by omega)) ?_
 repeat (first|refine qac ?_|(refine qaa ?_;clear hw;intro p w hw)|(refine qad ?_;clear hw;intro w hw)|(refine qab ?_;clear hw;intro s w hw))
 refine qaw (v:=.pointer (some (p.add 1))) rfl (qa2 (n:=2) (j:=1) rfl rfl (by omega) (by omega)) ?_
 repeat (first|refine qac ?_|(refine qaa ?_;clear hw;intro p w hw)|(refine qad ?_;clear hw;intro w hw)|(refine qab ?_;clear hw;intro s w hw))
 refine qaw (v:=.pointer (some (p2.add 1))) rfl (qa2 (n:=2) (j:=1) rfl rfl (by omega) (by omega)) ?_
 repeat (first|refine qac ?_|(refine qaa ?_;clear hw;intro p w hw)|(refine qad ?_;clear hw;intro w hw)|(refine qab ?_;clear hw;intro s w hw))
 refine qah rfl qaV ?_
 rintro _ w' ⟨rfl,rfl⟩;refine⟨_,rfl,?_⟩
 obtain⟨c1,hc1⟩:∃ c,c=cmp3 a1 b1:=⟨_,rfl⟩
 rw [←hc1]
 repeat (first|refine qac ?_|(refine qaa ?_;clear hw;intro p w hw)|(refine qad ?_;clear hw;intro w hw)|(refine qab ?_;clear hw;intro s w hw))
 refine qah rfl qaV ?_
 rintro _ w' ⟨rfl,rfl⟩;refine⟨_,rfl,?_⟩
 obtain⟨c2,hc2⟩:∃ c,c=cmp3 a2 b2:=⟨_,rfl⟩
 rw [←hc2]
 repeat (first|refine qac ?_|(refine qaa ?_;clear hw;intro p w hw)|(refine qad ?_;clear hw;intro w hw)|(refine qab ?_;clear hw;intro s w hw))
 refine qby (T:=tInt) (len:=2) (parts:=[(0,.tmp 9),(1,.tmp 14)]) [c1,c2] [.int .i64 c1,.int .i64 c2] rfl rfl rfl rfl rfl (Nat.le_of_ble_eq_true rfl) (Nat.zero_lt_succ _) (Nat.le_of_ble_eq_true rfl) hw hd ?_
 clear hw hd;intro s w hw hd
 repeat (first|refine qac ?_|(refine qaa ?_;clear hw;intro p w hw)|(refine qad ?_;clear hw;intro w hw)|(refine qab ?_;clear hw;intro s w hw))
 refine qah rfl (qgf (Sat.rs hw 0 rfl)) ?_
 rintro _ w' ⟨rfl,rfl⟩;refine⟨_,rfl,?_⟩
 repeat (first|refine qac ?_|(refine qaa ?_;clear hw;intro p w hw)|(refine qad ?_;clear hw;intro w hw)|(refine qab ?_;clear hw;intro s w hw))
 exact qai (v:=.int .i64 (orL [c1,c2])) rfl rfl ⟨by rw [hc1,hc2];rfl,ex_of hw hd⟩
end Go.Proofs.YtjdlohdcdmhigaaGreatDoor
