/-
  The kit's contract of 'slices.SortFunc' over lists of numbers, and the contract of 'slices.Compare'.
-/
import Derived.Test.YtjdlohdcdmhigaaGreatDoorTypes
import Derived.Test.YtjdlohdcdmhigaaGreatDoorMTA
import Derived.Test.YtjdlohdcdmhigaaGreatDoorMSlB
import Derived.Shelf.SlSortCmp.Whole1
set_option linter.unusedSimpArgs false
set_option linter.unusedVariables false
namespace Go.Proofs.YtjdlohdcdmhigaaGreatDoor
open Go.Sl Go Go.Shelf
attribute [local irreducible] vc opsW opsD opV opW PureV ReadV Thn Blk
set_option maxRecDepth 8000 in
theorem qfu {w:World}{x:Int}:Calls Tryz.prog 171 #[.int .i64 x] w fun e w'=>e=.returned (.bool false)∧w'=w:=by
 have hw:=Sat.start w
 refine qaf (args:=[.int .i64 x]) mixed Tryz.func171 rfl (by kernel_rfl) (Nat.le_of_ble_eq_true rfl) ?_
 repeat (first|refine qac ?_|(refine qaa ?_;clear hw;intro p w hw)|(refine qae ?_;clear hw;intro w hw)|(refine qab ?_;clear hw;intro s w hw))
 exact qai (v:=.bool (!decide (x=x))) rfl rfl ⟨by simp,rfl⟩
set_option maxRecDepth 8000 in
theorem qlI {w:World}{x y:Int}:Calls Tryz.prog 157 #[.int .i64 x,.int .i64 y] w fun e w'=>e=.returned (.int .i64 (if x<y then -1 else if y<x then 1 else 0))∧w'=w:=by
 have hw:=Sat.start w
 refine qaf (args:=[.int .i64 x,.int .i64 y]) mixed Tryz.func157 rfl (by kernel_rfl) (Nat.le_of_ble_eq_true rfl) ?_
 repeat (first|refine qac ?_|(refine qaa ?_;clear hw;intro p w hw)|(refine qae ?_;clear hw;intro w hw)|(refine qab ?_;clear hw;intro s w hw))
 refine qah rfl qfu ?_
 rintro _ w' ⟨rfl,rfl⟩
 refine⟨_,rfl,?_⟩
 repeat (first|refine qac ?_|(refine qaa ?_;clear hw;intro p w hw)|(refine qae ?_;clear hw;intro w hw)|(refine qab ?_;clear hw;intro s w hw))
 refine qah rfl qfu ?_
 rintro _ w' ⟨rfl,rfl⟩
 refine⟨_,rfl,?_⟩
 repeat (first|refine qac ?_|(refine qaa ?_;clear hw;intro p w hw)|(refine qae ?_;clear hw;intro w hw)|(refine qab ?_;clear hw;intro s w hw))
 refine go_if (fun h1 => ?_) (fun h1 => ?_)
 ·repeat (first|refine qac ?_|(refine qaa ?_;clear hw;intro p w hw)|(refine qae ?_;clear hw;intro w hw)|(refine qab ?_;clear hw;intro s w hw))
  exact qai (v:=.int .i64 (-1)) rfl rfl ⟨by rw [if_pos h1],rfl⟩
 repeat (first|refine qac ?_|(refine qaa ?_;clear hw;intro p w hw)|(refine qae ?_;clear hw;intro w hw)|(refine qab ?_;clear hw;intro s w hw))
 refine go_if (fun h2 => ?_) (fun h2 => ?_)
 ·repeat (first|refine qac ?_|(refine qaa ?_;clear hw;intro p w hw)|(refine qae ?_;clear hw;intro w hw)|(refine qab ?_;clear hw;intro s w hw))
  exact qai (v:=.int .i64 1) rfl rfl ⟨by rw [if_neg (by omega),if_pos h2],rfl⟩
 ·repeat (first|refine qac ?_|(refine qaa ?_;clear hw;intro p w hw)|(refine qae ?_;clear hw;intro w hw)|(refine qab ?_;clear hw;intro s w hw))
  exact qai (v:=.int .i64 0) rfl rfl ⟨by rw [if_neg (by omega),if_neg (by omega)],rfl⟩
end Go.Proofs.YtjdlohdcdmhigaaGreatDoor
