/-
  Several texts as one: TLaw5, TNarrow, TPdb, TIda3.
-/
import Derived.Test.YtjdlohdcdmhigaaGreatDoorMW8
import Derived.Test.YtjdlohdcdmhigaaGreatDoorMW7
import Derived.Test.YtjdlohdcdmhigaaGreatDoorMTA
set_option linter.unusedSimpArgs false
set_option linter.unusedVariables false
/-
  Plain facts for the statement 'ProjectAffects', and two steps for reads that are looked at again under a guard.
-/
namespace Go.Proofs.YtjdlohdcdmhigaaGreatDoor
open Go.Sl Go
end Go.Proofs.YtjdlohdcdmhigaaGreatDoor
/-
  Projections of projections, in plain Lean.
-/
namespace Go.Proofs.YtjdlohdcdmhigaaGreatDoor
open Go.Sl Go
section
variable {t:TTask}{p q:List Int}
end
theorem getD_set_ne {l:List Int}{i j:Nat}{v:Int}(h:i≠j):(l.set i v).getD j tInt.dflt=l.getD j tInt.dflt:=by
 simp only [List.getD_eq_getElem?_getD]
 rw [List.getElem?_set_ne h]
end Go.Proofs.YtjdlohdcdmhigaaGreatDoor
/-
  Plain facts about tables of least costs: least walks are short, other costs, saturated costs, wider patterns.
-/
namespace Go.Proofs.YtjdlohdcdmhigaaGreatDoor
open Go.Sl Go
section
variable {E:List Edg}{c c':List Int}{G:Int→Prop}{n:Nat}{D D':List Int}{C:Int}
end
end Go.Proofs.YtjdlohdcdmhigaaGreatDoor
/-
  IDA* with a table of values, in plain Lean: plans and least costs, admissible tables, the bounds of the rounds.
-/
namespace Go.Proofs.YtjdlohdcdmhigaaGreatDoor
open Go.Sl
section
variable {t:TTask}
variable {H:List Int→Int}{lim:Nat}
end
end Go.Proofs.YtjdlohdcdmhigaaGreatDoor
