/-
  Several texts as one: WLm2, WLm3, WLm4, WLm5.
-/
import Derived.Test.YtdadmnlenbdfbaaGreatMW19
import Derived.Test.YtdadmnlenbdfbaaGreatMW12
import Derived.Test.YtdadmnlenbdfbaaGreatMW15
import Derived.Test.YtdadmnlenbdfbaaGreatMW6
import Derived.Test.YtdadmnlenbdfbaaGreatMW3
import Derived.Test.YtdadmnlenbdfbaaGreatMW1
set_option linter.unusedSimpArgs false
set_option linter.unusedVariables false
/-
  LM-cut's heuristic as it is read; contract of 'values'.
-/
namespace Go.Proofs.YtdadmnlenbdfbaaGreat
open Go.Sl Go
attribute [local irreducible] vc opsW opsD opV opW PureV ReadV Thn Blk
end Go.Proofs.YtdadmnlenbdfbaaGreat
/-
  Contract of LM-cut's 'arcs'.
-/
namespace Go.Proofs.YtdadmnlenbdfbaaGreat
open Go.Sl Go
attribute [local irreducible] vc opsW opsD opV opW PureV ReadV Thn Blk
end Go.Proofs.YtdadmnlenbdfbaaGreat
/-
  Contract of LM-cut's 'cut'.
-/
namespace Go.Proofs.YtdadmnlenbdfbaaGreat
open Go.Sl Go
attribute [local irreducible] vc opsW opsD opV opW PureV ReadV Thn Blk
end Go.Proofs.YtdadmnlenbdfbaaGreat
/-
  Contract of LM-cut's 'Cuts'.
-/
namespace Go.Proofs.YtdadmnlenbdfbaaGreat
open Go.Sl Go
attribute [local irreducible] vc opsW opsD opV opW PureV ReadV Thn Blk
structure CutV where
 ops:Value
 cost:Int
def tCut:Ty CutV:=⟨2,fun x=>[x.ops,.int .i64 x.cost],fun _=>rfl,⟨.slice none 0 0,0⟩⟩
instance inWLm51:ShutT tCut:=⟨trivial⟩
end Go.Proofs.YtdadmnlenbdfbaaGreat
