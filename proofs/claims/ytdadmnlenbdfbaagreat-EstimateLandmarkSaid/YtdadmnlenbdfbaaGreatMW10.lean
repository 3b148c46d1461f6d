/-
  Several texts as one: WSucB, WSucN, WSucG, WVis.
-/
import Derived.Test.YtdadmnlenbdfbaaGreatMW4
import Derived.Test.YtdadmnlenbdfbaaGreatMW9
import Derived.Test.YtdadmnlenbdfbaaGreatMTA
set_option linter.unusedSimpArgs false
set_option linter.unusedVariables false
/-
  Contracts of 'succgen.fact' and of the question of 'succgen.build'.
-/
namespace Go.Proofs.YtdadmnlenbdfbaaGreat
open Go.Sl Go
attribute [local irreducible] vc opsW opsD opV opW PureV ReadV Thn Blk
end Go.Proofs.YtdadmnlenbdfbaaGreat
/-
  Contract of 'succgen.build': the decision tree.
-/
namespace Go.Proofs.YtdadmnlenbdfbaaGreat
open Go.Sl Go
attribute [local irreducible] vc opsW opsD opV opW PureV ReadV Thn Blk
end Go.Proofs.YtdadmnlenbdfbaaGreat
/-
  Contracts of 'succgen.New', 'collect', 'find', 'Applicable', 'Successors'.
-/
namespace Go.Proofs.YtdadmnlenbdfbaaGreat
open Go.Sl Go
attribute [local irreducible] vc opsW opsD opV opW PureV ReadV Thn Blk
end Go.Proofs.YtdadmnlenbdfbaaGreat
/-
  Contract of 'idastar.visit': a visit, as the plain recursion.
-/
namespace Go.Proofs.YtdadmnlenbdfbaaGreat
open Go.Sl Go
attribute [local irreducible] vc opsW opsD opV opW PureV ReadV Thn Blk
end Go.Proofs.YtdadmnlenbdfbaaGreat
