/-
  Several texts as one: TAstR, TAstC, TAstH, TCut.
-/
import Derived.Test.YtdadmnlenbdfbaaGreatMTA
import Derived.Test.YtdadmnlenbdfbaaGreatMW9
set_option linter.unusedSimpArgs false
set_option linter.unusedVariables false
/-
  What A*'s run returns, in plain Lean: plans along links, their costs, when the limit is reached.
-/
namespace Go.Proofs.YtdadmnlenbdfbaaGreat
open Go.Sl
section
variable {A:APar}
end
end Go.Proofs.YtdadmnlenbdfbaaGreat
/-
  A* with a consistent estimate, in plain Lean: no state is expanded twice, each with its least cost; which states are expanded.
-/
namespace Go.Proofs.YtdadmnlenbdfbaaGreat
open Go.Sl
section
variable {A:APar}
end
end Go.Proofs.YtdadmnlenbdfbaaGreat
/-
  Finite values of hmax are small, in plain Lean.
-/
namespace Go.Proofs.YtdadmnlenbdfbaaGreat
open Go.Sl
section
variable {t:TTask}{s out:List Int}
end
end Go.Proofs.YtdadmnlenbdfbaaGreat
/-
  LM-cut, in plain Lean: the zones of the justification graph, cuts, and that each plan uses an operator of a cut.
-/
namespace Go.Proofs.YtdadmnlenbdfbaaGreat
open Go.Sl
section
variable {t:TTask}{s V:List Int}{g0:Int}
end
end Go.Proofs.YtdadmnlenbdfbaaGreat
