/-
  Several texts as one: TCut2, TCut3, TCut4, TCut5.
-/
import Derived.Test.YtdadmnlenbdfbaaGreatMW14
set_option linter.unusedSimpArgs false
set_option linter.unusedVariables false
/-
  LM-cut, in plain Lean: the cuts of a state one after another, their sum, admissible.
-/
namespace Go.Proofs.YtdadmnlenbdfbaaGreat
open Go.Sl
section
variable {t:TTask}{cs:List Int}
end
section
variable {t:TTask}{s:List Int}
end
end Go.Proofs.YtdadmnlenbdfbaaGreat
/-
  LM-cut, in plain Lean: each state has its cuts; the value as a function, admissible.
-/
namespace Go.Proofs.YtdadmnlenbdfbaaGreat
open Go.Sl
section
variable {t:TTask}{s:List Int}
end
end Go.Proofs.YtdadmnlenbdfbaaGreat
/-
  LM-cut's values by going down, in plain Lean; the greatest fact as a function.
-/
namespace Go.Proofs.YtdadmnlenbdfbaaGreat
open Go.Sl
section
variable {t:TTask}{z D:List Int}
end
end Go.Proofs.YtdadmnlenbdfbaaGreat
/-
  LM-cut's arcs as a list, in plain Lean; the zones as closed sets.
-/
namespace Go.Proofs.YtdadmnlenbdfbaaGreat
open Go.Sl
section
variable {t:TTask}{z V cs:List Int}{g0:Int}
end
end Go.Proofs.YtdadmnlenbdfbaaGreat
