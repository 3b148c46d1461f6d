
/-
  Contracts of the reference's 'Index', 'Goals', 'Project', 'Same' and of 'project.Index'.
-/
import Derived.Test.YtemnlcnjpjdoaaaDoorMW7
import Derived.Test.YtemnlcnjpjdoaaaDoorMTA
import Derived.Test.YtemnlcnjpjdoaaaDoorMW3
set_option linter.unusedSimpArgs false
set_option linter.unusedVariables false
namespace Go.Proofs.YtemnlcnjpjdoaaaDoor
open Go.Sl Go
attribute [local irreducible] vc opsW opsD opV opW PureV ReadV Thn Blk

end Go.Proofs.YtemnlcnjpjdoaaaDoor
