
/-
  How lists of uint8 are read.
-/
import Derived.Test.YtnoiagnmbipppaaLiftT
set_option linter.unusedSimpArgs false
set_option linter.unusedVariables false
namespace Go.Proofs.Ytnoiagnmbipppaa
open Go.Sl Go.ChangeShapes Go.WideShapes Go.ChangeAt Go.RowKit
theorem cells_u8 : Try.prog.cellsOf 5 = 1 := by kernel_rfl
end Go.Proofs.Ytnoiagnmbipppaa
