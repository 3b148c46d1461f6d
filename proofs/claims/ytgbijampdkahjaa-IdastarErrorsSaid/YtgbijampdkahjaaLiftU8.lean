
/-
  How lists of uint8 are read.
-/
import Derived.Test.YtgbijampdkahjaaLiftT
set_option linter.unusedSimpArgs false
set_option linter.unusedVariables false
namespace Go.Proofs.Ytgbijampdkahjaa
open Go.Sl Go.ChangeShapes Go.WideShapes Go.ChangeAt Go.RowKit
end Go.Proofs.Ytgbijampdkahjaa
