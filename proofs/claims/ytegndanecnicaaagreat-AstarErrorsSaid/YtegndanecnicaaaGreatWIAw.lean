
/-
  The beginning of each statement of layer 50; 'fits' and 'below'.
-/
import Derived.Test.YtegndanecnicaaaGreatWI50
import Derived.Test.YtegndanecnicaaaGreatWIBase
import Derived.Test.YtegndanecnicaaaGreatMSlB
set_option linter.unusedSimpArgs false
set_option linter.unusedVariables false
namespace Go.Proofs.YtegndanecnicaaaGreat
open Go.Sl Go
attribute [local irreducible] vc opsW opsD opV opW PureV ReadV Thn Blk
theorem leastK_rng {t : TTask} (hg : GoodT t) : ∀ k, k ≤ t.ops.length → 0 ≤ leastK t k ∧ leastK t k ≤ inf
  | 0, _ => by simp [leastK]
  | k + 1, h => by
    have ih := leastK_rng hg k (by omega)
    have hc := (hg.op k (by omega)).cost0
    rw [leastK_snoc (by omega)]
    omega
theorem blind_ok {t : TTask} (hg : GoodT t) : HOk t (blindH t) := by
  have h := leastK_rng hg t.ops.length (Nat.le_refl _)
  refine ⟨hg, fun y => ?_, fun y => ?_⟩
  · unfold blindH leastC; split
    · exact Int.le_refl _
    · exact h.1
  · unfold blindH leastC; split
    · decide
    · exact h.2
end Go.Proofs.YtegndanecnicaaaGreat
