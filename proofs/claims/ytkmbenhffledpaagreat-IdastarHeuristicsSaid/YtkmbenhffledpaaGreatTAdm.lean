
/-
  The blind estimate, hmax and LM-cut: admissible, finite where there is a plan; the blind estimate is consistent.
-/
import Derived.Test.YtkmbenhffledpaaGreatTCut3
import Derived.Test.YtkmbenhffledpaaGreatWIAw
set_option linter.unusedSimpArgs false
set_option linter.unusedVariables false
namespace Go.Proofs.YtkmbenhffledpaaGreat
open Go.Sl Go
theorem hmax_adm2 {t : TTask} (hg : GoodT t) {y q : List Int} {d : Int} (hp : Pln t y q d) : hmaxH t y < inf ∧ hmaxH t y ≤ d := by
  refine ⟨?_, hmax_adm hg hp⟩
  have e : inf = 1125899906842624 := rfl
  induction hp with
  | goal hh => rw [hmax_goal hg hh]; omega
  | @step y op q d ho ha _ ih =>
    by_cases hy : StateOk t.vars y
    · have g1 := hmax_cons hg hy ho ha
      have g2 := hmax_small hg _ ih
      have g3 := opC_rng hg ho
      omega
    · rw [hmax_no hy]; omega
theorem leastC_op {t : TTask} {op : Nat} (ho : op < t.ops.length) : leastC t ≤ opC t op := by
  have key : ∀ k, k ≤ t.ops.length → op < k → leastK t k ≤ opC t op := by
    intro k
    induction k with
    | zero => intro _ h; exact absurd h (Nat.not_lt_zero _)
    | succ k ih =>
      intro h1 h2
      rw [leastK_snoc (by omega)]
      by_cases e : op = k
      · subst e; exact Int.min_le_right _ _
      · exact Int.le_trans (Int.min_le_left _ _) (ih (by omega) (by omega))
  exact key _ (Nat.le_refl _) ho
theorem blind_adm {t : TTask} (hg : GoodT t) {y q : List Int} {d : Int} (hp : Pln t y q d) : blindH t y < inf ∧ blindH t y ≤ d := by
  have e : inf = 1125899906842624 := rfl
  have hnn := hp.nn hg
  unfold blindH
  split
  · omega
  · rename_i hno
    cases hp with
    | goal hh => exact absurd hh hno
    | step ho ha hp =>
      have h1 := leastC_op ho
      have h2 := opC_rng hg ho
      have h3 := hp.nn hg
      omega
end Go.Proofs.YtkmbenhffledpaaGreat
