
/-
  Contract of 'succgen.copied'.
-/
import Derived.Test.YtoddgmmkpiojlaaWEst
set_option linter.unusedSimpArgs false
set_option linter.unusedVariables false
namespace Go.Proofs.Ytoddgmmkpiojlaa
open Go.Sl Go
attribute [local irreducible] vc opsW opsD opV opW PureV ReadV Thn Blk
/-- The first j effects are copied. -/
def EffJ (E : List Eff) (j : Nat) (es : List EffV) (w : World) : Prop := ∀ i, i < j → REff w (eget tEff es i) (E.getD i dEff)
theorem EffJ.step {E : List Eff} {j : Nat} {es : List EffV} {w : World} {v : EffV} (h : EffJ E j es w) (hl : es.length = j) (hv : REff w v (E.getD j dEff)) : EffJ E (j + 1) (es ++ [v]) w := fun i hi => by
  rw [eget_app]
  by_cases e : i < j
  · rw [if_pos (by omega)]; exact h i e
  · have e2 : i = j := by omega
    rw [if_neg (by omega), if_pos (by omega), e2]; exact hv
end Go.Proofs.Ytoddgmmkpiojlaa
