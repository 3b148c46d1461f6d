
/-
  Contract of 'succgen.build': the decision tree.
-/
import Derived.Test.YtoddgmmkpiojlaaWSucB
import Derived.Test.YtoddgmmkpiojlaaMTA
set_option linter.unusedSimpArgs false
set_option linter.unusedVariables false
namespace Go.Proofs.Ytoddgmmkpiojlaa
open Go.Sl Go
attribute [local irreducible] vc opsW opsD opV opW PureV ReadV Thn Blk
def ChF (t : TTask) (f : Nat) (ops : List Int) (u : Nat) (ss : List Value) (x : Nat) (vl : List (Option Addr)) (w : World) : Prop := ∀ i, i < x → RS tInt w (vget ss i) (byV t ops u (i : Int)) → RNode t w f (vl.getD i none) (byV t ops u (i : Int)) (u + 1)
theorem ChF.step {t : TTask} {f : Nat} {ops : List Int} {u : Nat} {ss : List Value} {x : Nat} {vl : List (Option Addr)} {w : World} {a : Option Addr} (h : ChF t f ops u ss x vl w) (hl : vl.length = x) (hn : RS tInt w (vget ss x) (byV t ops u (x : Int)) → RNode t w f a (byV t ops u (x : Int)) (u + 1)) : ChF t f ops u ss (x + 1) (vl ++ [a]) w := fun i hi hr => by
  by_cases e : i < x
  · rw [show (vl ++ [a]).getD i none = vl.getD i none by simp [List.getD_eq_getElem?_getD, List.getElem?_append_left (show i < vl.length by omega)]]
    exact h i e hr
  · have e2 : i = x := by omega
    subst e2
    rw [show (vl ++ [a]).getD i none = a by subst hl; simp [List.getD_eq_getElem?_getD]]
    exact hn hr
end Go.Proofs.Ytoddgmmkpiojlaa
