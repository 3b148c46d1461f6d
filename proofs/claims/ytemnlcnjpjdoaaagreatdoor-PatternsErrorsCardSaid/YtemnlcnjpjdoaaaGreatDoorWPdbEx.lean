
/-
  The example with which each statement of layer 41 begins, and what these statements share.
-/
import Derived.Test.YtemnlcnjpjdoaaaGreatDoorWPdbBuild
import Derived.Test.YtemnlcnjpjdoaaaGreatDoorMW6
import Derived.Test.YtemnlcnjpjdoaaaGreatDoorMSlB
set_option linter.unusedSimpArgs false
set_option linter.unusedVariables false
namespace Go.Proofs.YtemnlcnjpjdoaaaGreatDoor
open Go.Sl Go
attribute [local irreducible] vc opsW opsD opV opW PureV ReadV Thn Blk
/-- Operators are read, one by one. -/
def OpsF (vs : List OpV) (os : List TOp) (w : World) : Prop := vs.length = os.length ∧ ∀ i, i < os.length → ROp w (eget tOp vs i) (os.getD i dOp)
theorem OpsF.snoc {vs : List OpV} {os : List TOp} {v : OpV} {o : TOp} {w : World} (h : OpsF vs os w) (hv : ROp w v o) : OpsF (vs ++ [v]) (os ++ [o]) w := by
  refine ⟨by simp [h.1], fun i hi => ?_⟩
  have hl := h.1
  rw [eget_eq]
  by_cases hk : i < os.length
  · have h1 : (vs ++ [v]).getD i tOp.dflt = vs.getD i tOp.dflt := by simp [List.getD_eq_getElem?_getD, List.getElem?_append_left (show i < vs.length by omega)]
    have h2 : (os ++ [o]).getD i dOp = os.getD i dOp := by simp [List.getD_eq_getElem?_getD, List.getElem?_append_left hk]
    rw [h1, h2, ← eget_eq]
    exact h.2 i hk
  · have hi' : i = os.length := by simp at hi; omega
    subst hi'
    have h1 : (vs ++ [v]).getD os.length tOp.dflt = v := by rw [← hl]; simp [List.getD_eq_getElem?_getD]
    have h2 : (os ++ [o]).getD os.length dOp = o := by simp [List.getD_eq_getElem?_getD]
    rw [h1, h2]
    exact hv
end Go.Proofs.YtemnlcnjpjdoaaaGreatDoor
