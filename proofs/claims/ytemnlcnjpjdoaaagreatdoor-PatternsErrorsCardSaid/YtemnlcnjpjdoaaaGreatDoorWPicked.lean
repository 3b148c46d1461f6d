
/-
  Contract of 'picked': patterns by sets of bits.
-/
import Derived.Test.YtemnlcnjpjdoaaaGreatDoorWSatAw
set_option linter.unusedSimpArgs false
set_option linter.unusedVariables false
namespace Go.Proofs.YtemnlcnjpjdoaaaGreatDoor
open Go.Sl Go
attribute [local irreducible] vc opsW opsD opV opW PureV ReadV Thn Blk
/-- The patterns are taken. -/
def PickOk (t : TTask) (xs : List Int) : Prop := SmallT t ∧ xs.length ≤ 6 ∧ ∀ i, i < xs.length → cntL t.vars (chosenK (xs.getD i tU16.dflt) t.vars.length) ≤ 64
def pickLs (t : TTask) (xs : List Int) : List (List Int) := xs.map fun b => chosenK b t.vars.length
theorem pickLs_len (t : TTask) (xs : List Int) : (pickLs t xs).length = xs.length := by simp [pickLs]
theorem pickLs_at {t : TTask} {xs : List Int} {i : Nat} (h : i < xs.length) : (pickLs t xs).getD i [] = chosenK (xs.getD i tU16.dflt) t.vars.length := by simp [pickLs, List.getD, h]
theorem PickOk.inV {t : TTask} {xs : List Int} {i : Nat} (h : i < xs.length) : InV t.vars ((pickLs t xs).getD i []) := by rw [pickLs_at h]; exact chosen_inV _ _
end Go.Proofs.YtemnlcnjpjdoaaaGreatDoor
