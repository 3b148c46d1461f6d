
/-
  Contracts of the package 'saturate': 'pattern', 'New', 'Parts', 'Value'.
-/
import Derived.Test.YtemnlcnjpjdoaaaGreatDoorTRun
import Derived.Test.YtemnlcnjpjdoaaaGreatDoorMSlB
set_option linter.unusedSimpArgs false
set_option linter.unusedVariables false
namespace Go.Proofs.YtemnlcnjpjdoaaaGreatDoor
open Go.Sl Go
attribute [local irreducible] vc opsW opsD opV opW PureV ReadV Thn Blk
/-- A list of lists of numbers is read. -/
structure RLs (w : World) (s : Value) (ss : List Value) (Ls : List (List Int)) : Prop where
  rs : RS tVal w s ss
  len : ss.length = Ls.length
  at_ : ∀ i, i < Ls.length → RS tInt w (vget ss i) (Ls.getD i [])
theorem RLs.at {w0 w : World} {Γ : List HP} {s : Value} {ss : List Value} {Ls : List (List Int)} (h : RLs w0 s ss Ls) (hw : Sat w0 w Γ) : RLs w s ss Ls := ⟨h.rs.at hw, h.len, fun i hi => (h.at_ i hi).at hw⟩

end Go.Proofs.YtemnlcnjpjdoaaaGreatDoor
