
/-
  What a row that lists the table of math/bits asks and gives.
-/
import Derived.Test.YtnoiagnmbipppaaDoorRows
import Derived.Test.YtnoiagnmbipppaaDoorTie
import Derived.Test.YtnoiagnmbipppaaDoorCards
import Derived.Test.YtnoiagnmbipppaaDoorWBits
import Derived.LaidMore
import Derived.LaidHandle
import Derived.Lib.LaidTab
import Derived.Stop.Joined
import Derived.SevenTiedAt
set_option linter.unusedSimpArgs false
set_option linter.unusedVariables false
namespace Go.Proofs.YtnoiagnmbipppaaDoor
open Go.Sl Go
def laidL : List (String × DataW Unit) := [("math/bits.deBruijn64tab", Rows.laid_math_bits_deBruijn64tab)]
theorem door_met (os : Os) (args : Array Value) : laidMetH Tryd.prog laidL ((World.doorLaid Tryd.prog 14 os).forCall (fun _ _ => 0) ⟨#[], args, []⟩).memory :=
  laidMetH_of_parts3 (fuel := 8) (laidMet_of_run' 8 (by kernel_rfl) (by kernel_rfl)) (by kernel_rfl) (by kernel_rfl)
theorem tabB_of {W : World} (h : laidMetH Tryd.prog laidL W) : TabB W := by
  rw [MakeChecks.laidMetH_plain _ _ _ (by kernel_rfl)] at h
  have ht : Lib.TabIs Tryd.prog W "math/bits.deBruijn64tab" .u8 tzTab := Lib.tabIs_of_head (rest := []) (g := 0) (t := 74) (e := 5) (n := 64) (by kernel_rfl) (by kernel_rfl) (by kernel_rfl) (by kernel_rfl) (by kernel_rfl) (by kernel_rfl) h
  intro j v hv
  rw [List.getElem?_map, Option.map_eq_some_iff] at hv
  obtain ⟨z, hz, rfl⟩ := hv
  have hj : j < tzTab.length := by
    rcases Nat.lt_or_ge j tzTab.length with h | h
    · exact h
    · rw [List.getElem?_eq_none h] at hz; cases hz
  have hc := ht.cell (g := 0) (by kernel_rfl) j hj
  have e : (⟨0, 0, none⟩ : Addr).add j = ⟨0, j, none⟩ := by
    unfold Addr.add; split
    · rename_i h0; subst h0; rfl
    · simp
  rw [e, hc]
  simp [List.getD, hz]
end Go.Proofs.YtnoiagnmbipppaaDoor
