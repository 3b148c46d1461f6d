/-
  DERIVED. GIVEN WITH THE SEED: THE CARDS: each row of YtggdgcmjcahbbaaGreatDoorRows.lean that lists a variable, with what it lists TIED to the program's text (the seventh form; the later family's looks); each row that meets fmt, with fmt's text TOLD by the authors' own Lean function (tested against real Go, not proved from fmt's source: count such statements apart). THE CARD IS WHAT COUNTS. Prove the row's statement (the work); the ties are given (YtggdgcmjcahbbaaGreatDoorTie.lean); close each card by the builder's one call (the guide's Derived/Test/ToyasCard.lean, 'card_holds'). Laid BY PROGRAM, IN A SANDBOX (cutbox-door.mjs). By AI agents, Wed Nov 11 2026. No macro, syntax, notation, axiom, sorry.
-/
import Derived.Test.YtggdgcmjcahbbaaGreatDoorRows
import GoSem.ClaimSeven
namespace Go.Proofs.YtggdgcmjcahbbaaGreatDoor
namespace Rows

/-- THE TIED CARD OF 'stratagemlaw47.EstimatePatterns'. -/
def estimatePatternsCard : Claim7 := { stood := { row := estimatePatternsRow, standIns := [], harness := (true, "fa2c981571822f86d8d63b796ad229e3aff8c3187799162a7b7e0dd8687979ec"), looks := true }, kinds := [], alts := [], laidByText := true, laidKinds := [.data], laidTests := true, laidLooks := .later }
def EstimatePatternsCardSaid : Prop := Claim7.holds Tryz.pinned (.plain (OpenSpec.ofChange estimatePatternsSpec)) estimatePatternsCard

/-- THE SECOND FORM's CARD OF 'stratagemlaw47.EstimatePatterns'. -/
def estimatePatternsUptoCard : Claim7 := { stood := { row := estimatePatternsUptoRow, standIns := [], harness := (true, "fa2c981571822f86d8d63b796ad229e3aff8c3187799162a7b7e0dd8687979ec"), looks := true }, kinds := [], alts := [], laidByText := true, laidKinds := [.data], laidTests := true, laidLooks := .later }
def EstimatePatternsUptoCardSaid : Prop := Claim7.holds Tryz.pinned (.plain (OpenSpec.upto estimatePatternsSpec)) estimatePatternsUptoCard
end Rows
end Go.Proofs.YtggdgcmjcahbbaaGreatDoor
