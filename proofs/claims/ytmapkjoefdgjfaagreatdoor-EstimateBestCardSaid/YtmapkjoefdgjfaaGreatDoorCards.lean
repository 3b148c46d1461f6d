/-
  DERIVED. GIVEN WITH THE SEED: THE CARDS: each row of YtmapkjoefdgjfaaGreatDoorRows.lean that lists a variable, with what it lists TIED to the program's text (the seventh form; the later family's looks); each row that meets fmt, with fmt's text TOLD by the authors' own Lean function (tested against real Go, not proved from fmt's source: count such statements apart). THE CARD IS WHAT COUNTS. Prove the row's statement (the work); the ties are given (YtmapkjoefdgjfaaGreatDoorTie.lean); close each card by the builder's one call (the guide's Derived/Test/ToyasCard.lean, 'card_holds'). Laid BY PROGRAM, IN A SANDBOX (cutbox-door.mjs). By AI agents, Wed Nov 11 2026. No macro, syntax, notation, axiom, sorry.
-/
import Derived.Test.YtmapkjoefdgjfaaGreatDoorRows
import GoSem.ClaimSeven
namespace Go.Proofs.YtmapkjoefdgjfaaGreatDoor
namespace Rows

/-- THE TIED CARD OF 'stratagemtop.WholeConsistent'. -/
def wholeConsistentCard : Claim7 := { stood := { row := wholeConsistentRow, standIns := [], harness := (true, "1ea19ee2d11d6dad3802455beaedb427634a91ccd2065f57769572184a41d096"), looks := true }, kinds := [], alts := [], laidByText := true, laidKinds := [.data, .data, .data], laidTests := true, laidLooks := .later }
def WholeConsistentCardSaid : Prop := Claim7.holds Tryz.pinned (.plain (OpenSpec.ofChange wholeConsistentSpec)) wholeConsistentCard

/-- THE TIED CARD OF 'stratagemtop.WholeHeuristics'. -/
def wholeHeuristicsCard : Claim7 := { stood := { row := wholeHeuristicsRow, standIns := [], harness := (true, "1ea19ee2d11d6dad3802455beaedb427634a91ccd2065f57769572184a41d096"), looks := true }, kinds := [], alts := [], laidByText := true, laidKinds := [.data, .data, .data], laidTests := true, laidLooks := .later }
def WholeHeuristicsCardSaid : Prop := Claim7.holds Tryz.pinned (.plain (OpenSpec.ofChange wholeHeuristicsSpec)) wholeHeuristicsCard

/-- THE TIED CARD OF 'stratagemlaw47.EstimateAdmissible'. -/
def estimateAdmissibleCard : Claim7 := { stood := { row := estimateAdmissibleRow, standIns := [], harness := (true, "1ea19ee2d11d6dad3802455beaedb427634a91ccd2065f57769572184a41d096"), looks := true }, kinds := [], alts := [], laidByText := true, laidKinds := [.data, .data, .data], laidTests := true, laidLooks := .later }
def EstimateAdmissibleCardSaid : Prop := Claim7.holds Tryz.pinned (.plain (OpenSpec.ofChange estimateAdmissibleSpec)) estimateAdmissibleCard

/-- THE TIED CARD OF 'stratagemlaw47.EstimateBest'. -/
def estimateBestCard : Claim7 := { stood := { row := estimateBestRow, standIns := [], harness := (true, "1ea19ee2d11d6dad3802455beaedb427634a91ccd2065f57769572184a41d096"), looks := true }, kinds := [], alts := [], laidByText := true, laidKinds := [.data, .data, .data], laidTests := true, laidLooks := .later }
def EstimateBestCardSaid : Prop := Claim7.holds Tryz.pinned (.plain (OpenSpec.ofChange estimateBestSpec)) estimateBestCard

/-- THE SECOND FORM's CARD OF 'stratagemtop.WholeConsistent'. -/
def wholeConsistentUptoCard : Claim7 := { stood := { row := wholeConsistentUptoRow, standIns := [], harness := (true, "1ea19ee2d11d6dad3802455beaedb427634a91ccd2065f57769572184a41d096"), looks := true }, kinds := [], alts := [], laidByText := true, laidKinds := [.data, .data, .data], laidTests := true, laidLooks := .later }
def WholeConsistentUptoCardSaid : Prop := Claim7.holds Tryz.pinned (.plain (OpenSpec.upto wholeConsistentSpec)) wholeConsistentUptoCard

/-- THE SECOND FORM's CARD OF 'stratagemtop.WholeHeuristics'. -/
def wholeHeuristicsUptoCard : Claim7 := { stood := { row := wholeHeuristicsUptoRow, standIns := [], harness := (true, "1ea19ee2d11d6dad3802455beaedb427634a91ccd2065f57769572184a41d096"), looks := true }, kinds := [], alts := [], laidByText := true, laidKinds := [.data, .data, .data], laidTests := true, laidLooks := .later }
def WholeHeuristicsUptoCardSaid : Prop := Claim7.holds Tryz.pinned (.plain (OpenSpec.upto wholeHeuristicsSpec)) wholeHeuristicsUptoCard

/-- THE SECOND FORM's CARD OF 'stratagemlaw47.EstimateAdmissible'. -/
def estimateAdmissibleUptoCard : Claim7 := { stood := { row := estimateAdmissibleUptoRow, standIns := [], harness := (true, "1ea19ee2d11d6dad3802455beaedb427634a91ccd2065f57769572184a41d096"), looks := true }, kinds := [], alts := [], laidByText := true, laidKinds := [.data, .data, .data], laidTests := true, laidLooks := .later }
def EstimateAdmissibleUptoCardSaid : Prop := Claim7.holds Tryz.pinned (.plain (OpenSpec.upto estimateAdmissibleSpec)) estimateAdmissibleUptoCard

/-- THE SECOND FORM's CARD OF 'stratagemlaw47.EstimateBest'. -/
def estimateBestUptoCard : Claim7 := { stood := { row := estimateBestUptoRow, standIns := [], harness := (true, "1ea19ee2d11d6dad3802455beaedb427634a91ccd2065f57769572184a41d096"), looks := true }, kinds := [], alts := [], laidByText := true, laidKinds := [.data, .data, .data], laidTests := true, laidLooks := .later }
def EstimateBestUptoCardSaid : Prop := Claim7.holds Tryz.pinned (.plain (OpenSpec.upto estimateBestSpec)) estimateBestUptoCard
end Rows
end Go.Proofs.YtmapkjoefdgjfaaGreatDoor
