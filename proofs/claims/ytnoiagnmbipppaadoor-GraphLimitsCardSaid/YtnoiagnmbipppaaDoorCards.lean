/-
  DERIVED. GIVEN WITH THE SEED: THE CARDS: each row of YtnoiagnmbipppaaDoorRows.lean that lists a variable, with what it lists TIED to the program's text (the seventh form; the later family's looks); each row that meets fmt, with fmt's text TOLD by the authors' own Lean function (tested against real Go, not proved from fmt's source: count such statements apart). THE CARD IS WHAT COUNTS. Prove the row's statement (the work); the ties are given (YtnoiagnmbipppaaDoorTie.lean); close each card by the builder's one call (the guide's Derived/Test/ToyasCard.lean, 'card_holds'). Laid BY PROGRAM, IN A SANDBOX (cutbox-door.mjs). By AI agents, Wed Nov 11 2026. No macro, syntax, notation, axiom, sorry.
-/
import Derived.Test.YtnoiagnmbipppaaDoorRows
import GoSem.ClaimSeven
namespace Go.Proofs.YtnoiagnmbipppaaDoor
namespace Rows

/-- THE TIED CARD OF 'stratagemlaw04.GraphCliques'. -/
def graphCliquesCard : Claim7 := { stood := { row := graphCliquesRow, standIns := [], harness := (true, "ff56cfa0cf48ffce4693a80dc78f023777e3464d47f5702f6da1a60406589b40"), looks := true }, kinds := [], alts := [], laidByText := true, laidKinds := [.data], laidTests := true, laidLooks := .later }
def GraphCliquesCardSaid : Prop := Claim7.holds Tryd.pinned (.plain (OpenSpec.ofChange graphCliquesSpec)) graphCliquesCard

/-- THE TIED CARD OF 'stratagemlaw04.GraphLimits'. -/
def graphLimitsCard : Claim7 := { stood := { row := graphLimitsRow, standIns := [], harness := (true, "ff56cfa0cf48ffce4693a80dc78f023777e3464d47f5702f6da1a60406589b40"), looks := true }, kinds := [], alts := [], laidByText := true, laidKinds := [.data], laidTests := true, laidLooks := .later }
def GraphLimitsCardSaid : Prop := Claim7.holds Tryd.pinned (.plain (OpenSpec.ofChange graphLimitsSpec)) graphLimitsCard

/-- THE SECOND FORM's CARD OF 'stratagemlaw04.GraphCliques'. -/
def graphCliquesUptoCard : Claim7 := { stood := { row := graphCliquesUptoRow, standIns := [], harness := (true, "ff56cfa0cf48ffce4693a80dc78f023777e3464d47f5702f6da1a60406589b40"), looks := true }, kinds := [], alts := [], laidByText := true, laidKinds := [.data], laidTests := true, laidLooks := .later }
def GraphCliquesUptoCardSaid : Prop := Claim7.holds Tryd.pinned (.plain (OpenSpec.upto graphCliquesSpec)) graphCliquesUptoCard

/-- THE SECOND FORM's CARD OF 'stratagemlaw04.GraphLimits'. -/
def graphLimitsUptoCard : Claim7 := { stood := { row := graphLimitsUptoRow, standIns := [], harness := (true, "ff56cfa0cf48ffce4693a80dc78f023777e3464d47f5702f6da1a60406589b40"), looks := true }, kinds := [], alts := [], laidByText := true, laidKinds := [.data], laidTests := true, laidLooks := .later }
def GraphLimitsUptoCardSaid : Prop := Claim7.holds Tryd.pinned (.plain (OpenSpec.upto graphLimitsSpec)) graphLimitsUptoCard
end Rows
end Go.Proofs.YtnoiagnmbipppaaDoor
