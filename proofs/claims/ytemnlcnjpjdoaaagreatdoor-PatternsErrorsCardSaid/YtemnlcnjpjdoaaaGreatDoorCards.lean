/-
  DERIVED. GIVEN WITH THE SEED: THE CARDS: each row of YtemnlcnjpjdoaaaGreatDoorRows.lean that lists a variable, with what it lists TIED to the program's text (the seventh form; the later family's looks); each row that meets fmt, with fmt's text TOLD by the authors' own Lean function (tested against real Go, not proved from fmt's source: count such statements apart). THE CARD IS WHAT COUNTS. Prove the row's statement (the work); the ties are given (YtemnlcnjpjdoaaaGreatDoorTie.lean); close each card by the builder's one call (the guide's Derived/Test/ToyasCard.lean, 'card_holds'). Laid BY PROGRAM, IN A SANDBOX (cutbox-door.mjs). By AI agents, Wed Nov 11 2026. No macro, syntax, notation, axiom, sorry.
-/
import Derived.Test.YtemnlcnjpjdoaaaGreatDoorRows
import GoSem.ClaimSeven
namespace Go.Proofs.YtemnlcnjpjdoaaaGreatDoor
namespace Rows

/-- THE TIED CARD OF 'stratagemlaw42.PatternsSystematic'. -/
def patternsSystematicCard : Claim7 := { stood := { row := patternsSystematicRow, standIns := [], harness := (true, "3399a96d2b3b70b7447d5a10c408efcbe88072c5130261109605110a895629c5"), looks := true }, kinds := [], alts := [], laidByText := true, laidKinds := [.data], laidTests := true, laidLooks := .later }
def PatternsSystematicCardSaid : Prop := Claim7.holds Tryz.pinned (.plain (OpenSpec.ofChange patternsSystematicSpec)) patternsSystematicCard

/-- THE TIED CARD OF 'stratagemlaw42.PatternsCanonical'. -/
def patternsCanonicalCard : Claim7 := { stood := { row := patternsCanonicalRow, standIns := [], harness := (true, "3399a96d2b3b70b7447d5a10c408efcbe88072c5130261109605110a895629c5"), looks := true }, kinds := [], alts := [], laidByText := true, laidKinds := [.data], laidTests := true, laidLooks := .later }
def PatternsCanonicalCardSaid : Prop := Claim7.holds Tryz.pinned (.plain (OpenSpec.ofChange patternsCanonicalSpec)) patternsCanonicalCard

/-- THE TIED CARD OF 'stratagemlaw42.PatternsAdmissible'. -/
def patternsAdmissibleCard : Claim7 := { stood := { row := patternsAdmissibleRow, standIns := [], harness := (true, "3399a96d2b3b70b7447d5a10c408efcbe88072c5130261109605110a895629c5"), looks := true }, kinds := [], alts := [], laidByText := true, laidKinds := [.data], laidTests := true, laidLooks := .later }
def PatternsAdmissibleCardSaid : Prop := Claim7.holds Tryz.pinned (.plain (OpenSpec.ofChange patternsAdmissibleSpec)) patternsAdmissibleCard

/-- THE TIED CARD OF 'stratagemlaw42.PatternsMore'. -/
def patternsMoreCard : Claim7 := { stood := { row := patternsMoreRow, standIns := [], harness := (true, "3399a96d2b3b70b7447d5a10c408efcbe88072c5130261109605110a895629c5"), looks := true }, kinds := [], alts := [], laidByText := true, laidKinds := [.data], laidTests := true, laidLooks := .later }
def PatternsMoreCardSaid : Prop := Claim7.holds Tryz.pinned (.plain (OpenSpec.ofChange patternsMoreSpec)) patternsMoreCard

/-- THE TIED CARD OF 'stratagemlaw42.PatternsAdditive'. -/
def patternsAdditiveCard : Claim7 := { stood := { row := patternsAdditiveRow, standIns := [], harness := (true, "3399a96d2b3b70b7447d5a10c408efcbe88072c5130261109605110a895629c5"), looks := true }, kinds := [], alts := [], laidByText := true, laidKinds := [.data], laidTests := true, laidLooks := .later }
def PatternsAdditiveCardSaid : Prop := Claim7.holds Tryz.pinned (.plain (OpenSpec.ofChange patternsAdditiveSpec)) patternsAdditiveCard

/-- THE TIED CARD OF 'stratagemlaw42.PatternsErrors'. -/
def patternsErrorsCard : Claim7 := { stood := { row := patternsErrorsRow, standIns := [], harness := (true, "3399a96d2b3b70b7447d5a10c408efcbe88072c5130261109605110a895629c5"), looks := true }, kinds := [], alts := [], laidByText := true, laidKinds := [.data], laidTests := true, laidLooks := .later }
def PatternsErrorsCardSaid : Prop := Claim7.holds Tryz.pinned (.plain (OpenSpec.ofChange patternsErrorsSpec)) patternsErrorsCard

/-- THE SECOND FORM's CARD OF 'stratagemlaw42.PatternsSystematic'. -/
def patternsSystematicUptoCard : Claim7 := { stood := { row := patternsSystematicUptoRow, standIns := [], harness := (true, "3399a96d2b3b70b7447d5a10c408efcbe88072c5130261109605110a895629c5"), looks := true }, kinds := [], alts := [], laidByText := true, laidKinds := [.data], laidTests := true, laidLooks := .later }
def PatternsSystematicUptoCardSaid : Prop := Claim7.holds Tryz.pinned (.plain (OpenSpec.upto patternsSystematicSpec)) patternsSystematicUptoCard

/-- THE SECOND FORM's CARD OF 'stratagemlaw42.PatternsCanonical'. -/
def patternsCanonicalUptoCard : Claim7 := { stood := { row := patternsCanonicalUptoRow, standIns := [], harness := (true, "3399a96d2b3b70b7447d5a10c408efcbe88072c5130261109605110a895629c5"), looks := true }, kinds := [], alts := [], laidByText := true, laidKinds := [.data], laidTests := true, laidLooks := .later }
def PatternsCanonicalUptoCardSaid : Prop := Claim7.holds Tryz.pinned (.plain (OpenSpec.upto patternsCanonicalSpec)) patternsCanonicalUptoCard

/-- THE SECOND FORM's CARD OF 'stratagemlaw42.PatternsAdmissible'. -/
def patternsAdmissibleUptoCard : Claim7 := { stood := { row := patternsAdmissibleUptoRow, standIns := [], harness := (true, "3399a96d2b3b70b7447d5a10c408efcbe88072c5130261109605110a895629c5"), looks := true }, kinds := [], alts := [], laidByText := true, laidKinds := [.data], laidTests := true, laidLooks := .later }
def PatternsAdmissibleUptoCardSaid : Prop := Claim7.holds Tryz.pinned (.plain (OpenSpec.upto patternsAdmissibleSpec)) patternsAdmissibleUptoCard

/-- THE SECOND FORM's CARD OF 'stratagemlaw42.PatternsMore'. -/
def patternsMoreUptoCard : Claim7 := { stood := { row := patternsMoreUptoRow, standIns := [], harness := (true, "3399a96d2b3b70b7447d5a10c408efcbe88072c5130261109605110a895629c5"), looks := true }, kinds := [], alts := [], laidByText := true, laidKinds := [.data], laidTests := true, laidLooks := .later }
def PatternsMoreUptoCardSaid : Prop := Claim7.holds Tryz.pinned (.plain (OpenSpec.upto patternsMoreSpec)) patternsMoreUptoCard

/-- THE SECOND FORM's CARD OF 'stratagemlaw42.PatternsAdditive'. -/
def patternsAdditiveUptoCard : Claim7 := { stood := { row := patternsAdditiveUptoRow, standIns := [], harness := (true, "3399a96d2b3b70b7447d5a10c408efcbe88072c5130261109605110a895629c5"), looks := true }, kinds := [], alts := [], laidByText := true, laidKinds := [.data], laidTests := true, laidLooks := .later }
def PatternsAdditiveUptoCardSaid : Prop := Claim7.holds Tryz.pinned (.plain (OpenSpec.upto patternsAdditiveSpec)) patternsAdditiveUptoCard

/-- THE SECOND FORM's CARD OF 'stratagemlaw42.PatternsErrors'. -/
def patternsErrorsUptoCard : Claim7 := { stood := { row := patternsErrorsUptoRow, standIns := [], harness := (true, "3399a96d2b3b70b7447d5a10c408efcbe88072c5130261109605110a895629c5"), looks := true }, kinds := [], alts := [], laidByText := true, laidKinds := [.data], laidTests := true, laidLooks := .later }
def PatternsErrorsUptoCardSaid : Prop := Claim7.holds Tryz.pinned (.plain (OpenSpec.upto patternsErrorsSpec)) patternsErrorsUptoCard
end Rows
end Go.Proofs.YtemnlcnjpjdoaaaGreatDoor
