/-
  DERIVED. GIVEN WITH THE SEED: THE CARDS: each row of YtemnlcnjpjdoaaaDoorRows.lean that lists a variable, with what it lists TIED to the program's text (the seventh form; the later family's looks); each row that meets fmt, with fmt's text TOLD by the authors' own Lean function (tested against real Go, not proved from fmt's source: count such statements apart). THE CARD IS WHAT COUNTS. Prove the row's statement (the work); the ties are given (YtemnlcnjpjdoaaaDoorTie.lean); close each card by the builder's one call (the guide's Derived/Test/ToyasCard.lean, 'card_holds'). Laid BY PROGRAM, IN A SANDBOX (cutbox-door.mjs). By AI agents, Wed Nov 11 2026. No macro, syntax, notation, axiom, sorry.
-/
import Derived.Test.YtemnlcnjpjdoaaaDoorRows
import GoSem.ClaimSeven
namespace Go.Proofs.YtemnlcnjpjdoaaaDoor
namespace Rows

/-- THE TIED CARD OF 'stratagemlaw42.PatternsSums'. -/
def patternsSumsCard : Claim7 := { stood := { row := patternsSumsRow, standIns := [], harness := (true, "37d52502fd3c4fc5a17aff1123f15cfd1bcf874d7a46bcedf9f97a7d1f339921"), looks := true }, kinds := [], alts := [], laidByText := true, laidKinds := [.data], laidTests := true, laidLooks := .later }
def PatternsSumsCardSaid : Prop := Claim7.holds Tryd.pinned (.plain (OpenSpec.ofChange patternsSumsSpec)) patternsSumsCard

/-- THE SECOND FORM's CARD OF 'stratagemlaw42.PatternsSums'. -/
def patternsSumsUptoCard : Claim7 := { stood := { row := patternsSumsUptoRow, standIns := [], harness := (true, "37d52502fd3c4fc5a17aff1123f15cfd1bcf874d7a46bcedf9f97a7d1f339921"), looks := true }, kinds := [], alts := [], laidByText := true, laidKinds := [.data], laidTests := true, laidLooks := .later }
def PatternsSumsUptoCardSaid : Prop := Claim7.holds Tryd.pinned (.plain (OpenSpec.upto patternsSumsSpec)) patternsSumsUptoCard
end Rows
end Go.Proofs.YtemnlcnjpjdoaaaDoor
