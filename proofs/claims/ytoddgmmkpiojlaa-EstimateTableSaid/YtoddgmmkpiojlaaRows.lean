/-
  No cell of these rows narrows 'for every input' (looked for: loops, veiled, ifaces, maps, wideKeys, modest, calm, conditions, laid).
  DERIVED. THE GIVEN ROWS OF THIS SEAT. 3 by the template 'for every input the law returns true; each argument reads behind the call as it read before'; 0 by the template 'total and deterministic' (their statements: YtoddgmmkpiojlaaTotals.lean).
  GIVEN WITH THE SEED: the statements are not yours to turn. If you find one false, say at which input.
  Laid BY PROGRAM, IN A SANDBOX (cutbox-rows.mjs): the forced cells as the released guide's own fill.sh prints them over the translation e2245ceb5cd85721… (all of the seat's roots in one cut). By AI agents, Wed Nov 11 2026. No macro, syntax, notation, axiom, sorry.
-/
import Derived.Test.YtoddgmmkpiojlaaChecked
import GoSem.Claim
import GoSem.ClaimJoined
import GoSem.ClaimMapViews
import Derived.JoinedTies
import Derived.KernelRfl
namespace Go.Proofs.Ytoddgmmkpiojlaa
/- THE CELL 'sum', in the pinned program and in every row, IS THE sha256 OF THE DUMP (.gsa) THAT YtoddgmmkpiojlaaProg.lean LOADS. Nothing in Lean hashes anything: it is a label: what it is worth is what the hold of that sum in a sandbox is worth. -/
noncomputable def Try.pinned : Pinned := { name := "ytoddgmmkpiojlaa", sum := "e2245ceb5cd857215406a77ce93ab38199cf3f767c7e724017e28557b87ef866", checked := Try.checked }
namespace Rows
def none {H : Type} : Left H := { results := [], args := [] }

/-- 'stratagemlaw47.EstimateBlind': WHATEVER THE INPUT: true; the input reads as it did. -/
def estimateBlindSpec : ChangeSpec := { name := "estimateBlind", fn := fun _ => fun
  | [d] => { results := [.lit (.bool true)], args := [d] }
  | _ => none }
def estimateBlindRow : OpenClaim := { program := "ytoddgmmkpiojlaa", sum := "e2245ceb5cd857215406a77ce93ab38199cf3f767c7e724017e28557b87ef866", func := "stratagem/stratagemlaw47.EstimateBlind", spec := "estimateBlind", unfollowed := true, recurses := true, apart := false }
def EstimateBlindSaid : Prop := estimateBlindRow.holds Try.pinned (OpenSpec.ofChange estimateBlindSpec)

/-- ITS FALSE NEIGHBOUR: 'it returns false'. Refute it at one input. -/
def estimateBlindWrong : ChangeSpec := { name := "estimateBlind", fn := fun _ => fun
  | [d] => { results := [.lit (.bool false)], args := [d] }
  | _ => none }
def EstimateBlindWrongFalsely : Prop := estimateBlindRow.holds Try.pinned (OpenSpec.ofChange estimateBlindWrong)

/-- 'stratagemlaw47.EstimateTable': WHATEVER THE INPUT: true; the input reads as it did. -/
def estimateTableSpec : ChangeSpec := { name := "estimateTable", fn := fun _ => fun
  | [d1, d2] => { results := [.lit (.bool true)], args := [d1, d2] }
  | _ => none }
def estimateTableRow : OpenClaim := { program := "ytoddgmmkpiojlaa", sum := "e2245ceb5cd857215406a77ce93ab38199cf3f767c7e724017e28557b87ef866", func := "stratagem/stratagemlaw47.EstimateTable", spec := "estimateTable", unfollowed := true, recurses := true, apart := false }
def EstimateTableSaid : Prop := estimateTableRow.holds Try.pinned (OpenSpec.ofChange estimateTableSpec)

/-- ITS FALSE NEIGHBOUR: 'it returns false'. Refute it at one input. -/
def estimateTableWrong : ChangeSpec := { name := "estimateTable", fn := fun _ => fun
  | [d1, d2] => { results := [.lit (.bool false)], args := [d1, d2] }
  | _ => none }
def EstimateTableWrongFalsely : Prop := estimateTableRow.holds Try.pinned (OpenSpec.ofChange estimateTableWrong)

/-- 'stratagemlaw50.IdastarRounds': WHATEVER THE INPUT: true; the input reads as it did. -/
def idastarRoundsSpec : ChangeSpec := { name := "idastarRounds", fn := fun _ => fun
  | [d1, d2] => { results := [.lit (.bool true)], args := [d1, d2] }
  | _ => none }
def idastarRoundsRow : OpenClaim := { program := "ytoddgmmkpiojlaa", sum := "e2245ceb5cd857215406a77ce93ab38199cf3f767c7e724017e28557b87ef866", func := "stratagem/stratagemlaw50.IdastarRounds", spec := "idastarRounds", unfollowed := true, recurses := true, apart := false }
def IdastarRoundsSaid : Prop := idastarRoundsRow.holds Try.pinned (OpenSpec.ofChange idastarRoundsSpec)

/-- ITS FALSE NEIGHBOUR: 'it returns false'. Refute it at one input. -/
def idastarRoundsWrong : ChangeSpec := { name := "idastarRounds", fn := fun _ => fun
  | [d1, d2] => { results := [.lit (.bool false)], args := [d1, d2] }
  | _ => none }
def IdastarRoundsWrongFalsely : Prop := idastarRoundsRow.holds Try.pinned (OpenSpec.ofChange idastarRoundsWrong)

/- THE SECOND FORM. 'bulk': how many values and letters a reading holds, each counted each time it is reached (what is shared counts as often as it is met; a slice's spare places count too). A statement '..UptoSaid' is the law's where the arguments, and the package variables that the reading takes, are together of bulk at most 1048576: NARROWER than '..Said'. Prove '..Said' where nothing that the law and all that it calls make is longer than what came in: it says more and counts as full. Else prove '..UptoSaid'. A law counts once. -/
mutual
def uptoBulk {H : Type} : DataW H → Nat
  | .lit (.string bytes) => bytes.length + 1
  | .lit _ => 1
  | .nil => 1
  | .ptr d => uptoBulk d + 1
  | .slice elems spare => uptoBulkAll elems + uptoBulkAll spare + 1
  | .agg parts => uptoBulkAll parts + 1
  | .iface _ d => uptoBulk d + 1
  | .map entries => uptoBulkEntries entries + 1
  | .held _ => 1
def uptoBulkAll {H : Type} : List (DataW H) → Nat
  | [] => 0
  | d :: r => uptoBulk d + uptoBulkAll r
def uptoBulkEntries {H : Type} : List (Lit × DataW H) → Nat
  | [] => 0
  | x :: r => uptoBulkEntry x + uptoBulkEntries r
def uptoBulkEntry {H : Type} : Lit × DataW H → Nat
  | (.string bytes, d) => bytes.length + uptoBulk d + 1
  | (_, d) => uptoBulk d + 1
 end
def uptoSmall : (H : Type) → List (DataW H) → Bool := fun _ ds => decide (uptoBulkAll ds ≤ 1048576)
def OpenSpec.upto (s : _root_.Go.ChangeSpec) : _root_.Go.OpenSpec := { _root_.Go.OpenSpec.ofChange s with cond := some uptoSmall }

/-- 'stratagemlaw47.EstimateBlind', WHERE WHAT IT READS IS OF BULK AT MOST 1048576: true; the input reads as it did. -/
def estimateBlindUptoRow : OpenClaim := { program := "ytoddgmmkpiojlaa", sum := "e2245ceb5cd857215406a77ce93ab38199cf3f767c7e724017e28557b87ef866", func := "stratagem/stratagemlaw47.EstimateBlind", spec := "estimateBlind", unfollowed := true, recurses := true, apart := false, narrowed := true }
def EstimateBlindUptoSaid : Prop := estimateBlindUptoRow.holds Try.pinned (OpenSpec.upto estimateBlindSpec)

/-- 'stratagemlaw47.EstimateTable', WHERE WHAT IT READS IS OF BULK AT MOST 1048576: true; the input reads as it did. -/
def estimateTableUptoRow : OpenClaim := { program := "ytoddgmmkpiojlaa", sum := "e2245ceb5cd857215406a77ce93ab38199cf3f767c7e724017e28557b87ef866", func := "stratagem/stratagemlaw47.EstimateTable", spec := "estimateTable", unfollowed := true, recurses := true, apart := false, narrowed := true }
def EstimateTableUptoSaid : Prop := estimateTableUptoRow.holds Try.pinned (OpenSpec.upto estimateTableSpec)

/-- 'stratagemlaw50.IdastarRounds', WHERE WHAT IT READS IS OF BULK AT MOST 1048576: true; the input reads as it did. -/
def idastarRoundsUptoRow : OpenClaim := { program := "ytoddgmmkpiojlaa", sum := "e2245ceb5cd857215406a77ce93ab38199cf3f767c7e724017e28557b87ef866", func := "stratagem/stratagemlaw50.IdastarRounds", spec := "idastarRounds", unfollowed := true, recurses := true, apart := false, narrowed := true }
def IdastarRoundsUptoSaid : Prop := idastarRoundsUptoRow.holds Try.pinned (OpenSpec.upto idastarRoundsSpec)

end Rows
end Go.Proofs.Ytoddgmmkpiojlaa
