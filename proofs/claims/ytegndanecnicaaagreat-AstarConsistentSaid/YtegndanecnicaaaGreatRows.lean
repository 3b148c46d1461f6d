/-
  No cell of these rows narrows 'for every input' (looked for: loops, veiled, ifaces, maps, wideKeys, modest, calm, conditions, laid).
  DERIVED. THE GIVEN ROWS OF THIS SEAT. 6 by the template 'for every input the law returns true; each argument reads behind the call as it read before'; 0 by the template 'total and deterministic' (their statements: YtegndanecnicaaaGreatTotals.lean).
  GIVEN WITH THE SEED: the statements are not yours to turn. If you find one false, say at which input.
  Laid BY PROGRAM, IN A SANDBOX (cutbox-rows.mjs): the forced cells as the released guide's own fill.sh prints them over the translation cf27e36dc25f590c… (all of the seat's roots in one cut). By AI agents, Wed Nov 11 2026. No macro, syntax, notation, axiom, sorry.
-/
import Derived.Test.YtegndanecnicaaaGreatChecked
import GoSem.Claim
import GoSem.ClaimJoined
import GoSem.ClaimMapViews
import Derived.JoinedTies
import Derived.KernelRfl
namespace Go.Proofs.YtegndanecnicaaaGreat
/- THE CELL 'sum', in the pinned program and in every row, IS THE sha256 OF THE DUMP (.gsa) THAT YtegndanecnicaaaGreatProg.lean LOADS. Nothing in Lean hashes anything: it is a label: what it is worth is what the hold of that sum in a sandbox is worth. -/
noncomputable def Tryz.pinned : Pinned := { name := "ytegndanecnicaaagreat", sum := "cf27e36dc25f590c85caac44aeffa52f1f21a348a6c92b978c10fbf6174a8eac", checked := Tryz.checked }
namespace Rows
def none {H : Type} : Left H := { results := [], args := [] }

/-- 'stratagemlaw49.AstarErrors': WHATEVER THE INPUT: true; the input reads as it did. -/
def astarErrorsSpec : ChangeSpec := { name := "astarErrors", fn := fun _ => fun
  | [d1, d2, d3] => { results := [.lit (.bool true)], args := [d1, d2, d3] }
  | _ => none }
def astarErrorsRow : OpenClaim := { program := "ytegndanecnicaaagreat", sum := "cf27e36dc25f590c85caac44aeffa52f1f21a348a6c92b978c10fbf6174a8eac", func := "stratagem/stratagemlaw49.AstarErrors", spec := "astarErrors", unfollowed := true, recurses := true, apart := false }
def AstarErrorsSaid : Prop := astarErrorsRow.holds Tryz.pinned (OpenSpec.ofChange astarErrorsSpec)

/-- ITS FALSE NEIGHBOUR: 'it returns false'. Refute it at one input. -/
def astarErrorsWrong : ChangeSpec := { name := "astarErrors", fn := fun _ => fun
  | [d1, d2, d3] => { results := [.lit (.bool false)], args := [d1, d2, d3] }
  | _ => none }
def AstarErrorsWrongFalsely : Prop := astarErrorsRow.holds Tryz.pinned (OpenSpec.ofChange astarErrorsWrong)

/-- 'stratagemlaw49.AstarTables': WHATEVER THE INPUT: true; the input reads as it did. -/
def astarTablesSpec : ChangeSpec := { name := "astarTables", fn := fun _ => fun
  | [d1, d2] => { results := [.lit (.bool true)], args := [d1, d2] }
  | _ => none }
def astarTablesRow : OpenClaim := { program := "ytegndanecnicaaagreat", sum := "cf27e36dc25f590c85caac44aeffa52f1f21a348a6c92b978c10fbf6174a8eac", func := "stratagem/stratagemlaw49.AstarTables", spec := "astarTables", unfollowed := true, recurses := true, apart := false }
def AstarTablesSaid : Prop := astarTablesRow.holds Tryz.pinned (OpenSpec.ofChange astarTablesSpec)

/-- ITS FALSE NEIGHBOUR: 'it returns false'. Refute it at one input. -/
def astarTablesWrong : ChangeSpec := { name := "astarTables", fn := fun _ => fun
  | [d1, d2] => { results := [.lit (.bool false)], args := [d1, d2] }
  | _ => none }
def AstarTablesWrongFalsely : Prop := astarTablesRow.holds Tryz.pinned (OpenSpec.ofChange astarTablesWrong)

/-- 'stratagemlaw49.AstarConsistent': WHATEVER THE INPUT: true; the input reads as it did. -/
def astarConsistentSpec : ChangeSpec := { name := "astarConsistent", fn := fun _ => fun
  | [d1, d2] => { results := [.lit (.bool true)], args := [d1, d2] }
  | _ => none }
def astarConsistentRow : OpenClaim := { program := "ytegndanecnicaaagreat", sum := "cf27e36dc25f590c85caac44aeffa52f1f21a348a6c92b978c10fbf6174a8eac", func := "stratagem/stratagemlaw49.AstarConsistent", spec := "astarConsistent", unfollowed := true, recurses := true, apart := false }
def AstarConsistentSaid : Prop := astarConsistentRow.holds Tryz.pinned (OpenSpec.ofChange astarConsistentSpec)

/-- ITS FALSE NEIGHBOUR: 'it returns false'. Refute it at one input. -/
def astarConsistentWrong : ChangeSpec := { name := "astarConsistent", fn := fun _ => fun
  | [d1, d2] => { results := [.lit (.bool false)], args := [d1, d2] }
  | _ => none }
def AstarConsistentWrongFalsely : Prop := astarConsistentRow.holds Tryz.pinned (OpenSpec.ofChange astarConsistentWrong)

/-- 'stratagemlaw49.AstarBounded': WHATEVER THE INPUT: true; the input reads as it did. -/
def astarBoundedSpec : ChangeSpec := { name := "astarBounded", fn := fun _ => fun
  | [d1, d2, d3] => { results := [.lit (.bool true)], args := [d1, d2, d3] }
  | _ => none }
def astarBoundedRow : OpenClaim := { program := "ytegndanecnicaaagreat", sum := "cf27e36dc25f590c85caac44aeffa52f1f21a348a6c92b978c10fbf6174a8eac", func := "stratagem/stratagemlaw49.AstarBounded", spec := "astarBounded", unfollowed := true, recurses := true, apart := false }
def AstarBoundedSaid : Prop := astarBoundedRow.holds Tryz.pinned (OpenSpec.ofChange astarBoundedSpec)

/-- ITS FALSE NEIGHBOUR: 'it returns false'. Refute it at one input. -/
def astarBoundedWrong : ChangeSpec := { name := "astarBounded", fn := fun _ => fun
  | [d1, d2, d3] => { results := [.lit (.bool false)], args := [d1, d2, d3] }
  | _ => none }
def AstarBoundedWrongFalsely : Prop := astarBoundedRow.holds Tryz.pinned (OpenSpec.ofChange astarBoundedWrong)

/-- 'stratagemlaw49.AstarPerfect': WHATEVER THE INPUT: true; the input reads as it did. -/
def astarPerfectSpec : ChangeSpec := { name := "astarPerfect", fn := fun _ => fun
  | [d] => { results := [.lit (.bool true)], args := [d] }
  | _ => none }
def astarPerfectRow : OpenClaim := { program := "ytegndanecnicaaagreat", sum := "cf27e36dc25f590c85caac44aeffa52f1f21a348a6c92b978c10fbf6174a8eac", func := "stratagem/stratagemlaw49.AstarPerfect", spec := "astarPerfect", unfollowed := true, recurses := true, apart := false }
def AstarPerfectSaid : Prop := astarPerfectRow.holds Tryz.pinned (OpenSpec.ofChange astarPerfectSpec)

/-- ITS FALSE NEIGHBOUR: 'it returns false'. Refute it at one input. -/
def astarPerfectWrong : ChangeSpec := { name := "astarPerfect", fn := fun _ => fun
  | [d] => { results := [.lit (.bool false)], args := [d] }
  | _ => none }
def AstarPerfectWrongFalsely : Prop := astarPerfectRow.holds Tryz.pinned (OpenSpec.ofChange astarPerfectWrong)

/-- 'stratagemlaw49.AstarAnyTable': WHATEVER THE INPUT: true; the input reads as it did. -/
def astarAnyTableSpec : ChangeSpec := { name := "astarAnyTable", fn := fun _ => fun
  | [d1, d2, d3] => { results := [.lit (.bool true)], args := [d1, d2, d3] }
  | _ => none }
def astarAnyTableRow : OpenClaim := { program := "ytegndanecnicaaagreat", sum := "cf27e36dc25f590c85caac44aeffa52f1f21a348a6c92b978c10fbf6174a8eac", func := "stratagem/stratagemlaw49.AstarAnyTable", spec := "astarAnyTable", unfollowed := true, recurses := true, apart := false }
def AstarAnyTableSaid : Prop := astarAnyTableRow.holds Tryz.pinned (OpenSpec.ofChange astarAnyTableSpec)

/-- ITS FALSE NEIGHBOUR: 'it returns false'. Refute it at one input. -/
def astarAnyTableWrong : ChangeSpec := { name := "astarAnyTable", fn := fun _ => fun
  | [d1, d2, d3] => { results := [.lit (.bool false)], args := [d1, d2, d3] }
  | _ => none }
def AstarAnyTableWrongFalsely : Prop := astarAnyTableRow.holds Tryz.pinned (OpenSpec.ofChange astarAnyTableWrong)

/- THE SECOND FORM. 'bulk': how many values and letters a reading holds, each counted each time it is reached (what is shared counts as often as it is met; a slice's spare places count too). A statement '..UptoSaid' is the law's where the arguments, and the package variables that the reading takes, are together of bulk at most 1048576: NARROWER than '..Said'. Prove '..Said' where nothing that the law and all that it calls make is longer than what came in: it says more and counts as full. Else prove '..UptoSaid'. A law counts once. -/
mutual
def uptoBulk {H : Type} : DataW H → Nat
  | .lit (.string bytes) => bytes.length + 1
  | .lit _ => 1
  | .nil => 1
  | .ptr d => uptoBulk d + 1
  | .slice elems spare => uptoBulkAll elems + uptoBulkAll spare + 1
  | .agg parts => uptoBulkAll parts + 1
  | .iface _ d => uptoBulk d + 1
  | .map entries => uptoBulkEntries entries + 1
  | .held _ => 1
def uptoBulkAll {H : Type} : List (DataW H) → Nat
  | [] => 0
  | d :: r => uptoBulk d + uptoBulkAll r
def uptoBulkEntries {H : Type} : List (Lit × DataW H) → Nat
  | [] => 0
  | x :: r => uptoBulkEntry x + uptoBulkEntries r
def uptoBulkEntry {H : Type} : Lit × DataW H → Nat
  | (.string bytes, d) => bytes.length + uptoBulk d + 1
  | (_, d) => uptoBulk d + 1
 end
def uptoSmall : (H : Type) → List (DataW H) → Bool := fun _ ds => decide (uptoBulkAll ds ≤ 1048576)
def OpenSpec.upto (s : _root_.Go.ChangeSpec) : _root_.Go.OpenSpec := { _root_.Go.OpenSpec.ofChange s with cond := some uptoSmall }

/-- 'stratagemlaw49.AstarErrors', WHERE WHAT IT READS IS OF BULK AT MOST 1048576: true; the input reads as it did. -/
def astarErrorsUptoRow : OpenClaim := { program := "ytegndanecnicaaagreat", sum := "cf27e36dc25f590c85caac44aeffa52f1f21a348a6c92b978c10fbf6174a8eac", func := "stratagem/stratagemlaw49.AstarErrors", spec := "astarErrors", unfollowed := true, recurses := true, apart := false, narrowed := true }
def AstarErrorsUptoSaid : Prop := astarErrorsUptoRow.holds Tryz.pinned (OpenSpec.upto astarErrorsSpec)

/-- 'stratagemlaw49.AstarTables', WHERE WHAT IT READS IS OF BULK AT MOST 1048576: true; the input reads as it did. -/
def astarTablesUptoRow : OpenClaim := { program := "ytegndanecnicaaagreat", sum := "cf27e36dc25f590c85caac44aeffa52f1f21a348a6c92b978c10fbf6174a8eac", func := "stratagem/stratagemlaw49.AstarTables", spec := "astarTables", unfollowed := true, recurses := true, apart := false, narrowed := true }
def AstarTablesUptoSaid : Prop := astarTablesUptoRow.holds Tryz.pinned (OpenSpec.upto astarTablesSpec)

/-- 'stratagemlaw49.AstarConsistent', WHERE WHAT IT READS IS OF BULK AT MOST 1048576: true; the input reads as it did. -/
def astarConsistentUptoRow : OpenClaim := { program := "ytegndanecnicaaagreat", sum := "cf27e36dc25f590c85caac44aeffa52f1f21a348a6c92b978c10fbf6174a8eac", func := "stratagem/stratagemlaw49.AstarConsistent", spec := "astarConsistent", unfollowed := true, recurses := true, apart := false, narrowed := true }
def AstarConsistentUptoSaid : Prop := astarConsistentUptoRow.holds Tryz.pinned (OpenSpec.upto astarConsistentSpec)

/-- 'stratagemlaw49.AstarBounded', WHERE WHAT IT READS IS OF BULK AT MOST 1048576: true; the input reads as it did. -/
def astarBoundedUptoRow : OpenClaim := { program := "ytegndanecnicaaagreat", sum := "cf27e36dc25f590c85caac44aeffa52f1f21a348a6c92b978c10fbf6174a8eac", func := "stratagem/stratagemlaw49.AstarBounded", spec := "astarBounded", unfollowed := true, recurses := true, apart := false, narrowed := true }
def AstarBoundedUptoSaid : Prop := astarBoundedUptoRow.holds Tryz.pinned (OpenSpec.upto astarBoundedSpec)

/-- 'stratagemlaw49.AstarPerfect', WHERE WHAT IT READS IS OF BULK AT MOST 1048576: true; the input reads as it did. -/
def astarPerfectUptoRow : OpenClaim := { program := "ytegndanecnicaaagreat", sum := "cf27e36dc25f590c85caac44aeffa52f1f21a348a6c92b978c10fbf6174a8eac", func := "stratagem/stratagemlaw49.AstarPerfect", spec := "astarPerfect", unfollowed := true, recurses := true, apart := false, narrowed := true }
def AstarPerfectUptoSaid : Prop := astarPerfectUptoRow.holds Tryz.pinned (OpenSpec.upto astarPerfectSpec)

/-- 'stratagemlaw49.AstarAnyTable', WHERE WHAT IT READS IS OF BULK AT MOST 1048576: true; the input reads as it did. -/
def astarAnyTableUptoRow : OpenClaim := { program := "ytegndanecnicaaagreat", sum := "cf27e36dc25f590c85caac44aeffa52f1f21a348a6c92b978c10fbf6174a8eac", func := "stratagem/stratagemlaw49.AstarAnyTable", spec := "astarAnyTable", unfollowed := true, recurses := true, apart := false, narrowed := true }
def AstarAnyTableUptoSaid : Prop := astarAnyTableUptoRow.holds Tryz.pinned (OpenSpec.upto astarAnyTableSpec)

end Rows
end Go.Proofs.YtegndanecnicaaaGreat
