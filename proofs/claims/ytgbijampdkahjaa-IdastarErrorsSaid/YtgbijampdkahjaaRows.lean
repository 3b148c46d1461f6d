/-
  No cell of these rows narrows 'for every input' (looked for: loops, veiled, ifaces, maps, wideKeys, modest, calm, conditions, laid).
  DERIVED. THE GIVEN ROWS OF THIS SEAT. 6 by the template 'for every input the law returns true; each argument reads behind the call as it read before'; 0 by the template 'total and deterministic' (their statements: YtgbijampdkahjaaTotals.lean).
  GIVEN WITH THE SEED: the statements are not yours to turn. If you find one false, say at which input.
  Laid BY PROGRAM, IN A SANDBOX (cutbox-rows.mjs): the forced cells as the released guide's own fill.sh prints them over the translation 2be5476a79e26512… (all of the seat's roots in one cut). By AI agents, Wed Nov 11 2026. No macro, syntax, notation, axiom, sorry.
-/
import Derived.Test.YtgbijampdkahjaaChecked
import GoSem.Claim
import GoSem.ClaimJoined
import GoSem.ClaimMapViews
import Derived.JoinedTies
import Derived.KernelRfl
namespace Go.Proofs.Ytgbijampdkahjaa
/- THE CELL 'sum', in the pinned program and in every row, IS THE sha256 OF THE DUMP (.gsa) THAT YtgbijampdkahjaaProg.lean LOADS. Nothing in Lean hashes anything: it is a label: what it is worth is what the hold of that sum in a sandbox is worth. -/
noncomputable def Try.pinned : Pinned := { name := "ytgbijampdkahjaa", sum := "2be5476a79e265129832d4e31c018c8ff5ca9fe62143b75cbf86f8b9e21e8981", checked := Try.checked }
namespace Rows
def none {H : Type} : Left H := { results := [], args := [] }

/-- 'stratagemlaw50.IdastarErrors': WHATEVER THE INPUT: true; the input reads as it did. -/
def idastarErrorsSpec : ChangeSpec := { name := "idastarErrors", fn := fun _ => fun
  | [d1, d2, d3] => { results := [.lit (.bool true)], args := [d1, d2, d3] }
  | _ => none }
def idastarErrorsRow : OpenClaim := { program := "ytgbijampdkahjaa", sum := "2be5476a79e265129832d4e31c018c8ff5ca9fe62143b75cbf86f8b9e21e8981", func := "stratagem/stratagemlaw50.IdastarErrors", spec := "idastarErrors", unfollowed := true, recurses := true, apart := false }
def IdastarErrorsSaid : Prop := idastarErrorsRow.holds Try.pinned (OpenSpec.ofChange idastarErrorsSpec)

/-- ITS FALSE NEIGHBOUR: 'it returns false'. Refute it at one input. -/
def idastarErrorsWrong : ChangeSpec := { name := "idastarErrors", fn := fun _ => fun
  | [d1, d2, d3] => { results := [.lit (.bool false)], args := [d1, d2, d3] }
  | _ => none }
def IdastarErrorsWrongFalsely : Prop := idastarErrorsRow.holds Try.pinned (OpenSpec.ofChange idastarErrorsWrong)

/-- 'stratagemlaw50.IdastarTables': WHATEVER THE INPUT: true; the input reads as it did. -/
def idastarTablesSpec : ChangeSpec := { name := "idastarTables", fn := fun _ => fun
  | [d1, d2] => { results := [.lit (.bool true)], args := [d1, d2] }
  | _ => none }
def idastarTablesRow : OpenClaim := { program := "ytgbijampdkahjaa", sum := "2be5476a79e265129832d4e31c018c8ff5ca9fe62143b75cbf86f8b9e21e8981", func := "stratagem/stratagemlaw50.IdastarTables", spec := "idastarTables", unfollowed := true, recurses := true, apart := false }
def IdastarTablesSaid : Prop := idastarTablesRow.holds Try.pinned (OpenSpec.ofChange idastarTablesSpec)

/-- ITS FALSE NEIGHBOUR: 'it returns false'. Refute it at one input. -/
def idastarTablesWrong : ChangeSpec := { name := "idastarTables", fn := fun _ => fun
  | [d1, d2] => { results := [.lit (.bool false)], args := [d1, d2] }
  | _ => none }
def IdastarTablesWrongFalsely : Prop := idastarTablesRow.holds Try.pinned (OpenSpec.ofChange idastarTablesWrong)

/-- 'stratagemlaw50.IdastarRounds': WHATEVER THE INPUT: true; the input reads as it did. -/
def idastarRoundsSpec : ChangeSpec := { name := "idastarRounds", fn := fun _ => fun
  | [d1, d2] => { results := [.lit (.bool true)], args := [d1, d2] }
  | _ => none }
def idastarRoundsRow : OpenClaim := { program := "ytgbijampdkahjaa", sum := "2be5476a79e265129832d4e31c018c8ff5ca9fe62143b75cbf86f8b9e21e8981", func := "stratagem/stratagemlaw50.IdastarRounds", spec := "idastarRounds", unfollowed := true, recurses := true, apart := false }
def IdastarRoundsSaid : Prop := idastarRoundsRow.holds Try.pinned (OpenSpec.ofChange idastarRoundsSpec)

/-- ITS FALSE NEIGHBOUR: 'it returns false'. Refute it at one input. -/
def idastarRoundsWrong : ChangeSpec := { name := "idastarRounds", fn := fun _ => fun
  | [d1, d2] => { results := [.lit (.bool false)], args := [d1, d2] }
  | _ => none }
def IdastarRoundsWrongFalsely : Prop := idastarRoundsRow.holds Try.pinned (OpenSpec.ofChange idastarRoundsWrong)

/-- 'stratagemlaw50.IdastarBounds': WHATEVER THE INPUT: true; the input reads as it did. -/
def idastarBoundsSpec : ChangeSpec := { name := "idastarBounds", fn := fun _ => fun
  | [d1, d2] => { results := [.lit (.bool true)], args := [d1, d2] }
  | _ => none }
def idastarBoundsRow : OpenClaim := { program := "ytgbijampdkahjaa", sum := "2be5476a79e265129832d4e31c018c8ff5ca9fe62143b75cbf86f8b9e21e8981", func := "stratagem/stratagemlaw50.IdastarBounds", spec := "idastarBounds", unfollowed := true, recurses := true, apart := false }
def IdastarBoundsSaid : Prop := idastarBoundsRow.holds Try.pinned (OpenSpec.ofChange idastarBoundsSpec)

/-- ITS FALSE NEIGHBOUR: 'it returns false'. Refute it at one input. -/
def idastarBoundsWrong : ChangeSpec := { name := "idastarBounds", fn := fun _ => fun
  | [d1, d2] => { results := [.lit (.bool false)], args := [d1, d2] }
  | _ => none }
def IdastarBoundsWrongFalsely : Prop := idastarBoundsRow.holds Try.pinned (OpenSpec.ofChange idastarBoundsWrong)

/-- 'stratagemlaw50.IdastarPaths': WHATEVER THE INPUT: true; the input reads as it did. -/
def idastarPathsSpec : ChangeSpec := { name := "idastarPaths", fn := fun _ => fun
  | [d1, d2] => { results := [.lit (.bool true)], args := [d1, d2] }
  | _ => none }
def idastarPathsRow : OpenClaim := { program := "ytgbijampdkahjaa", sum := "2be5476a79e265129832d4e31c018c8ff5ca9fe62143b75cbf86f8b9e21e8981", func := "stratagem/stratagemlaw50.IdastarPaths", spec := "idastarPaths", unfollowed := true, recurses := true, apart := false }
def IdastarPathsSaid : Prop := idastarPathsRow.holds Try.pinned (OpenSpec.ofChange idastarPathsSpec)

/-- ITS FALSE NEIGHBOUR: 'it returns false'. Refute it at one input. -/
def idastarPathsWrong : ChangeSpec := { name := "idastarPaths", fn := fun _ => fun
  | [d1, d2] => { results := [.lit (.bool false)], args := [d1, d2] }
  | _ => none }
def IdastarPathsWrongFalsely : Prop := idastarPathsRow.holds Try.pinned (OpenSpec.ofChange idastarPathsWrong)

/-- 'stratagemlaw50.IdastarAnyTable': WHATEVER THE INPUT: true; the input reads as it did. -/
def idastarAnyTableSpec : ChangeSpec := { name := "idastarAnyTable", fn := fun _ => fun
  | [d1, d2, d3] => { results := [.lit (.bool true)], args := [d1, d2, d3] }
  | _ => none }
def idastarAnyTableRow : OpenClaim := { program := "ytgbijampdkahjaa", sum := "2be5476a79e265129832d4e31c018c8ff5ca9fe62143b75cbf86f8b9e21e8981", func := "stratagem/stratagemlaw50.IdastarAnyTable", spec := "idastarAnyTable", unfollowed := true, recurses := true, apart := false }
def IdastarAnyTableSaid : Prop := idastarAnyTableRow.holds Try.pinned (OpenSpec.ofChange idastarAnyTableSpec)

/-- ITS FALSE NEIGHBOUR: 'it returns false'. Refute it at one input. -/
def idastarAnyTableWrong : ChangeSpec := { name := "idastarAnyTable", fn := fun _ => fun
  | [d1, d2, d3] => { results := [.lit (.bool false)], args := [d1, d2, d3] }
  | _ => none }
def IdastarAnyTableWrongFalsely : Prop := idastarAnyTableRow.holds Try.pinned (OpenSpec.ofChange idastarAnyTableWrong)

/- THE SECOND FORM. 'bulk': how many values and letters a reading holds, each counted each time it is reached (what is shared counts as often as it is met; a slice's spare places count too). A statement '..UptoSaid' is the law's where the arguments, and the package variables that the reading takes, are together of bulk at most 1048576: NARROWER than '..Said'. Prove '..Said' where nothing that the law and all that it calls make is longer than what came in: it says more and counts as full. Else prove '..UptoSaid'. A law counts once. -/
mutual
def uptoBulk {H : Type} : DataW H → Nat
  | .lit (.string bytes) => bytes.length + 1
  | .lit _ => 1
  | .nil => 1
  | .ptr d => uptoBulk d + 1
  | .slice elems spare => uptoBulkAll elems + uptoBulkAll spare + 1
  | .agg parts => uptoBulkAll parts + 1
  | .iface _ d => uptoBulk d + 1
  | .map entries => uptoBulkEntries entries + 1
  | .held _ => 1
def uptoBulkAll {H : Type} : List (DataW H) → Nat
  | [] => 0
  | d :: r => uptoBulk d + uptoBulkAll r
def uptoBulkEntries {H : Type} : List (Lit × DataW H) → Nat
  | [] => 0
  | x :: r => uptoBulkEntry x + uptoBulkEntries r
def uptoBulkEntry {H : Type} : Lit × DataW H → Nat
  | (.string bytes, d) => bytes.length + uptoBulk d + 1
  | (_, d) => uptoBulk d + 1
 end
def uptoSmall : (H : Type) → List (DataW H) → Bool := fun _ ds => decide (uptoBulkAll ds ≤ 1048576)
def OpenSpec.upto (s : _root_.Go.ChangeSpec) : _root_.Go.OpenSpec := { _root_.Go.OpenSpec.ofChange s with cond := some uptoSmall }

/-- 'stratagemlaw50.IdastarErrors', WHERE WHAT IT READS IS OF BULK AT MOST 1048576: true; the input reads as it did. -/
def idastarErrorsUptoRow : OpenClaim := { program := "ytgbijampdkahjaa", sum := "2be5476a79e265129832d4e31c018c8ff5ca9fe62143b75cbf86f8b9e21e8981", func := "stratagem/stratagemlaw50.IdastarErrors", spec := "idastarErrors", unfollowed := true, recurses := true, apart := false, narrowed := true }
def IdastarErrorsUptoSaid : Prop := idastarErrorsUptoRow.holds Try.pinned (OpenSpec.upto idastarErrorsSpec)

/-- 'stratagemlaw50.IdastarTables', WHERE WHAT IT READS IS OF BULK AT MOST 1048576: true; the input reads as it did. -/
def idastarTablesUptoRow : OpenClaim := { program := "ytgbijampdkahjaa", sum := "2be5476a79e265129832d4e31c018c8ff5ca9fe62143b75cbf86f8b9e21e8981", func := "stratagem/stratagemlaw50.IdastarTables", spec := "idastarTables", unfollowed := true, recurses := true, apart := false, narrowed := true }
def IdastarTablesUptoSaid : Prop := idastarTablesUptoRow.holds Try.pinned (OpenSpec.upto idastarTablesSpec)

/-- 'stratagemlaw50.IdastarRounds', WHERE WHAT IT READS IS OF BULK AT MOST 1048576: true; the input reads as it did. -/
def idastarRoundsUptoRow : OpenClaim := { program := "ytgbijampdkahjaa", sum := "2be5476a79e265129832d4e31c018c8ff5ca9fe62143b75cbf86f8b9e21e8981", func := "stratagem/stratagemlaw50.IdastarRounds", spec := "idastarRounds", unfollowed := true, recurses := true, apart := false, narrowed := true }
def IdastarRoundsUptoSaid : Prop := idastarRoundsUptoRow.holds Try.pinned (OpenSpec.upto idastarRoundsSpec)

/-- 'stratagemlaw50.IdastarBounds', WHERE WHAT IT READS IS OF BULK AT MOST 1048576: true; the input reads as it did. -/
def idastarBoundsUptoRow : OpenClaim := { program := "ytgbijampdkahjaa", sum := "2be5476a79e265129832d4e31c018c8ff5ca9fe62143b75cbf86f8b9e21e8981", func := "stratagem/stratagemlaw50.IdastarBounds", spec := "idastarBounds", unfollowed := true, recurses := true, apart := false, narrowed := true }
def IdastarBoundsUptoSaid : Prop := idastarBoundsUptoRow.holds Try.pinned (OpenSpec.upto idastarBoundsSpec)

/-- 'stratagemlaw50.IdastarPaths', WHERE WHAT IT READS IS OF BULK AT MOST 1048576: true; the input reads as it did. -/
def idastarPathsUptoRow : OpenClaim := { program := "ytgbijampdkahjaa", sum := "2be5476a79e265129832d4e31c018c8ff5ca9fe62143b75cbf86f8b9e21e8981", func := "stratagem/stratagemlaw50.IdastarPaths", spec := "idastarPaths", unfollowed := true, recurses := true, apart := false, narrowed := true }
def IdastarPathsUptoSaid : Prop := idastarPathsUptoRow.holds Try.pinned (OpenSpec.upto idastarPathsSpec)

/-- 'stratagemlaw50.IdastarAnyTable', WHERE WHAT IT READS IS OF BULK AT MOST 1048576: true; the input reads as it did. -/
def idastarAnyTableUptoRow : OpenClaim := { program := "ytgbijampdkahjaa", sum := "2be5476a79e265129832d4e31c018c8ff5ca9fe62143b75cbf86f8b9e21e8981", func := "stratagem/stratagemlaw50.IdastarAnyTable", spec := "idastarAnyTable", unfollowed := true, recurses := true, apart := false, narrowed := true }
def IdastarAnyTableUptoSaid : Prop := idastarAnyTableUptoRow.holds Try.pinned (OpenSpec.upto idastarAnyTableSpec)

end Rows
end Go.Proofs.Ytgbijampdkahjaa
