/-
  No cell of these rows narrows 'for every input' (looked for: loops, veiled, ifaces, maps, wideKeys, modest, calm, conditions, laid).
  DERIVED. THE GIVEN ROWS OF THIS SEAT. 14 by the template 'for every input the law returns true; each argument reads behind the call as it read before'; 0 by the template 'total and deterministic' (their statements: YtnichjjloipghaaTotals.lean).
  GIVEN WITH THE SEED: the statements are not yours to turn. If you find one false, say at which input.
  Laid BY PROGRAM, IN A SANDBOX (cutbox-rows.mjs): the forced cells as the released guide's own fill.sh prints them over the translation 2724d8ad91debdc8… (all of the seat's roots in one cut). By AI agents, Wed Nov 11 2026. No macro, syntax, notation, axiom, sorry.
-/
import Derived.Test.YtnichjjloipghaaChecked
import GoSem.Claim
import GoSem.ClaimJoined
import GoSem.ClaimMapViews
import Derived.JoinedTies
import Derived.KernelRfl
namespace Go.Proofs.Ytnichjjloipghaa
/- THE CELL 'sum', in the pinned program and in every row, IS THE sha256 OF THE DUMP (.gsa) THAT YtnichjjloipghaaProg.lean LOADS. Nothing in Lean hashes anything: it is a label: what it is worth is what the hold of that sum in a sandbox is worth. -/
noncomputable def Try.pinned : Pinned := { name := "ytnichjjloipghaa", sum := "2724d8ad91debdc8b8b3a1d7f83d12c6eb10bef91515dace6d45e9133273f0ce", checked := Try.checked }
namespace Rows
def none {H : Type} : Left H := { results := [], args := [] }

/-- 'stratagemlaw41.PdbAdmissible': WHATEVER THE INPUT: true; the input reads as it did. -/
def pdbAdmissibleSpec : ChangeSpec := { name := "pdbAdmissible", fn := fun _ => fun
  | [d1, d2, d3] => { results := [.lit (.bool true)], args := [d1, d2, d3] }
  | _ => none }
def pdbAdmissibleRow : OpenClaim := { program := "ytnichjjloipghaa", sum := "2724d8ad91debdc8b8b3a1d7f83d12c6eb10bef91515dace6d45e9133273f0ce", func := "stratagem/stratagemlaw41.PdbAdmissible", spec := "pdbAdmissible", unfollowed := true, recurses := true, apart := false }
def PdbAdmissibleSaid : Prop := pdbAdmissibleRow.holds Try.pinned (OpenSpec.ofChange pdbAdmissibleSpec)

/-- ITS FALSE NEIGHBOUR: 'it returns false'. Refute it at one input. -/
def pdbAdmissibleWrong : ChangeSpec := { name := "pdbAdmissible", fn := fun _ => fun
  | [d1, d2, d3] => { results := [.lit (.bool false)], args := [d1, d2, d3] }
  | _ => none }
def PdbAdmissibleWrongFalsely : Prop := pdbAdmissibleRow.holds Try.pinned (OpenSpec.ofChange pdbAdmissibleWrong)

/-- 'stratagemlaw41.PdbSaturated': WHATEVER THE INPUT: true; the input reads as it did. -/
def pdbSaturatedSpec : ChangeSpec := { name := "pdbSaturated", fn := fun _ => fun
  | [d1, d2, d3] => { results := [.lit (.bool true)], args := [d1, d2, d3] }
  | _ => none }
def pdbSaturatedRow : OpenClaim := { program := "ytnichjjloipghaa", sum := "2724d8ad91debdc8b8b3a1d7f83d12c6eb10bef91515dace6d45e9133273f0ce", func := "stratagem/stratagemlaw41.PdbSaturated", spec := "pdbSaturated", unfollowed := true, recurses := true, apart := false }
def PdbSaturatedSaid : Prop := pdbSaturatedRow.holds Try.pinned (OpenSpec.ofChange pdbSaturatedSpec)

/-- ITS FALSE NEIGHBOUR: 'it returns false'. Refute it at one input. -/
def pdbSaturatedWrong : ChangeSpec := { name := "pdbSaturated", fn := fun _ => fun
  | [d1, d2, d3] => { results := [.lit (.bool false)], args := [d1, d2, d3] }
  | _ => none }
def PdbSaturatedWrongFalsely : Prop := pdbSaturatedRow.holds Try.pinned (OpenSpec.ofChange pdbSaturatedWrong)

/-- 'stratagemlaw41.PdbWider': WHATEVER THE INPUT: true; the input reads as it did. -/
def pdbWiderSpec : ChangeSpec := { name := "pdbWider", fn := fun _ => fun
  | [d1, d2, d3] => { results := [.lit (.bool true)], args := [d1, d2, d3] }
  | _ => none }
def pdbWiderRow : OpenClaim := { program := "ytnichjjloipghaa", sum := "2724d8ad91debdc8b8b3a1d7f83d12c6eb10bef91515dace6d45e9133273f0ce", func := "stratagem/stratagemlaw41.PdbWider", spec := "pdbWider", unfollowed := true, recurses := true, apart := false }
def PdbWiderSaid : Prop := pdbWiderRow.holds Try.pinned (OpenSpec.ofChange pdbWiderSpec)

/-- ITS FALSE NEIGHBOUR: 'it returns false'. Refute it at one input. -/
def pdbWiderWrong : ChangeSpec := { name := "pdbWider", fn := fun _ => fun
  | [d1, d2, d3] => { results := [.lit (.bool false)], args := [d1, d2, d3] }
  | _ => none }
def PdbWiderWrongFalsely : Prop := pdbWiderRow.holds Try.pinned (OpenSpec.ofChange pdbWiderWrong)

/-- 'stratagemlaw41.PdbCosts': WHATEVER THE INPUT: true; the input reads as it did. -/
def pdbCostsSpec : ChangeSpec := { name := "pdbCosts", fn := fun _ => fun
  | [d1, d2, d3] => { results := [.lit (.bool true)], args := [d1, d2, d3] }
  | _ => none }
def pdbCostsRow : OpenClaim := { program := "ytnichjjloipghaa", sum := "2724d8ad91debdc8b8b3a1d7f83d12c6eb10bef91515dace6d45e9133273f0ce", func := "stratagem/stratagemlaw41.PdbCosts", spec := "pdbCosts", unfollowed := true, recurses := true, apart := false }
def PdbCostsSaid : Prop := pdbCostsRow.holds Try.pinned (OpenSpec.ofChange pdbCostsSpec)

/-- ITS FALSE NEIGHBOUR: 'it returns false'. Refute it at one input. -/
def pdbCostsWrong : ChangeSpec := { name := "pdbCosts", fn := fun _ => fun
  | [d1, d2, d3] => { results := [.lit (.bool false)], args := [d1, d2, d3] }
  | _ => none }
def PdbCostsWrongFalsely : Prop := pdbCostsRow.holds Try.pinned (OpenSpec.ofChange pdbCostsWrong)

/-- 'stratagemlaw41.PdbKeeps': WHATEVER THE INPUT: true; the input reads as it did. -/
def pdbKeepsSpec : ChangeSpec := { name := "pdbKeeps", fn := fun _ => fun
  | [d1, d2] => { results := [.lit (.bool true)], args := [d1, d2] }
  | _ => none }
def pdbKeepsRow : OpenClaim := { program := "ytnichjjloipghaa", sum := "2724d8ad91debdc8b8b3a1d7f83d12c6eb10bef91515dace6d45e9133273f0ce", func := "stratagem/stratagemlaw41.PdbKeeps", spec := "pdbKeeps", unfollowed := true, recurses := true, apart := false }
def PdbKeepsSaid : Prop := pdbKeepsRow.holds Try.pinned (OpenSpec.ofChange pdbKeepsSpec)

/-- ITS FALSE NEIGHBOUR: 'it returns false'. Refute it at one input. -/
def pdbKeepsWrong : ChangeSpec := { name := "pdbKeeps", fn := fun _ => fun
  | [d1, d2] => { results := [.lit (.bool false)], args := [d1, d2] }
  | _ => none }
def PdbKeepsWrongFalsely : Prop := pdbKeepsRow.holds Try.pinned (OpenSpec.ofChange pdbKeepsWrong)

/-- 'stratagemlaw41.PdbTables': WHATEVER THE INPUT: true; the input reads as it did. -/
def pdbTablesSpec : ChangeSpec := { name := "pdbTables", fn := fun _ => fun
  | [d1, d2, d3] => { results := [.lit (.bool true)], args := [d1, d2, d3] }
  | _ => none }
def pdbTablesRow : OpenClaim := { program := "ytnichjjloipghaa", sum := "2724d8ad91debdc8b8b3a1d7f83d12c6eb10bef91515dace6d45e9133273f0ce", func := "stratagem/stratagemlaw41.PdbTables", spec := "pdbTables", unfollowed := true, recurses := true, apart := false }
def PdbTablesSaid : Prop := pdbTablesRow.holds Try.pinned (OpenSpec.ofChange pdbTablesSpec)

/-- ITS FALSE NEIGHBOUR: 'it returns false'. Refute it at one input. -/
def pdbTablesWrong : ChangeSpec := { name := "pdbTables", fn := fun _ => fun
  | [d1, d2, d3] => { results := [.lit (.bool false)], args := [d1, d2, d3] }
  | _ => none }
def PdbTablesWrongFalsely : Prop := pdbTablesRow.holds Try.pinned (OpenSpec.ofChange pdbTablesWrong)

/-- 'stratagemlaw41.PdbErrors': WHATEVER THE INPUT: true; the input reads as it did. -/
def pdbErrorsSpec : ChangeSpec := { name := "pdbErrors", fn := fun _ => fun
  | [d1, d2, d3] => { results := [.lit (.bool true)], args := [d1, d2, d3] }
  | _ => none }
def pdbErrorsRow : OpenClaim := { program := "ytnichjjloipghaa", sum := "2724d8ad91debdc8b8b3a1d7f83d12c6eb10bef91515dace6d45e9133273f0ce", func := "stratagem/stratagemlaw41.PdbErrors", spec := "pdbErrors", unfollowed := true, recurses := true, apart := false }
def PdbErrorsSaid : Prop := pdbErrorsRow.holds Try.pinned (OpenSpec.ofChange pdbErrorsSpec)

/-- ITS FALSE NEIGHBOUR: 'it returns false'. Refute it at one input. -/
def pdbErrorsWrong : ChangeSpec := { name := "pdbErrors", fn := fun _ => fun
  | [d1, d2, d3] => { results := [.lit (.bool false)], args := [d1, d2, d3] }
  | _ => none }
def PdbErrorsWrongFalsely : Prop := pdbErrorsRow.holds Try.pinned (OpenSpec.ofChange pdbErrorsWrong)

/-- 'stratagemlaw43.SaturateParts': WHATEVER THE INPUT: true; the input reads as it did. -/
def saturatePartsSpec : ChangeSpec := { name := "saturateParts", fn := fun _ => fun
  | [d1, d2] => { results := [.lit (.bool true)], args := [d1, d2] }
  | _ => none }
def saturatePartsRow : OpenClaim := { program := "ytnichjjloipghaa", sum := "2724d8ad91debdc8b8b3a1d7f83d12c6eb10bef91515dace6d45e9133273f0ce", func := "stratagem/stratagemlaw43.SaturateParts", spec := "saturateParts", unfollowed := true, recurses := true, apart := false }
def SaturatePartsSaid : Prop := saturatePartsRow.holds Try.pinned (OpenSpec.ofChange saturatePartsSpec)

/-- ITS FALSE NEIGHBOUR: 'it returns false'. Refute it at one input. -/
def saturatePartsWrong : ChangeSpec := { name := "saturateParts", fn := fun _ => fun
  | [d1, d2] => { results := [.lit (.bool false)], args := [d1, d2] }
  | _ => none }
def SaturatePartsWrongFalsely : Prop := saturatePartsRow.holds Try.pinned (OpenSpec.ofChange saturatePartsWrong)

/-- 'stratagemlaw43.SaturateBudget': WHATEVER THE INPUT: true; the input reads as it did. -/
def saturateBudgetSpec : ChangeSpec := { name := "saturateBudget", fn := fun _ => fun
  | [d1, d2] => { results := [.lit (.bool true)], args := [d1, d2] }
  | _ => none }
def saturateBudgetRow : OpenClaim := { program := "ytnichjjloipghaa", sum := "2724d8ad91debdc8b8b3a1d7f83d12c6eb10bef91515dace6d45e9133273f0ce", func := "stratagem/stratagemlaw43.SaturateBudget", spec := "saturateBudget", unfollowed := true, recurses := true, apart := false }
def SaturateBudgetSaid : Prop := saturateBudgetRow.holds Try.pinned (OpenSpec.ofChange saturateBudgetSpec)

/-- ITS FALSE NEIGHBOUR: 'it returns false'. Refute it at one input. -/
def saturateBudgetWrong : ChangeSpec := { name := "saturateBudget", fn := fun _ => fun
  | [d1, d2] => { results := [.lit (.bool false)], args := [d1, d2] }
  | _ => none }
def SaturateBudgetWrongFalsely : Prop := saturateBudgetRow.holds Try.pinned (OpenSpec.ofChange saturateBudgetWrong)

/-- 'stratagemlaw43.SaturateAdmissible': WHATEVER THE INPUT: true; the input reads as it did. -/
def saturateAdmissibleSpec : ChangeSpec := { name := "saturateAdmissible", fn := fun _ => fun
  | [d1, d2] => { results := [.lit (.bool true)], args := [d1, d2] }
  | _ => none }
def saturateAdmissibleRow : OpenClaim := { program := "ytnichjjloipghaa", sum := "2724d8ad91debdc8b8b3a1d7f83d12c6eb10bef91515dace6d45e9133273f0ce", func := "stratagem/stratagemlaw43.SaturateAdmissible", spec := "saturateAdmissible", unfollowed := true, recurses := true, apart := false }
def SaturateAdmissibleSaid : Prop := saturateAdmissibleRow.holds Try.pinned (OpenSpec.ofChange saturateAdmissibleSpec)

/-- ITS FALSE NEIGHBOUR: 'it returns false'. Refute it at one input. -/
def saturateAdmissibleWrong : ChangeSpec := { name := "saturateAdmissible", fn := fun _ => fun
  | [d1, d2] => { results := [.lit (.bool false)], args := [d1, d2] }
  | _ => none }
def SaturateAdmissibleWrongFalsely : Prop := saturateAdmissibleRow.holds Try.pinned (OpenSpec.ofChange saturateAdmissibleWrong)

/-- 'stratagemlaw43.SaturateFirst': WHATEVER THE INPUT: true; the input reads as it did. -/
def saturateFirstSpec : ChangeSpec := { name := "saturateFirst", fn := fun _ => fun
  | [d1, d2, d3] => { results := [.lit (.bool true)], args := [d1, d2, d3] }
  | _ => none }
def saturateFirstRow : OpenClaim := { program := "ytnichjjloipghaa", sum := "2724d8ad91debdc8b8b3a1d7f83d12c6eb10bef91515dace6d45e9133273f0ce", func := "stratagem/stratagemlaw43.SaturateFirst", spec := "saturateFirst", unfollowed := true, recurses := true, apart := false }
def SaturateFirstSaid : Prop := saturateFirstRow.holds Try.pinned (OpenSpec.ofChange saturateFirstSpec)

/-- ITS FALSE NEIGHBOUR: 'it returns false'. Refute it at one input. -/
def saturateFirstWrong : ChangeSpec := { name := "saturateFirst", fn := fun _ => fun
  | [d1, d2, d3] => { results := [.lit (.bool false)], args := [d1, d2, d3] }
  | _ => none }
def SaturateFirstWrongFalsely : Prop := saturateFirstRow.holds Try.pinned (OpenSpec.ofChange saturateFirstWrong)

/-- 'stratagemlaw43.SaturateScales': WHATEVER THE INPUT: true; the input reads as it did. -/
def saturateScalesSpec : ChangeSpec := { name := "saturateScales", fn := fun _ => fun
  | [d1, d2, d3] => { results := [.lit (.bool true)], args := [d1, d2, d3] }
  | _ => none }
def saturateScalesRow : OpenClaim := { program := "ytnichjjloipghaa", sum := "2724d8ad91debdc8b8b3a1d7f83d12c6eb10bef91515dace6d45e9133273f0ce", func := "stratagem/stratagemlaw43.SaturateScales", spec := "saturateScales", unfollowed := true, recurses := true, apart := false }
def SaturateScalesSaid : Prop := saturateScalesRow.holds Try.pinned (OpenSpec.ofChange saturateScalesSpec)

/-- ITS FALSE NEIGHBOUR: 'it returns false'. Refute it at one input. -/
def saturateScalesWrong : ChangeSpec := { name := "saturateScales", fn := fun _ => fun
  | [d1, d2, d3] => { results := [.lit (.bool false)], args := [d1, d2, d3] }
  | _ => none }
def SaturateScalesWrongFalsely : Prop := saturateScalesRow.holds Try.pinned (OpenSpec.ofChange saturateScalesWrong)

/-- 'stratagemlaw43.SaturateKeeps': WHATEVER THE INPUT: true; the input reads as it did. -/
def saturateKeepsSpec : ChangeSpec := { name := "saturateKeeps", fn := fun _ => fun
  | [d1, d2] => { results := [.lit (.bool true)], args := [d1, d2] }
  | _ => none }
def saturateKeepsRow : OpenClaim := { program := "ytnichjjloipghaa", sum := "2724d8ad91debdc8b8b3a1d7f83d12c6eb10bef91515dace6d45e9133273f0ce", func := "stratagem/stratagemlaw43.SaturateKeeps", spec := "saturateKeeps", unfollowed := true, recurses := true, apart := false }
def SaturateKeepsSaid : Prop := saturateKeepsRow.holds Try.pinned (OpenSpec.ofChange saturateKeepsSpec)

/-- ITS FALSE NEIGHBOUR: 'it returns false'. Refute it at one input. -/
def saturateKeepsWrong : ChangeSpec := { name := "saturateKeeps", fn := fun _ => fun
  | [d1, d2] => { results := [.lit (.bool false)], args := [d1, d2] }
  | _ => none }
def SaturateKeepsWrongFalsely : Prop := saturateKeepsRow.holds Try.pinned (OpenSpec.ofChange saturateKeepsWrong)

/-- 'stratagemlaw43.SaturateErrors': WHATEVER THE INPUT: true; the input reads as it did. -/
def saturateErrorsSpec : ChangeSpec := { name := "saturateErrors", fn := fun _ => fun
  | [d1, d2, d3] => { results := [.lit (.bool true)], args := [d1, d2, d3] }
  | _ => none }
def saturateErrorsRow : OpenClaim := { program := "ytnichjjloipghaa", sum := "2724d8ad91debdc8b8b3a1d7f83d12c6eb10bef91515dace6d45e9133273f0ce", func := "stratagem/stratagemlaw43.SaturateErrors", spec := "saturateErrors", unfollowed := true, recurses := true, apart := false }
def SaturateErrorsSaid : Prop := saturateErrorsRow.holds Try.pinned (OpenSpec.ofChange saturateErrorsSpec)

/-- ITS FALSE NEIGHBOUR: 'it returns false'. Refute it at one input. -/
def saturateErrorsWrong : ChangeSpec := { name := "saturateErrors", fn := fun _ => fun
  | [d1, d2, d3] => { results := [.lit (.bool false)], args := [d1, d2, d3] }
  | _ => none }
def SaturateErrorsWrongFalsely : Prop := saturateErrorsRow.holds Try.pinned (OpenSpec.ofChange saturateErrorsWrong)

/- THE SECOND FORM. 'bulk': how many values and letters a reading holds, each counted each time it is reached (what is shared counts as often as it is met; a slice's spare places count too). A statement '..UptoSaid' is the law's where the arguments, and the package variables that the reading takes, are together of bulk at most 1048576: NARROWER than '..Said'. Prove '..Said' where nothing that the law and all that it calls make is longer than what came in: it says more and counts as full. Else prove '..UptoSaid'. A law counts once. -/
mutual
def uptoBulk {H : Type} : DataW H → Nat
  | .lit (.string bytes) => bytes.length + 1
  | .lit _ => 1
  | .nil => 1
  | .ptr d => uptoBulk d + 1
  | .slice elems spare => uptoBulkAll elems + uptoBulkAll spare + 1
  | .agg parts => uptoBulkAll parts + 1
  | .iface _ d => uptoBulk d + 1
  | .map entries => uptoBulkEntries entries + 1
  | .held _ => 1
def uptoBulkAll {H : Type} : List (DataW H) → Nat
  | [] => 0
  | d :: r => uptoBulk d + uptoBulkAll r
def uptoBulkEntries {H : Type} : List (Lit × DataW H) → Nat
  | [] => 0
  | x :: r => uptoBulkEntry x + uptoBulkEntries r
def uptoBulkEntry {H : Type} : Lit × DataW H → Nat
  | (.string bytes, d) => bytes.length + uptoBulk d + 1
  | (_, d) => uptoBulk d + 1
 end
def uptoSmall : (H : Type) → List (DataW H) → Bool := fun _ ds => decide (uptoBulkAll ds ≤ 1048576)
def OpenSpec.upto (s : _root_.Go.ChangeSpec) : _root_.Go.OpenSpec := { _root_.Go.OpenSpec.ofChange s with cond := some uptoSmall }

/-- 'stratagemlaw41.PdbAdmissible', WHERE WHAT IT READS IS OF BULK AT MOST 1048576: true; the input reads as it did. -/
def pdbAdmissibleUptoRow : OpenClaim := { program := "ytnichjjloipghaa", sum := "2724d8ad91debdc8b8b3a1d7f83d12c6eb10bef91515dace6d45e9133273f0ce", func := "stratagem/stratagemlaw41.PdbAdmissible", spec := "pdbAdmissible", unfollowed := true, recurses := true, apart := false, narrowed := true }
def PdbAdmissibleUptoSaid : Prop := pdbAdmissibleUptoRow.holds Try.pinned (OpenSpec.upto pdbAdmissibleSpec)

/-- 'stratagemlaw41.PdbSaturated', WHERE WHAT IT READS IS OF BULK AT MOST 1048576: true; the input reads as it did. -/
def pdbSaturatedUptoRow : OpenClaim := { program := "ytnichjjloipghaa", sum := "2724d8ad91debdc8b8b3a1d7f83d12c6eb10bef91515dace6d45e9133273f0ce", func := "stratagem/stratagemlaw41.PdbSaturated", spec := "pdbSaturated", unfollowed := true, recurses := true, apart := false, narrowed := true }
def PdbSaturatedUptoSaid : Prop := pdbSaturatedUptoRow.holds Try.pinned (OpenSpec.upto pdbSaturatedSpec)

/-- 'stratagemlaw41.PdbWider', WHERE WHAT IT READS IS OF BULK AT MOST 1048576: true; the input reads as it did. -/
def pdbWiderUptoRow : OpenClaim := { program := "ytnichjjloipghaa", sum := "2724d8ad91debdc8b8b3a1d7f83d12c6eb10bef91515dace6d45e9133273f0ce", func := "stratagem/stratagemlaw41.PdbWider", spec := "pdbWider", unfollowed := true, recurses := true, apart := false, narrowed := true }
def PdbWiderUptoSaid : Prop := pdbWiderUptoRow.holds Try.pinned (OpenSpec.upto pdbWiderSpec)

/-- 'stratagemlaw41.PdbCosts', WHERE WHAT IT READS IS OF BULK AT MOST 1048576: true; the input reads as it did. -/
def pdbCostsUptoRow : OpenClaim := { program := "ytnichjjloipghaa", sum := "2724d8ad91debdc8b8b3a1d7f83d12c6eb10bef91515dace6d45e9133273f0ce", func := "stratagem/stratagemlaw41.PdbCosts", spec := "pdbCosts", unfollowed := true, recurses := true, apart := false, narrowed := true }
def PdbCostsUptoSaid : Prop := pdbCostsUptoRow.holds Try.pinned (OpenSpec.upto pdbCostsSpec)

/-- 'stratagemlaw41.PdbKeeps', WHERE WHAT IT READS IS OF BULK AT MOST 1048576: true; the input reads as it did. -/
def pdbKeepsUptoRow : OpenClaim := { program := "ytnichjjloipghaa", sum := "2724d8ad91debdc8b8b3a1d7f83d12c6eb10bef91515dace6d45e9133273f0ce", func := "stratagem/stratagemlaw41.PdbKeeps", spec := "pdbKeeps", unfollowed := true, recurses := true, apart := false, narrowed := true }
def PdbKeepsUptoSaid : Prop := pdbKeepsUptoRow.holds Try.pinned (OpenSpec.upto pdbKeepsSpec)

/-- 'stratagemlaw41.PdbTables', WHERE WHAT IT READS IS OF BULK AT MOST 1048576: true; the input reads as it did. -/
def pdbTablesUptoRow : OpenClaim := { program := "ytnichjjloipghaa", sum := "2724d8ad91debdc8b8b3a1d7f83d12c6eb10bef91515dace6d45e9133273f0ce", func := "stratagem/stratagemlaw41.PdbTables", spec := "pdbTables", unfollowed := true, recurses := true, apart := false, narrowed := true }
def PdbTablesUptoSaid : Prop := pdbTablesUptoRow.holds Try.pinned (OpenSpec.upto pdbTablesSpec)

/-- 'stratagemlaw41.PdbErrors', WHERE WHAT IT READS IS OF BULK AT MOST 1048576: true; the input reads as it did. -/
def pdbErrorsUptoRow : OpenClaim := { program := "ytnichjjloipghaa", sum := "2724d8ad91debdc8b8b3a1d7f83d12c6eb10bef91515dace6d45e9133273f0ce", func := "stratagem/stratagemlaw41.PdbErrors", spec := "pdbErrors", unfollowed := true, recurses := true, apart := false, narrowed := true }
def PdbErrorsUptoSaid : Prop := pdbErrorsUptoRow.holds Try.pinned (OpenSpec.upto pdbErrorsSpec)

/-- 'stratagemlaw43.SaturateParts', WHERE WHAT IT READS IS OF BULK AT MOST 1048576: true; the input reads as it did. -/
def saturatePartsUptoRow : OpenClaim := { program := "ytnichjjloipghaa", sum := "2724d8ad91debdc8b8b3a1d7f83d12c6eb10bef91515dace6d45e9133273f0ce", func := "stratagem/stratagemlaw43.SaturateParts", spec := "saturateParts", unfollowed := true, recurses := true, apart := false, narrowed := true }
def SaturatePartsUptoSaid : Prop := saturatePartsUptoRow.holds Try.pinned (OpenSpec.upto saturatePartsSpec)

/-- 'stratagemlaw43.SaturateBudget', WHERE WHAT IT READS IS OF BULK AT MOST 1048576: true; the input reads as it did. -/
def saturateBudgetUptoRow : OpenClaim := { program := "ytnichjjloipghaa", sum := "2724d8ad91debdc8b8b3a1d7f83d12c6eb10bef91515dace6d45e9133273f0ce", func := "stratagem/stratagemlaw43.SaturateBudget", spec := "saturateBudget", unfollowed := true, recurses := true, apart := false, narrowed := true }
def SaturateBudgetUptoSaid : Prop := saturateBudgetUptoRow.holds Try.pinned (OpenSpec.upto saturateBudgetSpec)

/-- 'stratagemlaw43.SaturateAdmissible', WHERE WHAT IT READS IS OF BULK AT MOST 1048576: true; the input reads as it did. -/
def saturateAdmissibleUptoRow : OpenClaim := { program := "ytnichjjloipghaa", sum := "2724d8ad91debdc8b8b3a1d7f83d12c6eb10bef91515dace6d45e9133273f0ce", func := "stratagem/stratagemlaw43.SaturateAdmissible", spec := "saturateAdmissible", unfollowed := true, recurses := true, apart := false, narrowed := true }
def SaturateAdmissibleUptoSaid : Prop := saturateAdmissibleUptoRow.holds Try.pinned (OpenSpec.upto saturateAdmissibleSpec)

/-- 'stratagemlaw43.SaturateFirst', WHERE WHAT IT READS IS OF BULK AT MOST 1048576: true; the input reads as it did. -/
def saturateFirstUptoRow : OpenClaim := { program := "ytnichjjloipghaa", sum := "2724d8ad91debdc8b8b3a1d7f83d12c6eb10bef91515dace6d45e9133273f0ce", func := "stratagem/stratagemlaw43.SaturateFirst", spec := "saturateFirst", unfollowed := true, recurses := true, apart := false, narrowed := true }
def SaturateFirstUptoSaid : Prop := saturateFirstUptoRow.holds Try.pinned (OpenSpec.upto saturateFirstSpec)

/-- 'stratagemlaw43.SaturateScales', WHERE WHAT IT READS IS OF BULK AT MOST 1048576: true; the input reads as it did. -/
def saturateScalesUptoRow : OpenClaim := { program := "ytnichjjloipghaa", sum := "2724d8ad91debdc8b8b3a1d7f83d12c6eb10bef91515dace6d45e9133273f0ce", func := "stratagem/stratagemlaw43.SaturateScales", spec := "saturateScales", unfollowed := true, recurses := true, apart := false, narrowed := true }
def SaturateScalesUptoSaid : Prop := saturateScalesUptoRow.holds Try.pinned (OpenSpec.upto saturateScalesSpec)

/-- 'stratagemlaw43.SaturateKeeps', WHERE WHAT IT READS IS OF BULK AT MOST 1048576: true; the input reads as it did. -/
def saturateKeepsUptoRow : OpenClaim := { program := "ytnichjjloipghaa", sum := "2724d8ad91debdc8b8b3a1d7f83d12c6eb10bef91515dace6d45e9133273f0ce", func := "stratagem/stratagemlaw43.SaturateKeeps", spec := "saturateKeeps", unfollowed := true, recurses := true, apart := false, narrowed := true }
def SaturateKeepsUptoSaid : Prop := saturateKeepsUptoRow.holds Try.pinned (OpenSpec.upto saturateKeepsSpec)

/-- 'stratagemlaw43.SaturateErrors', WHERE WHAT IT READS IS OF BULK AT MOST 1048576: true; the input reads as it did. -/
def saturateErrorsUptoRow : OpenClaim := { program := "ytnichjjloipghaa", sum := "2724d8ad91debdc8b8b3a1d7f83d12c6eb10bef91515dace6d45e9133273f0ce", func := "stratagem/stratagemlaw43.SaturateErrors", spec := "saturateErrors", unfollowed := true, recurses := true, apart := false, narrowed := true }
def SaturateErrorsUptoSaid : Prop := saturateErrorsUptoRow.holds Try.pinned (OpenSpec.upto saturateErrorsSpec)

end Rows
end Go.Proofs.Ytnichjjloipghaa
