/-
  No cell of these rows narrows 'for every input' (looked for: loops, veiled, ifaces, maps, wideKeys, modest, calm, conditions, laid).
  DERIVED. THE GIVEN ROWS OF THIS SEAT. 9 by the template 'for every input the law returns true; each argument reads behind the call as it read before'; 0 by the template 'total and deterministic' (their statements: YtnoiagnmbipppaaTotals.lean).
  GIVEN WITH THE SEED: the statements are not yours to turn. If you find one false, say at which input.
  Laid BY PROGRAM, IN A SANDBOX (cutbox-rows.mjs): the forced cells as the released guide's own fill.sh prints them over the translation bc8aa192c82c4c1d… (all of the seat's roots in one cut). By AI agents, Wed Nov 11 2026. No macro, syntax, notation, axiom, sorry.
-/
import Derived.Test.YtnoiagnmbipppaaChecked
import GoSem.Claim
import GoSem.ClaimJoined
import GoSem.ClaimMapViews
import Derived.JoinedTies
import Derived.KernelRfl
namespace Go.Proofs.Ytnoiagnmbipppaa
/- THE CELL 'sum', in the pinned program and in every row, IS THE sha256 OF THE DUMP (.gsa) THAT YtnoiagnmbipppaaProg.lean LOADS. Nothing in Lean hashes anything: it is a label: what it is worth is what the hold of that sum in a sandbox is worth. -/
noncomputable def Try.pinned : Pinned := { name := "ytnoiagnmbipppaa", sum := "bc8aa192c82c4c1d4b50f8ddc9c04ba2e3656c0844a46e91059e7cad0d6ea089", checked := Try.checked }
namespace Rows
def none {H : Type} : Left H := { results := [], args := [] }

/-- 'stratagemlaw41.PdbWider': WHATEVER THE INPUT: true; the input reads as it did. -/
def pdbWiderSpec : ChangeSpec := { name := "pdbWider", fn := fun _ => fun
  | [d1, d2, d3] => { results := [.lit (.bool true)], args := [d1, d2, d3] }
  | _ => none }
def pdbWiderRow : OpenClaim := { program := "ytnoiagnmbipppaa", sum := "bc8aa192c82c4c1d4b50f8ddc9c04ba2e3656c0844a46e91059e7cad0d6ea089", func := "stratagem/stratagemlaw41.PdbWider", spec := "pdbWider", unfollowed := true, recurses := true, apart := false }
def PdbWiderSaid : Prop := pdbWiderRow.holds Try.pinned (OpenSpec.ofChange pdbWiderSpec)

/-- ITS FALSE NEIGHBOUR: 'it returns false'. Refute it at one input. -/
def pdbWiderWrong : ChangeSpec := { name := "pdbWider", fn := fun _ => fun
  | [d1, d2, d3] => { results := [.lit (.bool false)], args := [d1, d2, d3] }
  | _ => none }
def PdbWiderWrongFalsely : Prop := pdbWiderRow.holds Try.pinned (OpenSpec.ofChange pdbWiderWrong)

/-- 'stratagemlaw41.PdbErrors': WHATEVER THE INPUT: true; the input reads as it did. -/
def pdbErrorsSpec : ChangeSpec := { name := "pdbErrors", fn := fun _ => fun
  | [d1, d2, d3] => { results := [.lit (.bool true)], args := [d1, d2, d3] }
  | _ => none }
def pdbErrorsRow : OpenClaim := { program := "ytnoiagnmbipppaa", sum := "bc8aa192c82c4c1d4b50f8ddc9c04ba2e3656c0844a46e91059e7cad0d6ea089", func := "stratagem/stratagemlaw41.PdbErrors", spec := "pdbErrors", unfollowed := true, recurses := true, apart := false }
def PdbErrorsSaid : Prop := pdbErrorsRow.holds Try.pinned (OpenSpec.ofChange pdbErrorsSpec)

/-- ITS FALSE NEIGHBOUR: 'it returns false'. Refute it at one input. -/
def pdbErrorsWrong : ChangeSpec := { name := "pdbErrors", fn := fun _ => fun
  | [d1, d2, d3] => { results := [.lit (.bool false)], args := [d1, d2, d3] }
  | _ => none }
def PdbErrorsWrongFalsely : Prop := pdbErrorsRow.holds Try.pinned (OpenSpec.ofChange pdbErrorsWrong)

/-- 'stratagemlaw43.SaturateParts': WHATEVER THE INPUT: true; the input reads as it did. -/
def saturatePartsSpec : ChangeSpec := { name := "saturateParts", fn := fun _ => fun
  | [d1, d2] => { results := [.lit (.bool true)], args := [d1, d2] }
  | _ => none }
def saturatePartsRow : OpenClaim := { program := "ytnoiagnmbipppaa", sum := "bc8aa192c82c4c1d4b50f8ddc9c04ba2e3656c0844a46e91059e7cad0d6ea089", func := "stratagem/stratagemlaw43.SaturateParts", spec := "saturateParts", unfollowed := true, recurses := true, apart := false }
def SaturatePartsSaid : Prop := saturatePartsRow.holds Try.pinned (OpenSpec.ofChange saturatePartsSpec)

/-- ITS FALSE NEIGHBOUR: 'it returns false'. Refute it at one input. -/
def saturatePartsWrong : ChangeSpec := { name := "saturateParts", fn := fun _ => fun
  | [d1, d2] => { results := [.lit (.bool false)], args := [d1, d2] }
  | _ => none }
def SaturatePartsWrongFalsely : Prop := saturatePartsRow.holds Try.pinned (OpenSpec.ofChange saturatePartsWrong)

/-- 'stratagemlaw43.SaturateBudget': WHATEVER THE INPUT: true; the input reads as it did. -/
def saturateBudgetSpec : ChangeSpec := { name := "saturateBudget", fn := fun _ => fun
  | [d1, d2] => { results := [.lit (.bool true)], args := [d1, d2] }
  | _ => none }
def saturateBudgetRow : OpenClaim := { program := "ytnoiagnmbipppaa", sum := "bc8aa192c82c4c1d4b50f8ddc9c04ba2e3656c0844a46e91059e7cad0d6ea089", func := "stratagem/stratagemlaw43.SaturateBudget", spec := "saturateBudget", unfollowed := true, recurses := true, apart := false }
def SaturateBudgetSaid : Prop := saturateBudgetRow.holds Try.pinned (OpenSpec.ofChange saturateBudgetSpec)

/-- ITS FALSE NEIGHBOUR: 'it returns false'. Refute it at one input. -/
def saturateBudgetWrong : ChangeSpec := { name := "saturateBudget", fn := fun _ => fun
  | [d1, d2] => { results := [.lit (.bool false)], args := [d1, d2] }
  | _ => none }
def SaturateBudgetWrongFalsely : Prop := saturateBudgetRow.holds Try.pinned (OpenSpec.ofChange saturateBudgetWrong)

/-- 'stratagemlaw43.SaturateAdmissible': WHATEVER THE INPUT: true; the input reads as it did. -/
def saturateAdmissibleSpec : ChangeSpec := { name := "saturateAdmissible", fn := fun _ => fun
  | [d1, d2] => { results := [.lit (.bool true)], args := [d1, d2] }
  | _ => none }
def saturateAdmissibleRow : OpenClaim := { program := "ytnoiagnmbipppaa", sum := "bc8aa192c82c4c1d4b50f8ddc9c04ba2e3656c0844a46e91059e7cad0d6ea089", func := "stratagem/stratagemlaw43.SaturateAdmissible", spec := "saturateAdmissible", unfollowed := true, recurses := true, apart := false }
def SaturateAdmissibleSaid : Prop := saturateAdmissibleRow.holds Try.pinned (OpenSpec.ofChange saturateAdmissibleSpec)

/-- ITS FALSE NEIGHBOUR: 'it returns false'. Refute it at one input. -/
def saturateAdmissibleWrong : ChangeSpec := { name := "saturateAdmissible", fn := fun _ => fun
  | [d1, d2] => { results := [.lit (.bool false)], args := [d1, d2] }
  | _ => none }
def SaturateAdmissibleWrongFalsely : Prop := saturateAdmissibleRow.holds Try.pinned (OpenSpec.ofChange saturateAdmissibleWrong)

/-- 'stratagemlaw43.SaturateFirst': WHATEVER THE INPUT: true; the input reads as it did. -/
def saturateFirstSpec : ChangeSpec := { name := "saturateFirst", fn := fun _ => fun
  | [d1, d2, d3] => { results := [.lit (.bool true)], args := [d1, d2, d3] }
  | _ => none }
def saturateFirstRow : OpenClaim := { program := "ytnoiagnmbipppaa", sum := "bc8aa192c82c4c1d4b50f8ddc9c04ba2e3656c0844a46e91059e7cad0d6ea089", func := "stratagem/stratagemlaw43.SaturateFirst", spec := "saturateFirst", unfollowed := true, recurses := true, apart := false }
def SaturateFirstSaid : Prop := saturateFirstRow.holds Try.pinned (OpenSpec.ofChange saturateFirstSpec)

/-- ITS FALSE NEIGHBOUR: 'it returns false'. Refute it at one input. -/
def saturateFirstWrong : ChangeSpec := { name := "saturateFirst", fn := fun _ => fun
  | [d1, d2, d3] => { results := [.lit (.bool false)], args := [d1, d2, d3] }
  | _ => none }
def SaturateFirstWrongFalsely : Prop := saturateFirstRow.holds Try.pinned (OpenSpec.ofChange saturateFirstWrong)

/-- 'stratagemlaw43.SaturateScales': WHATEVER THE INPUT: true; the input reads as it did. -/
def saturateScalesSpec : ChangeSpec := { name := "saturateScales", fn := fun _ => fun
  | [d1, d2, d3] => { results := [.lit (.bool true)], args := [d1, d2, d3] }
  | _ => none }
def saturateScalesRow : OpenClaim := { program := "ytnoiagnmbipppaa", sum := "bc8aa192c82c4c1d4b50f8ddc9c04ba2e3656c0844a46e91059e7cad0d6ea089", func := "stratagem/stratagemlaw43.SaturateScales", spec := "saturateScales", unfollowed := true, recurses := true, apart := false }
def SaturateScalesSaid : Prop := saturateScalesRow.holds Try.pinned (OpenSpec.ofChange saturateScalesSpec)

/-- ITS FALSE NEIGHBOUR: 'it returns false'. Refute it at one input. -/
def saturateScalesWrong : ChangeSpec := { name := "saturateScales", fn := fun _ => fun
  | [d1, d2, d3] => { results := [.lit (.bool false)], args := [d1, d2, d3] }
  | _ => none }
def SaturateScalesWrongFalsely : Prop := saturateScalesRow.holds Try.pinned (OpenSpec.ofChange saturateScalesWrong)

/-- 'stratagemlaw43.SaturateKeeps': WHATEVER THE INPUT: true; the input reads as it did. -/
def saturateKeepsSpec : ChangeSpec := { name := "saturateKeeps", fn := fun _ => fun
  | [d1, d2] => { results := [.lit (.bool true)], args := [d1, d2] }
  | _ => none }
def saturateKeepsRow : OpenClaim := { program := "ytnoiagnmbipppaa", sum := "bc8aa192c82c4c1d4b50f8ddc9c04ba2e3656c0844a46e91059e7cad0d6ea089", func := "stratagem/stratagemlaw43.SaturateKeeps", spec := "saturateKeeps", unfollowed := true, recurses := true, apart := false }
def SaturateKeepsSaid : Prop := saturateKeepsRow.holds Try.pinned (OpenSpec.ofChange saturateKeepsSpec)

/-- ITS FALSE NEIGHBOUR: 'it returns false'. Refute it at one input. -/
def saturateKeepsWrong : ChangeSpec := { name := "saturateKeeps", fn := fun _ => fun
  | [d1, d2] => { results := [.lit (.bool false)], args := [d1, d2] }
  | _ => none }
def SaturateKeepsWrongFalsely : Prop := saturateKeepsRow.holds Try.pinned (OpenSpec.ofChange saturateKeepsWrong)

/-- 'stratagemlaw43.SaturateErrors': WHATEVER THE INPUT: true; the input reads as it did. -/
def saturateErrorsSpec : ChangeSpec := { name := "saturateErrors", fn := fun _ => fun
  | [d1, d2, d3] => { results := [.lit (.bool true)], args := [d1, d2, d3] }
  | _ => none }
def saturateErrorsRow : OpenClaim := { program := "ytnoiagnmbipppaa", sum := "bc8aa192c82c4c1d4b50f8ddc9c04ba2e3656c0844a46e91059e7cad0d6ea089", func := "stratagem/stratagemlaw43.SaturateErrors", spec := "saturateErrors", unfollowed := true, recurses := true, apart := false }
def SaturateErrorsSaid : Prop := saturateErrorsRow.holds Try.pinned (OpenSpec.ofChange saturateErrorsSpec)

/-- ITS FALSE NEIGHBOUR: 'it returns false'. Refute it at one input. -/
def saturateErrorsWrong : ChangeSpec := { name := "saturateErrors", fn := fun _ => fun
  | [d1, d2, d3] => { results := [.lit (.bool false)], args := [d1, d2, d3] }
  | _ => none }
def SaturateErrorsWrongFalsely : Prop := saturateErrorsRow.holds Try.pinned (OpenSpec.ofChange saturateErrorsWrong)

/- THE SECOND FORM. 'bulk': how many values and letters a reading holds, each counted each time it is reached (what is shared counts as often as it is met; a slice's spare places count too). A statement '..UptoSaid' is the law's where the arguments, and the package variables that the reading takes, are together of bulk at most 1048576: NARROWER than '..Said'. Prove '..Said' where nothing that the law and all that it calls make is longer than what came in: it says more and counts as full. Else prove '..UptoSaid'. A law counts once. -/
mutual
def uptoBulk {H : Type} : DataW H → Nat
  | .lit (.string bytes) => bytes.length + 1
  | .lit _ => 1
  | .nil => 1
  | .ptr d => uptoBulk d + 1
  | .slice elems spare => uptoBulkAll elems + uptoBulkAll spare + 1
  | .agg parts => uptoBulkAll parts + 1
  | .iface _ d => uptoBulk d + 1
  | .map entries => uptoBulkEntries entries + 1
  | .held _ => 1
def uptoBulkAll {H : Type} : List (DataW H) → Nat
  | [] => 0
  | d :: r => uptoBulk d + uptoBulkAll r
def uptoBulkEntries {H : Type} : List (Lit × DataW H) → Nat
  | [] => 0
  | x :: r => uptoBulkEntry x + uptoBulkEntries r
def uptoBulkEntry {H : Type} : Lit × DataW H → Nat
  | (.string bytes, d) => bytes.length + uptoBulk d + 1
  | (_, d) => uptoBulk d + 1
 end
def uptoSmall : (H : Type) → List (DataW H) → Bool := fun _ ds => decide (uptoBulkAll ds ≤ 1048576)
def OpenSpec.upto (s : _root_.Go.ChangeSpec) : _root_.Go.OpenSpec := { _root_.Go.OpenSpec.ofChange s with cond := some uptoSmall }

/-- 'stratagemlaw41.PdbWider', WHERE WHAT IT READS IS OF BULK AT MOST 1048576: true; the input reads as it did. -/
def pdbWiderUptoRow : OpenClaim := { program := "ytnoiagnmbipppaa", sum := "bc8aa192c82c4c1d4b50f8ddc9c04ba2e3656c0844a46e91059e7cad0d6ea089", func := "stratagem/stratagemlaw41.PdbWider", spec := "pdbWider", unfollowed := true, recurses := true, apart := false, narrowed := true }
def PdbWiderUptoSaid : Prop := pdbWiderUptoRow.holds Try.pinned (OpenSpec.upto pdbWiderSpec)

/-- 'stratagemlaw41.PdbErrors', WHERE WHAT IT READS IS OF BULK AT MOST 1048576: true; the input reads as it did. -/
def pdbErrorsUptoRow : OpenClaim := { program := "ytnoiagnmbipppaa", sum := "bc8aa192c82c4c1d4b50f8ddc9c04ba2e3656c0844a46e91059e7cad0d6ea089", func := "stratagem/stratagemlaw41.PdbErrors", spec := "pdbErrors", unfollowed := true, recurses := true, apart := false, narrowed := true }
def PdbErrorsUptoSaid : Prop := pdbErrorsUptoRow.holds Try.pinned (OpenSpec.upto pdbErrorsSpec)

/-- 'stratagemlaw43.SaturateParts', WHERE WHAT IT READS IS OF BULK AT MOST 1048576: true; the input reads as it did. -/
def saturatePartsUptoRow : OpenClaim := { program := "ytnoiagnmbipppaa", sum := "bc8aa192c82c4c1d4b50f8ddc9c04ba2e3656c0844a46e91059e7cad0d6ea089", func := "stratagem/stratagemlaw43.SaturateParts", spec := "saturateParts", unfollowed := true, recurses := true, apart := false, narrowed := true }
def SaturatePartsUptoSaid : Prop := saturatePartsUptoRow.holds Try.pinned (OpenSpec.upto saturatePartsSpec)

/-- 'stratagemlaw43.SaturateBudget', WHERE WHAT IT READS IS OF BULK AT MOST 1048576: true; the input reads as it did. -/
def saturateBudgetUptoRow : OpenClaim := { program := "ytnoiagnmbipppaa", sum := "bc8aa192c82c4c1d4b50f8ddc9c04ba2e3656c0844a46e91059e7cad0d6ea089", func := "stratagem/stratagemlaw43.SaturateBudget", spec := "saturateBudget", unfollowed := true, recurses := true, apart := false, narrowed := true }
def SaturateBudgetUptoSaid : Prop := saturateBudgetUptoRow.holds Try.pinned (OpenSpec.upto saturateBudgetSpec)

/-- 'stratagemlaw43.SaturateAdmissible', WHERE WHAT IT READS IS OF BULK AT MOST 1048576: true; the input reads as it did. -/
def saturateAdmissibleUptoRow : OpenClaim := { program := "ytnoiagnmbipppaa", sum := "bc8aa192c82c4c1d4b50f8ddc9c04ba2e3656c0844a46e91059e7cad0d6ea089", func := "stratagem/stratagemlaw43.SaturateAdmissible", spec := "saturateAdmissible", unfollowed := true, recurses := true, apart := false, narrowed := true }
def SaturateAdmissibleUptoSaid : Prop := saturateAdmissibleUptoRow.holds Try.pinned (OpenSpec.upto saturateAdmissibleSpec)

/-- 'stratagemlaw43.SaturateFirst', WHERE WHAT IT READS IS OF BULK AT MOST 1048576: true; the input reads as it did. -/
def saturateFirstUptoRow : OpenClaim := { program := "ytnoiagnmbipppaa", sum := "bc8aa192c82c4c1d4b50f8ddc9c04ba2e3656c0844a46e91059e7cad0d6ea089", func := "stratagem/stratagemlaw43.SaturateFirst", spec := "saturateFirst", unfollowed := true, recurses := true, apart := false, narrowed := true }
def SaturateFirstUptoSaid : Prop := saturateFirstUptoRow.holds Try.pinned (OpenSpec.upto saturateFirstSpec)

/-- 'stratagemlaw43.SaturateScales', WHERE WHAT IT READS IS OF BULK AT MOST 1048576: true; the input reads as it did. -/
def saturateScalesUptoRow : OpenClaim := { program := "ytnoiagnmbipppaa", sum := "bc8aa192c82c4c1d4b50f8ddc9c04ba2e3656c0844a46e91059e7cad0d6ea089", func := "stratagem/stratagemlaw43.SaturateScales", spec := "saturateScales", unfollowed := true, recurses := true, apart := false, narrowed := true }
def SaturateScalesUptoSaid : Prop := saturateScalesUptoRow.holds Try.pinned (OpenSpec.upto saturateScalesSpec)

/-- 'stratagemlaw43.SaturateKeeps', WHERE WHAT IT READS IS OF BULK AT MOST 1048576: true; the input reads as it did. -/
def saturateKeepsUptoRow : OpenClaim := { program := "ytnoiagnmbipppaa", sum := "bc8aa192c82c4c1d4b50f8ddc9c04ba2e3656c0844a46e91059e7cad0d6ea089", func := "stratagem/stratagemlaw43.SaturateKeeps", spec := "saturateKeeps", unfollowed := true, recurses := true, apart := false, narrowed := true }
def SaturateKeepsUptoSaid : Prop := saturateKeepsUptoRow.holds Try.pinned (OpenSpec.upto saturateKeepsSpec)

/-- 'stratagemlaw43.SaturateErrors', WHERE WHAT IT READS IS OF BULK AT MOST 1048576: true; the input reads as it did. -/
def saturateErrorsUptoRow : OpenClaim := { program := "ytnoiagnmbipppaa", sum := "bc8aa192c82c4c1d4b50f8ddc9c04ba2e3656c0844a46e91059e7cad0d6ea089", func := "stratagem/stratagemlaw43.SaturateErrors", spec := "saturateErrors", unfollowed := true, recurses := true, apart := false, narrowed := true }
def SaturateErrorsUptoSaid : Prop := saturateErrorsUptoRow.holds Try.pinned (OpenSpec.upto saturateErrorsSpec)

end Rows
end Go.Proofs.Ytnoiagnmbipppaa
