/-
  No cell of these rows narrows 'for every input' (looked for: loops, veiled, ifaces, maps, wideKeys, modest, calm, conditions, laid).
  DERIVED. THE GIVEN ROWS OF THIS SEAT. 8 by the template 'for every input the law returns true; each argument reads behind the call as it read before'; 0 by the template 'total and deterministic' (their statements: YtlgombjhcpgleaaTotals.lean).
  GIVEN WITH THE SEED: the statements are not yours to turn. If you find one false, say at which input.
  Laid BY PROGRAM, IN A SANDBOX (cutbox-rows.mjs): the forced cells as the released guide's own fill.sh prints them over the translation 2befe8211d782a20… (all of the seat's roots in one cut). By AI agents, Wed Nov 11 2026. No macro, syntax, notation, axiom, sorry.
-/
import Derived.Test.YtlgombjhcpgleaaChecked
import GoSem.Claim
import GoSem.ClaimJoined
import GoSem.ClaimMapViews
import Derived.JoinedTies
import Derived.KernelRfl
namespace Go.Proofs.Ytlgombjhcpgleaa
/- THE CELL 'sum', in the pinned program and in every row, IS THE sha256 OF THE DUMP (.gsa) THAT YtlgombjhcpgleaaProg.lean LOADS. Nothing in Lean hashes anything: it is a label: what it is worth is what the hold of that sum in a sandbox is worth. -/
noncomputable def Try.pinned : Pinned := { name := "ytlgombjhcpgleaa", sum := "2befe8211d782a207edc5fe38a5b4acc596601ea48ff8091731558b5f5486591", checked := Try.checked }
namespace Rows
def none {H : Type} : Left H := { results := [], args := [] }

/-- 'stratagemlaw40.ProjectSystems': WHATEVER THE INPUT: true; the input reads as it did. -/
def projectSystemsSpec : ChangeSpec := { name := "projectSystems", fn := fun _ => fun
  | [d1, d2] => { results := [.lit (.bool true)], args := [d1, d2] }
  | _ => none }
def projectSystemsRow : OpenClaim := { program := "ytlgombjhcpgleaa", sum := "2befe8211d782a207edc5fe38a5b4acc596601ea48ff8091731558b5f5486591", func := "stratagem/stratagemlaw40.ProjectSystems", spec := "projectSystems", unfollowed := true, recurses := true, plainKeys := false, apart := false }
def ProjectSystemsSaid : Prop := projectSystemsRow.holds Try.pinned (OpenSpec.ofChange projectSystemsSpec)

/-- ITS FALSE NEIGHBOUR: 'it returns false'. Refute it at one input. -/
def projectSystemsWrong : ChangeSpec := { name := "projectSystems", fn := fun _ => fun
  | [d1, d2] => { results := [.lit (.bool false)], args := [d1, d2] }
  | _ => none }
def ProjectSystemsWrongFalsely : Prop := projectSystemsRow.holds Try.pinned (OpenSpec.ofChange projectSystemsWrong)

/-- 'stratagemlaw40.ProjectPaths': WHATEVER THE INPUT: true; the input reads as it did. -/
def projectPathsSpec : ChangeSpec := { name := "projectPaths", fn := fun _ => fun
  | [d1, d2, d3] => { results := [.lit (.bool true)], args := [d1, d2, d3] }
  | _ => none }
def projectPathsRow : OpenClaim := { program := "ytlgombjhcpgleaa", sum := "2befe8211d782a207edc5fe38a5b4acc596601ea48ff8091731558b5f5486591", func := "stratagem/stratagemlaw40.ProjectPaths", spec := "projectPaths", unfollowed := true, recurses := true, plainKeys := false, apart := false }
def ProjectPathsSaid : Prop := projectPathsRow.holds Try.pinned (OpenSpec.ofChange projectPathsSpec)

/-- ITS FALSE NEIGHBOUR: 'it returns false'. Refute it at one input. -/
def projectPathsWrong : ChangeSpec := { name := "projectPaths", fn := fun _ => fun
  | [d1, d2, d3] => { results := [.lit (.bool false)], args := [d1, d2, d3] }
  | _ => none }
def ProjectPathsWrongFalsely : Prop := projectPathsRow.holds Try.pinned (OpenSpec.ofChange projectPathsWrong)

/-- 'stratagemlaw40.ProjectNarrower': WHATEVER THE INPUT: true; the input reads as it did. -/
def projectNarrowerSpec : ChangeSpec := { name := "projectNarrower", fn := fun _ => fun
  | [d1, d2, d3] => { results := [.lit (.bool true)], args := [d1, d2, d3] }
  | _ => none }
def projectNarrowerRow : OpenClaim := { program := "ytlgombjhcpgleaa", sum := "2befe8211d782a207edc5fe38a5b4acc596601ea48ff8091731558b5f5486591", func := "stratagem/stratagemlaw40.ProjectNarrower", spec := "projectNarrower", unfollowed := true, recurses := true, plainKeys := false, apart := false }
def ProjectNarrowerSaid : Prop := projectNarrowerRow.holds Try.pinned (OpenSpec.ofChange projectNarrowerSpec)

/-- ITS FALSE NEIGHBOUR: 'it returns false'. Refute it at one input. -/
def projectNarrowerWrong : ChangeSpec := { name := "projectNarrower", fn := fun _ => fun
  | [d1, d2, d3] => { results := [.lit (.bool false)], args := [d1, d2, d3] }
  | _ => none }
def ProjectNarrowerWrongFalsely : Prop := projectNarrowerRow.holds Try.pinned (OpenSpec.ofChange projectNarrowerWrong)

/-- 'stratagemlaw40.ProjectDistances': WHATEVER THE INPUT: true; the input reads as it did. -/
def projectDistancesSpec : ChangeSpec := { name := "projectDistances", fn := fun _ => fun
  | [d1, d2] => { results := [.lit (.bool true)], args := [d1, d2] }
  | _ => none }
def projectDistancesRow : OpenClaim := { program := "ytlgombjhcpgleaa", sum := "2befe8211d782a207edc5fe38a5b4acc596601ea48ff8091731558b5f5486591", func := "stratagem/stratagemlaw40.ProjectDistances", spec := "projectDistances", unfollowed := true, recurses := true, plainKeys := false, apart := false }
def ProjectDistancesSaid : Prop := projectDistancesRow.holds Try.pinned (OpenSpec.ofChange projectDistancesSpec)

/-- ITS FALSE NEIGHBOUR: 'it returns false'. Refute it at one input. -/
def projectDistancesWrong : ChangeSpec := { name := "projectDistances", fn := fun _ => fun
  | [d1, d2] => { results := [.lit (.bool false)], args := [d1, d2] }
  | _ => none }
def ProjectDistancesWrongFalsely : Prop := projectDistancesRow.holds Try.pinned (OpenSpec.ofChange projectDistancesWrong)

/-- 'stratagemlaw40.ProjectAffects': WHATEVER THE INPUT: true; the input reads as it did. -/
def projectAffectsSpec : ChangeSpec := { name := "projectAffects", fn := fun _ => fun
  | [d1, d2] => { results := [.lit (.bool true)], args := [d1, d2] }
  | _ => none }
def projectAffectsRow : OpenClaim := { program := "ytlgombjhcpgleaa", sum := "2befe8211d782a207edc5fe38a5b4acc596601ea48ff8091731558b5f5486591", func := "stratagem/stratagemlaw40.ProjectAffects", spec := "projectAffects", unfollowed := true, recurses := true, plainKeys := false, apart := false }
def ProjectAffectsSaid : Prop := projectAffectsRow.holds Try.pinned (OpenSpec.ofChange projectAffectsSpec)

/-- ITS FALSE NEIGHBOUR: 'it returns false'. Refute it at one input. -/
def projectAffectsWrong : ChangeSpec := { name := "projectAffects", fn := fun _ => fun
  | [d1, d2] => { results := [.lit (.bool false)], args := [d1, d2] }
  | _ => none }
def ProjectAffectsWrongFalsely : Prop := projectAffectsRow.holds Try.pinned (OpenSpec.ofChange projectAffectsWrong)

/-- 'stratagemlaw40.ProjectLarge': WHATEVER THE INPUT: true; the input reads as it did. -/
def projectLargeSpec : ChangeSpec := { name := "projectLarge", fn := fun _ => fun
  | [d1, d2, d3] => { results := [.lit (.bool true)], args := [d1, d2, d3] }
  | _ => none }
def projectLargeRow : OpenClaim := { program := "ytlgombjhcpgleaa", sum := "2befe8211d782a207edc5fe38a5b4acc596601ea48ff8091731558b5f5486591", func := "stratagem/stratagemlaw40.ProjectLarge", spec := "projectLarge", unfollowed := true, recurses := true, plainKeys := false, apart := false }
def ProjectLargeSaid : Prop := projectLargeRow.holds Try.pinned (OpenSpec.ofChange projectLargeSpec)

/-- ITS FALSE NEIGHBOUR: 'it returns false'. Refute it at one input. -/
def projectLargeWrong : ChangeSpec := { name := "projectLarge", fn := fun _ => fun
  | [d1, d2, d3] => { results := [.lit (.bool false)], args := [d1, d2, d3] }
  | _ => none }
def ProjectLargeWrongFalsely : Prop := projectLargeRow.holds Try.pinned (OpenSpec.ofChange projectLargeWrong)

/-- 'stratagemlaw40.ProjectErrors': WHATEVER THE INPUT: true; the input reads as it did. -/
def projectErrorsSpec : ChangeSpec := { name := "projectErrors", fn := fun _ => fun
  | [d1, d2, d3] => { results := [.lit (.bool true)], args := [d1, d2, d3] }
  | _ => none }
def projectErrorsRow : OpenClaim := { program := "ytlgombjhcpgleaa", sum := "2befe8211d782a207edc5fe38a5b4acc596601ea48ff8091731558b5f5486591", func := "stratagem/stratagemlaw40.ProjectErrors", spec := "projectErrors", unfollowed := true, recurses := true, plainKeys := false, apart := false }
def ProjectErrorsSaid : Prop := projectErrorsRow.holds Try.pinned (OpenSpec.ofChange projectErrorsSpec)

/-- ITS FALSE NEIGHBOUR: 'it returns false'. Refute it at one input. -/
def projectErrorsWrong : ChangeSpec := { name := "projectErrors", fn := fun _ => fun
  | [d1, d2, d3] => { results := [.lit (.bool false)], args := [d1, d2, d3] }
  | _ => none }
def ProjectErrorsWrongFalsely : Prop := projectErrorsRow.holds Try.pinned (OpenSpec.ofChange projectErrorsWrong)

/-- 'stratagemlaw40.ProjectWhole': WHATEVER THE INPUT: true; the input reads as it did. -/
def projectWholeSpec : ChangeSpec := { name := "projectWhole", fn := fun _ => fun
  | [d] => { results := [.lit (.bool true)], args := [d] }
  | _ => none }
def projectWholeRow : OpenClaim := { program := "ytlgombjhcpgleaa", sum := "2befe8211d782a207edc5fe38a5b4acc596601ea48ff8091731558b5f5486591", func := "stratagem/stratagemlaw40.ProjectWhole", spec := "projectWhole", unfollowed := true, recurses := true, plainKeys := false, apart := false }
def ProjectWholeSaid : Prop := projectWholeRow.holds Try.pinned (OpenSpec.ofChange projectWholeSpec)

/-- ITS FALSE NEIGHBOUR: 'it returns false'. Refute it at one input. -/
def projectWholeWrong : ChangeSpec := { name := "projectWhole", fn := fun _ => fun
  | [d] => { results := [.lit (.bool false)], args := [d] }
  | _ => none }
def ProjectWholeWrongFalsely : Prop := projectWholeRow.holds Try.pinned (OpenSpec.ofChange projectWholeWrong)

/- THE SECOND FORM. 'bulk': how many values and letters a reading holds, each counted each time it is reached (what is shared counts as often as it is met; a slice's spare places count too). A statement '..UptoSaid' is the law's where the arguments, and the package variables that the reading takes, are together of bulk at most 1048576: NARROWER than '..Said'. Prove '..Said' where nothing that the law and all that it calls make is longer than what came in: it says more and counts as full. Else prove '..UptoSaid'. A law counts once. -/
mutual
def uptoBulk {H : Type} : DataW H → Nat
  | .lit (.string bytes) => bytes.length + 1
  | .lit _ => 1
  | .nil => 1
  | .ptr d => uptoBulk d + 1
  | .slice elems spare => uptoBulkAll elems + uptoBulkAll spare + 1
  | .agg parts => uptoBulkAll parts + 1
  | .iface _ d => uptoBulk d + 1
  | .map entries => uptoBulkEntries entries + 1
  | .held _ => 1
def uptoBulkAll {H : Type} : List (DataW H) → Nat
  | [] => 0
  | d :: r => uptoBulk d + uptoBulkAll r
def uptoBulkEntries {H : Type} : List (Lit × DataW H) → Nat
  | [] => 0
  | x :: r => uptoBulkEntry x + uptoBulkEntries r
def uptoBulkEntry {H : Type} : Lit × DataW H → Nat
  | (.string bytes, d) => bytes.length + uptoBulk d + 1
  | (_, d) => uptoBulk d + 1
 end
def uptoSmall : (H : Type) → List (DataW H) → Bool := fun _ ds => decide (uptoBulkAll ds ≤ 1048576)
def OpenSpec.upto (s : _root_.Go.ChangeSpec) : _root_.Go.OpenSpec := { _root_.Go.OpenSpec.ofChange s with cond := some uptoSmall }

/-- 'stratagemlaw40.ProjectSystems', WHERE WHAT IT READS IS OF BULK AT MOST 1048576: true; the input reads as it did. -/
def projectSystemsUptoRow : OpenClaim := { program := "ytlgombjhcpgleaa", sum := "2befe8211d782a207edc5fe38a5b4acc596601ea48ff8091731558b5f5486591", func := "stratagem/stratagemlaw40.ProjectSystems", spec := "projectSystems", unfollowed := true, recurses := true, plainKeys := false, apart := false, narrowed := true }
def ProjectSystemsUptoSaid : Prop := projectSystemsUptoRow.holds Try.pinned (OpenSpec.upto projectSystemsSpec)

/-- 'stratagemlaw40.ProjectPaths', WHERE WHAT IT READS IS OF BULK AT MOST 1048576: true; the input reads as it did. -/
def projectPathsUptoRow : OpenClaim := { program := "ytlgombjhcpgleaa", sum := "2befe8211d782a207edc5fe38a5b4acc596601ea48ff8091731558b5f5486591", func := "stratagem/stratagemlaw40.ProjectPaths", spec := "projectPaths", unfollowed := true, recurses := true, plainKeys := false, apart := false, narrowed := true }
def ProjectPathsUptoSaid : Prop := projectPathsUptoRow.holds Try.pinned (OpenSpec.upto projectPathsSpec)

/-- 'stratagemlaw40.ProjectNarrower', WHERE WHAT IT READS IS OF BULK AT MOST 1048576: true; the input reads as it did. -/
def projectNarrowerUptoRow : OpenClaim := { program := "ytlgombjhcpgleaa", sum := "2befe8211d782a207edc5fe38a5b4acc596601ea48ff8091731558b5f5486591", func := "stratagem/stratagemlaw40.ProjectNarrower", spec := "projectNarrower", unfollowed := true, recurses := true, plainKeys := false, apart := false, narrowed := true }
def ProjectNarrowerUptoSaid : Prop := projectNarrowerUptoRow.holds Try.pinned (OpenSpec.upto projectNarrowerSpec)

/-- 'stratagemlaw40.ProjectDistances', WHERE WHAT IT READS IS OF BULK AT MOST 1048576: true; the input reads as it did. -/
def projectDistancesUptoRow : OpenClaim := { program := "ytlgombjhcpgleaa", sum := "2befe8211d782a207edc5fe38a5b4acc596601ea48ff8091731558b5f5486591", func := "stratagem/stratagemlaw40.ProjectDistances", spec := "projectDistances", unfollowed := true, recurses := true, plainKeys := false, apart := false, narrowed := true }
def ProjectDistancesUptoSaid : Prop := projectDistancesUptoRow.holds Try.pinned (OpenSpec.upto projectDistancesSpec)

/-- 'stratagemlaw40.ProjectAffects', WHERE WHAT IT READS IS OF BULK AT MOST 1048576: true; the input reads as it did. -/
def projectAffectsUptoRow : OpenClaim := { program := "ytlgombjhcpgleaa", sum := "2befe8211d782a207edc5fe38a5b4acc596601ea48ff8091731558b5f5486591", func := "stratagem/stratagemlaw40.ProjectAffects", spec := "projectAffects", unfollowed := true, recurses := true, plainKeys := false, apart := false, narrowed := true }
def ProjectAffectsUptoSaid : Prop := projectAffectsUptoRow.holds Try.pinned (OpenSpec.upto projectAffectsSpec)

/-- 'stratagemlaw40.ProjectLarge', WHERE WHAT IT READS IS OF BULK AT MOST 1048576: true; the input reads as it did. -/
def projectLargeUptoRow : OpenClaim := { program := "ytlgombjhcpgleaa", sum := "2befe8211d782a207edc5fe38a5b4acc596601ea48ff8091731558b5f5486591", func := "stratagem/stratagemlaw40.ProjectLarge", spec := "projectLarge", unfollowed := true, recurses := true, plainKeys := false, apart := false, narrowed := true }
def ProjectLargeUptoSaid : Prop := projectLargeUptoRow.holds Try.pinned (OpenSpec.upto projectLargeSpec)

/-- 'stratagemlaw40.ProjectErrors', WHERE WHAT IT READS IS OF BULK AT MOST 1048576: true; the input reads as it did. -/
def projectErrorsUptoRow : OpenClaim := { program := "ytlgombjhcpgleaa", sum := "2befe8211d782a207edc5fe38a5b4acc596601ea48ff8091731558b5f5486591", func := "stratagem/stratagemlaw40.ProjectErrors", spec := "projectErrors", unfollowed := true, recurses := true, plainKeys := false, apart := false, narrowed := true }
def ProjectErrorsUptoSaid : Prop := projectErrorsUptoRow.holds Try.pinned (OpenSpec.upto projectErrorsSpec)

/-- 'stratagemlaw40.ProjectWhole', WHERE WHAT IT READS IS OF BULK AT MOST 1048576: true; the input reads as it did. -/
def projectWholeUptoRow : OpenClaim := { program := "ytlgombjhcpgleaa", sum := "2befe8211d782a207edc5fe38a5b4acc596601ea48ff8091731558b5f5486591", func := "stratagem/stratagemlaw40.ProjectWhole", spec := "projectWhole", unfollowed := true, recurses := true, plainKeys := false, apart := false, narrowed := true }
def ProjectWholeUptoSaid : Prop := projectWholeUptoRow.holds Try.pinned (OpenSpec.upto projectWholeSpec)

end Rows
end Go.Proofs.Ytlgombjhcpgleaa
