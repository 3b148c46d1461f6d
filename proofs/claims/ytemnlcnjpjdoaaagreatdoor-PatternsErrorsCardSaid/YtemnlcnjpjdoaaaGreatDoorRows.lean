/-
  NARROWER THAN 'FOR EVERY INPUT', by the rows' own cells (each row's printed sentence says how): PatternsSystematic: laid · PatternsCanonical: laid · PatternsAdmissible: laid · PatternsMore: laid · PatternsAdditive: laid · PatternsErrors: laid.
  DERIVED. THE GIVEN ROWS OF THIS SEAT. 6 by the template 'for every input the law returns true; each argument reads behind the call as it read before'; 0 by the template 'total and deterministic' (their statements: YtemnlcnjpjdoaaaGreatDoorTotals.lean).
  GIVEN WITH THE SEED: the statements are not yours to turn. If you find one false, say at which input.
  Laid BY PROGRAM, IN A SANDBOX (cutbox-rows.mjs): the forced cells as the released guide's own fill.sh prints them over the translation e8a1e1cff4fc8e3b… (all of the seat's roots in one cut). By AI agents, Wed Nov 11 2026. No macro, syntax, notation, axiom, sorry.
-/
import Derived.Test.YtemnlcnjpjdoaaaGreatDoorChecked
import GoSem.Claim
import GoSem.ClaimJoined
import GoSem.ClaimMapViews
import Derived.JoinedTies
import Derived.KernelRfl
namespace Go.Proofs.YtemnlcnjpjdoaaaGreatDoor
/- THE CELL 'sum', in the pinned program and in every row, IS THE sha256 OF THE DUMP (.gsa) THAT YtemnlcnjpjdoaaaGreatDoorProg.lean LOADS. Nothing in Lean hashes anything: it is a label: what it is worth is what the hold of that sum in a sandbox is worth. -/
noncomputable def Tryz.pinned : Pinned := { name := "ytemnlcnjpjdoaaagreatdoor", sum := "e8a1e1cff4fc8e3bc83a4300b6983e8415842b23ec53f7779fd1109cd25eaf57", checked := Tryz.checked }
namespace Rows
def none {H : Type} : Left H := { results := [], args := [] }

/- WHAT THE LISTED PACKAGE-LEVEL VARIABLES READ AS WHEN THE CALL BEGINS. Each datum BY PROGRAM (the guide's laid-datum.mjs) off the statement by which the dump's own 'gosem.cut.vars' lays the variable. In a bare row this is a premise. The card (YtemnlcnjpjdoaaaGreatDoorCards.lean) ties it to the program's text. -/
def laid_math_bits_deBruijn64tab {H : Type} : DataW H := .agg [.lit (.int .u8 0), .lit (.int .u8 1), .lit (.int .u8 56), .lit (.int .u8 2), .lit (.int .u8 57), .lit (.int .u8 49), .lit (.int .u8 28), .lit (.int .u8 3), .lit (.int .u8 61), .lit (.int .u8 58), .lit (.int .u8 42), .lit (.int .u8 50), .lit (.int .u8 38), .lit (.int .u8 29), .lit (.int .u8 17), .lit (.int .u8 4), .lit (.int .u8 62), .lit (.int .u8 47), .lit (.int .u8 59), .lit (.int .u8 36), .lit (.int .u8 45), .lit (.int .u8 43), .lit (.int .u8 51), .lit (.int .u8 22), .lit (.int .u8 53), .lit (.int .u8 39), .lit (.int .u8 33), .lit (.int .u8 30), .lit (.int .u8 24), .lit (.int .u8 18), .lit (.int .u8 12), .lit (.int .u8 5), .lit (.int .u8 63), .lit (.int .u8 55), .lit (.int .u8 48), .lit (.int .u8 27), .lit (.int .u8 60), .lit (.int .u8 41), .lit (.int .u8 37), .lit (.int .u8 16), .lit (.int .u8 46), .lit (.int .u8 35), .lit (.int .u8 44), .lit (.int .u8 21), .lit (.int .u8 52), .lit (.int .u8 32), .lit (.int .u8 23), .lit (.int .u8 11), .lit (.int .u8 54), .lit (.int .u8 26), .lit (.int .u8 40), .lit (.int .u8 15), .lit (.int .u8 34), .lit (.int .u8 20), .lit (.int .u8 31), .lit (.int .u8 10), .lit (.int .u8 25), .lit (.int .u8 14), .lit (.int .u8 19), .lit (.int .u8 9), .lit (.int .u8 13), .lit (.int .u8 8), .lit (.int .u8 7), .lit (.int .u8 6)]

/-- 'stratagemlaw42.PatternsSystematic': WHATEVER THE INPUT: true; the input reads as it did. -/
def patternsSystematicSpec : ChangeSpec := { name := "patternsSystematic", fn := fun _ => fun
  | [d1, d2] => { results := [.lit (.bool true)], args := [d1, d2] }
  | _ => none }
def patternsSystematicRow : OpenClaim := { program := "ytemnlcnjpjdoaaagreatdoor", sum := "e8a1e1cff4fc8e3bc83a4300b6983e8415842b23ec53f7779fd1109cd25eaf57", func := "stratagem/stratagemlaw42.PatternsSystematic", spec := "patternsSystematic", unfollowed := true, recurses := true, named := ["math/bits.deBruijn64tab"], apart := false, laid := [("math/bits.deBruijn64tab", laid_math_bits_deBruijn64tab)] }
def PatternsSystematicSaid : Prop := patternsSystematicRow.holds Tryz.pinned (OpenSpec.ofChange patternsSystematicSpec)

/-- ITS FALSE NEIGHBOUR: 'it returns false'. Refute it at one input. -/
def patternsSystematicWrong : ChangeSpec := { name := "patternsSystematic", fn := fun _ => fun
  | [d1, d2] => { results := [.lit (.bool false)], args := [d1, d2] }
  | _ => none }
def PatternsSystematicWrongFalsely : Prop := patternsSystematicRow.holds Tryz.pinned (OpenSpec.ofChange patternsSystematicWrong)

/-- 'stratagemlaw42.PatternsCanonical': WHATEVER THE INPUT: true; the input reads as it did. -/
def patternsCanonicalSpec : ChangeSpec := { name := "patternsCanonical", fn := fun _ => fun
  | [d1, d2] => { results := [.lit (.bool true)], args := [d1, d2] }
  | _ => none }
def patternsCanonicalRow : OpenClaim := { program := "ytemnlcnjpjdoaaagreatdoor", sum := "e8a1e1cff4fc8e3bc83a4300b6983e8415842b23ec53f7779fd1109cd25eaf57", func := "stratagem/stratagemlaw42.PatternsCanonical", spec := "patternsCanonical", unfollowed := true, recurses := true, named := ["math/bits.deBruijn64tab"], apart := false, laid := [("math/bits.deBruijn64tab", laid_math_bits_deBruijn64tab)] }
def PatternsCanonicalSaid : Prop := patternsCanonicalRow.holds Tryz.pinned (OpenSpec.ofChange patternsCanonicalSpec)

/-- ITS FALSE NEIGHBOUR: 'it returns false'. Refute it at one input. -/
def patternsCanonicalWrong : ChangeSpec := { name := "patternsCanonical", fn := fun _ => fun
  | [d1, d2] => { results := [.lit (.bool false)], args := [d1, d2] }
  | _ => none }
def PatternsCanonicalWrongFalsely : Prop := patternsCanonicalRow.holds Tryz.pinned (OpenSpec.ofChange patternsCanonicalWrong)

/-- 'stratagemlaw42.PatternsAdmissible': WHATEVER THE INPUT: true; the input reads as it did. -/
def patternsAdmissibleSpec : ChangeSpec := { name := "patternsAdmissible", fn := fun _ => fun
  | [d1, d2] => { results := [.lit (.bool true)], args := [d1, d2] }
  | _ => none }
def patternsAdmissibleRow : OpenClaim := { program := "ytemnlcnjpjdoaaagreatdoor", sum := "e8a1e1cff4fc8e3bc83a4300b6983e8415842b23ec53f7779fd1109cd25eaf57", func := "stratagem/stratagemlaw42.PatternsAdmissible", spec := "patternsAdmissible", unfollowed := true, recurses := true, named := ["math/bits.deBruijn64tab"], apart := false, laid := [("math/bits.deBruijn64tab", laid_math_bits_deBruijn64tab)] }
def PatternsAdmissibleSaid : Prop := patternsAdmissibleRow.holds Tryz.pinned (OpenSpec.ofChange patternsAdmissibleSpec)

/-- ITS FALSE NEIGHBOUR: 'it returns false'. Refute it at one input. -/
def patternsAdmissibleWrong : ChangeSpec := { name := "patternsAdmissible", fn := fun _ => fun
  | [d1, d2] => { results := [.lit (.bool false)], args := [d1, d2] }
  | _ => none }
def PatternsAdmissibleWrongFalsely : Prop := patternsAdmissibleRow.holds Tryz.pinned (OpenSpec.ofChange patternsAdmissibleWrong)

/-- 'stratagemlaw42.PatternsMore': WHATEVER THE INPUT: true; the input reads as it did. -/
def patternsMoreSpec : ChangeSpec := { name := "patternsMore", fn := fun _ => fun
  | [d1, d2, d3] => { results := [.lit (.bool true)], args := [d1, d2, d3] }
  | _ => none }
def patternsMoreRow : OpenClaim := { program := "ytemnlcnjpjdoaaagreatdoor", sum := "e8a1e1cff4fc8e3bc83a4300b6983e8415842b23ec53f7779fd1109cd25eaf57", func := "stratagem/stratagemlaw42.PatternsMore", spec := "patternsMore", unfollowed := true, recurses := true, named := ["math/bits.deBruijn64tab"], apart := false, laid := [("math/bits.deBruijn64tab", laid_math_bits_deBruijn64tab)] }
def PatternsMoreSaid : Prop := patternsMoreRow.holds Tryz.pinned (OpenSpec.ofChange patternsMoreSpec)

/-- ITS FALSE NEIGHBOUR: 'it returns false'. Refute it at one input. -/
def patternsMoreWrong : ChangeSpec := { name := "patternsMore", fn := fun _ => fun
  | [d1, d2, d3] => { results := [.lit (.bool false)], args := [d1, d2, d3] }
  | _ => none }
def PatternsMoreWrongFalsely : Prop := patternsMoreRow.holds Tryz.pinned (OpenSpec.ofChange patternsMoreWrong)

/-- 'stratagemlaw42.PatternsAdditive': WHATEVER THE INPUT: true; the input reads as it did. -/
def patternsAdditiveSpec : ChangeSpec := { name := "patternsAdditive", fn := fun _ => fun
  | [d1, d2] => { results := [.lit (.bool true)], args := [d1, d2] }
  | _ => none }
def patternsAdditiveRow : OpenClaim := { program := "ytemnlcnjpjdoaaagreatdoor", sum := "e8a1e1cff4fc8e3bc83a4300b6983e8415842b23ec53f7779fd1109cd25eaf57", func := "stratagem/stratagemlaw42.PatternsAdditive", spec := "patternsAdditive", unfollowed := true, recurses := true, named := ["math/bits.deBruijn64tab"], apart := false, laid := [("math/bits.deBruijn64tab", laid_math_bits_deBruijn64tab)] }
def PatternsAdditiveSaid : Prop := patternsAdditiveRow.holds Tryz.pinned (OpenSpec.ofChange patternsAdditiveSpec)

/-- ITS FALSE NEIGHBOUR: 'it returns false'. Refute it at one input. -/
def patternsAdditiveWrong : ChangeSpec := { name := "patternsAdditive", fn := fun _ => fun
  | [d1, d2] => { results := [.lit (.bool false)], args := [d1, d2] }
  | _ => none }
def PatternsAdditiveWrongFalsely : Prop := patternsAdditiveRow.holds Tryz.pinned (OpenSpec.ofChange patternsAdditiveWrong)

/-- 'stratagemlaw42.PatternsErrors': WHATEVER THE INPUT: true; the input reads as it did. -/
def patternsErrorsSpec : ChangeSpec := { name := "patternsErrors", fn := fun _ => fun
  | [d1, d2, d3] => { results := [.lit (.bool true)], args := [d1, d2, d3] }
  | _ => none }
def patternsErrorsRow : OpenClaim := { program := "ytemnlcnjpjdoaaagreatdoor", sum := "e8a1e1cff4fc8e3bc83a4300b6983e8415842b23ec53f7779fd1109cd25eaf57", func := "stratagem/stratagemlaw42.PatternsErrors", spec := "patternsErrors", unfollowed := true, recurses := true, named := ["math/bits.deBruijn64tab"], apart := false, laid := [("math/bits.deBruijn64tab", laid_math_bits_deBruijn64tab)] }
def PatternsErrorsSaid : Prop := patternsErrorsRow.holds Tryz.pinned (OpenSpec.ofChange patternsErrorsSpec)

/-- ITS FALSE NEIGHBOUR: 'it returns false'. Refute it at one input. -/
def patternsErrorsWrong : ChangeSpec := { name := "patternsErrors", fn := fun _ => fun
  | [d1, d2, d3] => { results := [.lit (.bool false)], args := [d1, d2, d3] }
  | _ => none }
def PatternsErrorsWrongFalsely : Prop := patternsErrorsRow.holds Tryz.pinned (OpenSpec.ofChange patternsErrorsWrong)

/- THE SECOND FORM. 'bulk': how many values and letters a reading holds, each counted each time it is reached (what is shared counts as often as it is met; a slice's spare places count too). A statement '..UptoSaid' is the law's where the arguments, and the package variables that the reading takes, are together of bulk at most 1048576: NARROWER than '..Said'. Prove '..Said' where nothing that the law and all that it calls make is longer than what came in: it says more and counts as full. Else prove '..UptoSaid'. A law counts once. -/
mutual
def uptoBulk {H : Type} : DataW H → Nat
  | .lit (.string bytes) => bytes.length + 1
  | .lit _ => 1
  | .nil => 1
  | .ptr d => uptoBulk d + 1
  | .slice elems spare => uptoBulkAll elems + uptoBulkAll spare + 1
  | .agg parts => uptoBulkAll parts + 1
  | .iface _ d => uptoBulk d + 1
  | .map entries => uptoBulkEntries entries + 1
  | .held _ => 1
def uptoBulkAll {H : Type} : List (DataW H) → Nat
  | [] => 0
  | d :: r => uptoBulk d + uptoBulkAll r
def uptoBulkEntries {H : Type} : List (Lit × DataW H) → Nat
  | [] => 0
  | x :: r => uptoBulkEntry x + uptoBulkEntries r
def uptoBulkEntry {H : Type} : Lit × DataW H → Nat
  | (.string bytes, d) => bytes.length + uptoBulk d + 1
  | (_, d) => uptoBulk d + 1
 end
def uptoSmall : (H : Type) → List (DataW H) → Bool := fun _ ds => decide (uptoBulkAll ds ≤ 1048576)
def OpenSpec.upto (s : _root_.Go.ChangeSpec) : _root_.Go.OpenSpec := { _root_.Go.OpenSpec.ofChange s with cond := some uptoSmall }

/-- 'stratagemlaw42.PatternsSystematic', WHERE WHAT IT READS IS OF BULK AT MOST 1048576: true; the input reads as it did. -/
def patternsSystematicUptoRow : OpenClaim := { program := "ytemnlcnjpjdoaaagreatdoor", sum := "e8a1e1cff4fc8e3bc83a4300b6983e8415842b23ec53f7779fd1109cd25eaf57", func := "stratagem/stratagemlaw42.PatternsSystematic", spec := "patternsSystematic", unfollowed := true, recurses := true, named := ["math/bits.deBruijn64tab"], apart := false, laid := [("math/bits.deBruijn64tab", laid_math_bits_deBruijn64tab)], narrowed := true }
def PatternsSystematicUptoSaid : Prop := patternsSystematicUptoRow.holds Tryz.pinned (OpenSpec.upto patternsSystematicSpec)

/-- 'stratagemlaw42.PatternsCanonical', WHERE WHAT IT READS IS OF BULK AT MOST 1048576: true; the input reads as it did. -/
def patternsCanonicalUptoRow : OpenClaim := { program := "ytemnlcnjpjdoaaagreatdoor", sum := "e8a1e1cff4fc8e3bc83a4300b6983e8415842b23ec53f7779fd1109cd25eaf57", func := "stratagem/stratagemlaw42.PatternsCanonical", spec := "patternsCanonical", unfollowed := true, recurses := true, named := ["math/bits.deBruijn64tab"], apart := false, laid := [("math/bits.deBruijn64tab", laid_math_bits_deBruijn64tab)], narrowed := true }
def PatternsCanonicalUptoSaid : Prop := patternsCanonicalUptoRow.holds Tryz.pinned (OpenSpec.upto patternsCanonicalSpec)

/-- 'stratagemlaw42.PatternsAdmissible', WHERE WHAT IT READS IS OF BULK AT MOST 1048576: true; the input reads as it did. -/
def patternsAdmissibleUptoRow : OpenClaim := { program := "ytemnlcnjpjdoaaagreatdoor", sum := "e8a1e1cff4fc8e3bc83a4300b6983e8415842b23ec53f7779fd1109cd25eaf57", func := "stratagem/stratagemlaw42.PatternsAdmissible", spec := "patternsAdmissible", unfollowed := true, recurses := true, named := ["math/bits.deBruijn64tab"], apart := false, laid := [("math/bits.deBruijn64tab", laid_math_bits_deBruijn64tab)], narrowed := true }
def PatternsAdmissibleUptoSaid : Prop := patternsAdmissibleUptoRow.holds Tryz.pinned (OpenSpec.upto patternsAdmissibleSpec)

/-- 'stratagemlaw42.PatternsMore', WHERE WHAT IT READS IS OF BULK AT MOST 1048576: true; the input reads as it did. -/
def patternsMoreUptoRow : OpenClaim := { program := "ytemnlcnjpjdoaaagreatdoor", sum := "e8a1e1cff4fc8e3bc83a4300b6983e8415842b23ec53f7779fd1109cd25eaf57", func := "stratagem/stratagemlaw42.PatternsMore", spec := "patternsMore", unfollowed := true, recurses := true, named := ["math/bits.deBruijn64tab"], apart := false, laid := [("math/bits.deBruijn64tab", laid_math_bits_deBruijn64tab)], narrowed := true }
def PatternsMoreUptoSaid : Prop := patternsMoreUptoRow.holds Tryz.pinned (OpenSpec.upto patternsMoreSpec)

/-- 'stratagemlaw42.PatternsAdditive', WHERE WHAT IT READS IS OF BULK AT MOST 1048576: true; the input reads as it did. -/
def patternsAdditiveUptoRow : OpenClaim := { program := "ytemnlcnjpjdoaaagreatdoor", sum := "e8a1e1cff4fc8e3bc83a4300b6983e8415842b23ec53f7779fd1109cd25eaf57", func := "stratagem/stratagemlaw42.PatternsAdditive", spec := "patternsAdditive", unfollowed := true, recurses := true, named := ["math/bits.deBruijn64tab"], apart := false, laid := [("math/bits.deBruijn64tab", laid_math_bits_deBruijn64tab)], narrowed := true }
def PatternsAdditiveUptoSaid : Prop := patternsAdditiveUptoRow.holds Tryz.pinned (OpenSpec.upto patternsAdditiveSpec)

/-- 'stratagemlaw42.PatternsErrors', WHERE WHAT IT READS IS OF BULK AT MOST 1048576: true; the input reads as it did. -/
def patternsErrorsUptoRow : OpenClaim := { program := "ytemnlcnjpjdoaaagreatdoor", sum := "e8a1e1cff4fc8e3bc83a4300b6983e8415842b23ec53f7779fd1109cd25eaf57", func := "stratagem/stratagemlaw42.PatternsErrors", spec := "patternsErrors", unfollowed := true, recurses := true, named := ["math/bits.deBruijn64tab"], apart := false, laid := [("math/bits.deBruijn64tab", laid_math_bits_deBruijn64tab)], narrowed := true }
def PatternsErrorsUptoSaid : Prop := patternsErrorsUptoRow.holds Tryz.pinned (OpenSpec.upto patternsErrorsSpec)

end Rows
end Go.Proofs.YtemnlcnjpjdoaaaGreatDoor
