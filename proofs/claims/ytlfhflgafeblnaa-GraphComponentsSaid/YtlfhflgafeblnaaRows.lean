/-
  No cell of these rows narrows 'for every input' (looked for: loops, veiled, ifaces, maps, wideKeys, modest, calm, conditions, laid).
  DERIVED. THE GIVEN ROWS OF THIS SEAT. 7 by the template 'for every input the law returns true; each argument reads behind the call as it read before'; 0 by the template 'total and deterministic' (their statements: YtlfhflgafeblnaaTotals.lean).
  GIVEN WITH THE SEED: the statements are not yours to turn. If you find one false, say at which input.
  Laid BY PROGRAM, IN A SANDBOX (cutbox-rows.mjs): the forced cells as the released guide's own fill.sh prints them over the translation c779927e8092a1fe… (all of the seat's roots in one cut). By AI agents, Wed Nov 11 2026. No macro, syntax, notation, axiom, sorry.
-/
import Derived.Test.YtlfhflgafeblnaaChecked
import GoSem.Claim
import GoSem.ClaimJoined
import GoSem.ClaimMapViews
import Derived.JoinedTies
import Derived.KernelRfl
namespace Go.Proofs.Ytlfhflgafeblnaa
/- THE CELL 'sum', in the pinned program and in every row, IS THE sha256 OF THE DUMP (.gsa) THAT YtlfhflgafeblnaaProg.lean LOADS. Nothing in Lean hashes anything: it is a label: what it is worth is what the hold of that sum in a sandbox is worth. -/
noncomputable def Try.pinned : Pinned := { name := "ytlfhflgafeblnaa", sum := "c779927e8092a1fe08b9bdd94614e78a3fcdeee0286a1ab13e4b3350abe40616", checked := Try.checked }
namespace Rows
def none {H : Type} : Left H := { results := [], args := [] }

/-- 'stratagemlaw04.GraphShortest': WHATEVER THE INPUT: true; the input reads as it did. -/
def graphShortestSpec : ChangeSpec := { name := "graphShortest", fn := fun _ => fun
  | [d1, d2] => { results := [.lit (.bool true)], args := [d1, d2] }
  | _ => none }
def graphShortestRow : OpenClaim := { program := "ytlfhflgafeblnaa", sum := "c779927e8092a1fe08b9bdd94614e78a3fcdeee0286a1ab13e4b3350abe40616", func := "stratagem/stratagemlaw04.GraphShortest", spec := "graphShortest", apart := false }
def GraphShortestSaid : Prop := graphShortestRow.holds Try.pinned (OpenSpec.ofChange graphShortestSpec)

/-- ITS FALSE NEIGHBOUR: 'it returns false'. Refute it at one input. -/
def graphShortestWrong : ChangeSpec := { name := "graphShortest", fn := fun _ => fun
  | [d1, d2] => { results := [.lit (.bool false)], args := [d1, d2] }
  | _ => none }
def GraphShortestWrongFalsely : Prop := graphShortestRow.holds Try.pinned (OpenSpec.ofChange graphShortestWrong)

/-- 'stratagemlaw04.GraphReaches': WHATEVER THE INPUT: true; the input reads as it did. -/
def graphReachesSpec : ChangeSpec := { name := "graphReaches", fn := fun _ => fun
  | [d1, d2] => { results := [.lit (.bool true)], args := [d1, d2] }
  | _ => none }
def graphReachesRow : OpenClaim := { program := "ytlfhflgafeblnaa", sum := "c779927e8092a1fe08b9bdd94614e78a3fcdeee0286a1ab13e4b3350abe40616", func := "stratagem/stratagemlaw04.GraphReaches", spec := "graphReaches", unfollowed := true, recurses := true, apart := false }
def GraphReachesSaid : Prop := graphReachesRow.holds Try.pinned (OpenSpec.ofChange graphReachesSpec)

/-- ITS FALSE NEIGHBOUR: 'it returns false'. Refute it at one input. -/
def graphReachesWrong : ChangeSpec := { name := "graphReaches", fn := fun _ => fun
  | [d1, d2] => { results := [.lit (.bool false)], args := [d1, d2] }
  | _ => none }
def GraphReachesWrongFalsely : Prop := graphReachesRow.holds Try.pinned (OpenSpec.ofChange graphReachesWrong)

/-- 'stratagemlaw04.GraphTight': WHATEVER THE INPUT: true; the input reads as it did. -/
def graphTightSpec : ChangeSpec := { name := "graphTight", fn := fun _ => fun
  | [d1, d2] => { results := [.lit (.bool true)], args := [d1, d2] }
  | _ => none }
def graphTightRow : OpenClaim := { program := "ytlfhflgafeblnaa", sum := "c779927e8092a1fe08b9bdd94614e78a3fcdeee0286a1ab13e4b3350abe40616", func := "stratagem/stratagemlaw04.GraphTight", spec := "graphTight", unfollowed := true, recurses := true, apart := false }
def GraphTightSaid : Prop := graphTightRow.holds Try.pinned (OpenSpec.ofChange graphTightSpec)

/-- ITS FALSE NEIGHBOUR: 'it returns false'. Refute it at one input. -/
def graphTightWrong : ChangeSpec := { name := "graphTight", fn := fun _ => fun
  | [d1, d2] => { results := [.lit (.bool false)], args := [d1, d2] }
  | _ => none }
def GraphTightWrongFalsely : Prop := graphTightRow.holds Try.pinned (OpenSpec.ofChange graphTightWrong)

/-- 'stratagemlaw04.GraphRows': WHATEVER THE INPUT: true; the input reads as it did. -/
def graphRowsSpec : ChangeSpec := { name := "graphRows", fn := fun _ => fun
  | [d] => { results := [.lit (.bool true)], args := [d] }
  | _ => none }
def graphRowsRow : OpenClaim := { program := "ytlfhflgafeblnaa", sum := "c779927e8092a1fe08b9bdd94614e78a3fcdeee0286a1ab13e4b3350abe40616", func := "stratagem/stratagemlaw04.GraphRows", spec := "graphRows", unfollowed := true, recurses := true, apart := false }
def GraphRowsSaid : Prop := graphRowsRow.holds Try.pinned (OpenSpec.ofChange graphRowsSpec)

/-- ITS FALSE NEIGHBOUR: 'it returns false'. Refute it at one input. -/
def graphRowsWrong : ChangeSpec := { name := "graphRows", fn := fun _ => fun
  | [d] => { results := [.lit (.bool false)], args := [d] }
  | _ => none }
def GraphRowsWrongFalsely : Prop := graphRowsRow.holds Try.pinned (OpenSpec.ofChange graphRowsWrong)

/-- 'stratagemlaw04.GraphOrders': WHATEVER THE INPUT: true; the input reads as it did. -/
def graphOrdersSpec : ChangeSpec := { name := "graphOrders", fn := fun _ => fun
  | [d] => { results := [.lit (.bool true)], args := [d] }
  | _ => none }
def graphOrdersRow : OpenClaim := { program := "ytlfhflgafeblnaa", sum := "c779927e8092a1fe08b9bdd94614e78a3fcdeee0286a1ab13e4b3350abe40616", func := "stratagem/stratagemlaw04.GraphOrders", spec := "graphOrders", unfollowed := true, recurses := true, apart := false }
def GraphOrdersSaid : Prop := graphOrdersRow.holds Try.pinned (OpenSpec.ofChange graphOrdersSpec)

/-- ITS FALSE NEIGHBOUR: 'it returns false'. Refute it at one input. -/
def graphOrdersWrong : ChangeSpec := { name := "graphOrders", fn := fun _ => fun
  | [d] => { results := [.lit (.bool false)], args := [d] }
  | _ => none }
def GraphOrdersWrongFalsely : Prop := graphOrdersRow.holds Try.pinned (OpenSpec.ofChange graphOrdersWrong)

/-- 'stratagemlaw04.GraphComponents': WHATEVER THE INPUT: true; the input reads as it did. -/
def graphComponentsSpec : ChangeSpec := { name := "graphComponents", fn := fun _ => fun
  | [d] => { results := [.lit (.bool true)], args := [d] }
  | _ => none }
def graphComponentsRow : OpenClaim := { program := "ytlfhflgafeblnaa", sum := "c779927e8092a1fe08b9bdd94614e78a3fcdeee0286a1ab13e4b3350abe40616", func := "stratagem/stratagemlaw04.GraphComponents", spec := "graphComponents", unfollowed := true, recurses := true, apart := false }
def GraphComponentsSaid : Prop := graphComponentsRow.holds Try.pinned (OpenSpec.ofChange graphComponentsSpec)

/-- ITS FALSE NEIGHBOUR: 'it returns false'. Refute it at one input. -/
def graphComponentsWrong : ChangeSpec := { name := "graphComponents", fn := fun _ => fun
  | [d] => { results := [.lit (.bool false)], args := [d] }
  | _ => none }
def GraphComponentsWrongFalsely : Prop := graphComponentsRow.holds Try.pinned (OpenSpec.ofChange graphComponentsWrong)

/-- 'stratagemlaw04.GraphMutual': WHATEVER THE INPUT: true; the input reads as it did. -/
def graphMutualSpec : ChangeSpec := { name := "graphMutual", fn := fun _ => fun
  | [d] => { results := [.lit (.bool true)], args := [d] }
  | _ => none }
def graphMutualRow : OpenClaim := { program := "ytlfhflgafeblnaa", sum := "c779927e8092a1fe08b9bdd94614e78a3fcdeee0286a1ab13e4b3350abe40616", func := "stratagem/stratagemlaw04.GraphMutual", spec := "graphMutual", unfollowed := true, recurses := true, apart := false }
def GraphMutualSaid : Prop := graphMutualRow.holds Try.pinned (OpenSpec.ofChange graphMutualSpec)

/-- ITS FALSE NEIGHBOUR: 'it returns false'. Refute it at one input. -/
def graphMutualWrong : ChangeSpec := { name := "graphMutual", fn := fun _ => fun
  | [d] => { results := [.lit (.bool false)], args := [d] }
  | _ => none }
def GraphMutualWrongFalsely : Prop := graphMutualRow.holds Try.pinned (OpenSpec.ofChange graphMutualWrong)

/- THE SECOND FORM. 'bulk': how many values and letters a reading holds, each counted each time it is reached (what is shared counts as often as it is met; a slice's spare places count too). A statement '..UptoSaid' is the law's where the arguments, and the package variables that the reading takes, are together of bulk at most 1048576: NARROWER than '..Said'. Prove '..Said' where nothing that the law and all that it calls make is longer than what came in: it says more and counts as full. Else prove '..UptoSaid'. A law counts once. -/
mutual
def uptoBulk {H : Type} : DataW H → Nat
  | .lit (.string bytes) => bytes.length + 1
  | .lit _ => 1
  | .nil => 1
  | .ptr d => uptoBulk d + 1
  | .slice elems spare => uptoBulkAll elems + uptoBulkAll spare + 1
  | .agg parts => uptoBulkAll parts + 1
  | .iface _ d => uptoBulk d + 1
  | .map entries => uptoBulkEntries entries + 1
  | .held _ => 1
def uptoBulkAll {H : Type} : List (DataW H) → Nat
  | [] => 0
  | d :: r => uptoBulk d + uptoBulkAll r
def uptoBulkEntries {H : Type} : List (Lit × DataW H) → Nat
  | [] => 0
  | x :: r => uptoBulkEntry x + uptoBulkEntries r
def uptoBulkEntry {H : Type} : Lit × DataW H → Nat
  | (.string bytes, d) => bytes.length + uptoBulk d + 1
  | (_, d) => uptoBulk d + 1
 end
def uptoSmall : (H : Type) → List (DataW H) → Bool := fun _ ds => decide (uptoBulkAll ds ≤ 1048576)
def OpenSpec.upto (s : _root_.Go.ChangeSpec) : _root_.Go.OpenSpec := { _root_.Go.OpenSpec.ofChange s with cond := some uptoSmall }

/-- 'stratagemlaw04.GraphShortest', WHERE WHAT IT READS IS OF BULK AT MOST 1048576: true; the input reads as it did. -/
def graphShortestUptoRow : OpenClaim := { program := "ytlfhflgafeblnaa", sum := "c779927e8092a1fe08b9bdd94614e78a3fcdeee0286a1ab13e4b3350abe40616", func := "stratagem/stratagemlaw04.GraphShortest", spec := "graphShortest", apart := false, narrowed := true }
def GraphShortestUptoSaid : Prop := graphShortestUptoRow.holds Try.pinned (OpenSpec.upto graphShortestSpec)

/-- 'stratagemlaw04.GraphReaches', WHERE WHAT IT READS IS OF BULK AT MOST 1048576: true; the input reads as it did. -/
def graphReachesUptoRow : OpenClaim := { program := "ytlfhflgafeblnaa", sum := "c779927e8092a1fe08b9bdd94614e78a3fcdeee0286a1ab13e4b3350abe40616", func := "stratagem/stratagemlaw04.GraphReaches", spec := "graphReaches", unfollowed := true, recurses := true, apart := false, narrowed := true }
def GraphReachesUptoSaid : Prop := graphReachesUptoRow.holds Try.pinned (OpenSpec.upto graphReachesSpec)

/-- 'stratagemlaw04.GraphTight', WHERE WHAT IT READS IS OF BULK AT MOST 1048576: true; the input reads as it did. -/
def graphTightUptoRow : OpenClaim := { program := "ytlfhflgafeblnaa", sum := "c779927e8092a1fe08b9bdd94614e78a3fcdeee0286a1ab13e4b3350abe40616", func := "stratagem/stratagemlaw04.GraphTight", spec := "graphTight", unfollowed := true, recurses := true, apart := false, narrowed := true }
def GraphTightUptoSaid : Prop := graphTightUptoRow.holds Try.pinned (OpenSpec.upto graphTightSpec)

/-- 'stratagemlaw04.GraphRows', WHERE WHAT IT READS IS OF BULK AT MOST 1048576: true; the input reads as it did. -/
def graphRowsUptoRow : OpenClaim := { program := "ytlfhflgafeblnaa", sum := "c779927e8092a1fe08b9bdd94614e78a3fcdeee0286a1ab13e4b3350abe40616", func := "stratagem/stratagemlaw04.GraphRows", spec := "graphRows", unfollowed := true, recurses := true, apart := false, narrowed := true }
def GraphRowsUptoSaid : Prop := graphRowsUptoRow.holds Try.pinned (OpenSpec.upto graphRowsSpec)

/-- 'stratagemlaw04.GraphOrders', WHERE WHAT IT READS IS OF BULK AT MOST 1048576: true; the input reads as it did. -/
def graphOrdersUptoRow : OpenClaim := { program := "ytlfhflgafeblnaa", sum := "c779927e8092a1fe08b9bdd94614e78a3fcdeee0286a1ab13e4b3350abe40616", func := "stratagem/stratagemlaw04.GraphOrders", spec := "graphOrders", unfollowed := true, recurses := true, apart := false, narrowed := true }
def GraphOrdersUptoSaid : Prop := graphOrdersUptoRow.holds Try.pinned (OpenSpec.upto graphOrdersSpec)

/-- 'stratagemlaw04.GraphComponents', WHERE WHAT IT READS IS OF BULK AT MOST 1048576: true; the input reads as it did. -/
def graphComponentsUptoRow : OpenClaim := { program := "ytlfhflgafeblnaa", sum := "c779927e8092a1fe08b9bdd94614e78a3fcdeee0286a1ab13e4b3350abe40616", func := "stratagem/stratagemlaw04.GraphComponents", spec := "graphComponents", unfollowed := true, recurses := true, apart := false, narrowed := true }
def GraphComponentsUptoSaid : Prop := graphComponentsUptoRow.holds Try.pinned (OpenSpec.upto graphComponentsSpec)

/-- 'stratagemlaw04.GraphMutual', WHERE WHAT IT READS IS OF BULK AT MOST 1048576: true; the input reads as it did. -/
def graphMutualUptoRow : OpenClaim := { program := "ytlfhflgafeblnaa", sum := "c779927e8092a1fe08b9bdd94614e78a3fcdeee0286a1ab13e4b3350abe40616", func := "stratagem/stratagemlaw04.GraphMutual", spec := "graphMutual", unfollowed := true, recurses := true, apart := false, narrowed := true }
def GraphMutualUptoSaid : Prop := graphMutualUptoRow.holds Try.pinned (OpenSpec.upto graphMutualSpec)

end Rows
end Go.Proofs.Ytlfhflgafeblnaa
