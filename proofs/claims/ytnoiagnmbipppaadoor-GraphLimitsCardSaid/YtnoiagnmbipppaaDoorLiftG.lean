
/-
  How the arguments of the statements are read: arcs, graphs, lists of numbers.
-/
import Derived.Test.YtnoiagnmbipppaaDoorRows
import Derived.Test.YtnoiagnmbipppaaDoorMTA
import Derived.Test.YtnoiagnmbipppaaDoorMSlB
import Derived.Test.YtnoiagnmbipppaaDoorTypes
import Derived.ProofKit
import Derived.ChangeOld
import Derived.Carry
import Derived.OpenShut
set_option linter.unusedSimpArgs false
set_option linter.unusedVariables false
namespace Go.Proofs.YtnoiagnmbipppaaDoor
open Go.Sl Go.ChangeShapes Go.WideShapes Go.ChangeAt Go.RowKit

theorem own : ownKnob Tryd.prog.godebug = none := by kernel_rfl
theorem laidOut : laidOutB Tryd.prog = true := by kernel_rfl
theorem cells_int : Tryd.prog.cellsOf 3 = 1 := by kernel_rfl
theorem cells_arc : Tryd.prog.cellsOf 38 = 3 := by kernel_rfl
theorem cells_arcs : Tryd.prog.cellsOf 22 = 1 := by kernel_rfl
theorem cells_graph : Tryd.prog.cellsOf 24 = 2 := by kernel_rfl

theorem wf_u8 {n : Int} (h : (Lit.int .u8 n).wf = true) : 0 ≤ n ∧ n ≤ 255 := by
  simpa [Lit.wf, IntKind.min, IntKind.max, IntKind.signed, IntKind.bits] using h

section
variable {H : Type} {enc : TypeId × Value → H} {w : World} {base : Nat} {spare : Nat → Bool} {held : Bool}
theorem rd_arc : Rd enc Tryd.prog w base spare held 38 tArc fun _ => True := by
  intro fuel cs y h
  have hl := rd_len (i := 0) inferInstance cells_arc h
  match cs, hl with
  | [c0, c1, c2], _ =>
    obtain ⟨_, _, h0⟩ := rd_field (i := 0) inferInstance cells_int h
    obtain ⟨_, _, h1⟩ := rd_field (i := 1) inferInstance cells_int h
    obtain ⟨_, _, h2⟩ := rd_field (i := 2) inferInstance cells_int h
    obtain ⟨x0, e0, _⟩ := rd_int Tryd.underlying3 _ _ _ h0
    obtain ⟨x1, e1, _⟩ := rd_int Tryd.underlying3 _ _ _ h1
    obtain ⟨x2, e2, _⟩ := rd_int Tryd.underlying3 _ _ _ h2
    simp [tInt] at e0 e1 e2
    subst e0 e1 e2
    exact ⟨⟨x0, x1, x2⟩, rfl, trivial⟩
theorem rd_graph {v : Value} {r : Reach} {b0 : Nat} {d : DataW H} {p : List MemPlace} (hv : Value.okWide Tryd.prog w r b0 24 v) (h : DataW.Trod enc Tryd.prog w base spare held 24 v d p) :
    ∃ n a arcs, v = .agg #[.int .i64 n, a] ∧ RS tArc w a arcs ∧ -9223372036854775808 ≤ n ∧ n ≤ 9223372036854775807 := by
  obtain ⟨cs, rfl, _⟩ := okWide_struct Tryd.underlying24 hv
  obtain ⟨fuel, h⟩ := h
  obtain ⟨l⟩ := cs
  have hl := rd_len (i := 0) inferInstance cells_graph h
  simp only [Value.cells] at hl h
  match l, hl with
  | [c0, c1], _ =>
    obtain ⟨_, _, h0⟩ := rd_field (i := 0) inferInstance cells_int h
    obtain ⟨_, _, h1⟩ := rd_field (i := 1) inferInstance cells_arcs h
    obtain ⟨n, e0, hn⟩ := rd_int Tryd.underlying3 _ _ _ h0
    obtain ⟨a, e1, arcs, ha, _⟩ := rd_slice Tryd.underlying22 cells_arc (by decide) rd_arc _ _ _ h1
    simp [tInt, tVal] at e0 e1
    subst e0 e1
    exact ⟨n, c1, arcs, rfl, ha, hn⟩
theorem rd_ints {v : Value} {r : Reach} {b0 : Nat} {d : DataW H} {p : List MemPlace} (hv : Value.okWide Tryd.prog w r b0 35 v) (h : DataW.Trod enc Tryd.prog w base spare held 35 v d p) :
    ∃ xs, RS tInt w v xs := by
  obtain ⟨a, len, cap, rfl⟩ := WideShapes.okWide_slice Tryd.underlying35 hv
  obtain ⟨fuel, h⟩ := h
  obtain ⟨v', e1, xs, hx, _⟩ := rd_slice Tryd.underlying35 cells_int (by decide) (rd_int Tryd.underlying3) _ _ _ h
  simp [Value.cells, tVal] at e1
  subst e1
  exact ⟨xs, hx⟩
end
end Go.Proofs.YtnoiagnmbipppaaDoor
