
/-
  How lists of uint16 are read.
-/
import Derived.Test.YtnoiagnmbipppaaLiftT
set_option linter.unusedSimpArgs false
set_option linter.unusedVariables false
namespace Go.Proofs.Ytnoiagnmbipppaa
open Go.Sl Go.ChangeShapes Go.WideShapes Go.ChangeAt Go.RowKit
theorem cells_u16 : Try.prog.cellsOf 27 = 1 := by kernel_rfl
set_option maxRecDepth 100000 in
theorem rd_u16s {H : Type} {enc : TypeId × Value → H} {w : World} {base : Nat} {spare : Nat → Bool} {held : Bool} {v : Value} {r : Reach} {b0 : Nat} {d : DataW H} {p : List MemPlace} (hv : Value.okWide Try.prog w r b0 54 v) (h : DataW.Trod enc Try.prog w base spare held 54 v d p) :
    ∃ xs, RS tU16 w v xs ∧ ∀ x ∈ xs, 0 ≤ x ∧ x ≤ 65535 := by
  obtain ⟨a, len, cap, rfl⟩ := WideShapes.okWide_slice Try.underlying54 hv
  obtain ⟨fuel, h⟩ := h
  obtain ⟨v', e1, xs, hx, hr⟩ := rd_slice Try.underlying54 cells_u16 (by decide) (rd_u16 Try.underlying27) _ _ _ h
  simp [Value.cells, tVal] at e1
  subst e1
  exact ⟨xs, hx, hr⟩
end Go.Proofs.Ytnoiagnmbipppaa
