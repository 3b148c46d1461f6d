
/-
  How lists of uint8 are read.
-/
import Derived.Test.YtgbijampdkahjaaLiftT
set_option linter.unusedSimpArgs false
set_option linter.unusedVariables false
namespace Go.Proofs.Ytgbijampdkahjaa
open Go.Sl Go.ChangeShapes Go.WideShapes Go.ChangeAt Go.RowKit
theorem cells_u8 : Try.prog.cellsOf 5 = 1 := by kernel_rfl
set_option maxRecDepth 100000 in
theorem rd_u8s {H : Type} {enc : TypeId × Value → H} {w : World} {base : Nat} {spare : Nat → Bool} {held : Bool} {v : Value} {r : Reach} {b0 : Nat} {d : DataW H} {p : List MemPlace} (hv : Value.okWide Try.prog w r b0 50 v) (h : DataW.Trod enc Try.prog w base spare held 50 v d p) :
    ∃ xs, RS tU8 w v xs ∧ ∀ x ∈ xs, 0 ≤ x ∧ x ≤ 255 := by
  obtain ⟨a, len, cap, rfl⟩ := WideShapes.okWide_slice Try.underlying50 hv
  obtain ⟨fuel, h⟩ := h
  obtain ⟨v', e1, xs, hx, hr⟩ := rd_slice Try.underlying50 cells_u8 (by decide) (rd_u8 Try.underlying5) _ _ _ h
  simp [Value.cells, tVal] at e1
  subst e1
  exact ⟨xs, hx, hr⟩
end Go.Proofs.Ytgbijampdkahjaa
