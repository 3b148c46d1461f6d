
/-
  The tables that the statements of layer 50 use.
-/
import Derived.Test.YtegndanecnicaaaGreatTIda3
set_option linter.unusedSimpArgs false
set_option linter.unusedVariables false
namespace Go.Proofs.YtegndanecnicaaaGreat
open Go.Sl
/-- The entry of a list that is gone round. -/
def kthL (xs : List Int) (i : Nat) : Int := if xs.length = 0 then 0 else xs.getD (i % xs.length) 0
theorem kthL_rng {xs : List Int} {B : Int} (hB : 0 ≤ B) (h : ∀ x ∈ xs, 0 ≤ x ∧ x ≤ B) (i : Nat) : 0 ≤ kthL xs i ∧ kthL xs i ≤ B := by
  unfold kthL
  split
  · exact ⟨Int.le_refl _, hB⟩
  · rename_i hl
    exact h _ (mem_getD 0 (Nat.mod_lt _ (by omega)))
def rowL (f : Nat → Int) (n : Nat) : List Int := (List.range n).map f
theorem rowL_len (f : Nat → Int) (n : Nat) : (rowL f n).length = n := by simp [rowL]
theorem rowL_at {f : Nat → Int} {n i : Nat} (h : i < n) {d : Int} : (rowL f n).getD i d = f i := by simp [rowL, List.getD, h]
theorem rowL_mem {f : Nat → Int} {n : Nat} {x : Int} (h : x ∈ rowL f n) : ∃ i, i < n ∧ x = f i := by
  obtain ⟨i, hi, rfl⟩ := List.mem_map.1 h
  exact ⟨i, List.mem_range.1 hi, rfl⟩
section
variable {t : TTask} {D less : List Int}
end
def anyTab (xs : List Int) (n : Nat) : List Int := rowL (fun i => kthL xs i) n
end Go.Proofs.YtegndanecnicaaaGreat
