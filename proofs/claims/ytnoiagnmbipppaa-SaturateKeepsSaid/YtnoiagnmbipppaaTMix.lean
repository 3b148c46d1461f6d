
/-
  A list that is written anew from the front.
-/
import Derived.Test.YtnoiagnmbipppaaTSat2
set_option linter.unusedSimpArgs false
set_option linter.unusedVariables false
namespace Go.Proofs.Ytnoiagnmbipppaa
open Go.Sl Go
theorem mul5 {f v B : Int} (h1 : 1 ≤ f) (h5 : f ≤ 5) (hv : 0 ≤ v) (hB : v ≤ B) : 0 ≤ f * v ∧ f * v ≤ 5 * B :=
  ⟨Int.mul_nonneg (by omega) hv, Int.le_trans (Int.mul_le_mul_of_nonneg_right h5 hv) (by omega)⟩
def mixK (n : Nat) (f g : Nat → Int) (j : Nat) : List Int := (List.range n).map fun i => if i < j then g i else f i
theorem mixK_len (n : Nat) (f g : Nat → Int) (j : Nat) : (mixK n f g j).length = n := by simp [mixK]
theorem mixK_next {n : Nat} {f g h : Nat → Int} : mixK n f g n = mixK n g h 0 := by
  apply List.ext_getElem (by simp [mixK])
  intro i h1 h2
  have hi : i < n := by simpa [mixK] using h1
  simp [mixK, hi]
theorem mixK_zeros {n : Nat} {f g : Nat → Int} (h : ∀ i, i < n → f i = 0) : mixK n f g 0 = List.replicate n 0 := by
  apply List.ext_getElem (by simp [mixK])
  intro i h1 h2
  have hi : i < n := by simpa [mixK] using h1
  simp [mixK, h i hi]
theorem mixK_set {n : Nat} {f g : Nat → Int} {j : Nat} : (mixK n f g j).set j (g j) = mixK n f g (j + 1) := by
  apply List.ext_getElem (by simp [mixK])
  intro i h1 h2
  rw [List.getElem_set]
  simp only [mixK, List.getElem_map, List.getElem_range]
  split
  · rename_i e; subst e; rw [if_pos (by omega)]
  · by_cases h : i < j
    · rw [if_pos h, if_pos (by omega)]
    · rw [if_neg h, if_neg (by omega)]
theorem mixK_at {n : Nat} {f g : Nat → Int} {j : Nat} (h : j < n) : (mixK n f g j).getD j tInt.dflt = f j := by simp [mixK, List.getD, h]
theorem mixK_get {n : Nat} {f g : Nat → Int} {i : Nat} (h : i < n) : (mixK n f g 0).getD i tInt.dflt = f i := by simp [mixK, List.getD, h]
end Go.Proofs.Ytnoiagnmbipppaa
