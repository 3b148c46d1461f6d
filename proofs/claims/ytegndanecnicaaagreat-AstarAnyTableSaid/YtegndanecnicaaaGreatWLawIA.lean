
/-
  The statement 'IdastarAnyTable' returns true.
-/
import Derived.Test.YtegndanecnicaaaGreatWSolve
set_option linter.unusedSimpArgs false
set_option linter.unusedVariables false
namespace Go.Proofs.YtegndanecnicaaaGreat
open Go.Sl Go
attribute [local irreducible] vc opsW opsD opV opW PureV ReadV Thn Blk
/-- The first k values are written. -/
def mixA (f : Nat → Int) (n k : Nat) : List Int := rowL (fun i => if i < k then f i else 0) n
theorem mixA_len (f : Nat → Int) (n k : Nat) : (mixA f n k).length = n := rowL_len _ _
theorem mixA_zero (f : Nat → Int) (n : Nat) : mixA f n 0 = List.replicate n 0 := list_eq (d := tInt.dflt) (by rw [mixA_len, List.length_replicate]) fun i hi => by
  rw [mixA_len] at hi
  unfold mixA
  rw [rowL_at hi, if_neg (Nat.not_lt_zero _), getD_at (by rw [List.length_replicate]; exact hi)]
  simp
theorem mixA_end (f : Nat → Int) (n : Nat) : mixA f n n = rowL f n := list_eq (d := tInt.dflt) (by rw [mixA_len, rowL_len]) fun i hi => by
  rw [mixA_len] at hi
  unfold mixA
  rw [rowL_at hi, rowL_at hi, if_pos hi]
theorem mixA_set {f : Nat → Int} {n k : Nat} (hk : k < n) : (mixA f n k).set k (f k) = mixA f n (k + 1) := list_eq (d := tInt.dflt) (by rw [List.length_set, mixA_len, mixA_len]) fun i hi => by
  rw [List.length_set, mixA_len] at hi
  have h1 : (mixA f n (k + 1)).getD i tInt.dflt = if i < k + 1 then f i else 0 := by unfold mixA; rw [rowL_at hi]
  have h2 : (mixA f n k).getD i tInt.dflt = if i < k then f i else 0 := by unfold mixA; rw [rowL_at hi]
  rw [h1]
  by_cases e : i = k
  · subst e
    rw [if_pos (Nat.lt_succ_self _)]
    simp [List.getD, mixA_len, hi]
  · rw [show ((mixA f n k).set k (f k)).getD i tInt.dflt = (mixA f n k).getD i tInt.dflt by simp only [List.getD]; rw [List.getElem?_set_ne (fun h => e h.symm)], h2]
    by_cases h3 : i < k
    · rw [if_pos h3, if_pos (by omega)]
    · rw [if_neg h3, if_neg (by omega)]
theorem mixA_same {f : Nat → Int} {n k : Nat} (hk : k < n) (h : f k = 0) : mixA f n k = mixA f n (k + 1) := by
  rw [← mixA_set hk, h]
  refine list_eq (d := tInt.dflt) (by rw [List.length_set]) fun i hi => ?_
  by_cases e : i = k
  · subst e
    have : (mixA f n i).getD i tInt.dflt = 0 := by unfold mixA; rw [rowL_at hk, if_neg (Nat.lt_irrefl _)]
    rw [this]
    simp [List.getD, mixA_len, hk]
  · simp only [List.getD]
    rw [List.getElem?_set_ne (fun h => e h.symm)]
end Go.Proofs.YtegndanecnicaaaGreat
