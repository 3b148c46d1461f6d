
/-
  The beginning of each statement of layer 50; 'fits' and 'below'.
-/
import Derived.Test.YtegndanecnicaaaGreatWI50
import Derived.Test.YtegndanecnicaaaGreatWIBase
import Derived.Test.YtegndanecnicaaaGreatMSlB
set_option linter.unusedSimpArgs false
set_option linter.unusedVariables false
namespace Go.Proofs.YtegndanecnicaaaGreat
open Go.Sl Go
attribute [local irreducible] vc opsW opsD opV opW PureV ReadV Thn Blk
def mixB (D less : List Int) (k : Nat) : List Int := rowL (fun i => if i < k then belowV (D.getD i tInt.dflt) (kthL less i) else D.getD i tInt.dflt) D.length
theorem mixB_len (D less : List Int) (k : Nat) : (mixB D less k).length = D.length := rowL_len _ _
theorem mixB_zero (D less : List Int) : mixB D less 0 = D := list_eq (d := tInt.dflt) (mixB_len _ _ _) fun i hi => by
  rw [mixB_len] at hi
  unfold mixB
  rw [rowL_at hi, if_neg (Nat.not_lt_zero _)]
theorem mixB_end (D less : List Int) : mixB D less D.length = belowL D less := list_eq (d := tInt.dflt) (by rw [mixB_len]; exact (rowL_len _ _).symm) fun i hi => by
  rw [mixB_len] at hi
  unfold mixB belowL
  rw [rowL_at hi, rowL_at hi, if_pos hi]
theorem mixB_at {D less : List Int} {k : Nat} (hk : k < D.length) : (mixB D less k).getD k tInt.dflt = D.getD k tInt.dflt := by
  unfold mixB
  rw [rowL_at hk, if_neg (Nat.lt_irrefl _)]
theorem mixB_set {D less : List Int} {k : Nat} (hk : k < D.length) : (mixB D less k).set k (belowV (D.getD k tInt.dflt) (kthL less k)) = mixB D less (k + 1) := list_eq (d := tInt.dflt) (by rw [List.length_set, mixB_len, mixB_len]) fun i hi => by
  rw [List.length_set, mixB_len] at hi
  have h1 : (mixB D less (k + 1)).getD i tInt.dflt = if i < k + 1 then belowV (D.getD i tInt.dflt) (kthL less i) else D.getD i tInt.dflt := by unfold mixB; rw [rowL_at hi]
  have h2 : (mixB D less k).getD i tInt.dflt = if i < k then belowV (D.getD i tInt.dflt) (kthL less i) else D.getD i tInt.dflt := by unfold mixB; rw [rowL_at hi]
  rw [h1]
  by_cases e : i = k
  · subst e
    rw [if_pos (Nat.lt_succ_self _)]
    simp [List.getD, mixB_len, hi]
  · rw [show ((mixB D less k).set k (belowV (D.getD k tInt.dflt) (kthL less k))).getD i tInt.dflt = (mixB D less k).getD i tInt.dflt by simp only [List.getD]; rw [List.getElem?_set_ne (fun h => e h.symm)], h2]
    by_cases h3 : i < k
    · rw [if_pos h3, if_pos (by omega)]
    · rw [if_neg h3, if_neg (by omega)]
theorem mixB_same {D less : List Int} {k : Nat} (hk : k < D.length) (h : belowV (D.getD k tInt.dflt) (kthL less k) = D.getD k tInt.dflt) : mixB D less k = mixB D less (k + 1) := by
  rw [← mixB_set hk, h]
  refine list_eq (d := tInt.dflt) (by rw [List.length_set]) fun i hi => ?_
  by_cases e : i = k
  · subst e
    rw [mixB_at hk]
    simp [List.getD, mixB_len, hk]
  · simp only [List.getD]
    rw [List.getElem?_set_ne (fun h => e h.symm)]
end Go.Proofs.YtegndanecnicaaaGreat
