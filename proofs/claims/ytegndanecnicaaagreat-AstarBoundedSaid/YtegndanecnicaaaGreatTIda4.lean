
/-
  The tables that the statements of layer 50 use.
-/
import Derived.Test.YtegndanecnicaaaGreatTIda3
set_option linter.unusedSimpArgs false
set_option linter.unusedVariables false
namespace Go.Proofs.YtegndanecnicaaaGreat
open Go.Sl
/-- The entry of a list that is gone round. -/
def kthL (xs : List Int) (i : Nat) : Int := if xs.length = 0 then 0 else xs.getD (i % xs.length) 0
theorem kthL_rng {xs : List Int} {B : Int} (hB : 0 ≤ B) (h : ∀ x ∈ xs, 0 ≤ x ∧ x ≤ B) (i : Nat) : 0 ≤ kthL xs i ∧ kthL xs i ≤ B := by
  unfold kthL
  split
  · exact ⟨Int.le_refl _, hB⟩
  · rename_i hl
    exact h _ (mem_getD 0 (Nat.mod_lt _ (by omega)))
def rowL (f : Nat → Int) (n : Nat) : List Int := (List.range n).map f
theorem rowL_len (f : Nat → Int) (n : Nat) : (rowL f n).length = n := by simp [rowL]
theorem rowL_at {f : Nat → Int} {n i : Nat} (h : i < n) {d : Int} : (rowL f n).getD i d = f i := by simp [rowL, List.getD, h]
theorem rowL_mem {f : Nat → Int} {n : Nat} {x : Int} (h : x ∈ rowL f n) : ∃ i, i < n ∧ x = f i := by
  obtain ⟨i, hi, rfl⟩ := List.mem_map.1 h
  exact ⟨i, List.mem_range.1 hi, rfl⟩
def belowV (d k : Int) : Int := if d < inf then max 0 (d - k) else if 0 < k.tmod 3 then k else d
def belowL (D less : List Int) : List Int := rowL (fun i => belowV (D.getD i tInt.dflt) (kthL less i)) D.length
section
variable {t : TTask} {D less : List Int}
theorem below_ok (hg : GoodT t) (hl : (statesL t.vars).length ≤ 512) (hD : DistOk (edgesT t) (costsT t) (GoalS t) (statesL t.vars).length D) (hk : ∀ x ∈ less, 0 ≤ x ∧ x ≤ 255) :
    (belowL D less).length = (statesL t.vars).length ∧ (∀ x ∈ belowL D less, 0 ≤ x ∧ x ≤ inf) ∧ (∀ x ∈ belowL D less, x < inf → x ≤ 536870912) ∧ (∀ i, i < (statesL t.vars).length → D.getD i tInt.dflt < inf → (belowL D less).getD i tInt.dflt ≤ D.getD i tInt.dflt) := by
  have hE : EOk (edgesT t) (costsT t) (statesL t.vars).length := eok_T hg ⟨costs_len t, fun x hx => by have := costs_rng hg x hx; omega⟩
  have e2 : inf = 1125899906842624 := rfl
  have hd : ∀ i, i < (statesL t.vars).length → (0 ≤ D.getD i tInt.dflt ∧ D.getD i tInt.dflt ≤ inf) ∧ (D.getD i tInt.dflt < inf → D.getD i tInt.dflt ≤ 536870912) := fun i hi => by
    have h1 := hD.rng i hi
    have e : dg D (i : Int) = D.getD i tInt.dflt := by unfold dg; rw [Int.toNat_natCast]
    rw [e] at h1
    refine ⟨h1, fun h => ?_⟩
    have h2 := hD.bound hE (C := 1048576) (by decide) (fun x hx => (costs_rng hg x hx).2) hi (by rw [e]; exact h)
    rw [e] at h2
    have : ((statesL t.vars).length : Int) * 1048576 ≤ 512 * 1048576 := by omega
    omega
  have hlen := hD.len
  have hkk := fun i => kthL_rng (B := 255) (by decide) hk i
  have hv : ∀ i, i < (statesL t.vars).length → (0 ≤ belowV (D.getD i tInt.dflt) (kthL less i) ∧ belowV (D.getD i tInt.dflt) (kthL less i) ≤ inf) ∧ (belowV (D.getD i tInt.dflt) (kthL less i) < inf → belowV (D.getD i tInt.dflt) (kthL less i) ≤ 536870912) ∧ (D.getD i tInt.dflt < inf → belowV (D.getD i tInt.dflt) (kthL less i) ≤ D.getD i tInt.dflt) := fun i hi => by
    obtain ⟨h1, h2⟩ := hd i hi
    have h3 := hkk i
    unfold belowV
    by_cases h : D.getD i tInt.dflt < inf
    · rw [if_pos h]
      have := h2 h
      omega
    · rw [if_neg h]
      split <;> omega
  refine ⟨by rw [belowL, rowL_len, hlen], fun x hx => ?_, fun x hx => ?_, fun i hi h => ?_⟩
  · obtain ⟨i, hi, rfl⟩ := rowL_mem hx
    exact (hv i (by omega)).1
  · obtain ⟨i, hi, rfl⟩ := rowL_mem hx
    exact (hv i (by omega)).2.1
  · rw [belowL, rowL_at (by omega)]
    exact (hv i hi).2.2 h
end
end Go.Proofs.YtegndanecnicaaaGreat
