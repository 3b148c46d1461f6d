
/-
  The tables that the statements of layer 50 use.
-/
import Derived.Test.YtoddgmmkpiojlaaTIda3
set_option linter.unusedSimpArgs false
set_option linter.unusedVariables false
namespace Go.Proofs.Ytoddgmmkpiojlaa
open Go.Sl
/-- The entry of a list that is gone round. -/
def kthL (xs : List Int) (i : Nat) : Int := if xs.length = 0 then 0 else xs.getD (i % xs.length) 0
theorem kthL_rng {xs : List Int} {B : Int} (hB : 0 ≤ B) (h : ∀ x ∈ xs, 0 ≤ x ∧ x ≤ B) (i : Nat) : 0 ≤ kthL xs i ∧ kthL xs i ≤ B := by
  unfold kthL
  split
  · exact ⟨Int.le_refl _, hB⟩
  · rename_i hl
    exact h _ (mem_getD 0 (Nat.mod_lt _ (by omega)))
def rowL (f : Nat → Int) (n : Nat) : List Int := (List.range n).map f
theorem rowL_len (f : Nat → Int) (n : Nat) : (rowL f n).length = n := by simp [rowL]
theorem rowL_at {f : Nat → Int} {n i : Nat} (h : i < n) {d : Int} : (rowL f n).getD i d = f i := by simp [rowL, List.getD, h]
theorem rowL_mem {f : Nat → Int} {n : Nat} {x : Int} (h : x ∈ rowL f n) : ∃ i, i < n ∧ x = f i := by
  obtain ⟨i, hi, rfl⟩ := List.mem_map.1 h
  exact ⟨i, List.mem_range.1 hi, rfl⟩
section
variable {t : TTask} {D less : List Int}
end
/-- Values of at least 1000 stand for Infinity. -/
def capV (x : Int) : Int := if 1000 ≤ x then inf else x
def capTab (xs : List Int) (n : Nat) : List Int := rowL (fun i => capV (kthL xs i)) n
theorem capTab_ok {xs : List Int} (h : ∀ x ∈ xs, 0 ≤ x ∧ x ≤ 65535) (n : Nat) : (capTab xs n).length = n ∧ (∀ x ∈ capTab xs n, 0 ≤ x ∧ x ≤ inf) ∧ ∀ x ∈ capTab xs n, x < inf → x ≤ 1000 := by
  have e2 : inf = 1125899906842624 := rfl
  have hv : ∀ i, 0 ≤ capV (kthL xs i) ∧ capV (kthL xs i) ≤ inf ∧ (capV (kthL xs i) < inf → capV (kthL xs i) ≤ 1000) := fun i => by
    have := kthL_rng (B := 65535) (by decide) h i
    unfold capV
    split <;> omega
  refine ⟨rowL_len _ _, fun x hx => ?_, fun x hx => ?_⟩
  · obtain ⟨i, _, rfl⟩ := rowL_mem hx
    exact ⟨(hv i).1, (hv i).2.1⟩
  · obtain ⟨i, _, rfl⟩ := rowL_mem hx
    exact (hv i).2.2
/-- What a table says of the states. -/
theorem tabH_small {t : TTask} {T : List Int} {M : Int} (hg : GoodT t) (hl : T.length = (statesL t.vars).length) (hM0 : 0 ≤ M) (hT : ∀ x ∈ T, x < inf → x ≤ M) : ∀ y, tabH t T y < inf → tabH t T y ≤ M := fun y h => by
  by_cases hs : StateOk t.vars y
  · rw [tabH_ok hs] at h ⊢
    exact hT _ (mem_getD tInt.dflt (by have := (statesL_of hg.pos hs).1; omega)) h
  · rw [tabH_no hs]; exact hM0
end Go.Proofs.Ytoddgmmkpiojlaa
