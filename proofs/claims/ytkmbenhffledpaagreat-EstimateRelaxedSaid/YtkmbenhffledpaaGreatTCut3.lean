
/-
  LM-cut, in plain Lean: each state has its cuts; the value as a function, admissible.
-/
import Derived.Test.YtkmbenhffledpaaGreatTCut2
set_option linter.unusedSimpArgs false
set_option linter.unusedVariables false
namespace Go.Proofs.YtkmbenhffledpaaGreat
open Go.Sl
theorem sum_range (f g : Nat → Nat) : ∀ {l : List Nat}, (∀ i ∈ l, f i ≤ g i) → (l.map f).sum ≤ (l.map g).sum
  | [], _ => Nat.le_refl _
  | x :: l, h => by
    have h1 := h x List.mem_cons_self
    have h2 := sum_range f g (l := l) fun i hi => h i (List.mem_cons_of_mem _ hi)
    simp only [List.map_cons, List.sum_cons]; omega
theorem sum_range_lt (f g : Nat → Nat) (c : Nat) : ∀ {l : List Nat}, (∀ i ∈ l, f i ≤ g i) → (∃ i ∈ l, f i + c ≤ g i) → (l.map f).sum + c ≤ (l.map g).sum
  | [], _, h => by obtain ⟨i, hi, _⟩ := h; exact absurd hi List.not_mem_nil
  | x :: l, h, h2 => by
    have h1 := h x List.mem_cons_self
    obtain ⟨i, hi, h3⟩ := h2
    simp only [List.map_cons, List.sum_cons]
    rcases List.mem_cons.1 hi with e | hi
    · subst e
      have := sum_range f g (l := l) fun i hi => h i (List.mem_cons_of_mem _ hi)
      omega
    · have := sum_range_lt f g c (l := l) (fun i hi => h i (List.mem_cons_of_mem _ hi)) ⟨i, hi, h3⟩
      omega
theorem sumD_range (cs : List Int) : sumD cs = ((List.range cs.length).map fun i => (cs.getD i tInt.dflt).toNat).sum := by
  unfold sumD
  congr 1
  refine List.ext_getElem (by simp) fun i h1 h2 => ?_
  have hi : i < cs.length := by simpa using h1
  rw [List.getElem_map, List.getElem_map, List.getElem_range, getD_at hi]
/-- A cut takes its cost from the sum of the costs. -/
theorem subC_sum {cs : List Int} {K : List Nat} {c : Int} (h0 : ∀ x ∈ cs, 0 ≤ x) (hc : 0 ≤ c) (hm : MinC cs K c) : sumD (subC cs K c) + c.toNat ≤ sumD cs := by
  obtain ⟨⟨i, h1, h2, h3⟩, h4⟩ := hm
  rw [sumD_range, sumD_range, subC_len]
  refine sum_range_lt _ _ _ (fun j hj => ?_) ⟨i, List.mem_range.2 h2, ?_⟩
  · rw [subC_at (List.mem_range.1 hj)]
    split <;> omega
  · rw [subC_at h2, if_pos h1]
    omega
theorem sumD_le {cs : List Int} {B : Nat} (h : ∀ x ∈ cs, x ≤ (B : Int)) : sumD cs ≤ cs.length * B := by
  induction cs with
  | nil => exact Nat.zero_le _
  | cons x l ih =>
    have h1 := h x List.mem_cons_self
    have h2 := ih fun y hy => h y (List.mem_cons_of_mem _ hy)
    unfold sumD at h2 ⊢
    simp only [List.map_cons, List.sum_cons, List.length_cons, Nat.succ_mul]; omega
section
variable {t : TTask} {s : List Int}
theorem lmc_sum {cs : List Int} {r : Option (List (List Nat × Int))} (hg : GoodT t) (h : LMC t s cs r) : CostsOk t cs → ∀ l, r = some l → 0 ≤ sumK l ∧ sumK l ≤ (sumD cs : Int) := by
  induction h with
  | dead _ _ => intro _ l e; cases e
  | done _ _ => intro _ l e; cases e; exact ⟨Int.le_refl _, Int.natCast_nonneg _⟩
  | @step cs V g0 K c r _ _ _ _ _ _ h7 _ ih =>
    intro hc l e
    have hsub := subC_ok hc h7
    have hm := h7
    obtain ⟨⟨i, i1, i2, i3⟩, i4⟩ := h7
    have hc0 : 0 ≤ c := by have := hc.2 _ (mem_getD tInt.dflt i2); omega
    cases r with
    | none => cases e
    | some l' =>
      have e2 : l = (K, c) :: l' := (Option.some.inj e).symm
      subst e2
      have h1 := ih hsub l' rfl
      have h2 := subC_sum (fun x hx => (hc.2 x hx).1) hc0 hm
      show 0 ≤ c + sumK l' ∧ c + sumK l' ≤ _
      omega
/-- The parts of a step. -/
structure CutAt (t : TTask) (s cs V : List Int) (K : List Nat) (c : Int) : Prop where
  asc : K.Pairwise (· < ·)
  min : MinC cs K c
  pos : 1 ≤ c
  le : c ≤ 1048576
  ne : K ≠ []
  lt : ∀ i ∈ K, i < t.ops.length
theorem cutAt_of {cs V : List Int} {g0 : Int} {K : List Nat} {c : Int} (hg : GoodT t) (hc : CostsOk t cs) (x : CutX (withC t cs) s V g0) (hK : ∀ i, i ∈ K ↔ i < t.ops.length ∧ InCut (withC t cs) s V g0 i) (ha : K.Pairwise (· < ·)) (hm : MinC cs K c) : CutAt t s cs V K c := by
  have hm0 := hm
  obtain ⟨⟨i, i1, i2, i3⟩, i4⟩ := hm
  obtain ⟨k1, k2⟩ := (hK i).1 i1
  have h1 := cut_pos hg hc x k1 k2
  have h2 := hc.2 _ (mem_getD tInt.dflt i2)
  exact ⟨ha, hm0, by omega, by omega, fun e => by rw [e] at i1; exact absurd i1 List.not_mem_nil, fun j hj => ((hK j).1 hj).1⟩
end
theorem lm_costs_ok {t : TTask} (hg : GoodT t) : CostsOk t (costsT t) := ⟨costs_len t, costs_rng hg⟩
open Classical in
/-- The value of LM-cut (of improper states nothing is asked). -/
noncomputable def lmH (t : TTask) (s : List Int) : Int := if h : StateOk t.vars s ∧ ∃ r, LMC t s (costsT t) r then lvalK (Classical.choose h.2) else 0
theorem lm_eq {t : TTask} {s : List Int} {r : Option (List (List Nat × Int))} (hs : StateOk t.vars s) (h : LMC t s (costsT t) r) : lmH t s = lvalK r := by
  have hx : StateOk t.vars s ∧ ∃ r, LMC t s (costsT t) r := ⟨hs, r, h⟩
  unfold lmH
  rw [dif_pos hx, lmc_uniq (Classical.choose_spec hx.2) h]
theorem lm_small {t : TTask} (hg : GoodT t) {s : List Int} {l : List (List Nat × Int)} (h : LMC t s (costsT t) (some l)) : 0 ≤ sumK l ∧ sumK l ≤ 4294967296 := by
  obtain ⟨h1, h2⟩ := lmc_sum hg h (lm_costs_ok hg) l rfl
  have h3 := sumD_le (cs := costsT t) (B := 1048576) fun x hx => (costs_rng hg x hx).2
  have h4 : (costsT t).length * 1048576 ≤ 4096 * 1048576 := Nat.mul_le_mul_right _ (by rw [costs_len]; exact hg.ops)
  omega
end Go.Proofs.YtkmbenhffledpaaGreat
