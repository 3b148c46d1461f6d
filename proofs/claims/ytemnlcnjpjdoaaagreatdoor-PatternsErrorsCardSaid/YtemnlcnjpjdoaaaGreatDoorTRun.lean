
/-
  Saturated cost partitioning in plain Lean: tables and parts, one after the other.
-/
import Derived.Test.YtemnlcnjpjdoaaaGreatDoorWPdbBuild
set_option linter.unusedSimpArgs false
set_option linter.unusedVariables false
namespace Go.Proofs.YtemnlcnjpjdoaaaGreatDoor
open Go.Sl Go

def subL (a b : List Int) : List Int := (List.range a.length).map fun i => a.getD i tInt.dflt - b.getD i tInt.dflt
theorem subL_len (a b : List Int) : (subL a b).length = a.length := by simp [subL]
theorem subL_at {a b : List Int} {i : Nat} (h : i < a.length) : (subL a b).getD i tInt.dflt = a.getD i tInt.dflt - b.getD i tInt.dflt := by simp [subL, List.getD, h]
/-- What is left of the costs after k parts. -/
def leftK (c : List Int) (Ps : List (List Int)) (k : Nat) : List Int := (Ps.take k).foldl subL c
theorem leftK_zero (c : List Int) (Ps : List (List Int)) : leftK c Ps 0 = c := rfl
theorem leftK_succ {c : List Int} {Ps : List (List Int)} {k : Nat} (h : k < Ps.length) : leftK c Ps (k + 1) = subL (leftK c Ps k) (Ps.getD k []) := by
  unfold leftK; rw [take_snoc [] h, List.foldl_append]; rfl
theorem leftK_app {c : List Int} {Ps Qs : List (List Int)} {k : Nat} (h : k ≤ Ps.length) : leftK c (Ps ++ Qs) k = leftK c Ps k := by
  unfold leftK; rw [List.take_append_of_le_length h]
structure Run (t : TTask) (Ls : List (List Int)) (c : List Int) (Ds Ps : List (List Int)) : Prop where
  dl : Ds.length = Ls.length
  pl : Ps.length = Ls.length
  dist : ∀ k, k < Ls.length → DistOk (pEdges t (Ls.getD k [])) (leftK c Ps k) (GoalPK t (Ls.getD k [])) (cntL t.vars (Ls.getD k [])).toNat (Ds.getD k [])
  part : ∀ k, k < Ls.length → Ps.getD k [] = satL (pEdges t (Ls.getD k [])) (Ds.getD k []) t.ops.length
theorem getD_app_l {α : Type} {l m : List α} {i : Nat} {d : α} (h : i < l.length) : (l ++ m).getD i d = l.getD i d := by simp [List.getD_eq_getElem?_getD, List.getElem?_append_left h]
theorem getD_app_at {α : Type} {l : List α} {x : α} {i : Nat} {d : α} (h : i = l.length) : (l ++ [x]).getD i d = x := by subst h; simp [List.getD_eq_getElem?_getD]
theorem Run.nil (t : TTask) (c : List Int) : Run t [] c [] [] := ⟨rfl, rfl, fun k hk => absurd hk (Nat.not_lt_zero _), fun k hk => absurd hk (Nat.not_lt_zero _)⟩
theorem Run.snoc {t : TTask} {Ls : List (List Int)} {c : List Int} {Ds Ps : List (List Int)} {L D : List Int} (h : Run t Ls c Ds Ps) (hD : DistOk (pEdges t L) (leftK c Ps Ls.length) (GoalPK t L) (cntL t.vars L).toNat D) :
    Run t (Ls ++ [L]) c (Ds ++ [D]) (Ps ++ [satL (pEdges t L) D t.ops.length]) := by
  have hdl := h.dl
  have hpl := h.pl
  refine ⟨by simp [h.dl], by simp [h.pl], fun k hk => ?_, fun k hk => ?_⟩
  · simp only [List.length_append, List.length_cons, List.length_nil] at hk
    rw [leftK_app (by omega)]
    by_cases e : k < Ls.length
    · rw [getD_app_l e, getD_app_l (by omega)]; exact h.dist k e
    · have e2 : k = Ls.length := by omega
      rw [getD_app_at e2, getD_app_at (by omega), e2]; exact hD
  · simp only [List.length_append, List.length_cons, List.length_nil] at hk
    by_cases e : k < Ls.length
    · rw [getD_app_l e, getD_app_l (by omega), getD_app_l (by omega)]; exact h.part k e
    · have e2 : k = Ls.length := by omega
      rw [getD_app_at e2, getD_app_at (by omega), getD_app_at (by omega)]
/-- Costs that the operators may have. -/
structure CostOk (t : TTask) (c : List Int) : Prop where
  len : c.length = t.ops.length
  rng : ∀ x ∈ c, 0 ≤ x ∧ x ≤ 1048576
theorem CostOk.at {t : TTask} {c : List Int} (h : CostOk t c) {i : Nat} (hi : i < t.ops.length) : 0 ≤ c.getD i tInt.dflt ∧ c.getD i tInt.dflt ≤ 1048576 := h.rng _ (mem_getD tInt.dflt (by rw [h.len]; exact hi))
theorem CostOk.of {t : TTask} {c : List Int} (hl : c.length = t.ops.length) (h : ∀ i, i < t.ops.length → 0 ≤ c.getD i tInt.dflt ∧ c.getD i tInt.dflt ≤ 1048576) : CostOk t c :=
  ⟨hl, fun x hx => by obtain ⟨i, hi, rfl⟩ := List.getElem_of_mem hx; have := h i (by omega); rwa [getD_at hi] at this⟩
theorem CostOk.eok {t : TTask} {c L : List Int} (h : CostOk t c) : EOk (pEdges t L) c (cntL t.vars L).toNat := eok_U ⟨h.len, h.rng⟩
theorem costOk_T {t : TTask} (hg : GoodT t) : CostOk t (costsT t) := ⟨by simp [costsT], costs_ok hg⟩
/-- One step keeps the costs in order. -/
theorem CostOk.sub {t : TTask} {c L D : List Int} (h : CostOk t c) (hD : DistOk (pEdges t L) c (GoalPK t L) (cntL t.vars L).toNat D) : CostOk t (subL c (satL (pEdges t L) D t.ops.length)) ∧ ∀ i, i < t.ops.length → 0 ≤ (satL (pEdges t L) D t.ops.length).getD i tInt.dflt ∧ (satL (pEdges t L) D t.ops.length).getD i tInt.dflt ≤ c.getD i tInt.dflt := by
  have hE := h.eok (L := L)
  have hso : SatOk (pEdges t L) D c.length (satL (pEdges t L) D t.ops.length) := by rw [← h.len]; exact satL_ok hE.lab
  have hle := fun i (hi : i < t.ops.length) => hso.le hE hD (i := i) (by rw [h.len]; exact hi)
  refine ⟨.of (by rw [subL_len]; exact h.len) fun i hi => ?_, hle⟩
  rw [subL_at (by rw [h.len]; exact hi)]
  have h1 := hle i hi
  have h2 := h.at hi
  omega
theorem Run.cost {t : TTask} {Ls : List (List Int)} {c : List Int} {Ds Ps : List (List Int)} (h : Run t Ls c Ds Ps) (hc : CostOk t c) : ∀ k, k ≤ Ls.length → CostOk t (leftK c Ps k)
  | 0, _ => hc
  | k + 1, hk => by
    rw [leftK_succ (by rw [h.pl]; omega), h.part k (by omega)]
    exact ((h.cost hc k (by omega)).sub (h.dist k (by omega))).1
theorem Run.unique {t : TTask} {Ls : List (List Int)} {c : List Int} {Ds Ps Ds' Ps' : List (List Int)} (h : Run t Ls c Ds Ps) (h' : Run t Ls c Ds' Ps') : Ds = Ds' ∧ Ps = Ps' := by
  have key : ∀ k, k ≤ Ls.length → (∀ j, j < k → Ds.getD j [] = Ds'.getD j [] ∧ Ps.getD j [] = Ps'.getD j []) ∧ leftK c Ps k = leftK c Ps' k := by
    intro k
    induction k with
    | zero => intro _; exact ⟨fun j hj => absurd hj (Nat.not_lt_zero _), rfl⟩
    | succ k ih =>
      intro hk
      obtain ⟨i1, i2⟩ := ih (by omega)
      have d1 := h.dist k (by omega)
      have d2 := h'.dist k (by omega)
      rw [i2] at d1
      have e1 := d1.unique d2
      have e2 : Ps.getD k [] = Ps'.getD k [] := by rw [h.part k (by omega), h'.part k (by omega), e1]
      refine ⟨fun j hj => ?_, by rw [leftK_succ (by rw [h.pl]; omega), leftK_succ (by rw [h'.pl]; omega), i2, e2]⟩
      by_cases e : j = k
      · subst e; exact ⟨e1, e2⟩
      · exact i1 j (by omega)
  have hk := (key Ls.length (Nat.le_refl _)).1
  constructor
  · apply List.ext_getElem (by rw [h.dl, h'.dl])
    intro i h1 h2
    have := (hk i (by rw [← h.dl]; exact h1)).1
    rwa [getD_at h1, getD_at h2] at this
  · apply List.ext_getElem (by rw [h.pl, h'.pl])
    intro i h1 h2
    have := (hk i (by rw [← h.pl]; exact h1)).2
    rwa [getD_at h1, getD_at h2] at this
/-- The value of a state in table number k. -/
def valK (t : TTask) (Ls Ds : List (List Int)) (s : List Int) (k : Nat) : Int := dg (Ds.getD k []) (idxL t.vars (Ls.getD k []) s)
def sumV (f : Nat → Int) (k : Nat) : Int := ((List.range k).map f).sum
theorem sumV_zero (f : Nat → Int) : sumV f 0 = 0 := rfl
theorem sumV_succ (f : Nat → Int) (k : Nat) : sumV f (k + 1) = sumV f k + f k := by simp [sumV, List.range_succ]
theorem sumV_bd {f : Nat → Int} {B : Int} {n : Nat} (h : ∀ k, k < n → 0 ≤ f k ∧ f k ≤ B) : 0 ≤ sumV f n ∧ sumV f n ≤ n * B := by
  induction n with
  | zero => simp [sumV]
  | succ n ih =>
    have h1 := ih fun k hk => h k (by omega)
    have h2 := h n (by omega)
    rw [sumV_succ, Int.natCast_add, Int.add_mul]
    simp only [Int.natCast_one, Int.one_mul]
    omega
open Classical in
noncomputable def valPt (t : TTask) (Ls Ds : List (List Int)) (s : List Int) : Int :=
  if ¬ StateOk t.vars s then 1125899906842624 else if ∃ k, k < Ls.length ∧ valK t Ls Ds s k = 1125899906842624 then 1125899906842624 else sumV (valK t Ls Ds s) Ls.length
theorem valPt_inf {t : TTask} {Ls Ds : List (List Int)} {s : List Int} {k : Nat} (h : StateOk t.vars s) (hk : k < Ls.length) (hv : valK t Ls Ds s k = 1125899906842624) : valPt t Ls Ds s = 1125899906842624 := by
  unfold valPt; rw [if_neg (fun hn => hn h), if_pos ⟨k, hk, hv⟩]
theorem valPt_sum {t : TTask} {Ls Ds : List (List Int)} {s : List Int} (h : StateOk t.vars s) (hv : ∀ k, k < Ls.length → valK t Ls Ds s k ≠ 1125899906842624) : valPt t Ls Ds s = sumV (valK t Ls Ds s) Ls.length := by
  unfold valPt; rw [if_neg (fun hn => hn h), if_neg (fun ⟨k, hk, hh⟩ => hv k hk hh)]
end Go.Proofs.YtemnlcnjpjdoaaaGreatDoor
