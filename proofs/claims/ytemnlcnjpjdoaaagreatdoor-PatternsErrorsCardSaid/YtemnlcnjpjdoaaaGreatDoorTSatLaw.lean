
/-
  Saturated cost partitioning is admissible and consistent.
-/
import Derived.Test.YtemnlcnjpjdoaaaGreatDoorTRun
import Derived.Test.YtemnlcnjpjdoaaaGreatDoorTPdb
set_option linter.unusedSimpArgs false
set_option linter.unusedVariables false
namespace Go.Proofs.YtemnlcnjpjdoaaaGreatDoor
open Go.Sl Go

structure SatC (t : TTask) (Ls Ds Ps : List (List Int)) : Prop where
  run : Run t Ls (costsT t) Ds Ps
  good : GoodT t
  inv : ∀ k, k < Ls.length → InV t.vars (Ls.getD k [])
  small : ∀ k, k < Ls.length → cntL t.vars (Ls.getD k []) ≤ 64
  len : Ls.length ≤ 32
theorem sumV_le {f g : Nat → Int} {n : Nat} (h : ∀ k, k < n → f k ≤ g k) : sumV f n ≤ sumV g n := by
  induction n with
  | zero => exact Int.le_refl _
  | succ n ih =>
    have h1 := ih fun k hk => h k (by omega)
    have h2 := h n (by omega)
    rw [sumV_succ, sumV_succ]; omega
theorem sumV_add (f g : Nat → Int) (n : Nat) : sumV (fun k => f k + g k) n = sumV f n + sumV g n := by
  induction n with
  | zero => rfl
  | succ n ih => rw [sumV_succ, sumV_succ, sumV_succ, ih]; omega
theorem sumV_zeros {f : Nat → Int} {n : Nat} (h : ∀ k, k < n → f k = 0) : sumV f n = 0 := by
  induction n with
  | zero => rfl
  | succ n ih => rw [sumV_succ, ih fun k hk => h k (by omega), h n (by omega)]; rfl
section
variable {t : TTask} {Ls Ds Ps : List (List Int)}
theorem SatC.eok (h : SatC t Ls Ds Ps) {k : Nat} (hk : k < Ls.length) : EOk (pEdges t (Ls.getD k [])) (leftK (costsT t) Ps k) (cntL t.vars (Ls.getD k [])).toNat := (h.run.cost (costOk_T h.good) k (by omega)).eok
theorem SatC.big (h : SatC t Ls Ds Ps) {k : Nat} (hk : k < Ls.length) : ((cntL t.vars (Ls.getD k [])).toNat : Int) * 1048576 ≤ 67108864 := by
  have := h.small k hk
  omega
theorem SatC.rng (h : SatC t Ls Ds Ps) {s : List Int} (hs : StateOk t.vars s) {k : Nat} (hk : k < Ls.length) : 0 ≤ valK t Ls Ds s k ∧ valK t Ls Ds s k ≤ inf := dist_at (h.inv k hk) (h.run.dist k hk) hs
theorem SatC.bound (h : SatC t Ls Ds Ps) {s : List Int} (hs : StateOk t.vars s) {k : Nat} (hk : k < Ls.length) (hf : valK t Ls Ds s k < inf) : valK t Ls Ds s k ≤ 67108864 := by
  have hb := idxL_bound hs (h.inv k hk).mem
  have hd := h.run.dist k hk
  have := hd.bound (h.eok hk) (C := 1048576) (by decide) (fun x hx => ((h.run.cost (costOk_T h.good) k (by omega)).rng x hx).2) (i := (idxL t.vars (Ls.getD k []) s).toNat) (by omega) (by rw [Int.toNat_of_nonneg hb.1]; exact hf)
  rw [Int.toNat_of_nonneg hb.1] at this
  exact Int.le_trans this (h.big hk)
theorem SatC.fin (h : SatC t Ls Ds Ps) {s : List Int} (hs : StateOk t.vars s) : (valPt t Ls Ds s < inf ↔ ∀ k, k < Ls.length → valK t Ls Ds s k < inf) ∧ (valPt t Ls Ds s < inf → valPt t Ls Ds s = sumV (valK t Ls Ds s) Ls.length) ∧ 0 ≤ valPt t Ls Ds s ∧ valPt t Ls Ds s ≤ inf := by
  have hl := h.len
  by_cases hf : ∀ k, k < Ls.length → valK t Ls Ds s k < inf
  · have hv := valPt_sum hs fun k hk => (by have := hf k hk; have e : inf = 1125899906842624 := rfl; omega : valK t Ls Ds s k ≠ 1125899906842624)
    have hb := sumV_bd (n := Ls.length) (f := valK t Ls Ds s) (B := 67108864) fun k hk => ⟨(h.rng hs hk).1, h.bound hs hk (hf k hk)⟩
    have e : inf = 1125899906842624 := rfl
    have hlt : valPt t Ls Ds s < inf := by rw [hv]; omega
    exact ⟨⟨fun _ => hf, fun _ => hlt⟩, fun _ => hv, by rw [hv]; exact hb.1, by omega⟩
  · obtain ⟨k, hk⟩ := Classical.not_forall.1 hf
    obtain ⟨hk, hn⟩ := Classical.not_imp.1 hk
    have hr := (h.rng hs hk).2
    have hv := valPt_inf hs hk (show valK t Ls Ds s k = 1125899906842624 by have e : inf = 1125899906842624 := rfl; omega)
    have e : inf = 1125899906842624 := rfl
    refine ⟨⟨fun hlt => by omega, fun hh => absurd hh hf⟩, fun hlt => by omega, by omega, by omega⟩
/-- What the parts take of an operator. -/
theorem SatC.budget (h : SatC t Ls Ds Ps) {op : Nat} (ho : op < t.ops.length) : ∀ k, k ≤ Ls.length → sumV (fun j => (Ps.getD j []).getD op tInt.dflt) k + (leftK (costsT t) Ps k).getD op tInt.dflt = (costsT t).getD op tInt.dflt
  | 0, _ => by rw [sumV_zero, leftK_zero]; omega
  | k + 1, hk => by
    have ih := h.budget ho k (by omega)
    have hll := (h.run.cost (costOk_T h.good) k (by omega)).len
    rw [sumV_succ, leftK_succ (by rw [h.run.pl]; omega), subL_at (by omega)]
    omega
theorem SatC.step1 (h : SatC t Ls Ds Ps) {s : List Int} {op : Nat} (hs : StateOk t.vars s) (ho : op < t.ops.length) (ha : AppT t s op) {k : Nat} (hk : k < Ls.length) (hf : valK t Ls Ds (succT t s op) k < inf) :
    valK t Ls Ds s k < inf ∧ valK t Ls Ds s k ≤ valK t Ls Ds (succT t s op) k + (Ps.getD k []).getD op tInt.dflt := by
  have hL := h.inv k hk
  have hd := h.run.dist k hk
  have hE := h.eok hk
  have hCk := h.run.cost (costOk_T h.good) k (by omega)
  have he := step_proj h.good hL hs ho ha
  have hs2 := succT_ok h.good hs ho
  have hb := idxL_bound hs hL.mem
  have hb2 := idxL_bound hs2 hL.mem
  have hsf : valK t Ls Ds s k < inf := by
    have hw2 := hd.att (idxL t.vars (Ls.getD k []) (succT t s op)).toNat (by omega) (by rw [Int.toNat_of_nonneg hb2.1]; exact hf)
    rw [Int.toNat_of_nonneg hb2.1] at hw2
    have hB := h.big hk
    have := (hd.fin hE (C := 1048576) (by decide) (fun x hx => (hCk.rng x hx).2) (by have e : inf = 1125899906842624 := rfl; omega) (i := (idxL t.vars (Ls.getD k []) s).toNat) (by omega)).2 ⟨_, by rw [Int.toNat_of_nonneg hb.1]; exact .step he hw2⟩
    rwa [Int.toNat_of_nonneg hb.1] at this
  refine ⟨hsf, ?_⟩
  have hso : SatOk (pEdges t (Ls.getD k [])) (Ds.getD k []) t.ops.length (Ps.getD k []) := by
    rw [h.run.part k hk]
    exact satL_ok fun e he => by have := hE.lab e he; rw [hCk.len] at this; exact this
  have := hso.low _ he hsf hf
  simp only [cst, Int.toNat_natCast] at this
  unfold valK
  omega
theorem SatC.step (h : SatC t Ls Ds Ps) {s : List Int} {op : Nat} (hs : StateOk t.vars s) (ho : op < t.ops.length) (ha : AppT t s op) (hf : valPt t Ls Ds (succT t s op) < inf) :
    valPt t Ls Ds s < inf ∧ valPt t Ls Ds s ≤ (costsT t).getD op tInt.dflt + valPt t Ls Ds (succT t s op) := by
  have hs2 := succT_ok h.good hs ho
  obtain ⟨a1, a2, a3, a4⟩ := h.fin hs
  obtain ⟨b1, b2, b3, b4⟩ := h.fin hs2
  have hk := b1.1 hf
  have hlt := a1.2 fun k hkl => (h.step1 hs ho ha hkl (hk k hkl)).1
  refine ⟨hlt, ?_⟩
  rw [a2 hlt, b2 hf]
  have h1 := sumV_le (n := Ls.length) (f := valK t Ls Ds s) (g := fun k => valK t Ls Ds (succT t s op) k + (Ps.getD k []).getD op tInt.dflt) fun k hkl => (h.step1 hs ho ha hkl (hk k hkl)).2
  rw [sumV_add] at h1
  have h2 := h.budget ho Ls.length (Nat.le_refl _)
  have h3 := ((h.run.cost (costOk_T h.good) Ls.length (Nat.le_refl _)).at ho).1
  omega
theorem SatC.goal (h : SatC t Ls Ds Ps) {s : List Int} (hs : StateOk t.vars s) (hg : HoldFs s t.goal) : valPt t Ls Ds s = 0 := by
  have hz : ∀ k, k < Ls.length → valK t Ls Ds s k = 0 := fun k hk => dist_goal (h.inv k hk) (h.run.dist k hk) hs hg
  have hf := (h.fin hs).1.2 fun k hk => by rw [hz k hk]; decide
  rw [(h.fin hs).2.1 hf]
  exact sumV_zeros hz
theorem SatC.low (h : SatC t Ls Ds Ps) {i k : Int} (hw : Walk (edgesT t) (costsT t) (GoalS t) i k) : 0 ≤ i → i < (statesL t.vars).length → valPt t Ls Ds ((statesL t.vars).getD i.toNat []) < inf ∧ valPt t Ls Ds ((statesL t.vars).getD i.toNat []) ≤ k := by
  induction hw with
  | @goal a hg =>
    intro h0 h1
    have hs := (statesL_at h.good.pos (show a.toNat < (statesL t.vars).length by omega)).1
    rw [h.goal hs hg]
    exact ⟨by decide, Int.le_refl _⟩
  | @step e k he _ ih =>
    intro h0 h1
    obtain ⟨i, op, hi, ho, ha, rfl⟩ := mem_edgesT.1 he
    have hst := (statesL_at h.good.pos hi).1
    have hs2 := succT_ok h.good hst ho
    have hr := statesL_of h.good.pos hs2
    have hb := rankL_bound hs2
    have h2 := ih hb.1 (by simp only; omega)
    simp only [hr.2] at h2
    have h3 := h.step hst ho ha h2.1
    simp only [Int.toNat_natCast, cst]
    exact ⟨h3.1, by omega⟩
end
end Go.Proofs.YtemnlcnjpjdoaaaGreatDoor
