
/-
  Least costs from the initial state, in plain Lean: the edges backwards.
-/
import Derived.Test.YtegndanecnicaaaGreatTAstR
set_option linter.unusedSimpArgs false
set_option linter.unusedVariables false
namespace Go.Proofs.YtegndanecnicaaaGreat
open Go.Sl
def rvE (e : Edg) : Edg := ⟨e.dst, e.lab, e.src⟩
def edgR (t : TTask) : List Edg := (edgesT t).map rvE
def InitR (t : TTask) (i : Int) : Prop := i = rankL t.vars t.init
section
variable {t : TTask}
theorem eok_R (hg : GoodT t) : EOk (edgR t) (costsT t) (statesL t.vars).length := by
  have h := eok_T hg (cs := costsT t) ⟨costs_len t, fun x hx => by have := costs_rng hg x hx; omega⟩
  refine ⟨fun e he => ?_, fun e he => ?_, fun e he => ?_, h.cost⟩
  · obtain ⟨e', h1, rfl⟩ := List.mem_map.1 he; exact h.dst e' h1
  · obtain ⟨e', h1, rfl⟩ := List.mem_map.1 he; exact h.src e' h1
  · obtain ⟨e', h1, rfl⟩ := List.mem_map.1 he; exact h.lab e' h1
theorem walk_of_pth (hg : GoodT t) {p s : List Int} {c : Int} (h : Pth t p s c) : Walk (edgR t) (costsT t) (InitR t) (rankL t.vars s) c := by
  induction h with
  | nil => exact .goal rfl
  | @snoc p s c op hp ho ha ih =>
    have hs := hp.ok hg
    have hr := statesL_of hg.pos hs
    have hb := rankL_bound hs
    have hm : (⟨((rankL t.vars s).toNat : Int), (op : Int), rankL t.vars (succT t s op)⟩ : Edg) ∈ edgesT t := mem_edgesT.2 ⟨(rankL t.vars s).toNat, op, hr.1, ho, by rw [hr.2]; exact ha, by rw [hr.2]⟩
    rw [Int.toNat_of_nonneg hb.1] at hm
    have hm2 : (⟨rankL t.vars (succT t s op), (op : Int), rankL t.vars s⟩ : Edg) ∈ edgR t := List.mem_map.2 ⟨_, hm, rfl⟩
    have h2 := Walk.step hm2 ih
    simp only [cst, Int.toNat_natCast, costsT_at ho] at h2
    rw [Int.add_comm] at h2
    exact h2
theorem pth_of_walk (hg : GoodT t) {i k : Int} (hw : Walk (edgR t) (costsT t) (InitR t) i k) : 0 ≤ i → i < (statesL t.vars).length → ∃ p, Pth t p ((statesL t.vars).getD i.toNat []) k := by
  induction hw with
  | @goal a hh =>
    intro _ _
    have hr := statesL_of hg.pos hg.init
    have e : a = rankL t.vars t.init := hh
    subst e
    rw [hr.2]
    exact ⟨[], .nil⟩
  | @step e k he _ ih =>
    intro h0 h1
    obtain ⟨e', he', rfl⟩ := List.mem_map.1 he
    obtain ⟨i, op, hi, ho, ha, rfl⟩ := mem_edgesT.1 he'
    have hst := (statesL_at hg.pos hi).1
    have hs2 := succT_ok hg hst ho
    have hr := statesL_of hg.pos hs2
    obtain ⟨p, hp⟩ := ih (Int.natCast_nonneg i) (by show (i : Int) < _; omega)
    simp only [rvE, Int.toNat_natCast] at hp
    refine ⟨p ++ [(op : Int)], ?_⟩
    simp only [rvE, cst, Int.toNat_natCast, costsT_at ho]
    rw [hr.2, Int.add_comm]
    exact hp.snoc ho ha
/-- What the costs say of the states. -/
structure CostOk (t : TTask) (D : List Int) : Prop where
  len : D.length = (statesL t.vars).length
  rng : ∀ i, i < D.length → 0 ≤ D.getD i tInt.dflt ∧ D.getD i tInt.dflt ≤ inf
  low : ∀ s p c, Pth t p s c → D.getD (rankL t.vars s).toNat tInt.dflt ≤ c
  att : ∀ i, i < D.length → D.getD i tInt.dflt < inf → ∃ p, Pth t p ((statesL t.vars).getD i []) (D.getD i tInt.dflt)
theorem cost_ok (hg : GoodT t) {D : List Int} (hD : DistOk (edgR t) (costsT t) (InitR t) (statesL t.vars).length D) : CostOk t D := by
  have hl := hD.len
  refine ⟨hl, fun i hi => ?_, fun s p c hp => ?_, fun i hi hlt => ?_⟩
  · have := hD.rng i (by omega)
    simp only [dg, Int.toNat_natCast] at this
    exact this
  · have hs := hp.ok hg
    have hr := statesL_of hg.pos hs
    have hb := rankL_bound hs
    have := hD.low (rankL t.vars s).toNat hr.1 c (by rw [Int.toNat_of_nonneg hb.1]; exact walk_of_pth hg hp)
    simp only [dg, Int.toNat_natCast] at this
    exact this
  · have h1 := hD.att i (by omega) (by simp only [dg, Int.toNat_natCast]; exact hlt)
    simp only [dg, Int.toNat_natCast] at h1
    have h2 := pth_of_walk hg h1 (Int.natCast_nonneg i) (by omega)
    rw [Int.toNat_natCast] at h2
    exact h2
/-- All infinite but the initial state. -/
theorem dist_start {n r : Nat} (hr : r < n) {G : Int → Prop} (hG : ∀ i : Nat, G (i : Int) ↔ i = r) : (List.replicate n inf).set r 0 = dist0 G n := by
  have key : ∀ i, i < n → ((List.replicate n inf).set r 0).getD i tInt.dflt = (dist0 G n).getD i tInt.dflt := by
    intro i hi'
    have h1 : (dist0 G n).getD i tInt.dflt = zi (G (i : Int)) := by
      have := dist0_at (G := G) hi'
      simp only [dg, Int.toNat_natCast] at this
      exact this
    rw [h1]
    by_cases e : i = r
    · rw [zi_pos ((hG i).2 e)]
      subst e
      simp [List.getD, hi']
    · rw [zi_neg fun h => e ((hG i).1 h)]
      simp only [List.getD]
      rw [List.getElem?_set_ne (fun h => e h.symm)]
      simp [hi']
  refine List.ext_getElem (by simp [dist0]) fun i h1 h2 => ?_
  have hi' : i < n := by simpa using h1
  have := key i hi'
  rw [getD_at h1, getD_at h2] at this
  exact this
end
end Go.Proofs.YtegndanecnicaaaGreat
