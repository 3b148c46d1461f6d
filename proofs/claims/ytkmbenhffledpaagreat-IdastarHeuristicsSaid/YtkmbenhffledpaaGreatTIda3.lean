
/-
  IDA* with a table of values, in plain Lean: plans and least costs, admissible tables, the bounds of the rounds.
-/
import Derived.Test.YtkmbenhffledpaaGreatMTA
import Derived.Test.YtkmbenhffledpaaGreatTPdb
set_option linter.unusedSimpArgs false
set_option linter.unusedVariables false
namespace Go.Proofs.YtkmbenhffledpaaGreat
open Go.Sl
section
variable {t : TTask}
theorem costs_len (t : TTask) : (costsT t).length = t.ops.length := by simp [costsT]
theorem costs_rng (hg : GoodT t) : ∀ x ∈ costsT t, 0 ≤ x ∧ x ≤ 1048576 := fun x hx => by
  obtain ⟨i, hi, rfl⟩ := List.getElem_of_mem hx
  have hi' : i < t.ops.length := by rw [costs_len] at hi; exact hi
  rw [← getD_at (d := tInt.dflt) hi, costsT_at hi']
  exact ⟨(hg.op i hi').cost0, (hg.op i hi').cost1⟩
/-- A plan is a walk to a goal state. -/
theorem pln_walk (hg : GoodT t) {s p : List Int} {c : Int} (h : Pln t s p c) : StateOk t.vars s → (Walk (edgesT t) (costsT t) (GoalS t)) (rankL t.vars s) c := by
  induction h with
  | @goal s hh =>
    intro hs
    refine .goal ?_
    unfold GoalS
    rw [(statesL_of hg.pos hs).2]
    exact hh
  | @step s op p c ho ha _ ih =>
    intro hs
    have hs2 := succT_ok hg hs ho
    have h1 := ih hs2
    have hr := statesL_of hg.pos hs
    have hb := rankL_bound hs
    have hm : (⟨((rankL t.vars s).toNat : Int), (op : Int), rankL t.vars (succT t s op)⟩ : Edg) ∈ edgesT t := mem_edgesT.2 ⟨(rankL t.vars s).toNat, op, hr.1, ho, by rw [hr.2]; exact ha, by rw [hr.2]⟩
    have h2 := Walk.step hm h1
    simp only [cst, Int.toNat_natCast, costsT_at ho] at h2
    rwa [Int.toNat_of_nonneg hb.1] at h2
theorem walk_pln (hg : GoodT t) {i k : Int} (hw : (Walk (edgesT t) (costsT t) (GoalS t)) i k) : 0 ≤ i → i < (statesL t.vars).length → ∃ p, Pln t ((statesL t.vars).getD i.toNat []) p k := by
  induction hw with
  | @goal a hh => exact fun _ _ => ⟨[], .goal hh⟩
  | @step e k he _ ih =>
    intro h0 h1
    obtain ⟨i, op, hi, ho, ha, rfl⟩ := mem_edgesT.1 he
    have hst := (statesL_at hg.pos hi).1
    have hs2 := succT_ok hg hst ho
    have hr := statesL_of hg.pos hs2
    have hb := rankL_bound hs2
    obtain ⟨p, hp⟩ := ih hb.1 (by simp only; omega)
    simp only [hr.2] at hp
    refine ⟨(op : Int) :: p, ?_⟩
    simp only [Int.toNat_natCast, cst, costsT_at ho]
    exact .step ho ha hp
/-- The least cost of a plan. -/
structure Least (t : TTask) (s : List Int) (b : Int) : Prop where
  le : b ≤ inf
  nn : 0 ≤ b
  att : b < inf → ∃ p, Pln t s p b
  low : ∀ p c, Pln t s p c → b ≤ c ∧ b < inf
theorem least_of (hg : GoodT t) {D : List Int} (hl : (statesL t.vars).length ≤ 512) (hD : DistOk (edgesT t) (costsT t) (GoalS t) (statesL t.vars).length D) {s : List Int} (hs : StateOk t.vars s) : Least t s (D.getD (rankL t.vars s).toNat tInt.dflt) := by
  have hr := statesL_of hg.pos hs
  have hb := rankL_bound hs
  have hE : EOk (edgesT t) (costsT t) (statesL t.vars).length := eok_T hg ⟨costs_len t, fun x hx => by have := costs_rng hg x hx; omega⟩
  have e : dg D ((rankL t.vars s).toNat : Int) = D.getD (rankL t.vars s).toNat tInt.dflt := by unfold dg; rw [Int.toNat_natCast]
  have hrg := hD.rng _ hr.1
  rw [e] at hrg
  refine ⟨hrg.2, hrg.1, fun h => ?_, fun p c hp => ?_⟩
  · have h1 := hD.att _ hr.1 (by rw [e]; exact h)
    rw [e] at h1
    obtain ⟨p, hp⟩ := walk_pln hg h1 (by omega) (by omega)
    rw [Int.toNat_natCast, hr.2] at hp
    exact ⟨p, hp⟩
  · have hw := pln_walk hg hp hs
    have h1 : dg D ((rankL t.vars s).toNat : Int) ≤ c := hD.low _ hr.1 c (by rw [Int.toNat_of_nonneg hb.1]; exact hw)
    have h2 := (hD.fin hE (C := 1048576) (by decide) (fun x hx => (costs_rng hg x hx).2) (by have e2 : inf = 1125899906842624 := rfl; omega) hr.1).2 ⟨c, by rw [Int.toNat_of_nonneg hb.1]; exact hw⟩
    rw [e] at h1 h2
    exact ⟨h1, h2⟩
variable {H : List Int → Int} {lim : Nat}
/-- With an admissible table a plan has the least cost; without one none is found. -/
theorem run_best {R : IR × ISt × List Int} (h : RunOk t H lim R) (ha : ∀ y q d, Pln t y q d → H y < inf ∧ H y ≤ d) {b : Int} (hb : Least t t.init b) :
    (R.1 = .solved → Pln t t.init R.2.1.path b ∧ b < inf ∧ R.2.2.getLast? = some b) ∧ (R.1 = .goOn → b = inf) ∧ ∀ x ∈ R.2.2, b < inf → x ≤ b := by
  refine ⟨fun hs => ?_, fun hg => ?_, fun x hx hlt => ?_⟩
  · obtain ⟨c, h1, _, l, h2, h3⟩ := h.sol hs
    obtain ⟨h4, h5⟩ := hb.low _ _ h1
    obtain ⟨p, hp⟩ := hb.att h5
    have h6 := h.low p b hp ha l (List.mem_of_getLast? h2)
    have e1 : c = b := by omega
    have e2 : l = b := by omega
    subst e1
    rw [e2] at h2
    exact ⟨h1, h5, h2⟩
  · refine Classical.byContradiction fun hne => ?_
    have := hb.le
    obtain ⟨p, hp⟩ := hb.att (by omega)
    exact h.fin hg p b hp fun y q d hq => (ha y q d hq).1
  · obtain ⟨p, hp⟩ := hb.att hlt
    exact h.low p b hp ha x hx
end
end Go.Proofs.YtkmbenhffledpaaGreat
