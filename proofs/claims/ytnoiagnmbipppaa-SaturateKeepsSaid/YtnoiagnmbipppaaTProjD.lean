
/-
  Walks of a task project to walks of its projections.
-/
import Derived.Test.YtnoiagnmbipppaaWDist
set_option linter.unusedSimpArgs false
set_option linter.unusedVariables false
namespace Go.Proofs.Ytnoiagnmbipppaa
open Go.Sl Go

/-- The goals of a projection, by number. -/
def GoalPK (t : TTask) (L : List Int) (i : Int) : Prop := (goalsK t L (cntL t.vars L).toNat).getD i.toNat tBool.dflt = true
theorem goalPK_iff {t : TTask} {L : List Int} {i : Int} (h0 : 0 ≤ i) (h1 : i < cntL t.vars L) : GoalPK t L i ↔ GoalP t L i := by
  unfold GoalPK
  rw [← goalB_iff, show (goalsK t L (cntL t.vars L).toNat).getD i.toNat tBool.dflt = goalB t L (i.toNat : Int) from goalsK_at (by omega), Int.toNat_of_nonneg h0]
theorem eok_P {t : TTask} {L cs : List Int} (h : cs.length = t.ops.length ∧ ∀ x ∈ cs, 0 ≤ x ∧ x ≤ 1099511627776) : EOk (pEdges t L) cs (cntL t.vars L).toNat := by
  have key : ∀ e ∈ pEdges t L, (0 ≤ e.src ∧ e.src < (cntL t.vars L).toNat) ∧ (0 ≤ e.dst ∧ e.dst < (cntL t.vars L).toNat) ∧ 0 ≤ e.lab ∧ e.lab < cs.length := by
    intro e he
    obtain ⟨x, op, y, hx, hop, hy, hT, rfl⟩ := mem_pEdges.1 he
    exact ⟨⟨by simp only; omega, by simp only; omega⟩, ⟨by simp only; omega, by simp only; omega⟩, by simp only; omega, by simp only; omega⟩
  exact ⟨fun e he => (key e he).1, fun e he => (key e he).2.1, fun e he => (key e he).2.2, h.2⟩
theorem step_proj {t : TTask} {L : List Int} (hg : GoodT t) (hL : InV t.vars L) {s : List Int} {op : Nat} (hs : StateOk t.vars s) (ho : op < t.ops.length) (ha : AppT t s op) : (⟨idxL t.vars L s, op, idxL t.vars L (succT t s op)⟩ : Edg) ∈ pEdges t L :=
  mem_pEdges.2 ⟨_, op, _, idxL_bound hs hL.mem, ho, idxL_bound (succT_ok hg hs ho) hL.mem, ⟨s, hs, rfl, ha, rfl⟩, rfl⟩
theorem goal_proj {t : TTask} {L : List Int} (hL : InV t.vars L) {s : List Int} (hs : StateOk t.vars s) (h : HoldFs s t.goal) : GoalPK t L (idxL t.vars L s) := by
  have hb := idxL_bound hs hL.mem
  rw [goalPK_iff hb.1 hb.2]
  exact ⟨s, hs, rfl, holdFs_iff.2 fun x hx => holdFs_iff.1 h x (List.mem_filter.1 hx).1⟩
theorem walk_proj {t : TTask} {L c : List Int} (hg : GoodT t) (hL : InV t.vars L) {i k : Int} (hw : Walk (edgesT t) c (GoalS t) i k) : 0 ≤ i → i < (statesL t.vars).length → Walk (pEdges t L) c (GoalPK t L) (idxL t.vars L ((statesL t.vars).getD i.toNat [])) k := by
  induction hw with
  | @goal a h => intro h0 h1; exact .goal (goal_proj hL (statesL_at hg.pos (by omega)).1 h)
  | @step e k he _ ih =>
    intro h0 h1
    obtain ⟨i, op, hi, ho, ha, rfl⟩ := mem_edgesT.1 he
    have hst := (statesL_at hg.pos hi).1
    have hs2 := succT_ok hg hst ho
    have hr := statesL_of hg.pos hs2
    have hb := rankL_bound hs2
    have h2 := ih hb.1 (by simp only; omega)
    simp only [hr.2] at h2
    have := Walk.step (step_proj hg hL hst ho ha) h2
    simpa using this
/-- Least costs in a projection are at most those of the task. -/
theorem dist_proj {t : TTask} {L c D D' : List Int} (hg : GoodT t) (hL : InV t.vars L) (h : DistOk (pEdges t L) c (GoalPK t L) (cntL t.vars L).toNat D) (h' : DistOk (edgesT t) c (GoalS t) (statesL t.vars).length D') {i : Nat} (hi : i < (statesL t.vars).length) :
    dg D (idxL t.vars L ((statesL t.vars).getD i [])) ≤ dg D' (i : Int) := by
  have hs := (statesL_at hg.pos hi).1
  have hb := idxL_bound hs hL.mem
  have hr := h.rng (idxL t.vars L ((statesL t.vars).getD i [])).toNat (by omega)
  have hlo := h.low (idxL t.vars L ((statesL t.vars).getD i [])).toNat (by omega)
  rw [Int.toNat_of_nonneg hb.1] at hr hlo
  by_cases hf : dg D' (i : Int) < inf
  · have hw := walk_proj hg hL (h'.att i hi hf) (by omega) (by omega)
    rw [Int.toNat_natCast] at hw
    exact hlo _ hw
  · omega
end Go.Proofs.Ytnoiagnmbipppaa
