/-
  The projection to all variables has the steps of the task.
-/
import Derived.Test.YtlgombjhcpgleaaTSys
namespace Go.Proofs.Ytlgombjhcpgleaa
open Go.Sl

theorem upTo_getD {n i : Nat} (h : i < n) : (upTo (n : Int)).getD i tInt.dflt = (i : Int) := by simp [upTo, List.getD, h]
theorem vals_all {s : List Int} {n : Nat} (h : s.length = n) : valsL s (upTo (n : Int)) = s := by
  apply List.ext_getElem (by simp [valsL, upTo, h])
  intro i h1 h2
  simp [valsL, upTo, sg, List.getD, h2]
theorem cnt_all (vars : List Int) : cntL vars (upTo (vars.length : Int)) = prodL vars := by rw [cntL, vals_all rfl]
theorem idx_all {vars s : List Int} (h : s.length = vars.length) : idxL vars (upTo (vars.length : Int)) s = rankL vars s := by rw [idxL, vals_all rfl, vals_all h]
theorem inV_all (vars : List Int) : InV vars (upTo (vars.length : Int)) := ⟨fun v hv => by have := upTo_mem.1 hv; omega, upTo_asc _⟩
theorem tgt_all {t : TTask} (hg : GoodT t) {a op : Nat} (ha : a < (statesL t.vars).length) (ho : op < t.ops.length) :
    tgtL t (upTo (t.vars.length : Int)) (a : Int) op = if AppT t ((statesL t.vars).getD a []) op then [rankL t.vars (succT t ((statesL t.vars).getD a []) op)] else [] := by
  obtain ⟨hs, hr⟩ := statesL_at hg.pos ha
  have hs2 := succT_ok hg hs ho
  have hb := rankL_bound hs2
  have key : ∀ b, TGp t (upTo (t.vars.length : Int)) (a : Int) op b ↔ AppT t ((statesL t.vars).getD a []) op ∧ rankL t.vars (succT t ((statesL t.vars).getD a []) op) = b := by
    intro b
    constructor
    · rintro ⟨s, h1, h2, h3, h4⟩
      rw [idx_all h1.1, ← hr] at h2
      have e := rankL_inj h1 hs h2
      subst e
      rw [idx_all hs2.1] at h4
      exact ⟨h3, h4⟩
    · rintro ⟨h3, h4⟩
      exact ⟨_, hs, by rw [idx_all hs.1, hr], h3, by rw [idx_all hs2.1]; exact h4⟩
  symm
  unfold tgtL
  rw [cnt_all]
  split
  · rename_i h
    refine asc_pick (List.pairwise_singleton _ _) fun x => ?_
    rw [List.mem_singleton, key]
    exact ⟨fun e => by subst e; exact ⟨hb, h, rfl⟩, fun e => e.2.2.symm⟩
  · rename_i h
    refine asc_pick List.Pairwise.nil fun x => ?_
    rw [key]
    exact ⟨fun e => (by simp at e), fun e => absurd e.2.1 h⟩
theorem edges_all {t : TTask} (hg : GoodT t) : pEdges t (upTo (t.vars.length : Int)) = edgesT t := by
  unfold pEdges edgA edgesT edgesK
  rw [cnt_all, ← statesL_len hg.pos]
  refine flatMap_congr fun a ha => ?_
  unfold edgO edgesJ
  refine flatMap_congr fun op ho => ?_
  rw [tgt_all hg (List.mem_range.1 ha) (List.mem_range.1 ho), stepL]
  split <;> simp [edgB]
theorem goal_all {t : TTask} (hg : GoodT t) {a : Nat} (ha : a < (statesL t.vars).length) : goalB t (upTo (t.vars.length : Int)) (a : Int) = true ↔ HoldFs ((statesL t.vars).getD a []) t.goal := by
  obtain ⟨hs, hr⟩ := statesL_at hg.pos ha
  have hp : partL (upTo (t.vars.length : Int)) t.goal = t.goal := by
    unfold partL
    rw [List.filter_eq_self]
    intro x hx
    have := facts_mem hg.goal x hx
    simp only [decide_eq_true_eq, upTo_mem]
    exact ⟨this.1, this.2.1⟩
  rw [goalB_iff, GoalP, hp]
  constructor
  · rintro ⟨s, h1, h2, h3⟩
    rw [idx_all h1.1, ← hr] at h2
    rw [← rankL_inj h1 hs h2]; exact h3
  · intro h; exact ⟨_, hs, by rw [idx_all hs.1, hr], h⟩
end Go.Proofs.Ytlgombjhcpgleaa
