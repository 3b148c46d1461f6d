
/-
  Concrete tasks: goals and least costs of projections, calculated.
-/
import Derived.Test.YtemnlcnjpjdoaaaGreatDoorMW6
set_option linter.unusedSimpArgs false
set_option linter.unusedVariables false
namespace Go.Proofs.YtemnlcnjpjdoaaaGreatDoor
open Go.Sl Go

def goalC (t : TTask) (p : List Int) (a : Int) : Bool := (statesL t.vars).any fun s => decide (idxL t.vars p s = a) && decide (HoldFs s (partL p t.goal))
theorem goalB_calc (t : TTask) (p : List Int) (a : Int) : goalB t p a = goalC t p a := by
  refine Bool.eq_iff_iff.2 ?_
  rw [goalB_iff]
  unfold goalC
  rw [List.any_eq_true]
  constructor
  · rintro ⟨s, hs, h1, h2⟩
    exact ⟨s, mem_statesL.2 hs, by simp [h1, h2]⟩
  · rintro ⟨s, hs, h⟩
    simp only [Bool.and_eq_true, decide_eq_true_eq] at h
    exact ⟨s, mem_statesL.1 hs, h.1, h.2⟩
def goalsC (t : TTask) (p : List Int) : List Bool := (List.range (cntL t.vars p).toNat).map fun (a : Nat) => goalC t p (a : Int)
theorem goalsK_calc (t : TTask) (p : List Int) : goalsK t p (cntL t.vars p).toNat = goalsC t p := by
  unfold goalsK goalsC
  exact List.map_congr_left fun a _ => goalB_calc t p a
/-- A table, checked by a rank that goes down along the steps on which it rests. -/
def distC (E : List Edg) (c : List Int) (gs : List Bool) (n : Nat) (D : List Int) (r : List Nat) : Bool :=
  decide (D.length = n) && (List.range n).all (fun i => decide (0 ≤ dg D i ∧ dg D i ≤ inf) && (!gs.getD i false || decide (dg D i = 0)) &&
    (decide (inf ≤ dg D i) || (gs.getD i false && decide (dg D i = 0)) || E.any fun e => decide (e.src = (i : Int) ∧ dg D i = cst c e + dg D e.dst ∧ dg D e.dst < inf ∧ 0 ≤ e.dst ∧ e.dst < n ∧ r.getD e.dst.toNat 0 < r.getD i 0))) &&
  E.all fun e => decide (dg D e.dst < inf → dg D e.src ≤ dg D e.dst + cst c e)
theorem distC_ok {E : List Edg} {c : List Int} {gs : List Bool} {n : Nat} {D : List Int} {r : List Nat} (hE : EOk E c n) (h : distC E c gs n D r = true) : DistOk E c (fun i => gs.getD i.toNat false = true) n D := by
  unfold distC at h
  simp only [Bool.and_eq_true, decide_eq_true_eq, List.all_eq_true, List.mem_range] at h
  obtain ⟨⟨h1, h2⟩, h3⟩ := h
  refine DInv.dist hE ⟨h1, fun i hi => (h2 i hi).1.1, ?_, fun i hi hg => ?_⟩ fun e he => h3 e he
  · have key : ∀ (m i : Nat), i < n → r.getD i 0 < m → dg D i < inf → Walk E c (fun i => gs.getD i.toNat false = true) i (dg D i) := by
      intro m
      induction m with
      | zero => intro i _ h; exact absurd h (Nat.not_lt_zero _)
      | succ m ih =>
        intro i hi hr hl
        have h4 := (h2 i hi).2
        simp only [Bool.or_eq_true, decide_eq_true_eq, Bool.and_eq_true, List.any_eq_true] at h4
        rcases h4 with (h4 | h4) | ⟨e, he, e1, e2, e3, e4, e5, e6⟩
        · omega
        · rw [h4.2]; exact .goal (by rw [Int.toNat_natCast]; exact h4.1)
        · have := ih e.dst.toNat (by omega) (by omega) (by rw [Int.toNat_of_nonneg e4]; exact e3)
          rw [Int.toNat_of_nonneg e4] at this
          have := Walk.step he this
          rw [e1, ← e2] at this
          exact this
    intro i hi hl
    exact key _ i hi (Nat.lt_succ_self _) hl
  · have h4 := (h2 i hi).1.2
    rw [Int.toNat_natCast] at hg
    simp only [hg, Bool.not_true, Bool.false_or, decide_eq_true_eq] at h4
    exact h4
theorem dist_calc {t : TTask} {L cs D D' : List Int} {r : List Nat} {E : List Edg} {gs : List Bool} {n : Nat} (hn : (cntL t.vars L).toNat = n) (hEe : edgesC t L = E) (hgs : goalsC t L = gs) (hc : cs.length = t.ops.length ∧ ∀ x ∈ cs, 0 ≤ x ∧ x ≤ 1099511627776) (h : distC E cs gs n D r = true)
    (hD : DistOk (pEdges t L) cs (GoalPK t L) (cntL t.vars L).toNat D') : D' = D := by
  have hE := eok_P (L := L) hc
  rw [hn] at hD hE
  rw [pEdges_calc, hEe] at hD hE
  refine hD.congr (distC_ok hE h) fun i hi k => ?_
  have : GoalPK t L = fun i => gs.getD i.toNat false = true := by
    funext i
    unfold GoalPK
    rw [goalsK_calc, hgs]
    rfl
  rw [this]
end Go.Proofs.YtemnlcnjpjdoaaaGreatDoor
