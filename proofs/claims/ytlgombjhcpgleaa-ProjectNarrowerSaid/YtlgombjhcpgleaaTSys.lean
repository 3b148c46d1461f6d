/-
  The transition system of a projection, in plain Lean.
-/
import Derived.Test.YtlgombjhcpgleaaTProj2
namespace Go.Proofs.Ytlgombjhcpgleaa
open Go.Sl

def edgB (a : Int) (op : Nat) (l : List Int) : List Edg := l.map fun b => ⟨a, op, b⟩
noncomputable def edgO (t : TTask) (p : List Int) (a : Int) (j : Nat) : List Edg := (List.range j).flatMap fun op => edgB a op (tgtL t p a op)
noncomputable def edgA (t : TTask) (p : List Int) (k : Nat) : List Edg := (List.range k).flatMap fun (a : Nat) => edgO t p (a : Int) t.ops.length
noncomputable def pEdges (t : TTask) (p : List Int) : List Edg := edgA t p (cntL t.vars p).toNat
theorem edgO_zero (t : TTask) (p : List Int) (a : Int) : edgO t p a 0 = [] := rfl
theorem edgO_succ (t : TTask) (p : List Int) (a : Int) (j : Nat) : edgO t p a (j + 1) = edgO t p a j ++ edgB a j (tgtL t p a j) := by simp [edgO, List.range_succ]
theorem edgA_zero (t : TTask) (p : List Int) : edgA t p 0 = [] := rfl
theorem edgA_succ (t : TTask) (p : List Int) (k : Nat) : edgA t p (k + 1) = edgA t p k ++ edgO t p (k : Int) t.ops.length := by simp [edgA, List.range_succ]
theorem edgB_len (a : Int) (op : Nat) (l : List Int) : (edgB a op l).length = l.length := by simp [edgB]
theorem edgB_take {a : Int} {op : Nat} {l : List Int} {m : Nat} (hm : m < l.length) : edgB a op (l.take (m + 1)) = edgB a op (l.take m) ++ [⟨a, op, l.getD m tInt.dflt⟩] := by
  rw [take_snoc tInt.dflt hm]; simp [edgB]
theorem edgO_mono (t : TTask) (p : List Int) (a : Int) {i j : Nat} (h : i ≤ j) : (edgO t p a i).length ≤ (edgO t p a j).length := by
  induction j with
  | zero => have : i = 0 := by omega
            subst this; exact Nat.le_refl _
  | succ j ih =>
    by_cases e : i = j + 1
    · subst e; exact Nat.le_refl _
    · have := ih (by omega); rw [edgO_succ, List.length_append]; omega
theorem edgA_mono (t : TTask) (p : List Int) {i j : Nat} (h : i ≤ j) : (edgA t p i).length ≤ (edgA t p j).length := by
  induction j with
  | zero => have : i = 0 := by omega
            subst this; exact Nat.le_refl _
  | succ j ih =>
    by_cases e : i = j + 1
    · subst e; exact Nat.le_refl _
    · have := ih (by omega); rw [edgA_succ, List.length_append]; omega
theorem edges_len {t : TTask} {p : List Int} {k j : Nat} (hk : (k : Int) < cntL t.vars p) (hj : j < t.ops.length) : (edgA t p k).length + (edgO t p (k : Int) j).length + (tgtL t p (k : Int) j).length ≤ (pEdges t p).length := by
  have h1 := edgA_mono t p (show k + 1 ≤ (cntL t.vars p).toNat by omega)
  have h2 := edgO_mono t p (k : Int) (show j + 1 ≤ t.ops.length by omega)
  rw [edgA_succ, List.length_append] at h1
  rw [edgO_succ, List.length_append, edgB_len] at h2
  unfold pEdges
  omega
theorem mem_pEdges {t : TTask} {p : List Int} {e : Edg} : e ∈ pEdges t p ↔ ∃ (a : Int) (op : Nat) (b : Int), (0 ≤ a ∧ a < cntL t.vars p) ∧ op < t.ops.length ∧ (0 ≤ b ∧ b < cntL t.vars p) ∧ TGp t p a op b ∧ e = ⟨a, op, b⟩ := by
  simp only [pEdges, edgA, edgO, edgB, List.mem_flatMap, List.mem_range, List.mem_map]
  constructor
  · rintro ⟨a, ha, op, ho, b, hb, rfl⟩
    have := pickL_mem.1 hb
    exact ⟨a, op, b, by omega, ho, this.1, this.2, rfl⟩
  · rintro ⟨a, op, b, ha, ho, hb, hT, rfl⟩
    refine ⟨a.toNat, by omega, op, ho, b, ?_, ?_⟩
    · rw [Int.toNat_of_nonneg ha.1]; exact pickL_mem.2 ⟨hb, hT⟩
    · rw [Int.toNat_of_nonneg ha.1]
open Classical in
noncomputable def goalB (t : TTask) (p : List Int) (a : Int) : Bool := decide (GoalP t p a)
noncomputable def goalsK (t : TTask) (p : List Int) (k : Nat) : List Bool := (List.range k).map fun (a : Nat) => goalB t p (a : Int)
theorem goalsK_succ (t : TTask) (p : List Int) (k : Nat) : goalsK t p (k + 1) = goalsK t p k ++ [goalB t p (k : Int)] := by simp [goalsK, List.range_succ]
theorem goalsK_len (t : TTask) (p : List Int) (k : Nat) : (goalsK t p k).length = k := by simp [goalsK]
theorem goalsK_at {t : TTask} {p : List Int} {k a : Nat} (h : a < k) : (goalsK t p k).getD a false = goalB t p (a : Int) := by simp [goalsK, List.getD, h]
theorem goalB_iff {t : TTask} {p : List Int} {a : Int} : goalB t p a = true ↔ GoalP t p a := by simp [goalB]
def GoalF (p S : List Int) (f : List Fact) : Prop := ∀ x ∈ f, x.var ∈ p → sg S x.var = x.val
theorem goal_put {t : TTask} {p S : List Int} {a : Int} (hg : GoodT t) (hp : InV t.vars p) (hS : StateOk t.vars S) (ha : idxL t.vars p S = a) : GoalF p S t.goal ↔ GoalP t p a := by
  constructor
  · intro h
    refine ⟨S, hS, ha, holdFs_iff.2 fun x hx => ?_⟩
    simp only [partL, List.mem_filter, decide_eq_true_eq] at hx
    have hf := facts_mem hg.goal x hx.1
    exact ⟨hf.1, by rw [hS.1]; exact hf.2.1, h x hx.1 hx.2⟩
  · rintro ⟨s, hs, hi, hh⟩ x hx hxp
    rw [idxL_inj hS hs hp.mem (ha.trans hi.symm) _ hxp]
    exact (holdFs_iff.1 hh x (by simp [partL, hx, hxp])).2.2
def costsT (t : TTask) : List Int := t.ops.map (·.cost)
theorem costsT_at {t : TTask} {i : Nat} (h : i < t.ops.length) : (costsT t).getD i tInt.dflt = (t.ops.getD i dOp).cost := by
  rw [getD_at h]; simp [costsT, List.getD, h]
def BigFree (t : TTask) (p : List Int) : Prop := ∃ op, op < t.ops.length ∧ 4096 < cntL t.vars (frL t p op)
open Classical in
noncomputable def pErr0 (t : TTask) (p : List Int) : Int := if 4096 < cntL t.vars p then 5 else if BigFree t p then 5 else if 65536 < (pEdges t p).length then 5 else 0
structure SysV where
  st : Int
  ini : Int
  costs : List Int
  edges : List Edg
  goals : List Bool
noncomputable def sysOk (t : TTask) (p : List Int) : SysV := ⟨cntL t.vars p, idxL t.vars p t.init, costsT t, pEdges t p, goalsK t p (cntL t.vars p).toNat⟩
def sysNo : SysV := ⟨0, 0, [], [], []⟩
noncomputable def sysE (t : TTask) (p : List Int) (c : Int) : SysV := if c = 0 then sysOk t p else sysNo
end Go.Proofs.Ytlgombjhcpgleaa
