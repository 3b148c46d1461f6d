/-
  The error code of a task, in plain Lean.
-/
import Derived.Test.YtlgombjhcpgleaaTDefs
namespace Go.Proofs.Ytlgombjhcpgleaa
open Go.Sl

def opConds (o : TOp) : List (List Fact) := o.pre :: o.effs.map (·.when)
def condsK (t : TTask) (k : Nat) : List (List Fact) := t.goal :: (t.ops.take k).flatMap opConds
def conds (t : TTask) : List (List Fact) := condsK t t.ops.length
def LargeT (t : TTask) : Prop := 64 < t.vars.length ∨ 4096 < t.ops.length ∨ (∃ i, i < t.ops.length ∧ 64 < (t.ops.getD i dOp).effs.length) ∨ ∃ i, i < (conds t).length ∧ 64 < ((conds t).getD i []).length
def DomT (t : TTask) : Prop := ∀ i, i < t.vars.length → 1 ≤ t.vars.getD i tInt.dflt ∧ t.vars.getD i tInt.dflt ≤ 64
def CostT (t : TTask) : Prop := ∀ i, i < t.ops.length → 0 ≤ (t.ops.getD i dOp).cost ∧ (t.ops.getD i dOp).cost ≤ 1048576
def CondT (t : TTask) : Prop := ∀ i, i < (conds t).length → FactsOk t.vars ((conds t).getD i [])
def EffT (t : TTask) : Prop := ∀ i, i < t.ops.length → ∀ j, j < (t.ops.getD i dOp).effs.length → FactsOk t.vars [⟨((t.ops.getD i dOp).effs.getD j dEff).var, ((t.ops.getD i dOp).effs.getD j dEff).val⟩]
def NamesT (t : TTask) : Prop := ∀ i, i < t.ops.length → NameOk (t.ops.getD i dOp).name
open Classical in
noncomputable def checkT (t : TTask) : Int :=
  if LargeT t then 5 else if ¬ DomT t then 1 else if ¬ CostT t then 1 else if ¬ StateOk t.vars t.init then 2 else if ¬ CondT t then 2 else if ¬ EffT t then 2 else if ¬ NamesT t then 8 else 0
theorem condsK_zero (t : TTask) : condsK t 0 = [t.goal] := by simp [condsK]
theorem condsK_succ (t : TTask) {k : Nat} (hk : k < t.ops.length) : condsK t (k + 1) = condsK t k ++ opConds (t.ops.getD k dOp) := by
  simp [condsK, take_snoc dOp hk]
theorem condsK_len (t : TTask) : ∀ k, k ≤ t.ops.length → (∀ i, i < t.ops.length → (t.ops.getD i dOp).effs.length ≤ 64) → (condsK t k).length ≤ 1 + 65 * k
  | 0, _, _ => by simp [condsK]
  | k + 1, hk, h => by
    have := condsK_len t k (by omega) h
    have h2 := h k (by omega)
    rw [condsK_succ t (by omega), List.length_append]
    simp only [opConds, List.length_cons, List.length_map]
    omega
theorem mem_conds {t : TTask} {f : List Fact} : f ∈ conds t ↔ (f = t.goal ∨ ∃ i, i < t.ops.length ∧ (f = (t.ops.getD i dOp).pre ∨ ∃ j, j < (t.ops.getD i dOp).effs.length ∧ f = ((t.ops.getD i dOp).effs.getD j dEff).when)) := by
  simp only [conds, condsK, List.take_length, List.mem_cons, List.mem_flatMap, opConds, List.mem_map]
  constructor
  · rintro (h | ⟨o, ho, h⟩)
    · exact .inl h
    · obtain ⟨i, hi, rfl⟩ := List.getElem_of_mem ho
      refine .inr ⟨i, hi, ?_⟩
      rw [getD_at hi]
      rcases h with h | ⟨e, he, rfl⟩
      · exact .inl h
      · obtain ⟨j, hj, rfl⟩ := List.getElem_of_mem he
        exact .inr ⟨j, hj, by rw [getD_at hj]⟩
  · rintro (h | ⟨i, hi, h⟩)
    · exact .inl h
    · refine .inr ⟨t.ops.getD i dOp, mem_getD _ hi, ?_⟩
      rcases h with h | ⟨j, hj, rfl⟩
      · exact .inl h
      · exact .inr ⟨_, mem_getD _ hj, rfl⟩
theorem facts_asc {vars : List Int} {f : List Fact} (h : FactsOk vars f) : ∀ i, i < f.length → (i : Int) ≤ (f.getD i tFact.dflt).var
  | 0, h0 => (h 0 h0).1.1
  | i + 1, hi => by
    have h1 := facts_asc h i (by omega)
    have h2 := (h (i + 1) hi).2 (by omega)
    simp only [Nat.add_sub_cancel] at h2
    omega
theorem facts_len {vars : List Int} {f : List Fact} (h : FactsOk vars f) : f.length ≤ vars.length := by
  rcases Nat.eq_zero_or_pos f.length with h0 | h0
  · omega
  · have h1 := facts_asc h (f.length - 1) (by omega)
    have h2 := (h (f.length - 1) (by omega)).1.2.1
    omega
theorem condT_iff {t : TTask} : CondT t ↔ ∀ f ∈ conds t, FactsOk t.vars f := by
  constructor
  · intro h f hf
    obtain ⟨i, hi, rfl⟩ := List.getElem_of_mem hf
    have := h i hi
    rwa [getD_at hi] at this
  · intro h i hi
    exact h _ (mem_getD _ hi)
theorem good_iff (t : TTask) : checkT t = 0 ↔ GoodT t := by
  unfold checkT
  constructor
  · intro h
    split at h
    · cases h
    rename_i h1
    split at h
    · cases h
    rename_i h2
    split at h
    · cases h
    rename_i h3
    split at h
    · cases h
    rename_i h4
    split at h
    · cases h
    rename_i h5
    split at h
    · cases h
    rename_i h6
    split at h
    · cases h
    rename_i h7
    rw [Classical.not_not] at h2 h3 h4 h5 h6 h7
    simp only [LargeT, not_or, not_exists, not_and, Nat.not_lt] at h1
    have h5' := condT_iff.1 h5
    refine ⟨h1.1, h1.2.1, h2, h4, h5' _ (mem_conds.2 (.inl rfl)), fun i hi => ⟨(h3 i hi).1, (h3 i hi).2, h1.2.2.1 i hi, h7 i hi, h5' _ (mem_conds.2 (.inr ⟨i, hi, .inl rfl⟩)), fun j hj => ⟨h5' _ (mem_conds.2 (.inr ⟨i, hi, .inr ⟨j, hj, rfl⟩⟩)), h6 i hi j hj⟩⟩⟩
  · intro h
    have hc : ∀ f ∈ conds t, FactsOk t.vars f := fun f hf => by
      rcases mem_conds.1 hf with rfl | ⟨i, hi, rfl | ⟨j, hj, rfl⟩⟩
      · exact h.goal
      · exact (h.op i hi).pre
      · exact ((h.op i hi).eff j hj).1
    have h1 : ¬ LargeT t := by
      rintro (h1 | h1 | ⟨i, hi, h1⟩ | ⟨i, hi, h1⟩)
      · have := h.vars; omega
      · have := h.ops; omega
      · have := (h.op i hi).effs; omega
      · have := facts_len (hc _ (mem_getD [] hi))
        have := h.vars
        omega
    have a2 : DomT t := h.dom
    have a3 : CostT t := fun i hi => ⟨(h.op i hi).cost0, (h.op i hi).cost1⟩
    have a5 : CondT t := condT_iff.2 hc
    have a6 : EffT t := fun i hi j hj => ((h.op i hi).eff j hj).2
    have a7 : NamesT t := fun i hi => (h.op i hi).name
    rw [if_neg h1, if_neg (Classical.not_not.2 a2), if_neg (Classical.not_not.2 a3), if_neg (Classical.not_not.2 h.init), if_neg (Classical.not_not.2 a5), if_neg (Classical.not_not.2 a6), if_neg (Classical.not_not.2 a7)]
end Go.Proofs.Ytlgombjhcpgleaa
