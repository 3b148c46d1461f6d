
/-
  LM-cut, in plain Lean: the cuts of a state one after another, their sum, admissible.
-/
import Derived.Test.YtkmbenhffledpaaGreatTCut
set_option linter.unusedSimpArgs false
set_option linter.unusedVariables false
namespace Go.Proofs.YtkmbenhffledpaaGreat
open Go.Sl
/-- A task with other costs. -/
def withC (t : TTask) (cs : List Int) : TTask := { t with ops := (List.range t.ops.length).map fun i => { t.ops.getD i dOp with cost := cs.getD i tInt.dflt } }
def CostsOk (t : TTask) (cs : List Int) : Prop := cs.length = t.ops.length ∧ ∀ x ∈ cs, 0 ≤ x ∧ x ≤ 1048576
section
variable {t : TTask} {cs : List Int}
theorem withC_len : (withC t cs).ops.length = t.ops.length := by simp [withC]
theorem withC_op {i : Nat} (hi : i < t.ops.length) : (withC t cs).ops.getD i dOp = { t.ops.getD i dOp with cost := cs.getD i tInt.dflt } := by
  simp [withC, List.getD, hi]
theorem withC_good (hg : GoodT t) (h : CostsOk t cs) : GoodT (withC t cs) := by
  refine ⟨hg.vars, by rw [withC_len]; exact hg.ops, hg.dom, hg.init, hg.goal, fun i hi => ?_⟩
  rw [withC_len] at hi
  rw [withC_op hi]
  have ho := hg.op i hi
  have hc := h.2 _ (mem_getD tInt.dflt (show i < cs.length by rw [h.1]; exact hi))
  exact { ho with cost0 := hc.1, cost1 := hc.2 }
theorem withC_self (hg : GoodT t) : withC t (costsT t) = t := by
  have h1 : (List.range t.ops.length).map (fun i => { t.ops.getD i dOp with cost := (costsT t).getD i tInt.dflt }) = t.ops := by
    refine List.ext_getElem (by simp) fun i h1 h2 => ?_
    rw [List.getElem_map, List.getElem_range, costsT_at h2, getD_at h2]
  unfold withC
  rw [h1]
/-- What a cut takes from the costs. -/
def subC (cs : List Int) (K : List Nat) (c : Int) : List Int := (List.range cs.length).map fun i => if i ∈ K then cs.getD i tInt.dflt - c else cs.getD i tInt.dflt
theorem subC_len (cs : List Int) (K : List Nat) (c : Int) : (subC cs K c).length = cs.length := by simp [subC]
theorem subC_at {K : List Nat} {c : Int} {i : Nat} (hi : i < cs.length) : (subC cs K c).getD i tInt.dflt = if i ∈ K then cs.getD i tInt.dflt - c else cs.getD i tInt.dflt := by simp [subC, List.getD, hi]
/-- The least cost of a cut's operators. -/
def MinC (cs : List Int) (K : List Nat) (c : Int) : Prop := (∃ i ∈ K, i < cs.length ∧ cs.getD i tInt.dflt = c) ∧ ∀ i ∈ K, c ≤ cs.getD i tInt.dflt
theorem subC_ok {K : List Nat} {c : Int} (h : CostsOk t cs) (hm : MinC cs K c) : CostsOk t (subC cs K c) := by
  obtain ⟨i0, h1, h2, h3⟩ := hm.1
  have hc0 := h.2 _ (mem_getD tInt.dflt h2)
  rw [h3] at hc0
  refine ⟨by rw [subC_len]; exact h.1, fun x hx => ?_⟩
  obtain ⟨i, hi, rfl⟩ := List.getElem_of_mem hx
  have hi' : i < cs.length := by rw [subC_len] at hi; exact hi
  rw [← getD_at (d := tInt.dflt) hi, subC_at hi']
  have hc := h.2 _ (mem_getD tInt.dflt hi')
  split
  · rename_i hk; have := hm.2 i hk; omega
  · exact hc
end
/-- The cuts of a state under costs, one after another; none: the relaxed goal is not reached. -/
inductive LMC (t : TTask) (s : List Int) : List Int → Option (List (List Nat × Int)) → Prop
  | dead {cs V : List Int} : IsHM (withC t cs) s V → maxG t.vars t.goal V = inf → LMC t s cs none
  | done {cs V : List Int} : IsHM (withC t cs) s V → maxG t.vars t.goal V = 0 → LMC t s cs (some [])
  | step {cs V : List Int} {g0 : Int} {K : List Nat} {c : Int} {r : Option (List (List Nat × Int))} : IsHM (withC t cs) s V → 0 < maxG t.vars t.goal V → maxG t.vars t.goal V < inf → GrtF V (goalN t) g0 → (∀ i, i ∈ K ↔ i < t.ops.length ∧ InCut (withC t cs) s V g0 i) → K.Pairwise (· < ·) → MinC cs K c → LMC t s (subC cs K c) r → LMC t s cs (r.map ((K, c) :: ·))
def sumK (l : List (List Nat × Int)) : Int := l.foldr (fun x n => x.2 + n) 0
def lvalK : Option (List (List Nat × Int)) → Int | none => inf | some l => sumK l
theorem asc_uniq : ∀ {l m : List Nat}, l.Pairwise (· < ·) → m.Pairwise (· < ·) → (∀ i, i ∈ l ↔ i ∈ m) → l = m
  | [], [], _, _, _ => rfl
  | [], y :: m, _, _, h => absurd ((h y).2 List.mem_cons_self) List.not_mem_nil
  | x :: l, [], _, _, h => absurd ((h x).1 List.mem_cons_self) List.not_mem_nil
  | x :: l, y :: m, hl, hm, h => by
    obtain ⟨l1, l2⟩ := List.pairwise_cons.1 hl
    obtain ⟨m1, m2⟩ := List.pairwise_cons.1 hm
    have e : x = y := by
      have h1 := (h x).1 List.mem_cons_self
      have h2 := (h y).2 List.mem_cons_self
      rcases List.mem_cons.1 h1 with e | h1
      · exact e
      · rcases List.mem_cons.1 h2 with e | h2
        · exact e.symm
        · have := m1 x h1; have := l1 y h2; omega
    subst e
    rw [asc_uniq l2 m2 fun i => ⟨fun hi => by
      rcases List.mem_cons.1 ((h i).1 (List.mem_cons_of_mem _ hi)) with e | hi'
      · subst e; have := l1 i hi; omega
      · exact hi', fun hi => by
      rcases List.mem_cons.1 ((h i).2 (List.mem_cons_of_mem _ hi)) with e | hi'
      · subst e; have := m1 i hi; omega
      · exact hi'⟩]
theorem minC_uniq {cs : List Int} {K : List Nat} {c c' : Int} (h : MinC cs K c) (h' : MinC cs K c') : c = c' := by
  obtain ⟨⟨i, h1, _, h2⟩, h3⟩ := h
  obtain ⟨⟨j, k1, _, k2⟩, k3⟩ := h'
  have := h3 j k1
  have := k3 i h1
  omega
section
variable {t : TTask} {s : List Int}
theorem lmc_uniq {cs : List Int} {r : Option (List (List Nat × Int))} (h : LMC t s cs r) : ∀ {r'}, LMC t s cs r' → r = r' := by
  have e : (0 : Int) ≠ inf := by decide
  induction h with
  | dead h1 h2 =>
    intro r' h'
    cases h' with
    | dead _ _ => rfl
    | done k1 k2 => rw [hm_uniq h1 k1, k2] at h2; exact absurd h2 e
    | step k1 k2 k3 _ _ _ _ _ => rw [hm_uniq h1 k1] at h2; omega
  | done h1 h2 =>
    intro r' h'
    cases h' with
    | dead k1 k2 => rw [hm_uniq h1 k1, k2] at h2; exact absurd h2.symm e
    | done _ _ => rfl
    | step k1 k2 k3 _ _ _ _ _ => rw [hm_uniq h1 k1] at h2; omega
  | step h1 h2 h3 h4 h5 h6 h7 _ ih =>
    intro r' h'
    cases h' with
    | dead k1 k2 => rw [hm_uniq h1 k1] at h3; omega
    | done k1 k2 => rw [hm_uniq h1 k1] at h2; omega
    | step k1 k2 k3 k4 k5 k6 k7 k8 =>
      have eV := hm_uniq h1 k1
      subst eV
      have eg := grt_uniq h4 k4
      subst eg
      have eK := asc_uniq h6 k6 fun i => (h5 i).trans (k5 i).symm
      subst eK
      have ec := minC_uniq h7 k7
      subst ec
      rw [ih k8]
theorem maxG_at {t : TTask} {V : List Int} {g0 : Int} (hg : GrtF V (goalN t) g0) (hp : 0 < maxG t.vars t.goal V) : maxG t.vars t.goal V = dg V g0 := by
  obtain ⟨f, hf, he⟩ := List.mem_map.1 hg.1
  have h1 : dg V g0 ≤ maxG t.vars t.goal V := by rw [← he]; exact (maxG_le (maxG_nn _ _ _)).1 (Int.le_refl _) f hf
  refine Int.le_antisymm ?_ h1
  by_cases h0 : 0 ≤ dg V g0
  · exact (maxG_le h0).2 fun f hf => hg.ge (List.mem_map.2 ⟨f, hf, rfl⟩)
  · have : maxG t.vars t.goal V ≤ 0 := (maxG_le (Int.le_refl _)).2 fun f hf => by have := hg.ge (List.mem_map.2 ⟨f, hf, rfl⟩); omega
    omega
theorem cutX_of {cs V : List Int} {g0 : Int} (hg : GoodT t) (hs : StateOk t.vars s) (hc : CostsOk t cs) (hm : IsHM (withC t cs) s V) (hp : 0 < maxG t.vars t.goal V) (hf : maxG t.vars t.goal V < inf) (hgr : GrtF V (goalN t) g0) : CutX (withC t cs) s V g0 := by
  have e := maxG_at hgr hp
  exact ⟨withC_good hg hc, hs, hm, hgr, by omega, by omega⟩
/-- The operators of a cut cost at least 1. -/
theorem cut_pos {cs V : List Int} {g0 : Int} {i : Nat} (hg : GoodT t) (hc : CostsOk t cs) (x : CutX (withC t cs) s V g0) (hi : i < t.ops.length) (h : InCut (withC t cs) s V g0 i) : 1 ≤ cs.getD i tInt.dflt := by
  obtain ⟨u, hu, hop, hcr⟩ := h
  have h1 := x.crs_pos hu hcr
  obtain ⟨i', j, h2, h3, rfl⟩ := mem_unK.1 hu
  have e : i' = i := by
    have h4 : (i' : Int) = (i : Int) := hop
    omega
  subst e
  have h5 : 0 < ((withC t cs).ops.getD i' dOp).cost := h1
  rw [withC_op hi] at h5
  exact h5
/-- An operator lies in the cut. -/
theorem cut_some {cs V : List Int} {g0 : Int} (x : CutX (withC t cs) s V g0) : ∃ i, i < t.ops.length ∧ InCut (withC t cs) s V g0 i := by
  obtain ⟨u, hu, hcr⟩ := x.some
  obtain ⟨i', j, h2, h3, rfl⟩ := mem_unK.1 hu
  rw [withC_len] at h2
  exact ⟨i', h2, _, hu, rfl, hcr⟩
end
end Go.Proofs.YtkmbenhffledpaaGreat
