
/-
  Projections of projections, in plain Lean.
-/
import Derived.Test.YtemnlcnjpjdoaaaGreatDoorMW7
set_option linter.unusedSimpArgs false
set_option linter.unusedVariables false
namespace Go.Proofs.YtemnlcnjpjdoaaaGreatDoor
open Go.Sl Go

theorem bitB_nat (N : Nat) (v : Int) : bitB (N : Int) v = N.testBit v.toNat := by
  unfold bitB
  rw [Nat.testBit_eq_decide_div_mod_eq, decide_eq_decide]
  have h1 : ((N : Int) / 2 ^ v.toNat) = ((N / 2 ^ v.toNat : Nat) : Int) := by
    rw [Int.natCast_ediv, Int.natCast_pow]; rfl
  rw [h1, Int.tmod_eq_emod_of_nonneg (Int.natCast_nonneg _)]
  omega
theorem chosen_and {N X n : Nat} : ∀ v ∈ chosenK ((N &&& X : Nat) : Int) n, v ∈ chosenK (N : Int) n := by
  intro v hv
  obtain ⟨h1, h2⟩ := List.mem_filter.1 hv
  refine List.mem_filter.2 ⟨h1, ?_⟩
  rw [bitB_nat, Nat.testBit_and, Bool.and_eq_true] at h2
  rw [bitB_nat]; exact h2.1
theorem chosen_or {N X n : Nat} : ∀ v ∈ chosenK (N : Int) n, v ∈ chosenK ((N ||| X : Nat) : Int) n := by
  intro v hv
  obtain ⟨h1, h2⟩ := List.mem_filter.1 hv
  refine List.mem_filter.2 ⟨h1, ?_⟩
  rw [bitB_nat] at h2
  rw [bitB_nat, Nat.testBit_or, Bool.or_eq_true]; exact .inl h2

def toF (t : TTask) (p q : List Int) (a : Int) : Int := idxL t.vars q (st1 t p a)
def imgE (t : TTask) (p q : List Int) (e : Edg) : Edg := ⟨toF t p q e.src, e.lab, toF t p q e.dst⟩
section
variable {t : TTask} {p q : List Int}
theorem toF_idx (hg : GoodT t) (hp : InV t.vars p) (hq : ∀ v ∈ q, v ∈ p) {s : List Int} (hs : StateOk t.vars s) : toF t p q (idxL t.vars p s) = idxL t.vars q s := by
  have hb := idxL_bound hs hp.mem
  have := st1_p hg hp hb.1 hb.2 hs rfl
  exact idxL_congr fun v hv => (this v (hq v hv)).symm
theorem img_mem (hg : GoodT t) (hp : InV t.vars p) (hq2 : InV t.vars q) (hq : ∀ v ∈ q, v ∈ p) {e : Edg} (he : e ∈ pEdges t p) : imgE t p q e ∈ pEdges t q := by
  obtain ⟨a, op, b, ha, ho, hb, ⟨s, hs, rfl, happ, rfl⟩, rfl⟩ := mem_pEdges.1 he
  have hs2 := succT_ok hg hs ho
  refine mem_pEdges.2 ⟨_, op, _, idxL_bound hs hq2.mem, ho, idxL_bound hs2 hq2.mem, ⟨s, hs, rfl, happ, rfl⟩, ?_⟩
  simp only [imgE, toF_idx hg hp hq hs, toF_idx hg hp hq hs2]
theorem img_surj (hg : GoodT t) (hp : InV t.vars p) (hq : ∀ v ∈ q, v ∈ p) {e : Edg} (he : e ∈ pEdges t q) : ∃ e' ∈ pEdges t p, imgE t p q e' = e := by
  obtain ⟨a, op, b, ha, ho, hb, ⟨s, hs, rfl, happ, rfl⟩, rfl⟩ := mem_pEdges.1 he
  have hs2 := succT_ok hg hs ho
  refine ⟨_, mem_pEdges.2 ⟨_, op, _, idxL_bound hs hp.mem, ho, idxL_bound hs2 hp.mem, ⟨s, hs, rfl, happ, rfl⟩, rfl⟩, ?_⟩
  simp only [imgE, toF_idx hg hp hq hs, toF_idx hg hp hq hs2]
end
theorem edgB_nodup (a : Int) (op : Nat) {l : List Int} (h : l.Nodup) : (edgB a op l).Nodup := by
  unfold edgB
  refine List.Pairwise.map _ (R := (· ≠ ·)) (fun x y hxy e => hxy ?_) h
  cases e; rfl
theorem edgO_nodup (t : TTask) (p : List Int) (a : Int) : ∀ j, (edgO t p a j).Nodup ∧ ∀ e ∈ edgO t p a j, e.src = a ∧ e.lab < j
  | 0 => by simp [edgO]
  | j + 1 => by
    obtain ⟨h1, h2⟩ := edgO_nodup t p a j
    rw [edgO_succ]
    have h3 : ∀ e ∈ edgB a j (tgtL t p a j), e.src = a ∧ e.lab = j := fun e he => by
      obtain ⟨b, _, rfl⟩ := List.mem_map.1 he; exact ⟨rfl, rfl⟩
    refine ⟨List.nodup_append.2 ⟨h1, edgB_nodup _ _ ((pickL_asc _ _).imp fun h e => by omega), fun x hx y hy e => ?_⟩, fun e he => ?_⟩
    · subst e; have := (h2 x hx).2; have := (h3 x hy).2; omega
    · rcases List.mem_append.1 he with h | h
      · have := h2 e h; exact ⟨this.1, by omega⟩
      · have := h3 e h; exact ⟨this.1, by omega⟩
theorem edgA_nodup (t : TTask) (p : List Int) : ∀ k, (edgA t p k).Nodup ∧ ∀ e ∈ edgA t p k, e.src < k
  | 0 => by simp [edgA]
  | k + 1 => by
    obtain ⟨h1, h2⟩ := edgA_nodup t p k
    obtain ⟨h3, h4⟩ := edgO_nodup t p (k : Int) t.ops.length
    rw [edgA_succ]
    refine ⟨List.nodup_append.2 ⟨h1, h3, fun x hx y hy e => ?_⟩, fun e he => ?_⟩
    · subst e; have := h2 x hx; have := (h4 x hy).1; omega
    · rcases List.mem_append.1 he with h | h
      · have := h2 e h; omega
      · have := (h4 e h).1; omega
theorem pEdges_nodup (t : TTask) (p : List Int) : (pEdges t p).Nodup := (edgA_nodup t p _).1
theorem same_len {α : Type} [DecidableEq α] {l m : List α} (hl : l.Nodup) (hm : m.Nodup) (h : ∀ x, x ∈ l ↔ x ∈ m) : l.length = m.length :=
  Nat.le_antisymm (nodup_len_le hl fun x hx => (h x).1 hx) (nodup_len_le hm fun x hx => (h x).2 hx)
/-- The table from wide to narrow numbers, after the first k states. -/
def HitK (t : TTask) (p : List Int) (k a : Nat) : Prop := ∃ i, i < k ∧ idxL t.vars p ((statesL t.vars).getD i []) = (a : Int)
noncomputable def hitF (t : TTask) (p q : List Int) (k a : Nat) : Int := @ite _ (HitK t p k a) (Classical.propDecidable _) (toF t p q a) 0
theorem hit_pos {t : TTask} {p q : List Int} {k a : Nat} (h : HitK t p k a) : hitF t p q k a = toF t p q a := if_pos h
theorem hit_neg {t : TTask} {p q : List Int} {k a : Nat} (h : ¬ HitK t p k a) : hitF t p q k a = 0 := if_neg h
theorem getD_set_self {l : List Int} {i : Nat} {v : Int} (h : i < l.length) : (l.set i v).getD i tInt.dflt = v := by simp [List.getD, h]
theorem getD_set_ne {l : List Int} {i j : Nat} {v : Int} (h : i ≠ j) : (l.set i v).getD j tInt.dflt = l.getD j tInt.dflt := by
  simp only [List.getD_eq_getElem?_getD]
  rw [List.getElem?_set_ne h]
noncomputable def toK (t : TTask) (p q : List Int) (n k : Nat) : List Int := (List.range n).map (hitF t p q k)
theorem toK_len (t : TTask) (p q : List Int) (n k : Nat) : (toK t p q n k).length = n := by simp [toK]
theorem toK_at {t : TTask} {p q : List Int} {n k a : Nat} (ha : a < n) : (toK t p q n k).getD a tInt.dflt = hitF t p q k a := by simp [toK, List.getD, ha]
theorem toK_zero (t : TTask) (p q : List Int) (n : Nat) : toK t p q n 0 = List.replicate n 0 := by
  refine list_eq_of (by simp [toK]) fun i hi => ?_
  rw [toK_len] at hi
  rw [toK_at hi, hit_neg (fun ⟨j, hj, _⟩ => Nat.not_lt_zero _ hj)]
  simp [List.getD, hi]
theorem toK_set {t : TTask} {p q : List Int} {n k : Nat} (hg : GoodT t) (hp : InV t.vars p) (hq : ∀ v ∈ q, v ∈ p) (hs : StateOk t.vars ((statesL t.vars).getD k [])) (hn : (idxL t.vars p ((statesL t.vars).getD k [])).toNat < n) :
    (toK t p q n k).set (idxL t.vars p ((statesL t.vars).getD k [])).toNat (idxL t.vars q ((statesL t.vars).getD k [])) = toK t p q n (k + 1) := by
  have hb := (idxL_bound hs hp.mem).1
  refine list_eq_of (by simp [toK]) fun i hi => ?_
  rw [List.length_set, toK_len] at hi
  rw [toK_at hi]
  by_cases e : (idxL t.vars p ((statesL t.vars).getD k [])).toNat = i
  · subst e
    rw [hit_pos ⟨k, Nat.lt_succ_self k, by omega⟩, Int.toNat_of_nonneg hb, toF_idx hg hp hq hs, getD_set_self (by rw [toK_len]; exact hn)]
  · rw [getD_set_ne e, toK_at hi]
    by_cases hh : HitK t p k i
    · rw [hit_pos hh, hit_pos (let ⟨j, hj, h2⟩ := hh; ⟨j, by omega, h2⟩)]
    · rw [hit_neg hh, hit_neg]
      rintro ⟨j, hj, h2⟩
      by_cases ej : j = k
      · subst ej; omega
      · exact hh ⟨j, by omega, h2⟩
theorem toK_end {t : TTask} {p q : List Int} {a : Int} (hg : GoodT t) (hp : InV t.vars p) (h0 : 0 ≤ a) (h1 : a < cntL t.vars p) : (toK t p q (cntL t.vars p).toNat (statesL t.vars).length).getD a.toNat tInt.dflt = toF t p q a := by
  obtain ⟨hs, hi⟩ := st1_ok hg hp h0 h1
  obtain ⟨r1, r2⟩ := statesL_of hg.pos hs
  rw [toK_at (by omega), hit_pos ⟨_, r1, by rw [r2, hi]; omega⟩, Int.toNat_of_nonneg h0]
end Go.Proofs.YtemnlcnjpjdoaaaGreatDoor
