/-
  Several texts as one: WAffects, TSmall, TLaw5, TNarrow.
-/
import Derived.Test.YtemnlcnjpjdoaaaGreatDoorMW6
set_option linter.unusedSimpArgs false
set_option linter.unusedVariables false

/-
  Contract of 'project.Affects'.
-/
namespace Go.Proofs.YtemnlcnjpjdoaaaGreatDoor
open Go.Sl Go
attribute [local irreducible] vc opsW opsD opV opW PureV ReadV Thn Blk

def AffOf (t : TTask) (L : List Int) (i : Nat) : Prop := ∃ e ∈ (t.ops.getD i dOp).effs, e.var ∈ L
instance (t : TTask) (L : List Int) (i : Nat) : Decidable (AffOf t L i) := by unfold AffOf; infer_instance
def affK (t : TTask) (L : List Int) (k : Nat) : List Int := ((List.range k).filter fun i => decide (AffOf t L i)).map fun (i : Nat) => (i : Int)
theorem affK_succ (t : TTask) (L : List Int) (k : Nat) : affK t L (k + 1) = if AffOf t L k then affK t L k ++ [(k : Int)] else affK t L k := by
  unfold affK
  rw [List.range_succ, List.filter_append]
  split
  · rename_i h; simp [h]
  · rename_i h; simp [h]
theorem affK_len (t : TTask) (L : List Int) (k : Nat) : (affK t L k).length ≤ k := by
  have := List.length_filter_le (fun i => decide (AffOf t L i)) (List.range k)
  simp only [affK, List.length_map, List.length_range] at *
  omega

end Go.Proofs.YtemnlcnjpjdoaaaGreatDoor

/-
  A small task's projections are within the limits.
-/
namespace Go.Proofs.YtemnlcnjpjdoaaaGreatDoor
open Go.Sl Go

theorem nodup_len_le {α : Type} [DecidableEq α] {l : List α} : ∀ {m : List α}, l.Nodup → (∀ x ∈ l, x ∈ m) → l.length ≤ m.length := by
  induction l with
  | nil => intro m _ _; simp
  | cons x l ih =>
    intro m hn hs
    rw [List.nodup_cons] at hn
    have hx := hs x (by simp)
    have h1 := ih (m := m.erase x) hn.2 fun y hy => by
      have hne : y ≠ x := fun e => hn.1 (by rw [← e]; exact hy)
      exact (List.mem_erase_of_ne hne).2 (hs y (by simp [hy]))
    rw [List.length_erase_of_mem hx] at h1
    have := List.length_pos_of_mem hx
    simp only [List.length_cons]; omega
def belowI {α : Type} (g : α → Int) (l : List α) (n : Nat) : Nat := (l.filter fun s => decide (0 ≤ g s ∧ g s < n)).length
def atI {α : Type} (g : α → Int) (l : List α) (n : Nat) : Nat := (l.filter fun s => decide (g s = n)).length
theorem below_succ {α : Type} (g : α → Int) (n : Nat) : ∀ l : List α, belowI g l (n + 1) = belowI g l n + atI g l n
  | [] => rfl
  | x :: l => by
    have ih := below_succ g n l
    simp only [belowI, atI, List.filter_cons] at ih ⊢
    by_cases h1 : 0 ≤ g x ∧ g x < (n : Int)
    · rw [if_pos (by simp; omega), if_pos (by simpa using h1), if_neg (by simp; omega)]
      simp only [List.length_cons]; omega
    · by_cases h2 : g x = (n : Int)
      · rw [if_pos (by simp; omega), if_neg (by simpa using h1), if_pos (by simpa using h2)]
        simp only [List.length_cons]; omega
      · rw [if_neg (by simp; omega), if_neg (by simpa using h1), if_neg (by simpa using h2)]
        exact ih
theorem tgt_len (t : TTask) (p : List Int) (a : Nat) (op : Nat) : (tgtL t p a op).length ≤ atI (idxL t.vars p) (statesL t.vars) a := by
  have h1 := nodup_len_le (l := tgtL t p a op) (m := ((statesL t.vars).filter fun s => decide (idxL t.vars p s = (a : Int))).map fun s => idxL t.vars p (succT t s op)) ((pickL_asc _ _).imp fun h e => by omega) fun b hb => by
    obtain ⟨_, s, hs, ha, _, hb⟩ := pickL_mem.1 hb
    exact List.mem_map.2 ⟨s, List.mem_filter.2 ⟨mem_statesL.2 hs, by simpa using ha⟩, hb⟩
  simpa [atI] using h1
theorem edgO_le (t : TTask) (p : List Int) (a : Nat) : ∀ j, (edgO t p a j).length ≤ j * atI (idxL t.vars p) (statesL t.vars) a
  | 0 => by simp [edgO]
  | j + 1 => by
    have h1 := edgO_le t p a j
    have h2 := tgt_len t p a j
    rw [edgO_succ, List.length_append, edgB_len, Nat.succ_mul]; omega
theorem edgA_le (t : TTask) (p : List Int) : ∀ k, (edgA t p k).length ≤ t.ops.length * belowI (idxL t.vars p) (statesL t.vars) k
  | 0 => by simp [edgA]
  | k + 1 => by
    have h1 := edgA_le t p k
    have h2 := edgO_le t p k t.ops.length
    rw [edgA_succ, List.length_append, below_succ, Nat.mul_add]; omega
theorem pEdges_le (t : TTask) (p : List Int) : (pEdges t p).length ≤ t.ops.length * (statesL t.vars).length :=
  Nat.le_trans (edgA_le t p _) (Nat.mul_le_mul_left _ (List.length_filter_le _ _))
theorem small_err {t : TTask} {p : List Int} (h : SmallT t) (hp : InV t.vars p) : pErr t p = 0 ∧ chkP t p = 0 := by
  have hc := chkP_zero.2 ⟨h.good, hp.pat⟩
  have h1 := cntL_le h.good.pos hp
  have h2 := h.many
  have h3 := pEdges_le t p
  have h4 : (statesL t.vars).length ≤ 512 := by rw [statesL_len h.good.pos]; omega
  have h5 : t.ops.length * (statesL t.vars).length ≤ 20 * 512 := Nat.mul_le_mul h.ops h4
  refine ⟨?_, hc⟩
  rw [pErr_ok hc, pErr0, if_neg (by omega), if_neg (noBig h.good.pos (by omega)), if_neg (by omega)]
end Go.Proofs.YtemnlcnjpjdoaaaGreatDoor

/-
  Plain facts for the statement 'ProjectAffects', and two steps for reads that are looked at again under a guard.
-/
namespace Go.Proofs.YtemnlcnjpjdoaaaGreatDoor
open Go.Sl Go

theorem chk_off {P : Program} {K : Fr → World → Prop} {ρ : Fr} {w : World} {l : List Oper} {i : Nat} {is : List Sl.Item} {d : Nat} {op : Op} {ty : TypeId} {pos : String} {af : Array Edge} {j : Nat} {want : Bool} {s : Nat}
    (ho : l[i]? = some ⟨some d, op, ty, pos, af, some (j, want)⟩) (hj : gslot l.toArray j = some s) (hg : asks (ρ s) want = false) (h : opsD P l.toArray K is ρ w) : opsD P l.toArray K (.chk i :: is) ρ w := by
  refine opsD_gchk (v := .bool false) ho (fun hq => ?_) h
  simp only [guardB, hj] at hq
  rw [hg] at hq
  cases hq
theorem effsP_none {p s : List Int} {l : List Eff} : (∀ e ∈ l, e.var ∉ p) → effsP p s l = s := by
  refine snoc_ind (P := fun l => (∀ e ∈ l, e.var ∉ p) → effsP p s l = s) (fun _ => rfl) ?_ l
  intro l e ih h
  rw [effsP_snoc, if_neg (fun q => h e (by simp) q.1), ih fun x hx => h x (by simp [hx])]
theorem noaff {t : TTask} {p : List Int} {a b : Int} {op : Nat} (hg : GoodT t) (hp : InV t.vars p) (ho : op < t.ops.length) (hn : ¬ AffOf t p op) (h : TGp t p a op b) : a = b := by
  obtain ⟨s, hs, rfl, _, rfl⟩ := h
  refine idxL_congr fun v hv => ?_
  have heff : ∀ e ∈ (opT t op).effs, EffOk t.vars e := (hg.op op ho).mem
  rw [show sg (succT t s op) v = sg (effsP p s (opT t op).effs) v from (effsP_eq hs.1 hp.mem heff v hv).symm, effsP_none]
  exact fun e he hm => hn ⟨e, he, hm⟩
theorem affK_app (t : TTask) (L : List Int) (k : Nat) : ∀ m, ∃ r, affK t L (k + m) = affK t L k ++ r
  | 0 => ⟨[], by simp⟩
  | m + 1 => by
    obtain ⟨r, hr⟩ := affK_app t L k m
    rw [← Nat.add_assoc, affK_succ, hr]
    split
    · exact ⟨r ++ [((k + m : Nat) : Int)], by simp⟩
    · exact ⟨r, rfl⟩
theorem affK_at {t : TTask} {L : List Int} {k m : Nat} (hk : k < m) (h : AffOf t L k) : (affK t L k).length < (affK t L m).length ∧ (affK t L m).getD (affK t L k).length tInt.dflt = (k : Int) := by
  obtain ⟨r, hr⟩ := affK_app t L (k + 1) (m - (k + 1))
  rw [show k + 1 + (m - (k + 1)) = m by omega, affK_succ, if_pos h] at hr
  rw [hr]
  constructor
  · simp
  · simp [List.getD]
/-- Which of the first k operators affect the pattern. -/
def affB (t : TTask) (L : List Int) (k : Nat) : List Bool := (List.range t.ops.length).map fun i => decide (i < k ∧ AffOf t L i)
theorem affB_len (t : TTask) (L : List Int) (k : Nat) : (affB t L k).length = t.ops.length := by simp [affB]
theorem affB_at {t : TTask} {L : List Int} {k i : Nat} (h : i < t.ops.length) : (affB t L k).getD i tBool.dflt = decide (i < k ∧ AffOf t L i) := by simp [affB, List.getD, h]
theorem affB_zero (t : TTask) (L : List Int) : affB t L 0 = List.replicate t.ops.length false := by
  apply List.ext_getElem (by simp [affB])
  intro i h1 h2; simp [affB]
theorem affB_set0 {t : TTask} {L : List Int} {k : Nat} : (affB t L k).set k false = affB t L k := by
  apply List.ext_getElem (by simp [affB])
  intro i h1 h2
  rw [List.getElem_set]
  split
  · rename_i e; subst e; simp [affB]
  · rfl
theorem affB_set {t : TTask} {L : List Int} {k : Nat} {b : Bool} (hb : b = true ↔ AffOf t L k) : (affB t L k).set k b = affB t L (k + 1) := by
  apply List.ext_getElem (by simp [affB])
  intro i h1 h2
  rw [List.getElem_set]
  simp only [affB, List.getElem_map, List.getElem_range]
  split
  · rename_i e; subst e
    rw [Bool.eq_iff_iff, hb, decide_eq_true_eq]
    exact ⟨fun h => ⟨Nat.lt_succ_self _, h⟩, fun h => h.2⟩
  · rename_i e
    rw [decide_eq_decide]
    exact ⟨fun h => ⟨by omega, h.2⟩, fun h => ⟨by omega, h.2⟩⟩
theorem sysE_ok (t : TTask) (L : List Int) : sysE t L 0 = sysOk t L := if_pos rfl
theorem sysV_ok (t : TTask) (L : List Int) (cv ev gv : Value) : sysV (sysOk t L) cv ev gv = .agg #[.int .i64 (cntL t.vars L), .int .i64 (idxL t.vars L t.init), cv, ev, gv] := rfl
end Go.Proofs.YtemnlcnjpjdoaaaGreatDoor

/-
  Projections of projections, in plain Lean.
-/
namespace Go.Proofs.YtemnlcnjpjdoaaaGreatDoor
open Go.Sl Go

theorem bitB_nat (N : Nat) (v : Int) : bitB (N : Int) v = N.testBit v.toNat := by
  unfold bitB
  rw [Nat.testBit_eq_decide_div_mod_eq, decide_eq_decide]
  have h1 : ((N : Int) / 2 ^ v.toNat) = ((N / 2 ^ v.toNat : Nat) : Int) := by
    rw [Int.natCast_ediv, Int.natCast_pow]; rfl
  rw [h1, Int.tmod_eq_emod_of_nonneg (Int.natCast_nonneg _)]
  omega
theorem chosen_and {N X n : Nat} : ∀ v ∈ chosenK ((N &&& X : Nat) : Int) n, v ∈ chosenK (N : Int) n := by
  intro v hv
  obtain ⟨h1, h2⟩ := List.mem_filter.1 hv
  refine List.mem_filter.2 ⟨h1, ?_⟩
  rw [bitB_nat, Nat.testBit_and, Bool.and_eq_true] at h2
  rw [bitB_nat]; exact h2.1
theorem chosen_or {N X n : Nat} : ∀ v ∈ chosenK (N : Int) n, v ∈ chosenK ((N ||| X : Nat) : Int) n := by
  intro v hv
  obtain ⟨h1, h2⟩ := List.mem_filter.1 hv
  refine List.mem_filter.2 ⟨h1, ?_⟩
  rw [bitB_nat] at h2
  rw [bitB_nat, Nat.testBit_or, Bool.or_eq_true]; exact .inl h2

def toF (t : TTask) (p q : List Int) (a : Int) : Int := idxL t.vars q (st1 t p a)
def imgE (t : TTask) (p q : List Int) (e : Edg) : Edg := ⟨toF t p q e.src, e.lab, toF t p q e.dst⟩
section
variable {t : TTask} {p q : List Int}
theorem toF_idx (hg : GoodT t) (hp : InV t.vars p) (hq : ∀ v ∈ q, v ∈ p) {s : List Int} (hs : StateOk t.vars s) : toF t p q (idxL t.vars p s) = idxL t.vars q s := by
  have hb := idxL_bound hs hp.mem
  have := st1_p hg hp hb.1 hb.2 hs rfl
  exact idxL_congr fun v hv => (this v (hq v hv)).symm
theorem img_mem (hg : GoodT t) (hp : InV t.vars p) (hq2 : InV t.vars q) (hq : ∀ v ∈ q, v ∈ p) {e : Edg} (he : e ∈ pEdges t p) : imgE t p q e ∈ pEdges t q := by
  obtain ⟨a, op, b, ha, ho, hb, ⟨s, hs, rfl, happ, rfl⟩, rfl⟩ := mem_pEdges.1 he
  have hs2 := succT_ok hg hs ho
  refine mem_pEdges.2 ⟨_, op, _, idxL_bound hs hq2.mem, ho, idxL_bound hs2 hq2.mem, ⟨s, hs, rfl, happ, rfl⟩, ?_⟩
  simp only [imgE, toF_idx hg hp hq hs, toF_idx hg hp hq hs2]
theorem img_surj (hg : GoodT t) (hp : InV t.vars p) (hq : ∀ v ∈ q, v ∈ p) {e : Edg} (he : e ∈ pEdges t q) : ∃ e' ∈ pEdges t p, imgE t p q e' = e := by
  obtain ⟨a, op, b, ha, ho, hb, ⟨s, hs, rfl, happ, rfl⟩, rfl⟩ := mem_pEdges.1 he
  have hs2 := succT_ok hg hs ho
  refine ⟨_, mem_pEdges.2 ⟨_, op, _, idxL_bound hs hp.mem, ho, idxL_bound hs2 hp.mem, ⟨s, hs, rfl, happ, rfl⟩, rfl⟩, ?_⟩
  simp only [imgE, toF_idx hg hp hq hs, toF_idx hg hp hq hs2]
end
theorem edgB_nodup (a : Int) (op : Nat) {l : List Int} (h : l.Nodup) : (edgB a op l).Nodup := by
  unfold edgB
  refine List.Pairwise.map _ (R := (· ≠ ·)) (fun x y hxy e => hxy ?_) h
  cases e; rfl
theorem edgO_nodup (t : TTask) (p : List Int) (a : Int) : ∀ j, (edgO t p a j).Nodup ∧ ∀ e ∈ edgO t p a j, e.src = a ∧ e.lab < j
  | 0 => by simp [edgO]
  | j + 1 => by
    obtain ⟨h1, h2⟩ := edgO_nodup t p a j
    rw [edgO_succ]
    have h3 : ∀ e ∈ edgB a j (tgtL t p a j), e.src = a ∧ e.lab = j := fun e he => by
      obtain ⟨b, _, rfl⟩ := List.mem_map.1 he; exact ⟨rfl, rfl⟩
    refine ⟨List.nodup_append.2 ⟨h1, edgB_nodup _ _ ((pickL_asc _ _).imp fun h e => by omega), fun x hx y hy e => ?_⟩, fun e he => ?_⟩
    · subst e; have := (h2 x hx).2; have := (h3 x hy).2; omega
    · rcases List.mem_append.1 he with h | h
      · have := h2 e h; exact ⟨this.1, by omega⟩
      · have := h3 e h; exact ⟨this.1, by omega⟩
theorem edgA_nodup (t : TTask) (p : List Int) : ∀ k, (edgA t p k).Nodup ∧ ∀ e ∈ edgA t p k, e.src < k
  | 0 => by simp [edgA]
  | k + 1 => by
    obtain ⟨h1, h2⟩ := edgA_nodup t p k
    obtain ⟨h3, h4⟩ := edgO_nodup t p (k : Int) t.ops.length
    rw [edgA_succ]
    refine ⟨List.nodup_append.2 ⟨h1, h3, fun x hx y hy e => ?_⟩, fun e he => ?_⟩
    · subst e; have := h2 x hx; have := (h4 x hy).1; omega
    · rcases List.mem_append.1 he with h | h
      · have := h2 e h; omega
      · have := (h4 e h).1; omega
theorem pEdges_nodup (t : TTask) (p : List Int) : (pEdges t p).Nodup := (edgA_nodup t p _).1
theorem same_len {α : Type} [DecidableEq α] {l m : List α} (hl : l.Nodup) (hm : m.Nodup) (h : ∀ x, x ∈ l ↔ x ∈ m) : l.length = m.length :=
  Nat.le_antisymm (nodup_len_le hl fun x hx => (h x).1 hx) (nodup_len_le hm fun x hx => (h x).2 hx)
/-- The table from wide to narrow numbers, after the first k states. -/
def HitK (t : TTask) (p : List Int) (k a : Nat) : Prop := ∃ i, i < k ∧ idxL t.vars p ((statesL t.vars).getD i []) = (a : Int)
noncomputable def hitF (t : TTask) (p q : List Int) (k a : Nat) : Int := @ite _ (HitK t p k a) (Classical.propDecidable _) (toF t p q a) 0
theorem hit_pos {t : TTask} {p q : List Int} {k a : Nat} (h : HitK t p k a) : hitF t p q k a = toF t p q a := if_pos h
theorem hit_neg {t : TTask} {p q : List Int} {k a : Nat} (h : ¬ HitK t p k a) : hitF t p q k a = 0 := if_neg h
theorem getD_set_self {l : List Int} {i : Nat} {v : Int} (h : i < l.length) : (l.set i v).getD i tInt.dflt = v := by simp [List.getD, h]
theorem getD_set_ne {l : List Int} {i j : Nat} {v : Int} (h : i ≠ j) : (l.set i v).getD j tInt.dflt = l.getD j tInt.dflt := by
  simp only [List.getD_eq_getElem?_getD]
  rw [List.getElem?_set_ne h]
noncomputable def toK (t : TTask) (p q : List Int) (n k : Nat) : List Int := (List.range n).map (hitF t p q k)
theorem toK_len (t : TTask) (p q : List Int) (n k : Nat) : (toK t p q n k).length = n := by simp [toK]
theorem toK_at {t : TTask} {p q : List Int} {n k a : Nat} (ha : a < n) : (toK t p q n k).getD a tInt.dflt = hitF t p q k a := by simp [toK, List.getD, ha]
theorem toK_zero (t : TTask) (p q : List Int) (n : Nat) : toK t p q n 0 = List.replicate n 0 := by
  refine list_eq_of (by simp [toK]) fun i hi => ?_
  rw [toK_len] at hi
  rw [toK_at hi, hit_neg (fun ⟨j, hj, _⟩ => Nat.not_lt_zero _ hj)]
  simp [List.getD, hi]
theorem toK_set {t : TTask} {p q : List Int} {n k : Nat} (hg : GoodT t) (hp : InV t.vars p) (hq : ∀ v ∈ q, v ∈ p) (hs : StateOk t.vars ((statesL t.vars).getD k [])) (hn : (idxL t.vars p ((statesL t.vars).getD k [])).toNat < n) :
    (toK t p q n k).set (idxL t.vars p ((statesL t.vars).getD k [])).toNat (idxL t.vars q ((statesL t.vars).getD k [])) = toK t p q n (k + 1) := by
  have hb := (idxL_bound hs hp.mem).1
  refine list_eq_of (by simp [toK]) fun i hi => ?_
  rw [List.length_set, toK_len] at hi
  rw [toK_at hi]
  by_cases e : (idxL t.vars p ((statesL t.vars).getD k [])).toNat = i
  · subst e
    rw [hit_pos ⟨k, Nat.lt_succ_self k, by omega⟩, Int.toNat_of_nonneg hb, toF_idx hg hp hq hs, getD_set_self (by rw [toK_len]; exact hn)]
  · rw [getD_set_ne e, toK_at hi]
    by_cases hh : HitK t p k i
    · rw [hit_pos hh, hit_pos (let ⟨j, hj, h2⟩ := hh; ⟨j, by omega, h2⟩)]
    · rw [hit_neg hh, hit_neg]
      rintro ⟨j, hj, h2⟩
      by_cases ej : j = k
      · subst ej; omega
      · exact hh ⟨j, by omega, h2⟩
theorem toK_end {t : TTask} {p q : List Int} {a : Int} (hg : GoodT t) (hp : InV t.vars p) (h0 : 0 ≤ a) (h1 : a < cntL t.vars p) : (toK t p q (cntL t.vars p).toNat (statesL t.vars).length).getD a.toNat tInt.dflt = toF t p q a := by
  obtain ⟨hs, hi⟩ := st1_ok hg hp h0 h1
  obtain ⟨r1, r2⟩ := statesL_of hg.pos hs
  rw [toK_at (by omega), hit_pos ⟨_, r1, by rw [r2, hi]; omega⟩, Int.toNat_of_nonneg h0]
end Go.Proofs.YtemnlcnjpjdoaaaGreatDoor
