
/-
  The example with which each statement begins: 'example' and 'awake'.
-/
import Derived.Test.YtnoiagnmbipppaaWProject
import Derived.Test.YtnoiagnmbipppaaMSlB
set_option linter.unusedSimpArgs false
set_option linter.unusedVariables false
namespace Go.Proofs.Ytnoiagnmbipppaa
open Go.Sl Go
attribute [local irreducible] vc opsW opsD opV opW PureV ReadV Thn Blk

instance : EqIntsT Try.prog 70 3 := ⟨by kernel_rfl⟩
def exT : TTask := ⟨[2, 3], [0, 0], [], [⟨ByteArray.empty, 0, [], [⟨[], 0, 1⟩, ⟨[⟨0, 1⟩], 1, 2⟩]⟩]⟩
/-! ### The systems of the example -/
def tgtC (t : TTask) (p : List Int) (a : Int) (op : Nat) : List Int := (upTo (cntL t.vars p)).filter fun b => (statesL t.vars).any fun s => decide (idxL t.vars p s = a) && decide (AppT t s op) && decide (idxL t.vars p (succT t s op) = b)
theorem tgtL_calc (t : TTask) (p : List Int) (a : Int) (op : Nat) : tgtL t p a op = tgtC t p a op := by
  unfold tgtL pickL tgtC
  apply List.filter_congr
  intro b _
  refine Bool.eq_iff_iff.2 ?_
  rw [List.any_eq_true]
  constructor
  · intro h
    obtain ⟨s, hs, h1, h2, h3⟩ := @of_decide_eq_true _ (Classical.propDecidable _) h
    exact ⟨s, mem_statesL.2 hs, by simp [h1, h2, h3]⟩
  · rintro ⟨s, hs, h⟩
    simp only [Bool.and_eq_true, decide_eq_true_eq] at h
    exact @decide_eq_true _ (Classical.propDecidable _) ⟨s, mem_statesL.1 hs, h.1.1, h.1.2, h.2⟩
def edgesC (t : TTask) (p : List Int) : List Edg := (List.range (cntL t.vars p).toNat).flatMap fun (a : Nat) => (List.range t.ops.length).flatMap fun op => edgB (a : Int) op (tgtC t p (a : Int) op)
theorem pEdges_calc (t : TTask) (p : List Int) : pEdges t p = edgesC t p := by
  unfold pEdges edgA edgO edgesC
  simp only [tgtL_calc]
theorem cnt_take {vars : List Int} (hd : ∀ x ∈ vars, 1 ≤ x) : ∀ (m : Nat) (q : List Int), m ≤ vars.length → InV vars q → (∀ v ∈ q, v < m) → cntL vars q ≤ prodL (vars.take m)
  | 0, q, _, hq, hm => by
    cases q with
    | nil => simp [cntL, valsL, prodL]
    | cons v q => have := hm v (by simp); have := (hq.mem v (by simp)).1; omega
  | m + 1, q, hl, hq, hm => by
    have hml : m < vars.length := by omega
    have hx : 1 ≤ vars.getD m tInt.dflt := hd _ (mem_getD _ hml)
    have hp : 1 ≤ prodL (vars.take m) := prodL_pos fun x hx => hd x (List.mem_of_mem_take hx)
    rw [take_snoc tInt.dflt hml, prodL_snoc]
    rcases List.eq_nil_or_concat q with rfl | ⟨l, v, rfl⟩
    · have : cntL vars [] = 1 := rfl
      have := Int.mul_le_mul hp hx (by omega) (by omega)
      omega
    · simp only [List.concat_eq_append] at hq hm ⊢
      obtain ⟨hl', ⟨hv0, hv1⟩, hvl⟩ := hq.init
      have hlt : ∀ u ∈ l, u < v := fun u hu => (List.pairwise_append.1 hq.asc).2.2 u hu v (by simp)
      have hvm := hm v (by simp)
      by_cases e : v = m
      · subst e
        have ih := cnt_take hd m l (by omega) hl' fun u hu => hlt u hu
        rw [cntL_snoc, sg_of]
        exact Int.mul_le_mul_of_nonneg_right ih (by omega)
      · have ih := cnt_take hd m (l ++ [v]) (by omega) hq fun u hu => by
          rcases List.mem_append.1 hu with h | h
          · have := hlt u h; omega
          · rw [List.mem_singleton.1 h]; omega
        have h2 : prodL (vars.take m) * 1 ≤ prodL (vars.take m) * vars.getD m tInt.dflt := Int.mul_le_mul_of_nonneg_left hx (by omega)
        omega
theorem cntL_le {vars q : List Int} (hd : ∀ x ∈ vars, 1 ≤ x) (hq : InV vars q) : cntL vars q ≤ prodL vars := by
  have := cnt_take hd vars.length q (Nat.le_refl _) hq fun v hv => (hq.mem v hv).2
  rwa [List.take_length] at this
theorem noBig {t : TTask} {p : List Int} (hd : ∀ x ∈ t.vars, 1 ≤ x) (h : prodL t.vars ≤ 4096) : ¬ BigFree t p := fun ⟨op, _, h2⟩ => by
  have := cntL_le hd (freeL_inV t.vars (opT t op) p)
  unfold frL at h2
  omega
instance (vars s : List Int) : Decidable (StateOk vars s) := by unfold StateOk; infer_instance
instance (vars : List Int) (x : Fact) : Decidable (FactOk vars x) := by unfold FactOk; infer_instance
instance (vars : List Int) (f : List Fact) : Decidable (FactsOk vars f) := by unfold FactsOk; infer_instance
theorem exGood : GoodT exT := by
  refine ⟨by decide, by decide, by decide, by decide, by decide, fun i hi => ?_⟩
  have h0 : i = 0 := by simp [exT] at hi; exact hi
  subst h0
  refine ⟨by decide, by decide, by decide, ⟨Nat.le_of_ble_eq_true rfl, fun i hi => absurd hi (Nat.not_lt_zero _)⟩, by decide, fun j hj => ?_⟩
  have h1 : j = 0 ∨ j = 1 := by simp [exT] at hj; omega
  rcases h1 with rfl | rfl
  · exact ⟨by decide, by decide⟩
  · exact ⟨by decide, by decide⟩
theorem exE1 : edgesC exT [1] = [⟨0, 0, 0⟩, ⟨0, 0, 2⟩, ⟨1, 0, 1⟩, ⟨1, 0, 2⟩, ⟨2, 0, 2⟩] := by decide +kernel
theorem exE0 : (edgesC exT [0]).length = 2 := by decide +kernel
theorem exP1 : pErr exT [1] = 0 := by
  rw [pErr_ok (chkP_zero.2 ⟨exGood, by decide⟩), pErr0, if_neg (by decide +kernel), if_neg (noBig exGood.pos (by decide +kernel)), if_neg (by rw [pEdges_calc, exE1]; decide)]
theorem exP0 : pErr exT [0] = 0 := by
  rw [pErr_ok (chkP_zero.2 ⟨exGood, by decide⟩), pErr0, if_neg (by decide +kernel), if_neg (noBig exGood.pos (by decide +kernel)), if_neg (by rw [pEdges_calc, exE0]; decide)]

theorem ex1V (cv ev gv : Value) : sysV (sysE exT [1] 0) cv ev gv = .agg #[.int .i64 3, .int .i64 0, cv, ev, gv] := by
  rw [sysE, if_pos rfl]; rfl
theorem ex0V (cv ev gv : Value) : sysV (sysE exT [0] 0) cv ev gv = .agg #[.int .i64 2, .int .i64 0, cv, ev, gv] := by
  rw [sysE, if_pos rfl]; rfl
theorem ex1E : (sysE exT [1] 0).edges = [⟨0, 0, 0⟩, ⟨0, 0, 2⟩, ⟨1, 0, 1⟩, ⟨1, 0, 2⟩, ⟨2, 0, 2⟩] := by
  rw [sysE, if_pos rfl, show (sysOk exT [1]).edges = pEdges exT [1] from rfl, pEdges_calc, exE1]
theorem ex0E : (sysE exT [0] 0).edges.length = 2 := by
  rw [sysE, if_pos rfl, show (sysOk exT [0]).edges = pEdges exT [0] from rfl, pEdges_calc, exE0]
end Go.Proofs.Ytnoiagnmbipppaa
