
/-
  Plain facts for the statement 'ProjectAffects', and two steps for reads that are looked at again under a guard.
-/
import Derived.Test.YtnoiagnmbipppaaTSmall
set_option linter.unusedSimpArgs false
set_option linter.unusedVariables false
namespace Go.Proofs.Ytnoiagnmbipppaa
open Go.Sl Go

theorem chk_off {P : Program} {K : Fr → World → Prop} {ρ : Fr} {w : World} {l : List Oper} {i : Nat} {is : List Sl.Item} {d : Nat} {op : Op} {ty : TypeId} {pos : String} {af : Array Edge} {j : Nat} {want : Bool} {s : Nat}
    (ho : l[i]? = some ⟨some d, op, ty, pos, af, some (j, want)⟩) (hj : gslot l.toArray j = some s) (hg : asks (ρ s) want = false) (h : opsD P l.toArray K is ρ w) : opsD P l.toArray K (.chk i :: is) ρ w := by
  refine opsD_gchk (v := .bool false) ho (fun hq => ?_) h
  simp only [guardB, hj] at hq
  rw [hg] at hq
  cases hq
theorem effsP_none {p s : List Int} {l : List Eff} : (∀ e ∈ l, e.var ∉ p) → effsP p s l = s := by
  refine snoc_ind (P := fun l => (∀ e ∈ l, e.var ∉ p) → effsP p s l = s) (fun _ => rfl) ?_ l
  intro l e ih h
  rw [effsP_snoc, if_neg (fun q => h e (by simp) q.1), ih fun x hx => h x (by simp [hx])]
theorem noaff {t : TTask} {p : List Int} {a b : Int} {op : Nat} (hg : GoodT t) (hp : InV t.vars p) (ho : op < t.ops.length) (hn : ¬ AffOf t p op) (h : TGp t p a op b) : a = b := by
  obtain ⟨s, hs, rfl, _, rfl⟩ := h
  refine idxL_congr fun v hv => ?_
  have heff : ∀ e ∈ (opT t op).effs, EffOk t.vars e := (hg.op op ho).mem
  rw [show sg (succT t s op) v = sg (effsP p s (opT t op).effs) v from (effsP_eq hs.1 hp.mem heff v hv).symm, effsP_none]
  exact fun e he hm => hn ⟨e, he, hm⟩
theorem affK_app (t : TTask) (L : List Int) (k : Nat) : ∀ m, ∃ r, affK t L (k + m) = affK t L k ++ r
  | 0 => ⟨[], by simp⟩
  | m + 1 => by
    obtain ⟨r, hr⟩ := affK_app t L k m
    rw [← Nat.add_assoc, affK_succ, hr]
    split
    · exact ⟨r ++ [((k + m : Nat) : Int)], by simp⟩
    · exact ⟨r, rfl⟩
theorem affK_at {t : TTask} {L : List Int} {k m : Nat} (hk : k < m) (h : AffOf t L k) : (affK t L k).length < (affK t L m).length ∧ (affK t L m).getD (affK t L k).length tInt.dflt = (k : Int) := by
  obtain ⟨r, hr⟩ := affK_app t L (k + 1) (m - (k + 1))
  rw [show k + 1 + (m - (k + 1)) = m by omega, affK_succ, if_pos h] at hr
  rw [hr]
  constructor
  · simp
  · simp [List.getD]
/-- Which of the first k operators affect the pattern. -/
def affB (t : TTask) (L : List Int) (k : Nat) : List Bool := (List.range t.ops.length).map fun i => decide (i < k ∧ AffOf t L i)
theorem affB_len (t : TTask) (L : List Int) (k : Nat) : (affB t L k).length = t.ops.length := by simp [affB]
theorem affB_at {t : TTask} {L : List Int} {k i : Nat} (h : i < t.ops.length) : (affB t L k).getD i tBool.dflt = decide (i < k ∧ AffOf t L i) := by simp [affB, List.getD, h]
theorem affB_zero (t : TTask) (L : List Int) : affB t L 0 = List.replicate t.ops.length false := by
  apply List.ext_getElem (by simp [affB])
  intro i h1 h2; simp [affB]
theorem affB_set0 {t : TTask} {L : List Int} {k : Nat} : (affB t L k).set k false = affB t L k := by
  apply List.ext_getElem (by simp [affB])
  intro i h1 h2
  rw [List.getElem_set]
  split
  · rename_i e; subst e; simp [affB]
  · rfl
theorem affB_set {t : TTask} {L : List Int} {k : Nat} {b : Bool} (hb : b = true ↔ AffOf t L k) : (affB t L k).set k b = affB t L (k + 1) := by
  apply List.ext_getElem (by simp [affB])
  intro i h1 h2
  rw [List.getElem_set]
  simp only [affB, List.getElem_map, List.getElem_range]
  split
  · rename_i e; subst e
    rw [Bool.eq_iff_iff, hb, decide_eq_true_eq]
    exact ⟨fun h => ⟨Nat.lt_succ_self _, h⟩, fun h => h.2⟩
  · rename_i e
    rw [decide_eq_decide]
    exact ⟨fun h => ⟨by omega, h.2⟩, fun h => ⟨by omega, h.2⟩⟩
theorem sysE_ok (t : TTask) (L : List Int) : sysE t L 0 = sysOk t L := if_pos rfl
theorem sysV_ok (t : TTask) (L : List Int) (cv ev gv : Value) : sysV (sysOk t L) cv ev gv = .agg #[.int .i64 (cntL t.vars L), .int .i64 (idxL t.vars L t.init), cv, ev, gv] := rfl
end Go.Proofs.Ytnoiagnmbipppaa
