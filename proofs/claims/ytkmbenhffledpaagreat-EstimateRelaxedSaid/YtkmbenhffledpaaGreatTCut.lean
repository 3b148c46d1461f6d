
/-
  LM-cut, in plain Lean: the zones of the justification graph, cuts, and that each plan uses an operator of a cut.
-/
import Derived.Test.YtkmbenhffledpaaGreatTAstH
set_option linter.unusedSimpArgs false
set_option linter.unusedVariables false
namespace Go.Proofs.YtkmbenhffledpaaGreat
open Go.Sl
/-- The fact of a list with the greatest value; of several ones the least. -/
def GrtF (V l : List Int) (f : Int) : Prop := f ∈ l ∧ ∀ g ∈ l, dg V g < dg V f ∨ (dg V g = dg V f ∧ f ≤ g)
theorem grt_uniq {V l : List Int} {f f' : Int} (h : GrtF V l f) (h' : GrtF V l f') : f = f' := by
  rcases h.2 f' h'.1 with a | a <;> rcases h'.2 f h.1 with b | b <;> omega
theorem grt_ex {V : List Int} : ∀ {l : List Int}, l ≠ [] → ∃ f, GrtF V l f
  | [], h => absurd rfl h
  | [x], _ => ⟨x, List.mem_cons_self, fun g hg => by rw [List.mem_singleton.1 hg]; exact .inr ⟨rfl, Int.le_refl _⟩⟩
  | x :: y :: l, _ => by
    obtain ⟨f, h1, h2⟩ := grt_ex (V := V) (l := y :: l) (by simp)
    by_cases hx : dg V f < dg V x ∨ (dg V f = dg V x ∧ x ≤ f)
    · refine ⟨x, List.mem_cons_self, fun g hg => ?_⟩
      rcases List.mem_cons.1 hg with e | hg
      · rw [e]; exact .inr ⟨rfl, Int.le_refl _⟩
      · rcases h2 g hg with h3 | h3 <;> omega
    · refine ⟨f, List.mem_cons_of_mem _ h1, fun g hg => ?_⟩
      rcases List.mem_cons.1 hg with e | hg
      · rw [e]; omega
      · exact h2 g hg
theorem GrtF.ge {V l : List Int} {f g : Int} (h : GrtF V l f) (hg : g ∈ l) : dg V g ≤ dg V f := by
  rcases h.2 g hg with a | a <;> omega
def FinN (V l : List Int) : Prop := ∀ g ∈ l, dg V g < inf
/-- The goal zone. -/
inductive ZT (t : TTask) (V : List Int) (g0 : Int) : Int → Prop
  | goal : ZT t V g0 g0
  | step {u : Un} {f : Int} : u ∈ unT t → FinN V u.needs → GrtF V u.needs f → u.cost = 0 → ZT t V g0 u.makes → ZT t V g0 f
/-- The start zone. -/
inductive ZS (t : TTask) (s V : List Int) (g0 : Int) : Int → Prop
  | st {f : Int} : StF t.vars s f → ZS t s V g0 f
  | start {u : Un} : u ∈ unT t → u.needs = [] → ¬ ZT t V g0 u.makes → ZS t s V g0 u.makes
  | step {u : Un} {f : Int} : u ∈ unT t → FinN V u.needs → GrtF V u.needs f → ZS t s V g0 f → ¬ ZT t V g0 u.makes → ZS t s V g0 u.makes
/-- An arc from the start zone into the goal zone. -/
def CrsU (t : TTask) (s V : List Int) (g0 : Int) (u : Un) : Prop := FinN V u.needs ∧ (u.needs = [] ∨ ∃ f, GrtF V u.needs f ∧ ZS t s V g0 f) ∧ ZT t V g0 u.makes
def InCut (t : TTask) (s V : List Int) (g0 : Int) (i : Nat) : Prop := ∃ u ∈ unT t, u.op = (i : Int) ∧ CrsU t s V g0 u
def goalN (t : TTask) : List Int := t.goal.map (numF t.vars)
structure CutX (t : TTask) (s V : List Int) (g0 : Int) : Prop where
  hg : GoodT t
  hs : StateOk t.vars s
  hm : IsHM t s V
  g : GrtF V (goalN t) g0
  pos : 0 < dg V g0
  fin : dg V g0 < inf
theorem un_of {t : TTask} {u : Un} (h : u ∈ unT t) : ∃ i : Nat, i < (unT t).length ∧ un (unT t) i = u := by
  obtain ⟨i, hi, he⟩ := List.getElem_of_mem h
  exact ⟨i, hi, by unfold un; rw [Int.toNat_natCast, getD_at hi]; exact he⟩
theorem stF_rng {t : TTask} {s : List Int} (hg : GoodT t) (hs : StateOk t.vars s) {f : Int} (h : StF t.vars s f) : 0 ≤ f ∧ f < factN t := by
  obtain ⟨v, hv, rfl⟩ := h
  have hsl := hs.1
  have hs0 := hs.2 v (by omega)
  have hb := numF_bd hg.pos hv hs0.1 hs0.2
  have := factN_eq hg
  omega
section
variable {t : TTask} {s V : List Int} {g0 : Int}
theorem CutX.small (c : CutX t s V g0) {f : Int} (h0 : 0 ≤ f) (h1 : f < factN t) (hlt : dg V f < inf) : dg V f ≤ 4294967296 := by
  have hc := cnt_le V (factN t) (dg V f)
  have hNl := factN_le c.hg
  have := hm_small c.hg c.hs c.hm (factN t) f h0 h1 hlt hc
  omega
theorem CutX.fire (c : CutX t s V g0) {u : Un} (hu : u ∈ unT t) (hf : FinN V u.needs) {m : Int} (hm : 0 ≤ m) (hle : ∀ n ∈ u.needs, dg V n ≤ m) : 0 ≤ u.makes ∧ u.makes < factN t ∧ dg V u.makes ≤ u.cost + m := by
  obtain ⟨i, hi, rfl⟩ := un_of hu
  have hU := unT_ok c.hg
  have hk := hU.makes i hi
  refine ⟨hk.1, hk.2, c.hm.low _ _ (.fire (v := fun n => dg V n) hi hm (fun n hn => ?_) hle) hk.1 hk.2⟩
  have hr := hU.needs i hi n hn
  exact c.hm.der n hr.1 hr.2 (hf n hn)
theorem CutX.need (c : CutX t s V g0) {u : Un} (hu : u ∈ unT t) {n : Int} (hn : n ∈ u.needs) : (0 ≤ n ∧ n < factN t) ∧ 0 ≤ dg V n := by
  obtain ⟨i, hi, rfl⟩ := un_of hu
  have hr := (unT_ok c.hg).needs i hi n hn
  exact ⟨hr, (c.hm.rng n hr.1 hr.2).1⟩
theorem CutX.cost (c : CutX t s V g0) {u : Un} (hu : u ∈ unT t) : 0 ≤ u.cost ∧ u.cost ≤ 1048576 := by
  obtain ⟨i, hi, rfl⟩ := un_of hu
  exact (unT_ok c.hg).cost i hi
/-- The facts of the goal zone are at least as dear as the goal. -/
theorem CutX.zt_ge (c : CutX t s V g0) {f : Int} (h : ZT t V g0 f) : dg V g0 ≤ dg V f := by
  induction h with
  | goal => exact Int.le_refl _
  | @step u f hu hf hgr hc _ ih =>
    have hn := c.need hu hgr.1
    have := (c.fire hu hf (m := dg V f) hn.2 fun n hn => hgr.ge hn).2.2
    omega
theorem CutX.st_zero (c : CutX t s V g0) {f : Int} (h : StF t.vars s f) : dg V f ≤ 0 := by
  have hr := stF_rng c.hg c.hs h
  exact c.hm.low f 0 (.start h) hr.1 hr.2
theorem CutX.disj (c : CutX t s V g0) {f : Int} (h : ZS t s V g0 f) : ¬ ZT t V g0 f := by
  cases h with
  | st h => intro hz; have h1 := c.zt_ge hz; have h2 := c.st_zero h; have := c.pos; omega
  | start _ _ h => exact h
  | step _ _ _ _ h => exact h
theorem CutX.zs_fin (c : CutX t s V g0) {f : Int} (h : ZS t s V g0 f) : (0 ≤ f ∧ f < factN t) ∧ dg V f < inf := by
  have e : inf = 1125899906842624 := rfl
  cases h with
  | st h => exact ⟨stF_rng c.hg c.hs h, by have := c.st_zero h; omega⟩
  | @start u hu hn _ =>
    have h1 := c.fire hu (fun n h => by rw [hn] at h; exact absurd h List.not_mem_nil) (Int.le_refl 0) (fun n h => by rw [hn] at h; exact absurd h List.not_mem_nil)
    have h2 := c.cost hu
    exact ⟨⟨h1.1, h1.2.1⟩, by omega⟩
  | @step u g hu hf hgr _ _ =>
    have hn := c.need hu hgr.1
    have h1 := c.fire hu hf (m := dg V g) hn.2 fun n hn => hgr.ge hn
    have h2 := c.cost hu
    have h3 := c.small hn.1.1 hn.1.2 (hf g hgr.1)
    exact ⟨⟨h1.1, h1.2.1⟩, by omega⟩
/-- The operators of a cut cost something. -/
theorem CutX.crs_pos (c : CutX t s V g0) {u : Un} (hu : u ∈ unT t) (h : CrsU t s V g0 u) : 0 < u.cost := by
  obtain ⟨hf, hsrc, hz⟩ := h
  have h2 := c.cost hu
  refine Int.not_le.1 fun h0 => ?_
  have hc0 : u.cost = 0 := by omega
  rcases hsrc with hn | ⟨f, hgr, hzs⟩
  · have h1 := c.fire hu hf (Int.le_refl 0) (fun n h => by rw [hn] at h; exact absurd h List.not_mem_nil)
    have h3 := c.zt_ge hz
    have := c.pos
    omega
  · exact c.disj hzs (.step hu hf hgr hc0 hz)
/-- A cut is not empty. -/
theorem CutX.some (c : CutX t s V g0) : ∃ u ∈ unT t, CrsU t s V g0 u := by
  refine Classical.byContradiction fun hno => ?_
  have hno' : ∀ u ∈ unT t, ¬ CrsU t s V g0 u := fun u hu h => hno ⟨u, hu, h⟩
  have key : ∀ {f v : Int}, Der (unT t) (StF t.vars s) f v → ZS t s V g0 f := by
    intro f v hd
    induction hd with
    | start h => exact .st h
    | @fire i vv m hi hm hn hle ih =>
      have hu : un (unT t) i ∈ unT t := un_mem hi
      have hfin : FinN V (un (unT t) i).needs := fun n hn' => (c.zs_fin (ih n hn')).2
      by_cases hnil : (un (unT t) i).needs = []
      · by_cases hz : ZT t V g0 (un (unT t) i).makes
        · exact absurd ⟨hfin, .inl hnil, hz⟩ (hno' _ hu)
        · exact .start hu hnil hz
      · obtain ⟨f, hgr⟩ := grt_ex (V := V) hnil
        have hzf := ih f hgr.1
        by_cases hz : ZT t V g0 (un (unT t) i).makes
        · exact absurd ⟨hfin, .inr ⟨f, hgr, hzf⟩, hz⟩ (hno' _ hu)
        · exact .step hu hfin hgr hzf hz
  obtain ⟨f, hf, he⟩ := List.mem_map.1 c.g.1
  obtain ⟨i, hi, e2⟩ := List.getElem_of_mem hf
  have hok := (c.hg.goal i hi).1
  rw [getD_at hi, e2] at hok
  have hr := numF_rng c.hg.pos hok
  have hN := factN_eq c.hg
  rw [he] at hr
  exact c.disj (key (c.hm.der g0 hr.1 (by omega) c.fin)) .goal
/-- Each plan uses an operator of a cut. -/
theorem CutX.plan (c : CutX t s V g0) {y p : List Int} {k : Int} (hp : Pln t y p k) : StateOk t.vars y → (∀ f, StF t.vars y f → ZS t s V g0 f) → ∃ op : Nat, (op : Int) ∈ p ∧ op < t.ops.length ∧ InCut t s V g0 op := by
  induction hp with
  | @goal y hh =>
    intro hy hz
    obtain ⟨f, hf, he⟩ := List.mem_map.1 c.g.1
    have h1 := hz _ (holdF_stF hy (holds_mem hh hf))
    rw [he] at h1
    exact absurd .goal (c.disj h1)
  | @step y op p k ho ha _ ih =>
    intro hy hz
    by_cases hcut : InCut t s V g0 op
    · exact ⟨op, List.mem_cons_self, ho, hcut⟩
    · have hoo := c.hg.op op ho
      obtain ⟨q, h1, h2, h3⟩ := ih (succT_ok c.hg hy ho) fun f hf => by
        obtain ⟨v, hv, rfl⟩ := hf
        have hvs : v < y.length := by rw [hy.1]; exact hv
        rcases effsL_from (s := y) (l := (t.ops.getD op dOp).effs) (fun e he => by have := effOk_range (hoo.mem e he); rw [hy.1]; exact ⟨this.1, this.2.1⟩) hvs with e | ⟨k, hk, e1, e2, e3⟩
        · exact hz _ ⟨v, hv, by rw [← e]; rfl⟩
        · obtain ⟨i, hi, hun⟩ := unT_at ho hk
          have hu : un (unT t) i ∈ unT t := un_mem hi
          have hmk : (un (unT t) i).makes = firstV t.vars v + (succT t y op).getD v tInt.dflt := by
            rw [hun]
            show firstV t.vars ((t.ops.getD op dOp).effs.getD k dEff).var.toNat + ((t.ops.getD op dOp).effs.getD k dEff).val = _
            rw [e1, e2, Int.toNat_natCast]; rfl
          have hop : (un (unT t) i).op = (op : Int) := by rw [hun]; rfl
          have hns : ∀ n ∈ (un (unT t) i).needs, ZS t s V g0 n := fun n hn => by
            refine hz n ?_
            rw [hun] at hn
            rcases mem_needsL.1 hn with hn | ⟨f, hf, rfl⟩
            · rcases mem_needsL.1 hn with hn | ⟨f, hf, rfl⟩
              · simp at hn
              · exact holdF_stF hy (holds_mem ha hf)
            · exact holdF_stF hy (holds_mem e3 hf)
          have hfin : FinN V (un (unT t) i).needs := fun n hn => (c.zs_fin (hns n hn)).2
          rw [← hmk]
          by_cases hnil : (un (unT t) i).needs = []
          · by_cases hzt : ZT t V g0 (un (unT t) i).makes
            · exact absurd ⟨_, hu, hop, hfin, .inl hnil, hzt⟩ hcut
            · exact .start hu hnil hzt
          · obtain ⟨f, hgr⟩ := grt_ex (V := V) hnil
            by_cases hzt : ZT t V g0 (un (unT t) i).makes
            · exact absurd ⟨_, hu, hop, hfin, .inr ⟨f, hgr, hns f hgr.1⟩, hzt⟩ hcut
            · exact .step hu hfin hgr (hns f hgr.1) hzt
      exact ⟨q, List.mem_cons_of_mem _ h1, h2, h3⟩
end
end Go.Proofs.YtkmbenhffledpaaGreat
