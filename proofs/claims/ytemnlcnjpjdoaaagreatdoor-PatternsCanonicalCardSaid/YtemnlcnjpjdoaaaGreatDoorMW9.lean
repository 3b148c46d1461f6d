/-
  Several texts as one: TRun, WSatur, TSatLaw, TSat2.
-/
import Derived.Test.YtemnlcnjpjdoaaaGreatDoorMW8
import Derived.Test.YtemnlcnjpjdoaaaGreatDoorMSlB
set_option linter.unusedSimpArgs false
set_option linter.unusedVariables false

/-
  Saturated cost partitioning in plain Lean: tables and parts, one after the other.
-/
namespace Go.Proofs.YtemnlcnjpjdoaaaGreatDoor
open Go.Sl Go

def subL (a b : List Int) : List Int := (List.range a.length).map fun i => a.getD i tInt.dflt - b.getD i tInt.dflt
theorem subL_len (a b : List Int) : (subL a b).length = a.length := by simp [subL]
theorem subL_at {a b : List Int} {i : Nat} (h : i < a.length) : (subL a b).getD i tInt.dflt = a.getD i tInt.dflt - b.getD i tInt.dflt := by simp [subL, List.getD, h]
/-- What is left of the costs after k parts. -/
def leftK (c : List Int) (Ps : List (List Int)) (k : Nat) : List Int := (Ps.take k).foldl subL c
theorem leftK_zero (c : List Int) (Ps : List (List Int)) : leftK c Ps 0 = c := rfl
theorem leftK_succ {c : List Int} {Ps : List (List Int)} {k : Nat} (h : k < Ps.length) : leftK c Ps (k + 1) = subL (leftK c Ps k) (Ps.getD k []) := by
  unfold leftK; rw [take_snoc [] h, List.foldl_append]; rfl
theorem leftK_app {c : List Int} {Ps Qs : List (List Int)} {k : Nat} (h : k ≤ Ps.length) : leftK c (Ps ++ Qs) k = leftK c Ps k := by
  unfold leftK; rw [List.take_append_of_le_length h]
structure Run (t : TTask) (Ls : List (List Int)) (c : List Int) (Ds Ps : List (List Int)) : Prop where
  dl : Ds.length = Ls.length
  pl : Ps.length = Ls.length
  dist : ∀ k, k < Ls.length → DistOk (pEdges t (Ls.getD k [])) (leftK c Ps k) (GoalPK t (Ls.getD k [])) (cntL t.vars (Ls.getD k [])).toNat (Ds.getD k [])
  part : ∀ k, k < Ls.length → Ps.getD k [] = satL (pEdges t (Ls.getD k [])) (Ds.getD k []) t.ops.length
theorem getD_app_l {α : Type} {l m : List α} {i : Nat} {d : α} (h : i < l.length) : (l ++ m).getD i d = l.getD i d := by simp [List.getD_eq_getElem?_getD, List.getElem?_append_left h]
theorem getD_app_at {α : Type} {l : List α} {x : α} {i : Nat} {d : α} (h : i = l.length) : (l ++ [x]).getD i d = x := by subst h; simp [List.getD_eq_getElem?_getD]
theorem Run.nil (t : TTask) (c : List Int) : Run t [] c [] [] := ⟨rfl, rfl, fun k hk => absurd hk (Nat.not_lt_zero _), fun k hk => absurd hk (Nat.not_lt_zero _)⟩
theorem Run.snoc {t : TTask} {Ls : List (List Int)} {c : List Int} {Ds Ps : List (List Int)} {L D : List Int} (h : Run t Ls c Ds Ps) (hD : DistOk (pEdges t L) (leftK c Ps Ls.length) (GoalPK t L) (cntL t.vars L).toNat D) :
    Run t (Ls ++ [L]) c (Ds ++ [D]) (Ps ++ [satL (pEdges t L) D t.ops.length]) := by
  have hdl := h.dl
  have hpl := h.pl
  refine ⟨by simp [h.dl], by simp [h.pl], fun k hk => ?_, fun k hk => ?_⟩
  · simp only [List.length_append, List.length_cons, List.length_nil] at hk
    rw [leftK_app (by omega)]
    by_cases e : k < Ls.length
    · rw [getD_app_l e, getD_app_l (by omega)]; exact h.dist k e
    · have e2 : k = Ls.length := by omega
      rw [getD_app_at e2, getD_app_at (by omega), e2]; exact hD
  · simp only [List.length_append, List.length_cons, List.length_nil] at hk
    by_cases e : k < Ls.length
    · rw [getD_app_l e, getD_app_l (by omega), getD_app_l (by omega)]; exact h.part k e
    · have e2 : k = Ls.length := by omega
      rw [getD_app_at e2, getD_app_at (by omega), getD_app_at (by omega)]
/-- Costs that the operators may have. -/
structure CostOk (t : TTask) (c : List Int) : Prop where
  len : c.length = t.ops.length
  rng : ∀ x ∈ c, 0 ≤ x ∧ x ≤ 1048576
theorem CostOk.at {t : TTask} {c : List Int} (h : CostOk t c) {i : Nat} (hi : i < t.ops.length) : 0 ≤ c.getD i tInt.dflt ∧ c.getD i tInt.dflt ≤ 1048576 := h.rng _ (mem_getD tInt.dflt (by rw [h.len]; exact hi))
theorem CostOk.of {t : TTask} {c : List Int} (hl : c.length = t.ops.length) (h : ∀ i, i < t.ops.length → 0 ≤ c.getD i tInt.dflt ∧ c.getD i tInt.dflt ≤ 1048576) : CostOk t c :=
  ⟨hl, fun x hx => by obtain ⟨i, hi, rfl⟩ := List.getElem_of_mem hx; have := h i (by omega); rwa [getD_at hi] at this⟩
theorem CostOk.eok {t : TTask} {c L : List Int} (h : CostOk t c) : EOk (pEdges t L) c (cntL t.vars L).toNat := eok_U ⟨h.len, h.rng⟩
theorem costOk_T {t : TTask} (hg : GoodT t) : CostOk t (costsT t) := ⟨by simp [costsT], costs_ok hg⟩
/-- One step keeps the costs in order. -/
theorem CostOk.sub {t : TTask} {c L D : List Int} (h : CostOk t c) (hD : DistOk (pEdges t L) c (GoalPK t L) (cntL t.vars L).toNat D) : CostOk t (subL c (satL (pEdges t L) D t.ops.length)) ∧ ∀ i, i < t.ops.length → 0 ≤ (satL (pEdges t L) D t.ops.length).getD i tInt.dflt ∧ (satL (pEdges t L) D t.ops.length).getD i tInt.dflt ≤ c.getD i tInt.dflt := by
  have hE := h.eok (L := L)
  have hso : SatOk (pEdges t L) D c.length (satL (pEdges t L) D t.ops.length) := by rw [← h.len]; exact satL_ok hE.lab
  have hle := fun i (hi : i < t.ops.length) => hso.le hE hD (i := i) (by rw [h.len]; exact hi)
  refine ⟨.of (by rw [subL_len]; exact h.len) fun i hi => ?_, hle⟩
  rw [subL_at (by rw [h.len]; exact hi)]
  have h1 := hle i hi
  have h2 := h.at hi
  omega
theorem Run.cost {t : TTask} {Ls : List (List Int)} {c : List Int} {Ds Ps : List (List Int)} (h : Run t Ls c Ds Ps) (hc : CostOk t c) : ∀ k, k ≤ Ls.length → CostOk t (leftK c Ps k)
  | 0, _ => hc
  | k + 1, hk => by
    rw [leftK_succ (by rw [h.pl]; omega), h.part k (by omega)]
    exact ((h.cost hc k (by omega)).sub (h.dist k (by omega))).1
theorem Run.unique {t : TTask} {Ls : List (List Int)} {c : List Int} {Ds Ps Ds' Ps' : List (List Int)} (h : Run t Ls c Ds Ps) (h' : Run t Ls c Ds' Ps') : Ds = Ds' ∧ Ps = Ps' := by
  have key : ∀ k, k ≤ Ls.length → (∀ j, j < k → Ds.getD j [] = Ds'.getD j [] ∧ Ps.getD j [] = Ps'.getD j []) ∧ leftK c Ps k = leftK c Ps' k := by
    intro k
    induction k with
    | zero => intro _; exact ⟨fun j hj => absurd hj (Nat.not_lt_zero _), rfl⟩
    | succ k ih =>
      intro hk
      obtain ⟨i1, i2⟩ := ih (by omega)
      have d1 := h.dist k (by omega)
      have d2 := h'.dist k (by omega)
      rw [i2] at d1
      have e1 := d1.unique d2
      have e2 : Ps.getD k [] = Ps'.getD k [] := by rw [h.part k (by omega), h'.part k (by omega), e1]
      refine ⟨fun j hj => ?_, by rw [leftK_succ (by rw [h.pl]; omega), leftK_succ (by rw [h'.pl]; omega), i2, e2]⟩
      by_cases e : j = k
      · subst e; exact ⟨e1, e2⟩
      · exact i1 j (by omega)
  have hk := (key Ls.length (Nat.le_refl _)).1
  constructor
  · apply List.ext_getElem (by rw [h.dl, h'.dl])
    intro i h1 h2
    have := (hk i (by rw [← h.dl]; exact h1)).1
    rwa [getD_at h1, getD_at h2] at this
  · apply List.ext_getElem (by rw [h.pl, h'.pl])
    intro i h1 h2
    have := (hk i (by rw [← h.pl]; exact h1)).2
    rwa [getD_at h1, getD_at h2] at this
/-- The value of a state in table number k. -/
def valK (t : TTask) (Ls Ds : List (List Int)) (s : List Int) (k : Nat) : Int := dg (Ds.getD k []) (idxL t.vars (Ls.getD k []) s)
def sumV (f : Nat → Int) (k : Nat) : Int := ((List.range k).map f).sum
theorem sumV_zero (f : Nat → Int) : sumV f 0 = 0 := rfl
theorem sumV_succ (f : Nat → Int) (k : Nat) : sumV f (k + 1) = sumV f k + f k := by simp [sumV, List.range_succ]
theorem sumV_bd {f : Nat → Int} {B : Int} {n : Nat} (h : ∀ k, k < n → 0 ≤ f k ∧ f k ≤ B) : 0 ≤ sumV f n ∧ sumV f n ≤ n * B := by
  induction n with
  | zero => simp [sumV]
  | succ n ih =>
    have h1 := ih fun k hk => h k (by omega)
    have h2 := h n (by omega)
    rw [sumV_succ, Int.natCast_add, Int.add_mul]
    simp only [Int.natCast_one, Int.one_mul]
    omega
open Classical in
noncomputable def valPt (t : TTask) (Ls Ds : List (List Int)) (s : List Int) : Int :=
  if ¬ StateOk t.vars s then 1125899906842624 else if ∃ k, k < Ls.length ∧ valK t Ls Ds s k = 1125899906842624 then 1125899906842624 else sumV (valK t Ls Ds s) Ls.length
theorem valPt_inf {t : TTask} {Ls Ds : List (List Int)} {s : List Int} {k : Nat} (h : StateOk t.vars s) (hk : k < Ls.length) (hv : valK t Ls Ds s k = 1125899906842624) : valPt t Ls Ds s = 1125899906842624 := by
  unfold valPt; rw [if_neg (fun hn => hn h), if_pos ⟨k, hk, hv⟩]
theorem valPt_sum {t : TTask} {Ls Ds : List (List Int)} {s : List Int} (h : StateOk t.vars s) (hv : ∀ k, k < Ls.length → valK t Ls Ds s k ≠ 1125899906842624) : valPt t Ls Ds s = sumV (valK t Ls Ds s) Ls.length := by
  unfold valPt; rw [if_neg (fun hn => hn h), if_neg (fun ⟨k, hk, hh⟩ => hv k hk hh)]
end Go.Proofs.YtemnlcnjpjdoaaaGreatDoor

/-
  Contracts of the package 'saturate': 'pattern', 'New', 'Parts', 'Value'.
-/
namespace Go.Proofs.YtemnlcnjpjdoaaaGreatDoor
open Go.Sl Go
attribute [local irreducible] vc opsW opsD opV opW PureV ReadV Thn Blk
/-- A list of lists of numbers is read. -/
structure RLs (w : World) (s : Value) (ss : List Value) (Ls : List (List Int)) : Prop where
  rs : RS tVal w s ss
  len : ss.length = Ls.length
  at_ : ∀ i, i < Ls.length → RS tInt w (vget ss i) (Ls.getD i [])
theorem RLs.at {w0 w : World} {Γ : List HP} {s : Value} {ss : List Value} {Ls : List (List Int)} (h : RLs w0 s ss Ls) (hw : Sat w0 w Γ) : RLs w s ss Ls := ⟨h.rs.at hw, h.len, fun i hi => (h.at_ i hi).at hw⟩

end Go.Proofs.YtemnlcnjpjdoaaaGreatDoor

/-
  Saturated cost partitioning is admissible and consistent.
-/
namespace Go.Proofs.YtemnlcnjpjdoaaaGreatDoor
open Go.Sl Go

structure SatC (t : TTask) (Ls Ds Ps : List (List Int)) : Prop where
  run : Run t Ls (costsT t) Ds Ps
  good : GoodT t
  inv : ∀ k, k < Ls.length → InV t.vars (Ls.getD k [])
  small : ∀ k, k < Ls.length → cntL t.vars (Ls.getD k []) ≤ 64
  len : Ls.length ≤ 32
theorem sumV_le {f g : Nat → Int} {n : Nat} (h : ∀ k, k < n → f k ≤ g k) : sumV f n ≤ sumV g n := by
  induction n with
  | zero => exact Int.le_refl _
  | succ n ih =>
    have h1 := ih fun k hk => h k (by omega)
    have h2 := h n (by omega)
    rw [sumV_succ, sumV_succ]; omega
theorem sumV_add (f g : Nat → Int) (n : Nat) : sumV (fun k => f k + g k) n = sumV f n + sumV g n := by
  induction n with
  | zero => rfl
  | succ n ih => rw [sumV_succ, sumV_succ, sumV_succ, ih]; omega
theorem sumV_zeros {f : Nat → Int} {n : Nat} (h : ∀ k, k < n → f k = 0) : sumV f n = 0 := by
  induction n with
  | zero => rfl
  | succ n ih => rw [sumV_succ, ih fun k hk => h k (by omega), h n (by omega)]; rfl
section
variable {t : TTask} {Ls Ds Ps : List (List Int)}
theorem SatC.eok (h : SatC t Ls Ds Ps) {k : Nat} (hk : k < Ls.length) : EOk (pEdges t (Ls.getD k [])) (leftK (costsT t) Ps k) (cntL t.vars (Ls.getD k [])).toNat := (h.run.cost (costOk_T h.good) k (by omega)).eok
theorem SatC.big (h : SatC t Ls Ds Ps) {k : Nat} (hk : k < Ls.length) : ((cntL t.vars (Ls.getD k [])).toNat : Int) * 1048576 ≤ 67108864 := by
  have := h.small k hk
  omega
theorem SatC.rng (h : SatC t Ls Ds Ps) {s : List Int} (hs : StateOk t.vars s) {k : Nat} (hk : k < Ls.length) : 0 ≤ valK t Ls Ds s k ∧ valK t Ls Ds s k ≤ inf := dist_at (h.inv k hk) (h.run.dist k hk) hs
theorem SatC.bound (h : SatC t Ls Ds Ps) {s : List Int} (hs : StateOk t.vars s) {k : Nat} (hk : k < Ls.length) (hf : valK t Ls Ds s k < inf) : valK t Ls Ds s k ≤ 67108864 := by
  have hb := idxL_bound hs (h.inv k hk).mem
  have hd := h.run.dist k hk
  have := hd.bound (h.eok hk) (C := 1048576) (by decide) (fun x hx => ((h.run.cost (costOk_T h.good) k (by omega)).rng x hx).2) (i := (idxL t.vars (Ls.getD k []) s).toNat) (by omega) (by rw [Int.toNat_of_nonneg hb.1]; exact hf)
  rw [Int.toNat_of_nonneg hb.1] at this
  exact Int.le_trans this (h.big hk)
theorem SatC.fin (h : SatC t Ls Ds Ps) {s : List Int} (hs : StateOk t.vars s) : (valPt t Ls Ds s < inf ↔ ∀ k, k < Ls.length → valK t Ls Ds s k < inf) ∧ (valPt t Ls Ds s < inf → valPt t Ls Ds s = sumV (valK t Ls Ds s) Ls.length) ∧ 0 ≤ valPt t Ls Ds s ∧ valPt t Ls Ds s ≤ inf := by
  have hl := h.len
  by_cases hf : ∀ k, k < Ls.length → valK t Ls Ds s k < inf
  · have hv := valPt_sum hs fun k hk => (by have := hf k hk; have e : inf = 1125899906842624 := rfl; omega : valK t Ls Ds s k ≠ 1125899906842624)
    have hb := sumV_bd (n := Ls.length) (f := valK t Ls Ds s) (B := 67108864) fun k hk => ⟨(h.rng hs hk).1, h.bound hs hk (hf k hk)⟩
    have e : inf = 1125899906842624 := rfl
    have hlt : valPt t Ls Ds s < inf := by rw [hv]; omega
    exact ⟨⟨fun _ => hf, fun _ => hlt⟩, fun _ => hv, by rw [hv]; exact hb.1, by omega⟩
  · obtain ⟨k, hk⟩ := Classical.not_forall.1 hf
    obtain ⟨hk, hn⟩ := Classical.not_imp.1 hk
    have hr := (h.rng hs hk).2
    have hv := valPt_inf hs hk (show valK t Ls Ds s k = 1125899906842624 by have e : inf = 1125899906842624 := rfl; omega)
    have e : inf = 1125899906842624 := rfl
    refine ⟨⟨fun hlt => by omega, fun hh => absurd hh hf⟩, fun hlt => by omega, by omega, by omega⟩
/-- What the parts take of an operator. -/
theorem SatC.budget (h : SatC t Ls Ds Ps) {op : Nat} (ho : op < t.ops.length) : ∀ k, k ≤ Ls.length → sumV (fun j => (Ps.getD j []).getD op tInt.dflt) k + (leftK (costsT t) Ps k).getD op tInt.dflt = (costsT t).getD op tInt.dflt
  | 0, _ => by rw [sumV_zero, leftK_zero]; omega
  | k + 1, hk => by
    have ih := h.budget ho k (by omega)
    have hll := (h.run.cost (costOk_T h.good) k (by omega)).len
    rw [sumV_succ, leftK_succ (by rw [h.run.pl]; omega), subL_at (by omega)]
    omega
theorem SatC.step1 (h : SatC t Ls Ds Ps) {s : List Int} {op : Nat} (hs : StateOk t.vars s) (ho : op < t.ops.length) (ha : AppT t s op) {k : Nat} (hk : k < Ls.length) (hf : valK t Ls Ds (succT t s op) k < inf) :
    valK t Ls Ds s k < inf ∧ valK t Ls Ds s k ≤ valK t Ls Ds (succT t s op) k + (Ps.getD k []).getD op tInt.dflt := by
  have hL := h.inv k hk
  have hd := h.run.dist k hk
  have hE := h.eok hk
  have hCk := h.run.cost (costOk_T h.good) k (by omega)
  have he := step_proj h.good hL hs ho ha
  have hs2 := succT_ok h.good hs ho
  have hb := idxL_bound hs hL.mem
  have hb2 := idxL_bound hs2 hL.mem
  have hsf : valK t Ls Ds s k < inf := by
    have hw2 := hd.att (idxL t.vars (Ls.getD k []) (succT t s op)).toNat (by omega) (by rw [Int.toNat_of_nonneg hb2.1]; exact hf)
    rw [Int.toNat_of_nonneg hb2.1] at hw2
    have hB := h.big hk
    have := (hd.fin hE (C := 1048576) (by decide) (fun x hx => (hCk.rng x hx).2) (by have e : inf = 1125899906842624 := rfl; omega) (i := (idxL t.vars (Ls.getD k []) s).toNat) (by omega)).2 ⟨_, by rw [Int.toNat_of_nonneg hb.1]; exact .step he hw2⟩
    rwa [Int.toNat_of_nonneg hb.1] at this
  refine ⟨hsf, ?_⟩
  have hso : SatOk (pEdges t (Ls.getD k [])) (Ds.getD k []) t.ops.length (Ps.getD k []) := by
    rw [h.run.part k hk]
    exact satL_ok fun e he => by have := hE.lab e he; rw [hCk.len] at this; exact this
  have := hso.low _ he hsf hf
  simp only [cst, Int.toNat_natCast] at this
  unfold valK
  omega
theorem SatC.step (h : SatC t Ls Ds Ps) {s : List Int} {op : Nat} (hs : StateOk t.vars s) (ho : op < t.ops.length) (ha : AppT t s op) (hf : valPt t Ls Ds (succT t s op) < inf) :
    valPt t Ls Ds s < inf ∧ valPt t Ls Ds s ≤ (costsT t).getD op tInt.dflt + valPt t Ls Ds (succT t s op) := by
  have hs2 := succT_ok h.good hs ho
  obtain ⟨a1, a2, a3, a4⟩ := h.fin hs
  obtain ⟨b1, b2, b3, b4⟩ := h.fin hs2
  have hk := b1.1 hf
  have hlt := a1.2 fun k hkl => (h.step1 hs ho ha hkl (hk k hkl)).1
  refine ⟨hlt, ?_⟩
  rw [a2 hlt, b2 hf]
  have h1 := sumV_le (n := Ls.length) (f := valK t Ls Ds s) (g := fun k => valK t Ls Ds (succT t s op) k + (Ps.getD k []).getD op tInt.dflt) fun k hkl => (h.step1 hs ho ha hkl (hk k hkl)).2
  rw [sumV_add] at h1
  have h2 := h.budget ho Ls.length (Nat.le_refl _)
  have h3 := ((h.run.cost (costOk_T h.good) Ls.length (Nat.le_refl _)).at ho).1
  omega
theorem SatC.goal (h : SatC t Ls Ds Ps) {s : List Int} (hs : StateOk t.vars s) (hg : HoldFs s t.goal) : valPt t Ls Ds s = 0 := by
  have hz : ∀ k, k < Ls.length → valK t Ls Ds s k = 0 := fun k hk => dist_goal (h.inv k hk) (h.run.dist k hk) hs hg
  have hf := (h.fin hs).1.2 fun k hk => by rw [hz k hk]; decide
  rw [(h.fin hs).2.1 hf]
  exact sumV_zeros hz
theorem SatC.low (h : SatC t Ls Ds Ps) {i k : Int} (hw : Walk (edgesT t) (costsT t) (GoalS t) i k) : 0 ≤ i → i < (statesL t.vars).length → valPt t Ls Ds ((statesL t.vars).getD i.toNat []) < inf ∧ valPt t Ls Ds ((statesL t.vars).getD i.toNat []) ≤ k := by
  induction hw with
  | @goal a hg =>
    intro h0 h1
    have hs := (statesL_at h.good.pos (show a.toNat < (statesL t.vars).length by omega)).1
    rw [h.goal hs hg]
    exact ⟨by decide, Int.le_refl _⟩
  | @step e k he _ ih =>
    intro h0 h1
    obtain ⟨i, op, hi, ho, ha, rfl⟩ := mem_edgesT.1 he
    have hst := (statesL_at h.good.pos hi).1
    have hs2 := succT_ok h.good hst ho
    have hr := statesL_of h.good.pos hs2
    have hb := rankL_bound hs2
    have h2 := ih hb.1 (by simp only; omega)
    simp only [hr.2] at h2
    have h3 := h.step hst ho ha h2.1
    simp only [Int.toNat_natCast, cst]
    exact ⟨h3.1, by omega⟩
end
end Go.Proofs.YtemnlcnjpjdoaaaGreatDoor

/-
  Sums that stop at infinity, and scaled costs, for saturated partitions.
-/
namespace Go.Proofs.YtemnlcnjpjdoaaaGreatDoor
open Go.Sl Go

/-- The sum that stays at infinity. -/
def capS (f : Nat → Int) : Nat → Int
  | 0 => 0
  | k + 1 => min inf (capS f k + f k)
theorem capS_rng {f : Nat → Int} : ∀ {n : Nat}, (∀ k, k < n → 0 ≤ f k) → 0 ≤ capS f n ∧ capS f n ≤ inf
  | 0, _ => ⟨Int.le_refl _, (by decide : (0 : Int) ≤ inf)⟩
  | n + 1, h => by
    have h1 := capS_rng (n := n) fun k hk => h k (by omega)
    have h2 := h n (by omega)
    simp only [capS]
    omega
theorem capS_fin {f : Nat → Int} : ∀ {n : Nat}, n ≤ 32 → (∀ k, k < n → 0 ≤ f k ∧ f k ≤ 67108864) → capS f n = sumV f n
  | 0, _, _ => rfl
  | n + 1, hn, h => by
    have h1 := capS_fin (n := n) (by omega) fun k hk => h k (by omega)
    have h2 := h n (by omega)
    have h3 := sumV_bd (n := n) (f := f) (B := 67108864) fun k hk => h k (by omega)
    simp only [capS]
    rw [h1, sumV_succ]
    have e : inf = 1125899906842624 := rfl
    omega
theorem capS_inf {f : Nat → Int} {j : Nat} : ∀ {n : Nat}, j < n → (∀ k, k < n → 0 ≤ f k) → f j = inf → capS f n = inf
  | 0, hj, _, _ => absurd hj (Nat.not_lt_zero _)
  | n + 1, hj, h, he => by
    have hr := capS_rng (n := n) fun k hk => h k (by omega)
    have h2 := h n (by omega)
    simp only [capS]
    by_cases e : j = n
    · subst e; omega
    · have := capS_inf (n := n) (by omega) (fun k hk => h k (by omega)) he
      omega
theorem SatC.cap {t : TTask} {Ls Ds Ps : List (List Int)} (h : SatC t Ls Ds Ps) {s : List Int} (hs : StateOk t.vars s) : capS (valK t Ls Ds s) Ls.length = valPt t Ls Ds s := by
  have hf := h.fin hs
  by_cases hl : valPt t Ls Ds s < inf
  · rw [hf.2.1 hl]
    exact capS_fin h.len fun k hk => ⟨(h.rng hs hk).1, h.bound hs hk (hf.1.1 hl k hk)⟩
  · have : ¬ ∀ k, k < Ls.length → valK t Ls Ds s k < inf := fun hh => hl (hf.1.2 hh)
    obtain ⟨k, hk⟩ := Classical.not_forall.1 this
    obtain ⟨hk, hn⟩ := Classical.not_imp.1 hk
    have := (h.rng hs hk).2
    rw [capS_inf hk (fun k hk => (h.rng hs hk).1) (by omega)]
    have := hf.2.2.2
    omega

/-! ### Scaled costs -/
section
variable {f : Int} {t : TTask} {Ls Ds Ps Ds' Ps' : List (List Int)}
theorem sumV_congr {g g' : Nat → Int} {n : Nat} (h : ∀ k, k < n → g k = g' k) : sumV g n = sumV g' n := by
  induction n with
  | zero => rfl
  | succ n ih => rw [sumV_succ, sumV_succ, ih fun k hk => h k (by omega), h n (by omega)]
end
/-! ### What a part alone gives -/
end Go.Proofs.YtemnlcnjpjdoaaaGreatDoor
