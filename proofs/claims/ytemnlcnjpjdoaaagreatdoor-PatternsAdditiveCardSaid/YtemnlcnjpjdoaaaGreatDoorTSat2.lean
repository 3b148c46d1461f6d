
/-
  Sums that stop at infinity, and scaled costs, for saturated partitions.
-/
import Derived.Test.YtemnlcnjpjdoaaaGreatDoorTSatLaw
set_option linter.unusedSimpArgs false
set_option linter.unusedVariables false
namespace Go.Proofs.YtemnlcnjpjdoaaaGreatDoor
open Go.Sl Go

/-- The sum that stays at infinity. -/
def capS (f : Nat → Int) : Nat → Int
  | 0 => 0
  | k + 1 => min inf (capS f k + f k)
theorem capS_rng {f : Nat → Int} : ∀ {n : Nat}, (∀ k, k < n → 0 ≤ f k) → 0 ≤ capS f n ∧ capS f n ≤ inf
  | 0, _ => ⟨Int.le_refl _, (by decide : (0 : Int) ≤ inf)⟩
  | n + 1, h => by
    have h1 := capS_rng (n := n) fun k hk => h k (by omega)
    have h2 := h n (by omega)
    simp only [capS]
    omega
theorem capS_fin {f : Nat → Int} : ∀ {n : Nat}, n ≤ 32 → (∀ k, k < n → 0 ≤ f k ∧ f k ≤ 67108864) → capS f n = sumV f n
  | 0, _, _ => rfl
  | n + 1, hn, h => by
    have h1 := capS_fin (n := n) (by omega) fun k hk => h k (by omega)
    have h2 := h n (by omega)
    have h3 := sumV_bd (n := n) (f := f) (B := 67108864) fun k hk => h k (by omega)
    simp only [capS]
    rw [h1, sumV_succ]
    have e : inf = 1125899906842624 := rfl
    omega
theorem capS_inf {f : Nat → Int} {j : Nat} : ∀ {n : Nat}, j < n → (∀ k, k < n → 0 ≤ f k) → f j = inf → capS f n = inf
  | 0, hj, _, _ => absurd hj (Nat.not_lt_zero _)
  | n + 1, hj, h, he => by
    have hr := capS_rng (n := n) fun k hk => h k (by omega)
    have h2 := h n (by omega)
    simp only [capS]
    by_cases e : j = n
    · subst e; omega
    · have := capS_inf (n := n) (by omega) (fun k hk => h k (by omega)) he
      omega
theorem SatC.cap {t : TTask} {Ls Ds Ps : List (List Int)} (h : SatC t Ls Ds Ps) {s : List Int} (hs : StateOk t.vars s) : capS (valK t Ls Ds s) Ls.length = valPt t Ls Ds s := by
  have hf := h.fin hs
  by_cases hl : valPt t Ls Ds s < inf
  · rw [hf.2.1 hl]
    exact capS_fin h.len fun k hk => ⟨(h.rng hs hk).1, h.bound hs hk (hf.1.1 hl k hk)⟩
  · have : ¬ ∀ k, k < Ls.length → valK t Ls Ds s k < inf := fun hh => hl (hf.1.2 hh)
    obtain ⟨k, hk⟩ := Classical.not_forall.1 this
    obtain ⟨hk, hn⟩ := Classical.not_imp.1 hk
    have := (h.rng hs hk).2
    rw [capS_inf hk (fun k hk => (h.rng hs hk).1) (by omega)]
    have := hf.2.2.2
    omega

/-! ### Scaled costs -/
def scaleO (f : Int) (o : TOp) : TOp := ⟨o.name, o.cost * f, o.pre, o.effs⟩
def scaleT (f : Int) (t : TTask) : TTask := ⟨t.vars, t.init, t.goal, t.ops.map (scaleO f)⟩
theorem scaleO_d (f : Int) : scaleO f dOp = dOp := by simp [scaleO, dOp]
theorem scaleT_at (f : Int) (t : TTask) (i : Nat) : (scaleT f t).ops.getD i dOp = scaleO f (t.ops.getD i dOp) := by
  simp only [scaleT, List.getD_eq_getElem?_getD, List.getElem?_map]
  cases t.ops[i]? <;> simp [scaleO_d]
theorem scaleT_len (f : Int) (t : TTask) : (scaleT f t).ops.length = t.ops.length := by simp [scaleT]
theorem scaleT_app {f : Int} {t : TTask} {s : List Int} {op : Nat} : AppT (scaleT f t) s op ↔ AppT t s op := by
  unfold AppT; rw [scaleT_at]; exact Iff.rfl
theorem scaleT_succ {f : Int} {t : TTask} {s : List Int} {op : Nat} : succT (scaleT f t) s op = succT t s op := by
  unfold succT; rw [scaleT_at]; rfl
theorem scaleT_tg {f : Int} {t : TTask} {p : List Int} {a b : Int} {op : Nat} : TGp (scaleT f t) p a op b ↔ TGp t p a op b := by
  unfold TGp; simp only [scaleT_app, scaleT_succ]; exact Iff.rfl
theorem scaleT_tgt {f : Int} {t : TTask} {p : List Int} {a : Int} {op : Nat} : tgtL (scaleT f t) p a op = tgtL t p a op := by
  have : TGp (scaleT f t) p a op = TGp t p a op := funext fun b => propext scaleT_tg
  unfold tgtL; rw [this]; rfl
theorem scaleT_edges (f : Int) (t : TTask) (p : List Int) : pEdges (scaleT f t) p = pEdges t p := by
  unfold pEdges edgA edgO; simp only [scaleT_tgt, scaleT_len]; rfl
theorem map_at (f : Int) (l : List Int) (i : Nat) : (l.map (f * ·)).getD i tInt.dflt = f * l.getD i tInt.dflt := by
  simp only [List.getD_eq_getElem?_getD, List.getElem?_map]
  cases l[i]? <;> simp [tInt]
theorem subL_map (f : Int) (a b : List Int) : subL (a.map (f * ·)) (b.map (f * ·)) = (subL a b).map (f * ·) := by
  apply List.ext_getElem (by simp [subL])
  intro i h1 h2
  simp only [subL, List.getElem_map, List.getElem_range, map_at, Int.mul_sub]
theorem scaleT_costs (f : Int) (t : TTask) : costsT (scaleT f t) = (costsT t).map (f * ·) := by
  simp [costsT, scaleT, scaleO, Int.mul_comm]
theorem scaleT_good {f : Int} {t : TTask} (hg : GoodT t) (hf : 0 ≤ f) (hc : ∀ i, i < t.ops.length → (t.ops.getD i dOp).cost * f ≤ 1048576) : GoodT (scaleT f t) :=
  ⟨hg.vars, by rw [scaleT_len]; exact hg.ops, hg.dom, hg.init, hg.goal, fun i hi => by
    rw [scaleT_len] at hi
    rw [scaleT_at]
    have h := hg.op i hi
    exact ⟨Int.mul_nonneg h.cost0 hf, hc i hi, h.effs, h.name, h.pre, h.eff⟩⟩
theorem scaleT_small {f : Int} {t : TTask} (hs : SmallT t) (hf : 0 ≤ f) (hc : ∀ i, i < t.ops.length → (t.ops.getD i dOp).cost * f ≤ 1048576) : SmallT (scaleT f t) :=
  ⟨scaleT_good hs.good hf hc, hs.vars, by rw [scaleT_len]; exact hs.ops, fun i hi => by
    rw [scaleT_len] at hi
    rw [scaleT_at]; exact hs.effs i hi, hs.many⟩
/-- What two tables have in common when all costs are scaled. -/
def ScD (f : Int) (n : Nat) (D D' : List Int) : Prop := ∀ i, i < n → (dg D i < inf ↔ dg D' i < inf) ∧ (dg D i < inf → dg D' i = f * dg D i)
theorem satK_scale {f : Int} (hf : 0 < f) {E : List Edg} {c : List Int} {n : Nat} (hE : EOk E c n) {D D' : List Int} (h : ScD f n D D') {m : Nat} : ∀ k, k ≤ E.length → satK E D' m k = (satK E D m k).map (f * ·)
  | 0, _ => by simp [satK_zero]
  | k + 1, hk => by
    have ih := satK_scale hf hE h (m := m) k (by omega)
    have hkl : k < E.length := by omega
    obtain ⟨⟨a1, a2⟩, ⟨b1, b2⟩, _⟩ := hE.getD hkl
    rw [satK_succ hkl, satK_succ hkl, ih]
    obtain ⟨s1, s2⟩ := h (E.getD k tEdg.dflt).src.toNat (by omega)
    obtain ⟨d1, d2⟩ := h (E.getD k tEdg.dflt).dst.toNat (by omega)
    rw [Int.toNat_of_nonneg a1] at s1 s2
    rw [Int.toNat_of_nonneg b1] at d1 d2
    unfold satStep
    by_cases hc : dg D (E.getD k tEdg.dflt).src < inf ∧ dg D (E.getD k tEdg.dflt).dst < inf
    · rw [if_pos hc, if_pos ⟨s1.1 hc.1, d1.1 hc.2⟩, s2 hc.1, d2 hc.2, List.map_set]
      congr 1
      simp only [cst, map_at, ← Int.mul_sub]
      generalize dg D (E.getD k tEdg.dflt).src - dg D (E.getD k tEdg.dflt).dst = x
      generalize (satK E D m k).getD (E.getD k tEdg.dflt).lab.toNat tInt.dflt = y
      by_cases hxy : x > y
      · rw [if_pos hxy, if_pos (Int.mul_lt_mul_of_pos_left hxy hf)]
      · rw [if_neg hxy, if_neg (fun hh => hxy (Int.lt_of_mul_lt_mul_left hh (by omega)))]
    · rw [if_neg hc, if_neg (fun hh => hc ⟨s1.2 hh.1, d1.2 hh.2⟩)]
section
variable {f : Int} {t : TTask} {Ls Ds Ps Ds' Ps' : List (List Int)}
theorem scale_step (hf : 0 < f) (h : SatC t Ls Ds Ps) (h' : SatC (scaleT f t) Ls Ds' Ps') {k : Nat} (hk : k < Ls.length) (he : leftK (costsT (scaleT f t)) Ps' k = (leftK (costsT t) Ps k).map (f * ·)) :
    ScD f (cntL t.vars (Ls.getD k [])).toNat (Ds.getD k []) (Ds'.getD k []) ∧ Ps'.getD k [] = (Ps.getD k []).map (f * ·) := by
  have hd := h.run.dist k hk
  have hd' := h'.run.dist k hk
  have hE := h.eok hk
  have hE' := h'.eok hk
  have hB := h'.big hk
  have hC' := h'.run.cost (costOk_T h'.good) k (by omega)
  rw [scaleT_edges] at hd' hE'
  have hsc : ScD f (cntL t.vars (Ls.getD k [])).toNat (Ds.getD k []) (Ds'.getD k []) := fun i hi =>
    DistOk.scale (C := 1048576) hf hE' (by decide) (fun x hx => (hC'.rng x hx).2) (by have e : inf = 1125899906842624 := rfl; omega) hd hd' (fun e _ => by simp only [cst]; rw [he, map_at]) hi
  refine ⟨hsc, ?_⟩
  rw [h.run.part k hk, h'.run.part k hk, scaleT_edges, scaleT_len]
  exact satK_scale hf hE hsc _ (Nat.le_refl _)
theorem scale_left (hf : 0 < f) (h : SatC t Ls Ds Ps) (h' : SatC (scaleT f t) Ls Ds' Ps') : ∀ k, k ≤ Ls.length → leftK (costsT (scaleT f t)) Ps' k = (leftK (costsT t) Ps k).map (f * ·)
  | 0, _ => by rw [leftK_zero, leftK_zero, scaleT_costs]
  | k + 1, hk => by
    have ih := scale_left hf h h' k (by omega)
    rw [leftK_succ (by rw [h'.run.pl]; omega), leftK_succ (by rw [h.run.pl]; omega), ih, (scale_step hf h h' (by omega) ih).2, subL_map]
theorem scale_part (hf : 0 < f) (h : SatC t Ls Ds Ps) (h' : SatC (scaleT f t) Ls Ds' Ps') {k : Nat} (hk : k < Ls.length) : Ps'.getD k [] = (Ps.getD k []).map (f * ·) := (scale_step hf h h' hk (scale_left hf h h' k (by omega))).2
theorem sumV_mul (g : Nat → Int) (n : Nat) : sumV (fun k => f * g k) n = f * sumV g n := by
  induction n with
  | zero => simp [sumV]
  | succ n ih => rw [sumV_succ, sumV_succ, ih, Int.mul_add]
theorem sumV_congr {g g' : Nat → Int} {n : Nat} (h : ∀ k, k < n → g k = g' k) : sumV g n = sumV g' n := by
  induction n with
  | zero => rfl
  | succ n ih => rw [sumV_succ, sumV_succ, ih fun k hk => h k (by omega), h n (by omega)]
theorem scale_val (hf : 0 < f) (h : SatC t Ls Ds Ps) (h' : SatC (scaleT f t) Ls Ds' Ps') {s : List Int} (hs : StateOk t.vars s) :
    (valPt t Ls Ds s < inf ↔ valPt (scaleT f t) Ls Ds' s < inf) ∧ (valPt t Ls Ds s < inf → valPt (scaleT f t) Ls Ds' s = f * valPt t Ls Ds s) := by
  have a := h.fin hs
  have b := h'.fin (s := s) hs
  have hk : ∀ k, k < Ls.length → (valK t Ls Ds s k < inf ↔ valK (scaleT f t) Ls Ds' s k < inf) ∧ (valK t Ls Ds s k < inf → valK (scaleT f t) Ls Ds' s k = f * valK t Ls Ds s k) := fun k hk => by
    have hb := idxL_bound hs (h.inv k hk).mem
    have := (scale_step hf h h' hk (scale_left hf h h' k (by omega))).1 (idxL t.vars (Ls.getD k []) s).toNat (by omega)
    rw [Int.toNat_of_nonneg hb.1] at this
    exact this
  have hiff : valPt t Ls Ds s < inf ↔ valPt (scaleT f t) Ls Ds' s < inf :=
    ⟨fun hl => b.1.2 fun k hk' => (hk k hk').1.1 (a.1.1 hl k hk'), fun hl => a.1.2 fun k hk' => (hk k hk').1.2 (b.1.1 hl k hk')⟩
  refine ⟨hiff, fun hl => ?_⟩
  rw [a.2.1 hl, b.2.1 (hiff.1 hl), sumV_congr fun k hk' => (hk k hk').2 (a.1.1 hl k hk'), sumV_mul]
end
/-! ### What a part alone gives -/
theorem part_table {t : TTask} {Ls Ds Ps : List (List Int)} (h : SatC t Ls Ds Ps) {k : Nat} (hk : k < Ls.length) {D' : List Int} (hD' : DistOk (pEdges t (Ls.getD k [])) (Ps.getD k []) (GoalPK t (Ls.getD k [])) (cntL t.vars (Ls.getD k [])).toNat D') : D' = Ds.getD k [] := by
  have hd := h.run.dist k hk
  have hC := h.run.cost (costOk_T h.good) k (by omega)
  have hE := h.eok hk
  have hB := h.big hk
  have hso : SatOk (pEdges t (Ls.getD k [])) (Ds.getD k []) (leftK (costsT t) Ps k).length (Ps.getD k []) := by
    rw [h.run.part k hk, hC.len]
    exact satL_ok fun e he => by have := hE.lab e he; rw [hC.len] at this; exact this
  have hl := hd.len
  have hl' := hD'.len
  apply List.ext_getElem (by omega)
  intro i h1 h2
  have hkeep := hso.keep hE (C := 1048576) (by decide) (fun x hx => (hC.rng x hx).2) (by have e : inf = 1125899906842624 := rfl; omega) hd hD' (i := i) (by omega)
  have r1 := hd.rng i (by omega)
  have r2 := hD'.rng i (by omega)
  have e1 : dg (Ds.getD k []) (i : Int) = (Ds.getD k [])[i] := by unfold dg; rw [Int.toNat_natCast]; exact getD_at h2
  have e2 : dg D' (i : Int) = D'[i] := by unfold dg; rw [Int.toNat_natCast]; exact getD_at h1
  rw [← e1, ← e2]
  by_cases hf : dg (Ds.getD k []) (i : Int) < inf
  · exact hkeep.2 hf
  · have : ¬ dg D' (i : Int) < inf := fun hh => hf (hkeep.1.2 hh)
    omega
theorem part_cost {t : TTask} {Ls Ds Ps : List (List Int)} (h : SatC t Ls Ds Ps) {k : Nat} (hk : k < Ls.length) : (Ps.getD k []).length = t.ops.length ∧ (∀ i, i < t.ops.length → 0 ≤ (Ps.getD k []).getD i tInt.dflt ∧ (Ps.getD k []).getD i tInt.dflt ≤ (leftK (costsT t) Ps k).getD i tInt.dflt) ∧ CostOk t (Ps.getD k []) := by
  have hC := h.run.cost (costOk_T h.good) k (by omega)
  have hs := (hC.sub (h.run.dist k hk)).2
  rw [← h.run.part k hk] at hs
  have hl : (Ps.getD k []).length = t.ops.length := by rw [h.run.part k hk]; exact satL_len
  exact ⟨hl, hs, .of hl fun i hi => ⟨(hs i hi).1, Int.le_trans (hs i hi).2 (hC.at hi).2⟩⟩
end Go.Proofs.YtemnlcnjpjdoaaaGreatDoor
