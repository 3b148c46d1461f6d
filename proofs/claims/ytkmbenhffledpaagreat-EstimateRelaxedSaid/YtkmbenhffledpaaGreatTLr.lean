
/-
  References 34 and 35, in plain Lean: values by variable, arcs as the reference has them, the zones as lists.
-/
import Derived.Test.YtkmbenhffledpaaGreatTCut5
set_option linter.unusedSimpArgs false
set_option linter.unusedVariables false
namespace Go.Proofs.YtkmbenhffledpaaGreat
open Go.Sl
/-- The values of a variable's facts. -/
def rowD (vars D : List Int) (v : Nat) : List Int := (List.range (vars.getD v tInt.dflt).toNat).map fun (x : Nat) => dg D (firstV vars v + (x : Int))
def rowsD (vars D : List Int) : List (List Int) := (List.range vars.length).map (rowD vars D)
theorem rowsD_len (vars D : List Int) : (rowsD vars D).length = vars.length := by simp [rowsD]
theorem rowsD_at {vars D : List Int} {v : Nat} (h : v < vars.length) : (rowsD vars D).getD v [] = rowD vars D v := by simp [rowsD, List.getD, h]
theorem rowD_len (vars D : List Int) (v : Nat) : (rowD vars D v).length = (vars.getD v tInt.dflt).toNat := by simp [rowD]
theorem rowD_at {vars D : List Int} {v x : Nat} (h : (x : Int) < vars.getD v tInt.dflt) : (rowD vars D v).getD x tInt.dflt = dg D (firstV vars v + (x : Int)) := by
  have h2 : x < (rowD vars D v).length := by rw [rowD_len]; omega
  rw [getD_at h2]
  simp [rowD]
section
variable {vars : List Int}
theorem num_lt (hp : ∀ x ∈ vars, 1 ≤ x) {v u : Nat} (hv : v < u) (hu : u < vars.length) {x y : Int} (hx : x < vars.getD v tInt.dflt) (hy : 0 ≤ y) : firstV vars v + x < firstV vars u + y := by
  have := firstV_mono hp (a := v + 1) (b := u) (by omega) (by omega)
  rw [firstV_succ (by omega)] at this
  omega
theorem num_inj (hp : ∀ x ∈ vars, 1 ≤ x) {v u : Nat} (hv : v < vars.length) (hu : u < vars.length) {x y : Int} (hx0 : 0 ≤ x) (hx : x < vars.getD v tInt.dflt) (hy0 : 0 ≤ y) (hy : y < vars.getD u tInt.dflt) (h : firstV vars v + x = firstV vars u + y) : v = u ∧ x = y := by
  have e : v = u := by
    refine Classical.byContradiction fun hne => ?_
    rcases Nat.lt_or_gt_of_ne hne with h1 | h1
    · have := num_lt hp h1 hu hx hy0; omega
    · have := num_lt hp h1 hv hy hx0; omega
  subst e
  exact ⟨rfl, by omega⟩
theorem numF_inj (hp : ∀ x ∈ vars, 1 ≤ x) {f g : Fact} (hf : FactOk vars f) (hg : FactOk vars g) (h : numF vars f = numF vars g) : f = g := by
  obtain ⟨a0, a1, a2, a3⟩ := hf
  obtain ⟨b0, b1, b2, b3⟩ := hg
  obtain ⟨h1, h2⟩ := num_inj hp (v := f.var.toNat) (u := g.var.toNat) (by omega) (by omega) a2 a3 b2 b3 h
  cases f; cases g
  simp only [Fact.mk.injEq] at *
  omega
theorem numF_lt (hp : ∀ x ∈ vars, 1 ≤ x) {f g : Fact} (hf : FactOk vars f) (hg : FactOk vars g) : numF vars f < numF vars g ↔ f.var < g.var ∨ (f.var = g.var ∧ f.val < g.val) := by
  obtain ⟨a0, a1, a2, a3⟩ := hf
  obtain ⟨b0, b1, b2, b3⟩ := hg
  by_cases h1 : f.var < g.var
  · exact ⟨fun _ => .inl h1, fun _ => num_lt hp (v := f.var.toNat) (u := g.var.toNat) (by omega) (by omega) a3 b2⟩
  · by_cases h2 : g.var < f.var
    · have := num_lt hp (v := g.var.toNat) (u := f.var.toNat) (by omega) (by omega) b3 a2
      constructor
      · intro h
        have h' : firstV vars f.var.toNat + f.val < firstV vars g.var.toNat + g.val := h
        omega
      · intro h; omega
    · have e : f.var = g.var := by omega
      unfold numF
      rw [e]
      constructor
      · intro h; exact .inr ⟨rfl, by omega⟩
      · rintro (h | h) <;> omega
theorem rowsD_set (hp : ∀ x ∈ vars, 1 ≤ x) {D : List Int} (hD : (D.length : Int) = firstV vars vars.length) {v : Nat} (hv : v < vars.length) {x : Int} (h0 : 0 ≤ x) (hx : x < vars.getD v tInt.dflt) (c : Int) :
    (rowsD vars D).set v ((rowD vars D v).set x.toNat c) = rowsD vars (D.set (firstV vars v + x).toNat c) := by
  have hb := numF_bd hp hv h0 hx
  refine List.ext_getElem (by simp [rowsD]) fun u h1 h2 => ?_
  have hu : u < vars.length := by rw [rowsD_len] at h2; exact h2
  have e2 : (rowsD vars (D.set (firstV vars v + x).toNat c))[u] = rowD vars (D.set (firstV vars v + x).toNat c) u := by simp [rowsD]
  rw [e2, List.getElem_set]
  have hset : ∀ y : Nat, (y : Int) < vars.getD u tInt.dflt → dg (D.set (firstV vars v + x).toNat c) (firstV vars u + (y : Int)) = if firstV vars u + (y : Int) = firstV vars v + x then c else dg D (firstV vars u + (y : Int)) := fun y hy => by
    have hb2 := numF_bd hp hu (Int.natCast_nonneg y) hy
    exact dg_set hb2.1 hb.1 (by omega)
  split
  · rename_i e
    subst e
    refine List.ext_getElem (by simp [rowD]) fun y h3 h4 => ?_
    have hy : (y : Int) < vars.getD v tInt.dflt := by rw [rowD_len] at h4; omega
    have e3 : (rowD vars (D.set (firstV vars v + x).toNat c) v)[y] = dg (D.set (firstV vars v + x).toNat c) (firstV vars v + (y : Int)) := by simp [rowD]
    have e4 : (rowD vars D v)[y]'(by rw [rowD_len] at h4 ⊢; exact h4) = dg D (firstV vars v + (y : Int)) := by simp [rowD]
    rw [e3, hset y hy, List.getElem_set, e4]
    by_cases e5 : x.toNat = y
    · rw [if_pos e5, if_pos (by omega)]
    · rw [if_neg e5, if_neg (by omega)]
  · rename_i e
    have e5 : (rowsD vars D)[u]'(by rw [rowsD_len]; exact hu) = rowD vars D u := by simp [rowsD]
    rw [e5]
    refine List.ext_getElem (by simp [rowD]) fun y h3 h4 => ?_
    have hy : (y : Int) < vars.getD u tInt.dflt := by rw [rowD_len] at h4; omega
    have e3 : (rowD vars (D.set (firstV vars v + x).toNat c) u)[y] = dg (D.set (firstV vars v + x).toNat c) (firstV vars u + (y : Int)) := by simp [rowD]
    have e4 : (rowD vars D u)[y] = dg D (firstV vars u + (y : Int)) := by simp [rowD]
    rw [e3, e4, hset y hy, if_neg]
    intro h
    exact e (num_inj hp hu hv (Int.natCast_nonneg y) hy h0 hx h).1.symm
end
/-- The row of a state: the first k values are written. -/
def stRow (n : Nat) (z : Int) (k : Nat) : List Int := (List.range n).map fun (x : Nat) => if x < k then (if z = (x : Int) then 0 else inf) else 0
theorem stRow_len (n : Nat) (z : Int) (k : Nat) : (stRow n z k).length = n := by simp [stRow]
theorem stRow_zero (n : Nat) (z : Int) : List.replicate n (0 : Int) = stRow n z 0 := by
  refine List.ext_getElem (by simp [stRow]) fun i h1 h2 => ?_
  simp [stRow]
theorem stRow_set {n : Nat} {z : Int} {k : Nat} (h : k < n) : (stRow n z k).set k (if z = (k : Int) then 0 else inf) = stRow n z (k + 1) := by
  refine List.ext_getElem (by simp [stRow]) fun i h1 h2 => ?_
  rw [List.getElem_set]
  simp only [stRow, List.getElem_map, List.getElem_range]
  by_cases e : k = i
  · subst e; rw [if_pos rfl, if_pos (Nat.lt_succ_self k)]
  · rw [if_neg e]
    by_cases h3 : i < k
    · rw [if_pos h3, if_pos (Nat.lt_succ_of_lt h3)]
    · rw [if_neg h3, if_neg fun h => h3 (by omega)]
def stRows (vars z : List Int) (k : Nat) : List (List Int) := (List.range k).map fun v => stRow (vars.getD v tInt.dflt).toNat (z.getD v tInt.dflt) (vars.getD v tInt.dflt).toNat
theorem stRows_succ (vars z : List Int) (k : Nat) : stRows vars z (k + 1) = stRows vars z k ++ [stRow (vars.getD k tInt.dflt).toNat (z.getD k tInt.dflt) (vars.getD k tInt.dflt).toNat] := by simp [stRows, List.range_succ]
theorem stRows_len (vars z : List Int) (k : Nat) : (stRows vars z k).length = k := by simp [stRows]
section
variable {t : TTask} {z V cs D : List Int}
theorem st_rows_ex (hg : GoodT t) (hs : StateOk t.vars z) : ∃ D, LVI (withC t cs) z D ∧ stRows t.vars z t.vars.length = rowsD t.vars D := by
  refine ⟨(List.range (factN t)).map fun (g : Nat) => if ∃ v : Nat, v < t.vars.length ∧ (g : Int) = firstV t.vars v + z.getD v tInt.dflt then (0 : Int) else inf, ?_⟩
  obtain ⟨D, hD⟩ : ∃ D, D = (List.range (factN t)).map fun (g : Nat) => if ∃ v : Nat, v < t.vars.length ∧ (g : Int) = firstV t.vars v + z.getD v tInt.dflt then (0 : Int) else inf := ⟨_, rfl⟩
  rw [← hD]
  have hN := factN_eq hg
  have hat : ∀ g : Int, 0 ≤ g → g < factN t → dg D g = if ∃ v : Nat, v < t.vars.length ∧ g = firstV t.vars v + z.getD v tInt.dflt then (0 : Int) else inf := fun g h0 h1 => by
    have h2 : g.toNat < factN t := by omega
    have h3 : ((g.toNat : Nat) : Int) = g := Int.toNat_of_nonneg h0
    rw [hD]
    unfold dg
    rw [getD_at (by simpa using h2), List.getElem_map, List.getElem_range, h3]
  have hrng : ∀ v : Nat, v < t.vars.length → 0 ≤ z.getD v tInt.dflt ∧ z.getD v tInt.dflt < t.vars.getD v tInt.dflt := fun v hv => hs.2 v (by rw [hs.1]; exact hv)
  refine ⟨⟨by rw [hD]; simp; rfl, fun g h0 h1 => ?_, fun g h0 h1 hlt => ?_, fun g hgs => ?_⟩, ?_⟩
  · rw [hat g h0 h1]
    split
    · exact ⟨Int.le_refl _, by decide⟩
    · exact ⟨by decide, Int.le_refl _⟩
  · rw [hat g h0 h1] at hlt ⊢
    split
    · rename_i h; exact .start h
    · rename_i h; rw [if_neg h] at hlt; omega
  · obtain ⟨v, hv, rfl⟩ := hgs
    have hb := numF_bd hg.pos hv (hrng v hv).1 (hrng v hv).2
    have hx := hat _ hb.1 (by rw [hN]; exact hb.2)
    rw [if_pos ⟨v, hv, rfl⟩] at hx
    exact Int.le_of_eq hx
  · refine List.ext_getElem (by simp [stRows, rowsD]) fun v h1 h2 => ?_
    have hv : v < t.vars.length := by rw [stRows_len] at h1; exact h1
    simp only [stRows, rowsD, List.getElem_map, List.getElem_range]
    refine List.ext_getElem (by rw [stRow_len, rowD_len]) fun x h3 h4 => ?_
    have hx : (x : Int) < t.vars.getD v tInt.dflt := by rw [stRow_len] at h3; omega
    have hb := numF_bd hg.pos hv (Int.natCast_nonneg x) hx
    simp only [stRow, rowD, List.getElem_map, List.getElem_range]
    rw [if_pos (by omega), hat _ hb.1 (by rw [hN]; exact hb.2)]
    by_cases e : z.getD v tInt.dflt = (x : Int)
    · rw [if_pos e, if_pos ⟨v, hv, by rw [e]⟩]
    · rw [if_neg e, if_neg]
      rintro ⟨u, hu, h⟩
      have h5 := num_inj hg.pos hv hu (Int.natCast_nonneg x) hx (hrng u hu).1 (hrng u hu).2 h
      exact e (by rw [h5.1]; exact h5.2.symm)
theorem maxG_hi {l : List Fact} {L : List Int} (hL : SameM L (l.map (numF t.vars))) (hr : ∀ f ∈ L, 0 ≤ f ∧ 0 ≤ dg D f) : maxG t.vars l D = hiV D L := by
  refine Int.le_antisymm ?_ ?_
  · refine (maxG_le (hiV_nn hr)).2 fun f hf => ?_
    exact (hiV_le hr (hiV_nn hr)).1 (Int.le_refl _) _ ((hL _).2 (List.mem_map.2 ⟨f, hf, rfl⟩))
  · refine (hiV_le hr (maxG_nn _ _ _)).2 fun g hg => ?_
    obtain ⟨f, hf, rfl⟩ := List.mem_map.1 ((hL g).1 hg)
    exact (maxG_le (maxG_nn _ _ _)).1 (Int.le_refl _) f hf
/-- What a unary operator needs, as the reference lists it. -/
def rNeed (o : TOp) (j : Nat) : List Fact := o.pre ++ (o.effs.getD j dEff).when
def rTo (o : TOp) (j : Nat) : Fact := ⟨(o.effs.getD j dEff).var, (o.effs.getD j dEff).val⟩
theorem rNeed_ok (hg : GoodT t) {k j : Nat} (hk : k < t.ops.length) (hj : j < (t.ops.getD k dOp).effs.length) : ∀ f ∈ rNeed (t.ops.getD k dOp) j, FactOk t.vars f := fun f hf => by
  have ho := hg.op k hk
  rcases List.mem_append.1 hf with hf | hf
  · obtain ⟨i, hi, rfl⟩ := List.getElem_of_mem hf
    have := (ho.pre i hi).1
    rwa [getD_at hi] at this
  · obtain ⟨i, hi, rfl⟩ := List.getElem_of_mem hf
    have := ((ho.eff j hj).1 i hi).1
    rwa [getD_at hi] at this
theorem rNeed_len (hg : GoodT t) {k j : Nat} (hk : k < t.ops.length) (hj : j < (t.ops.getD k dOp).effs.length) : (rNeed (t.ops.getD k dOp) j).length ≤ 128 := by
  have ho := hg.op k hk
  have h1 := facts_len ho.pre
  have h2 := facts_len (ho.eff j hj).1
  have h3 := hg.vars
  unfold rNeed
  rw [List.length_append]; omega
theorem rNeed_same (o : TOp) (vars : List Int) (i j : Nat) : SameM ((rNeed o j).map (numF vars)) (unE vars i o j).needs := fun x => by
  show _ ↔ x ∈ needsL vars (o.effs.getD j dEff).when (needsL vars o.pre [])
  rw [mem_needsL, mem_needsL, rNeed, List.mem_map]
  simp only [List.mem_append, List.not_mem_nil, false_or]
  constructor
  · rintro ⟨f, hf | hf, e⟩
    · exact .inl ⟨f, hf, e⟩
    · exact .inr ⟨f, hf, e⟩
  · rintro (⟨f, hf, e⟩ | ⟨f, hf, e⟩)
    · exact ⟨f, .inl hf, e⟩
    · exact ⟨f, .inr hf, e⟩
theorem un_cost {k j : Nat} (hk : k < t.ops.length) (hj : j < (t.ops.getD k dOp).effs.length) (cs : List Int) : ∃ i, i < (unT (withC t cs)).length ∧ (un (unT (withC t cs)) i).op = (k : Int) ∧ (un (unT (withC t cs)) i).makes = numF t.vars (rTo (t.ops.getD k dOp) j) ∧ (un (unT (withC t cs)) i).cost = cs.getD k tInt.dflt ∧ (un (unT (withC t cs)) i).needs = (unE t.vars k (t.ops.getD k dOp) j).needs := by
  obtain ⟨i, hi, h⟩ := unT_at hk hj
  obtain ⟨u1, u2, u3, u4, u5⟩ := unT_with (cs := cs) hi
  refine ⟨i, by rw [u1]; exact hi, ?_, ?_, ?_, ?_⟩
  · rw [u2, h]; rfl
  · rw [u3, h]; rfl
  · rw [u5, h]; rfl
  · rw [u4, h]
theorem rTo_ok (hg : GoodT t) {k j : Nat} (hk : k < t.ops.length) (hj : j < (t.ops.getD k dOp).effs.length) : FactOk t.vars (rTo (t.ops.getD k dOp) j) := by
  have := effOk_range ((hg.op k hk).eff j hj)
  exact this
/-- The facts of a list are alike and their values known. -/
theorem LVI.rel (h : LVI (withC t cs) z D) (hg : GoodT t) (hc : CostsOk t cs) {k j : Nat} (hk : k < t.ops.length) (hj : j < (t.ops.getD k dOp).effs.length) :
    (0 ≤ maxG t.vars (rNeed (t.ops.getD k dOp) j) D) ∧ ∀ m, m = maxG t.vars (rNeed (t.ops.getD k dOp) j) D → m < inf → m + cs.getD k tInt.dflt < dg D (numF t.vars (rTo (t.ops.getD k dOp) j)) →
      LVI (withC t cs) z (D.set (numF t.vars (rTo (t.ops.getD k dOp) j)).toNat (m + cs.getD k tInt.dflt)) ∧ sumD (D.set (numF t.vars (rTo (t.ops.getD k dOp) j)).toNat (m + cs.getD k tInt.dflt)) < sumD D := by
  obtain ⟨i, hi, h1, h2, h3, h4⟩ := un_cost hk hj cs
  refine ⟨maxG_nn _ _ _, fun m hm hf hlt => ?_⟩
  have hgT := withC_good hg hc
  have hL : SameM ((rNeed (t.ops.getD k dOp) j).map (numF t.vars)) (un (unT (withC t cs)) i).needs := by rw [h4]; exact rNeed_same _ _ _ _
  have hn := h.need hgT hi hL
  have e := maxG_hi (t := t) (D := D) (l := rNeed (t.ops.getD k dOp) j) (L := (rNeed (t.ops.getD k dOp) j).map (numF t.vars)) (fun _ => Iff.rfl) fun f hf => (hn f hf).1
  have := h.relax hgT hi hL (by rw [← e, ← hm]; exact hf) (by rw [← e, ← hm, h3, h2]; exact hlt)
  rw [← e, ← hm, h3, h2] at this
  exact this
theorem LVI.done (h : LVI (withC t cs) z D) (hg : GoodT t) (hc : CostsOk t cs) (hst : ∀ k j : Nat, k < t.ops.length → j < (t.ops.getD k dOp).effs.length → maxG t.vars (rNeed (t.ops.getD k dOp) j) D < inf → dg D (numF t.vars (rTo (t.ops.getD k dOp) j)) ≤ maxG t.vars (rNeed (t.ops.getD k dOp) j) D + cs.getD k tInt.dflt) : IsHM (withC t cs) z D := by
  have hgT := withC_good hg hc
  refine h.fin hgT fun i hi => ?_
  obtain ⟨k, j, hk, hj, hu⟩ := mem_unK.1 (un_mem hi)
  rw [withC_len] at hk
  rw [withC_op hk] at hj hu
  have hu' : un (unT (withC t cs)) i = unE t.vars k { t.ops.getD k dOp with cost := cs.getD k tInt.dflt } j := hu
  have hL : SameM ((rNeed (t.ops.getD k dOp) j).map (numF t.vars)) (un (unT (withC t cs)) i).needs := by rw [hu']; exact rNeed_same _ _ k _
  have hn := h.need hgT hi hL
  have e := maxG_hi (t := t) (D := D) (l := rNeed (t.ops.getD k dOp) j) (L := (rNeed (t.ops.getD k dOp) j).map (numF t.vars)) (fun _ => Iff.rfl) fun f hf => (hn f hf).1
  have e2 := hiV_same (V := D) hL fun f hf => (hn f hf).1
  have h3 := hst k j hk hj
  rw [e, e2] at h3
  have h4 : (un (unT (withC t cs)) i).makes = numF t.vars (rTo (t.ops.getD k dOp) j) := by rw [hu']; rfl
  have h5 : (un (unT (withC t cs)) i).cost = cs.getD k tInt.dflt := by rw [hu']; rfl
  rw [h4, h5]
  exact h3
/-! ### The greatest fact of a list, as a fact -/
def GrtX (vars V : List Int) (l : List Fact) (f : Fact) : Prop := f ∈ l ∧ ∀ g ∈ l, dg V (numF vars g) < dg V (numF vars f) ∨ (dg V (numF vars g) = dg V (numF vars f) ∧ numF vars f ≤ numF vars g)
theorem grtX {vars V : List Int} {l : List Fact} {f : Fact} (h : GrtX vars V l f) : GrtF V (l.map (numF vars)) (numF vars f) := ⟨List.mem_map.2 ⟨f, h.1, rfl⟩, fun g hg => by
  obtain ⟨g, hg2, rfl⟩ := List.mem_map.1 hg
  exact h.2 g hg2⟩
/-! ### Arcs -/
structure RArc where
  start : Bool
  src : Fact
  dst : Fact
  op : Int
/-- An arc of an effect. -/
def ArcE (t : TTask) (V : List Int) (k j : Nat) (a : RArc) : Prop :=
  a.op = (k : Int) ∧ a.dst = rTo (t.ops.getD k dOp) j ∧ maxG t.vars (rNeed (t.ops.getD k dOp) j) V < inf ∧
  ((rNeed (t.ops.getD k dOp) j = [] ∧ a.start = true) ∨ (rNeed (t.ops.getD k dOp) j ≠ [] ∧ a.start = false ∧ GrtX t.vars V (rNeed (t.ops.getD k dOp) j) a.src))
/-- The arcs of the operators before k, and of the first j effects of the operator k. -/
structure RArcs (t : TTask) (V : List Int) (k j : Nat) (A : List RArc) : Prop where
  of : ∀ a ∈ A, ∃ k' j', k' < t.ops.length ∧ j' < (t.ops.getD k' dOp).effs.length ∧ ArcE t V k' j' a
  all : ∀ k' j', k' < t.ops.length → j' < (t.ops.getD k' dOp).effs.length → (k' < k ∨ (k' = k ∧ j' < j)) → maxG t.vars (rNeed (t.ops.getD k' dOp) j') V < inf → ∃ a ∈ A, ArcE t V k' j' a
  len : A.length ≤ 64 * k + j
theorem RArcs.zero (t : TTask) (V : List Int) : RArcs t V 0 0 [] := ⟨fun a h => absurd h List.not_mem_nil, fun k' j' _ _ h => by omega, Nat.zero_le _⟩
theorem RArcs.none {k j : Nat} {A : List RArc} (h : RArcs t V k j A) (hf : ¬ maxG t.vars (rNeed (t.ops.getD k dOp) j) V < inf) : RArcs t V k (j + 1) A := by
  refine ⟨h.of, fun k' j' h1 h2 h3 h4 => ?_, by have := h.len; omega⟩
  by_cases e : k' = k ∧ j' = j
  · obtain ⟨rfl, rfl⟩ := e; exact absurd h4 hf
  · exact h.all k' j' h1 h2 (by omega) h4
theorem RArcs.snoc {k j : Nat} {A : List RArc} {a : RArc} (h : RArcs t V k j A) (hk : k < t.ops.length) (hj : j < (t.ops.getD k dOp).effs.length) (ha : ArcE t V k j a) : RArcs t V k (j + 1) (A ++ [a]) := by
  refine ⟨fun b hb => ?_, fun k' j' h1 h2 h3 h4 => ?_, by have := h.len; simp only [List.length_append, List.length_cons, List.length_nil]; omega⟩
  · rcases List.mem_append.1 hb with hb | hb
    · exact h.of b hb
    · rw [List.mem_singleton.1 hb]; exact ⟨k, j, hk, hj, ha⟩
  · by_cases e : k' = k ∧ j' = j
    · obtain ⟨rfl, rfl⟩ := e
      exact ⟨a, by simp, ha⟩
    · obtain ⟨b, hb, h5⟩ := h.all k' j' h1 h2 (by omega) h4
      exact ⟨b, by simp [hb], h5⟩
theorem RArcs.next {k : Nat} {A : List RArc} (hg : GoodT t) (hk : k < t.ops.length) (h : RArcs t V k (t.ops.getD k dOp).effs.length A) : RArcs t V (k + 1) 0 A := by
  have he := (hg.op k hk).effs
  refine ⟨h.of, fun k' j' h1 h2 h3 h4 => ?_, by have := h.len; omega⟩
  refine h.all k' j' h1 h2 ?_ h4
  by_cases e : k' = k
  · subst e; exact .inr ⟨rfl, h2⟩
  · omega
/-- The arc with numbers of facts. -/
def numA (vars : List Int) (a : RArc) : LArc := ⟨if a.start then -1 else numF vars a.src, numF vars a.dst, a.op⟩
/-- All arcs, as the reference has them. -/
structure RAll (t : TTask) (V : List Int) (A : List RArc) : Prop where
  mem : ∀ a ∈ A, numA t.vars a ∈ arcsT t V
  of : ∀ x ∈ arcsT t V, ∃ a ∈ A, numA t.vars a = x
  ok : ∀ a ∈ A, FactOk t.vars a.dst ∧ (a.start = false → FactOk t.vars a.src) ∧ ∃ k : Nat, a.op = (k : Int) ∧ k < t.ops.length
  len : A.length ≤ 64 * t.ops.length
theorem arcE_num (hg : GoodT t) (hV : ∀ g : Int, 0 ≤ g → g < factN t → 0 ≤ dg V g) {k j : Nat} (hk : k < t.ops.length) (hj : j < (t.ops.getD k dOp).effs.length) {a : RArc} (h : ArcE t V k j a) : hiV V (unE t.vars k (t.ops.getD k dOp) j).needs < inf ∧ numA t.vars a = ⟨grtI V (unE t.vars k (t.ops.getD k dOp) j).needs, (unE t.vars k (t.ops.getD k dOp) j).makes, (unE t.vars k (t.ops.getD k dOp) j).op⟩ := by
  obtain ⟨h1, h2, h3, h4⟩ := h
  have hS := rNeed_same (t.ops.getD k dOp) t.vars k j
  have hN := factN_eq hg
  have hr : ∀ f ∈ (rNeed (t.ops.getD k dOp) j).map (numF t.vars), 0 ≤ f ∧ 0 ≤ dg V f := fun f hf => by
    obtain ⟨f, hf2, rfl⟩ := List.mem_map.1 hf
    have := numF_rng hg.pos (rNeed_ok hg hk hj f hf2)
    exact ⟨this.1, hV _ this.1 (by omega)⟩
  have e := maxG_hi (t := t) (D := V) (l := rNeed (t.ops.getD k dOp) j) (fun _ => Iff.rfl) hr
  refine ⟨by rw [← hiV_same hS hr, ← e]; exact h3, ?_⟩
  have e2 := grtI_same (V := V) hS fun f hf => (hr f hf).1
  have e3 : numF t.vars a.dst = (unE t.vars k (t.ops.getD k dOp) j).makes := by rw [h2]; rfl
  have e4 : a.op = (unE t.vars k (t.ops.getD k dOp) j).op := by rw [h1]; rfl
  unfold numA
  rw [e3, e4, ← e2]
  congr 1
  rcases h4 with ⟨h5, h6⟩ | ⟨h5, h6, h7⟩
  · rw [h6, if_pos rfl, h5]; rfl
  · rw [h6, if_neg (by decide)]
    rcases grtI_ok (V := V) (l := (rNeed (t.ops.getD k dOp) j).map (numF t.vars)) fun f hf => (hr f hf).1 with ⟨e5, _⟩ | ⟨_, h8⟩
    · exact absurd (List.map_eq_nil_iff.1 e5) h5
    · exact grt_uniq (grtX h7) h8
theorem RArcs.fin {A : List RArc} (hg : GoodT t) (hV : ∀ g : Int, 0 ≤ g → g < factN t → 0 ≤ dg V g) (h : RArcs t V t.ops.length 0 A) : RAll t V A := by
  have hN := factN_eq hg
  refine ⟨fun a ha => ?_, fun x hx => ?_, fun a ha => ?_, by have := h.len; omega⟩
  · obtain ⟨k, j, hk, hj, hE⟩ := h.of a ha
    obtain ⟨h1, h2⟩ := arcE_num hg hV hk hj hE
    obtain ⟨i, hi, hu⟩ := unT_at hk hj
    rw [← hu] at h1 h2
    exact mem_arcK.2 ⟨i, hi, h1, h2⟩
  · obtain ⟨i, hi, h1, rfl⟩ := mem_arcK.1 hx
    obtain ⟨k, j, hk, hj, hu⟩ := mem_unK.1 (un_mem hi)
    have hu' : un (unT t) i = unE t.vars k (t.ops.getD k dOp) j := hu
    have hS := rNeed_same (t.ops.getD k dOp) t.vars k j
    have hr : ∀ f ∈ (rNeed (t.ops.getD k dOp) j).map (numF t.vars), 0 ≤ f ∧ 0 ≤ dg V f := fun f hf => by
      obtain ⟨f, hf2, rfl⟩ := List.mem_map.1 hf
      have := numF_rng hg.pos (rNeed_ok hg hk hj f hf2)
      exact ⟨this.1, hV _ this.1 (by omega)⟩
    have e := maxG_hi (t := t) (D := V) (l := rNeed (t.ops.getD k dOp) j) (fun _ => Iff.rfl) hr
    obtain ⟨a, ha, hE⟩ := h.all k j hk hj (.inl hk) (by rw [e, hiV_same hS hr, ← hu']; exact h1)
    refine ⟨a, ha, ?_⟩
    rw [(arcE_num hg hV hk hj hE).2, hu']
  · obtain ⟨k, j, hk, hj, h1, h2, h3, h4⟩ := h.of a ha
    refine ⟨by rw [h2]; exact rTo_ok hg hk hj, fun hs => ?_, k, h1, hk⟩
    rcases h4 with ⟨_, h5⟩ | ⟨_, _, h6⟩
    · rw [h5] at hs; cases hs
    · exact rNeed_ok hg hk hj _ h6.1
/-! ### Zones as lists of facts -/
structure ZoneL (t : TTask) (l : List Fact) : Prop where
  ok : ∀ f ∈ l, FactOk t.vars f
  nd : l.Nodup
theorem nodup_boundL {N : Nat} {l : List Int} (hd : l.Nodup) (h : ∀ v ∈ l, 0 ≤ v ∧ v < (N : Int)) : l.length ≤ N := by
  have := nodup_sub (m := (List.range N).map fun (i : Nat) => (i : Int)) hd fun x hx => List.mem_map.2 ⟨x.toNat, List.mem_range.2 (by have := h x hx; omega), Int.toNat_of_nonneg (h x hx).1⟩
  simpa using this
theorem ZoneL.len (hg : GoodT t) {l : List Fact} (h : ZoneL t l) : l.length ≤ factN t := by
  have hN := factN_eq hg
  have h1 : (l.map (numF t.vars)).Nodup := by
    have : ∀ {m : List Fact}, (∀ f ∈ m, FactOk t.vars f) → m.Nodup → (m.map (numF t.vars)).Nodup := by
      intro m
      induction m with
      | nil => intro _ _; simp
      | cons x m ih =>
        intro h1 h2
        rw [List.map_cons, List.nodup_cons]
        have h3 := List.nodup_cons.1 h2
        refine ⟨fun hx => ?_, ih (fun f hf => h1 f (List.mem_cons_of_mem _ hf)) h3.2⟩
        obtain ⟨y, hy, e⟩ := List.mem_map.1 hx
        have := numF_inj hg.pos (h1 y (List.mem_cons_of_mem _ hy)) (h1 x List.mem_cons_self) e
        exact h3.1 (this ▸ hy)
    exact this h.ok h.nd
  have := nodup_boundL (N := factN t) h1 fun v hv => by
    obtain ⟨f, hf, rfl⟩ := List.mem_map.1 hv
    have := numF_rng hg.pos (h.ok f hf)
    omega
  rw [List.length_map] at this
  exact this
theorem ZoneL.snoc {l : List Fact} (h : ZoneL t l) {f : Fact} (hf : FactOk t.vars f) (hn : f ∉ l) : ZoneL t (l ++ [f]) :=
  ⟨fun g hg => by
    rcases List.mem_append.1 hg with hg | hg
    · exact h.ok g hg
    · rw [List.mem_singleton.1 hg]; exact hf, List.nodup_append.2 ⟨h.nd, by simp, fun a ha b hb e => hn (by rw [List.mem_singleton.1 hb] at e; rw [← e]; exact ha)⟩⟩
theorem ZoneL.mem_num (hg : GoodT t) {l : List Fact} (h : ZoneL t l) {f : Fact} (hf : FactOk t.vars f) : f ∈ l ↔ ∃ g ∈ l, numF t.vars g = numF t.vars f :=
  ⟨fun h => ⟨f, h, rfl⟩, fun ⟨g, h1, h2⟩ => by rw [← numF_inj hg.pos (h.ok g h1) hf h2]; exact h1⟩
/-- The goal zone as a list: what stands before i is done, of the fact i the first m arcs. -/
structure GZ (t : TTask) (V cs : List Int) (g0 : Fact) (A : List RArc) (l : List Fact) (i m : Nat) : Prop where
  z : ZoneL t l
  g : g0 ∈ l
  sub : ∀ f ∈ l, ZT (withC t cs) V (numF t.vars g0) (numF t.vars f)
  cl : ∀ j, j < l.length → ∀ n, n < A.length → (j < i ∨ (j = i ∧ n < m)) → ∀ a, A[n]? = some a → a.start = false → l[j]? = some a.dst → cs.getD a.op.toNat tInt.dflt = 0 → a.src ∈ l
theorem GZ.start {g0 : Fact} {A : List RArc} (h : FactOk t.vars g0) : GZ t V cs g0 A [g0] 0 0 :=
  ⟨⟨fun f hf => by rw [List.mem_singleton.1 hf]; exact h, by simp⟩, List.mem_singleton.2 rfl, fun f hf => by rw [List.mem_singleton.1 hf]; exact .goal, fun j _ n _ h => by omega⟩
theorem GZ.skip {g0 : Fact} {A : List RArc} {l : List Fact} {i m : Nat} {a : RArc} (h : GZ t V cs g0 A l i m) (ha : A[m]? = some a) (hn : a.start = false → l[i]? = some a.dst → cs.getD a.op.toNat tInt.dflt = 0 → a.src ∈ l) : GZ t V cs g0 A l i (m + 1) := by
  refine ⟨h.z, h.g, h.sub, fun j hj n hn' hjn b hb h1 h2 h3 => ?_⟩
  by_cases e : j = i ∧ n = m
  · obtain ⟨rfl, rfl⟩ := e
    rw [ha] at hb
    cases hb
    exact hn h1 h2 h3
  · exact h.cl j hj n hn' (by omega) b hb h1 h2 h3
theorem GZ.push {g0 : Fact} {A : List RArc} {l : List Fact} {i m : Nat} {a : RArc} (h : GZ t V cs g0 A l i m) (hg : GoodT t) (hV : ∀ g : Int, 0 ≤ g → g < factN t → 0 ≤ dg V g) (hA : RAll t V A) (ha : A[m]? = some a) (hi : i < l.length) (h1 : a.start = false) (h2 : l[i]? = some a.dst) (h3 : cs.getD a.op.toNat tInt.dflt = 0) (hn : a.src ∉ l) : GZ t V cs g0 A (l ++ [a.src]) i (m + 1) := by
  have hma : a ∈ A := List.mem_of_getElem? ha
  have hfs := (hA.ok a hma).2.1 h1
  have hrs := numF_rng hg.pos hfs
  refine ⟨h.z.snoc hfs hn, by simp [h.g], fun f hf => ?_, fun j hj n hn' hjn b hb k1 k2 k3 => ?_⟩
  · rcases List.mem_append.1 hf with hf | hf
    · exact h.sub f hf
    · rw [List.mem_singleton.1 hf]
      have e : (numA t.vars a).src = numF t.vars a.src := by unfold numA; rw [h1]; rfl
      have := zt_arc (cs := cs) (g0 := numF t.vars g0) hg hV (hA.mem a hma) (by rw [e]; exact hrs.1) h3 (h.sub a.dst (List.mem_of_getElem? h2))
      rw [e] at this
      exact this
  · by_cases e : j = i ∧ n = m
    · obtain ⟨rfl, rfl⟩ := e
      rw [ha] at hb
      cases hb
      simp
    · have hjl : j < l.length := by omega
      rw [List.getElem?_append_left hjl] at k2
      exact List.mem_append_left _ (h.cl j hjl n hn' (by omega) b hb k1 k2 k3)
theorem GZ.next {g0 : Fact} {A : List RArc} {l : List Fact} {i : Nat} (h : GZ t V cs g0 A l i A.length) : GZ t V cs g0 A l (i + 1) 0 :=
  ⟨h.z, h.g, h.sub, fun j hj n hn' hjn b hb k1 k2 k3 => h.cl j hj n hn' (by omega) b hb k1 k2 k3⟩
/-- The goal zone. -/
theorem GZ.fin {g0 : Fact} {A : List RArc} {l : List Fact} (h : GZ t V cs g0 A l l.length 0) (hg : GoodT t) (hV : ∀ g : Int, 0 ≤ g → g < factN t → 0 ≤ dg V g) (hA : RAll t V A) {f : Fact} (hf : FactOk t.vars f) : f ∈ l ↔ ZT (withC t cs) V (numF t.vars g0) (numF t.vars f) := by
  refine ⟨fun h1 => h.sub f h1, fun h1 => (h.z.mem_num hg hf).2 ?_⟩
  refine zt_of (B := fun x => ∃ g ∈ l, numF t.vars g = x) hg hV ⟨g0, h.g, rfl⟩ ?_ h1
  rintro x hx h0 hc ⟨g, g1, g2⟩
  obtain ⟨a, ha, rfl⟩ := hA.of x hx
  have hs : a.start = false := by
    cases hs : a.start with
    | false => rfl
    | true =>
      unfold numA at h0
      rw [hs, if_pos rfl] at h0
      have h0' : (0 : Int) ≤ -1 := h0
      omega
  have e : (numA t.vars a).src = numF t.vars a.src := by unfold numA; rw [hs]; rfl
  have eg : g = a.dst := numF_inj hg.pos (h.z.ok g g1) (hA.ok a ha).1 g2
  obtain ⟨j, hj, ej⟩ := List.getElem_of_mem g1
  obtain ⟨n, hn, en⟩ := List.getElem_of_mem ha
  exact ⟨a.src, h.cl j hj n hn (.inl hj) a (by rw [List.getElem?_eq_getElem hn, en]) hs (by rw [List.getElem?_eq_getElem hj, ej, eg]) hc, e.symm⟩
/-- The start zone as a list. -/
structure SZ (t : TTask) (z V cs : List Int) (g0 : Fact) (l : List Fact) : Prop where
  zn : ZoneL t l
  st : ∀ v : Nat, v < t.vars.length → (⟨(v : Int), z.getD v tInt.dflt⟩ : Fact) ∈ l
  sub : ∀ f ∈ l, ZS (withC t cs) z V (numF t.vars g0) (numF t.vars f)
def stL1 (z : List Int) (k : Nat) : List Fact := (List.range k).map fun (v : Nat) => ⟨(v : Int), z.getD v tInt.dflt⟩
theorem stL1_succ (z : List Int) (k : Nat) : stL1 z (k + 1) = stL1 z k ++ [⟨(k : Int), z.getD k tInt.dflt⟩] := by simp [stL1, List.range_succ]
theorem stL1_len (z : List Int) (k : Nat) : (stL1 z k).length = k := by simp [stL1]
theorem SZ.start {g0 : Fact} (hs : StateOk t.vars z) : SZ t z V cs g0 (stL1 z t.vars.length) := by
  refine ⟨⟨fun f hf => ?_, ?_⟩, fun v hv => List.mem_map.2 ⟨v, List.mem_range.2 hv, rfl⟩, fun f hf => ?_⟩
  · obtain ⟨v, hv, rfl⟩ := List.mem_map.1 hf
    have hv := List.mem_range.1 hv
    have := hs.2 v (by rw [hs.1]; exact hv)
    exact ⟨Int.natCast_nonneg v, by show (v : Int) < _; omega, this.1, by rw [Int.toNat_natCast]; exact this.2⟩
  · unfold stL1
    refine List.pairwise_map.2 (List.Pairwise.imp ?_ (List.nodup_range (n := t.vars.length)))
    intro a b hab e
    simp only [Fact.mk.injEq] at e
    omega
  · obtain ⟨v, hv, rfl⟩ := List.mem_map.1 hf
    exact .st ⟨v, List.mem_range.1 hv, by unfold numF; rw [Int.toNat_natCast]; rfl⟩
theorem SZ.push {g0 : Fact} {A : List RArc} {l zn : List Fact} {a : RArc} (h : SZ t z V cs g0 l) (hg : GoodT t) (hV : ∀ g : Int, 0 ≤ g → g < factN t → 0 ≤ dg V g) (hA : RAll t V A) (hz : ∀ {f : Fact}, FactOk t.vars f → (f ∈ zn ↔ ZT (withC t cs) V (numF t.vars g0) (numF t.vars f))) (ha : a ∈ A) (h1 : a.start = true ∨ a.src ∈ l) (h2 : a.dst ∉ zn) (h3 : a.dst ∉ l) : SZ t z V cs g0 (l ++ [a.dst]) := by
  have hfd := (hA.ok a ha).1
  refine ⟨h.zn.snoc hfd h3, fun v hv => List.mem_append_left _ (h.st v hv), fun f hf => ?_⟩
  rcases List.mem_append.1 hf with hf | hf
  · exact h.sub f hf
  · rw [List.mem_singleton.1 hf]
    refine zs_arc (cs := cs) (z := z) (g0 := numF t.vars g0) hg hV (hA.mem a ha) ?_ fun hzt => h2 ((hz hfd).2 hzt)
    cases hs : a.start with
    | true => exact .inl (show (if a.start = true then (-1 : Int) else numF t.vars a.src) < 0 by rw [hs, if_pos rfl]; omega)
    | false =>
      rcases h1 with h1 | h1
      · rw [hs] at h1; cases h1
      · right
        have e : (numA t.vars a).src = numF t.vars a.src := by unfold numA; rw [hs]; rfl
        rw [e]; exact h.sub _ h1
theorem SZ.fin {g0 : Fact} {A : List RArc} {l zn : List Fact} (h : SZ t z V cs g0 l) (hg : GoodT t) (hV : ∀ g : Int, 0 ≤ g → g < factN t → 0 ≤ dg V g) (hA : RAll t V A) (hs : StateOk t.vars z) (hz : ∀ {f : Fact}, FactOk t.vars f → (f ∈ zn ↔ ZT (withC t cs) V (numF t.vars g0) (numF t.vars f))) (hcl : ∀ a ∈ A, (a.start = true ∨ a.src ∈ l) → a.dst ∉ zn → a.dst ∈ l) {f : Fact} (hf : FactOk t.vars f) : f ∈ l ↔ ZS (withC t cs) z V (numF t.vars g0) (numF t.vars f) := by
  refine ⟨fun h1 => h.sub f h1, fun h1 => (h.zn.mem_num hg hf).2 ?_⟩
  refine zs_of (S := fun x => ∃ g ∈ l, numF t.vars g = x) hg hV ?_ ?_ h1
  · rintro x ⟨v, hv, rfl⟩
    exact ⟨_, h.st v hv, by unfold numF; rw [Int.toNat_natCast]⟩
  · rintro x hx h0 hnz
    obtain ⟨a, ha, rfl⟩ := hA.of x hx
    refine ⟨a.dst, hcl a ha ?_ (fun h => hnz ((hz (hA.ok a ha).1).1 h)), rfl⟩
    cases hst : a.start with
    | true => exact .inl rfl
    | false =>
      right
      have e : (numA t.vars a).src = numF t.vars a.src := by unfold numA; rw [hst]; rfl
      have hfs := (hA.ok a ha).2.1 hst
      rw [e] at h0
      rcases h0 with h0 | ⟨g, g1, g2⟩
      · have := (numF_rng hg.pos hfs).1; omega
      · rw [← numF_inj hg.pos (h.zn.ok g g1) hfs g2]; exact g1
/-- An operator lies in the cut. -/
theorem inCut_r {g0 : Fact} {A : List RArc} {zn st : List Fact} (hg : GoodT t) (hV : ∀ g : Int, 0 ≤ g → g < factN t → 0 ≤ dg V g) (hA : RAll t V A) (hz : ∀ {f : Fact}, FactOk t.vars f → (f ∈ zn ↔ ZT (withC t cs) V (numF t.vars g0) (numF t.vars f))) (hs : ∀ {f : Fact}, FactOk t.vars f → (f ∈ st ↔ ZS (withC t cs) z V (numF t.vars g0) (numF t.vars f))) {i : Nat} : InCut (withC t cs) z V (numF t.vars g0) i ↔ ∃ a ∈ A, a.op = (i : Int) ∧ (a.start = true ∨ a.src ∈ st) ∧ a.dst ∈ zn := by
  rw [inCut_arc hg hV]
  constructor
  · rintro ⟨x, hx, h1, h2, h3⟩
    obtain ⟨a, ha, rfl⟩ := hA.of x hx
    refine ⟨a, ha, h1, ?_, (hz (hA.ok a ha).1).2 h3⟩
    cases hst : a.start with
    | true => exact .inl rfl
    | false =>
      right
      have e : (numA t.vars a).src = numF t.vars a.src := by unfold numA; rw [hst]; rfl
      have hfs := (hA.ok a ha).2.1 hst
      rw [e] at h2
      rcases h2 with h2 | h2
      · have := (numF_rng hg.pos hfs).1; omega
      · exact (hs hfs).2 h2
  · rintro ⟨a, ha, h1, h2, h3⟩
    refine ⟨_, hA.mem a ha, h1, ?_, (hz (hA.ok a ha).1).1 h3⟩
    cases hst : a.start with
    | true => exact .inl (show (if a.start = true then (-1 : Int) else numF t.vars a.src) < 0 by rw [hst, if_pos rfl]; omega)
    | false =>
      rcases h2 with h2 | h2
      · rw [hst] at h2; cases h2
      · right
        have e : (numA t.vars a).src = numF t.vars a.src := by unfold numA; rw [hst]; rfl
        rw [e]; exact (hs ((hA.ok a ha).2.1 hst)).1 h2
end
end Go.Proofs.YtkmbenhffledpaaGreat
