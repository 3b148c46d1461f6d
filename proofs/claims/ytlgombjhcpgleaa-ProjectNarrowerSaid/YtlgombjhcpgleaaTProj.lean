/-
  Projections of tasks to patterns, in plain Lean.
-/
import Derived.Test.YtlgombjhcpgleaaTState
import Derived.Test.YtlgombjhcpgleaaTCheck
namespace Go.Proofs.Ytlgombjhcpgleaa
open Go.Sl

abbrev sg (s : List Int) (v : Int) : Int := s.getD v.toNat tInt.dflt
def valsL (s p : List Int) : List Int := p.map (sg s)
def cntL (vars p : List Int) : Int := prodL (valsL vars p)
def idxL (vars p s : List Int) : Int := rankL (valsL vars p) (valsL s p)
def PatOk (vars p : List Int) : Prop := ∀ i, i < p.length → (0 ≤ p.getD i tInt.dflt ∧ p.getD i tInt.dflt < vars.length) ∧ (0 < i → p.getD (i - 1) tInt.dflt < p.getD i tInt.dflt)
/-- Variables of the task, none twice. -/
structure InV (vars p : List Int) : Prop where
  mem : ∀ v ∈ p, 0 ≤ v ∧ v < vars.length
  asc : p.Pairwise (· < ·)

theorem sg_set_self {s : List Int} {v x : Int} (h0 : 0 ≤ v) (h : v < s.length) : sg (s.set v.toNat x) v = x := by
  simp [sg, List.getD, List.getElem?_set, show v.toNat < s.length by omega]
theorem sg_set_ne {s : List Int} {v u x : Int} (h0 : 0 ≤ v) (h1 : 0 ≤ u) (h : v ≠ u) : sg (s.set v.toNat x) u = sg s u := by
  simp [sg, List.getD, List.getElem?_set, show v.toNat ≠ u.toNat by omega]
theorem sg_of {s : List Int} {i : Nat} : sg s (i : Int) = s.getD i tInt.dflt := by simp [sg]
theorem PatOk.inV {vars p : List Int} (h : PatOk vars p) : InV vars p := by
  refine ⟨fun v hv => ?_, ?_⟩
  · obtain ⟨i, hi, rfl⟩ := List.getElem_of_mem hv
    have := (h i hi).1
    rwa [getD_at hi] at this
  · rw [List.pairwise_iff_getElem]
    intro i j hi hj hij
    have key : ∀ k, (hk : i + k + 1 < p.length) → p[i] < p[i + k + 1] := by
      intro k
      induction k with
      | zero => intro hk; have := (h (i + 1) (by omega)).2 (by omega); rw [getD_at (by omega), getD_at (by omega)] at this; simpa using this
      | succ k ih =>
        intro hk
        have h1 := ih (by omega)
        have := (h (i + k + 1 + 1) (by omega)).2 (by omega)
        rw [getD_at (by omega), getD_at (by omega)] at this
        simp only [Nat.add_sub_cancel] at this
        exact Int.lt_trans h1 this
    have := key (j - i - 1) (by omega)
    simpa [show i + (j - i - 1) + 1 = j by omega] using this
theorem InV.pat {vars p : List Int} (h : InV vars p) : PatOk vars p := fun i hi =>
  ⟨h.mem _ (mem_getD _ hi), fun h0 => by
    rw [getD_at hi, getD_at (by omega)]
    exact List.pairwise_iff_getElem.1 h.asc _ _ _ _ (by omega)⟩
theorem InV.init {vars l : List Int} {v : Int} (h : InV vars (l ++ [v])) : InV vars l ∧ (0 ≤ v ∧ v < vars.length) ∧ v ∉ l := by
  refine ⟨⟨fun u hu => h.mem u (by simp [hu]), (List.pairwise_append.1 h.asc).1⟩, h.mem v (by simp), fun hv => ?_⟩
  have := (List.pairwise_append.1 h.asc).2.2 v hv v (by simp)
  omega
theorem InV.nodup {vars p : List Int} (h : InV vars p) : p.Nodup := h.asc.imp fun h e => by omega
theorem InV.le {vars p : List Int} (h : InV vars p) : ∀ i, i < p.length → (i : Int) ≤ p.getD i tInt.dflt
  | 0, hi => (h.mem _ (mem_getD _ hi)).1
  | i + 1, hi => by
    have h1 := InV.le h i (by omega)
    have h2 := (h.pat (i + 1) hi).2 (by omega)
    simp only [Nat.add_sub_cancel] at h2
    omega
theorem InV.len {vars p : List Int} (h : InV vars p) : p.length ≤ vars.length := by
  rcases Nat.eq_zero_or_pos p.length with h0 | h0
  · omega
  · have h1 := h.le (p.length - 1) (by omega)
    have h2 := h.mem _ (mem_getD tInt.dflt (show p.length - 1 < p.length by omega))
    omega
theorem valsL_snoc (s l : List Int) (v : Int) : valsL s (l ++ [v]) = valsL s l ++ [sg s v] := by simp [valsL]
theorem valsL_len (s p : List Int) : (valsL s p).length = p.length := by simp [valsL]
theorem valsL_getD {s p : List Int} {i : Nat} (hi : i < p.length) : (valsL s p).getD i tInt.dflt = sg s (p.getD i tInt.dflt) := by
  rw [getD_at (by rw [valsL_len]; exact hi), getD_at hi]; simp [valsL]
theorem valsL_ok {vars s p : List Int} (hs : StateOk vars s) (hp : ∀ v ∈ p, 0 ≤ v ∧ v < vars.length) : StateOk (valsL vars p) (valsL s p) := by
  refine ⟨by simp [valsL_len], fun i hi => ?_⟩
  rw [valsL_len] at hi
  rw [valsL_getD hi, valsL_getD hi]
  have := hp _ (mem_getD tInt.dflt hi)
  exact hs.2 _ (by rw [hs.1]; omega)
theorem valsL_pos {vars p : List Int} (h : ∀ x ∈ vars, 1 ≤ x) (hp : ∀ v ∈ p, 0 ≤ v ∧ v < vars.length) : ∀ x ∈ valsL vars p, 1 ≤ x := by
  intro x hx
  obtain ⟨v, hv, rfl⟩ := List.mem_map.1 hx
  have := hp v hv
  exact h _ (mem_getD tInt.dflt (by omega))
theorem idxL_bound {vars s p : List Int} (hs : StateOk vars s) (hp : ∀ v ∈ p, 0 ≤ v ∧ v < vars.length) : 0 ≤ idxL vars p s ∧ idxL vars p s < cntL vars p := rankL_bound (valsL_ok hs hp)
theorem cntL_snoc (vars l : List Int) (v : Int) : cntL vars (l ++ [v]) = cntL vars l * sg vars v := by simp [cntL, valsL_snoc, prodL_snoc]
theorem idxL_snoc (vars l s : List Int) (v : Int) : idxL vars (l ++ [v]) s = idxL vars l s * sg vars v + sg s v := by
  rw [idxL, valsL_snoc, valsL_snoc, rankL_snoc (by simp [valsL_len])]; rfl
theorem idxL_congr {vars p s s' : List Int} (h : ∀ v ∈ p, sg s v = sg s' v) : idxL vars p s = idxL vars p s' := by
  unfold idxL valsL
  rw [List.map_congr_left h]
theorem idxL_inj {vars p s s' : List Int} (hs : StateOk vars s) (hs' : StateOk vars s') (hp : ∀ v ∈ p, 0 ≤ v ∧ v < vars.length) (h : idxL vars p s = idxL vars p s') : ∀ v ∈ p, sg s v = sg s' v := by
  have := rankL_inj (valsL_ok hs hp) (valsL_ok hs' hp) h
  intro v hv
  exact List.map_inj_left.1 this v hv
theorem cntL_pos {vars p : List Int} (h : ∀ x ∈ vars, 1 ≤ x) (hp : ∀ v ∈ p, 0 ≤ v ∧ v < vars.length) : 1 ≤ cntL vars p := prodL_pos (valsL_pos h hp)

/-! ### Setting the values of variables by their number -/
def putF (dom : List Int) (p : List Int × Int) (v : Int) : List Int × Int := (p.1.set v.toNat (p.2.tmod (dom.getD v.toNat tInt.dflt)), p.2.tdiv (dom.getD v.toNat tInt.dflt))
def putR (dom vs : List Int) (s : List Int) (n : Int) : List Int × Int := vs.foldl (putF dom) (s, n)
theorem putR_snoc (dom vs : List Int) (s : List Int) (n v : Int) : putR dom (vs ++ [v]) s n = putF dom (putR dom vs s n) v := by simp [putR]
theorem putR_len (dom vs : List Int) (s : List Int) (n : Int) : (putR dom vs s n).1.length = s.length := by
  refine snoc_ind (P := fun vs => (putR dom vs s n).1.length = s.length) rfl ?_ vs
  intro l v ih; rw [putR_snoc, putF]; simp [ih]
theorem putR_bd {dom vs : List Int} {s : List Int} {n : Int} (hd : ∀ x ∈ dom, 1 ≤ x) (hn : 0 ≤ n) : (∀ v ∈ vs, 0 ≤ v ∧ v < dom.length) → 0 ≤ (putR dom vs s n).2 ∧ (putR dom vs s n).2 ≤ n := by
  refine snoc_ind (P := fun (vs : List Int) => (∀ v ∈ vs, 0 ≤ v ∧ v < dom.length) → 0 ≤ (putR dom vs s n).2 ∧ (putR dom vs s n).2 ≤ n) (fun _ => ⟨hn, Int.le_refl _⟩) ?_ vs
  intro l v ih h
  obtain ⟨h1, h2⟩ := ih fun x hx => h x (by simp [hx])
  obtain ⟨h3, h4⟩ := h v (by simp)
  have h5 := hd _ (mem_getD tInt.dflt (show v.toNat < dom.length by omega))
  rw [putR_snoc, putF]
  simp only
  rw [Int.tdiv_eq_ediv_of_nonneg h1]
  exact ⟨Int.ediv_nonneg h1 (by omega), Int.le_trans (Int.ediv_le_self _ h1) h2⟩
def putS (vars p s : List Int) (n : Int) : List Int := (putR vars p.reverse s n).1
theorem putS_snoc (vars l s : List Int) (v n : Int) : putS vars (l ++ [v]) s n = putS vars l (s.set v.toNat (n.tmod (sg vars v))) (n.tdiv (sg vars v)) := by
  simp [putS, putR, putF, List.reverse_append]
theorem putS_len (vars p s : List Int) (n : Int) : (putS vars p s n).length = s.length := putR_len _ _ _ _
theorem putS_spec {vars p : List Int} (hd : ∀ x ∈ vars, 1 ≤ x) : ∀ {s : List Int} {n : Int}, InV vars p → s.length = vars.length → 0 ≤ n → n < cntL vars p →
    idxL vars p (putS vars p s n) = n ∧ (∀ v ∈ p, 0 ≤ sg (putS vars p s n) v ∧ sg (putS vars p s n) v < sg vars v) ∧ ∀ v, 0 ≤ v → v ∉ p → sg (putS vars p s n) v = sg s v := by
  refine snoc_ind (P := fun p => ∀ {s : List Int} {n : Int}, InV vars p → s.length = vars.length → 0 ≤ n → n < cntL vars p →
    idxL vars p (putS vars p s n) = n ∧ (∀ v ∈ p, 0 ≤ sg (putS vars p s n) v ∧ sg (putS vars p s n) v < sg vars v) ∧ ∀ v, 0 ≤ v → v ∉ p → sg (putS vars p s n) v = sg s v) ?_ ?_ p
  · intro s n _ _ h0 h1
    refine ⟨?_, fun v hv => by simp at hv, fun v _ _ => rfl⟩
    have : cntL vars [] = 1 := rfl
    have : idxL vars [] (putS vars [] s n) = 0 := rfl
    omega
  · intro l v ih s n hV hl h0 h1
    obtain ⟨hV', ⟨hv0, hv1⟩, hvl⟩ := hV.init
    have hdv : 1 ≤ sg vars v := hd _ (mem_getD tInt.dflt (by omega))
    rw [putS_snoc, Int.tmod_eq_emod_of_nonneg h0, Int.tdiv_eq_ediv_of_nonneg h0]
    rw [cntL_snoc] at h1
    have hq0 : 0 ≤ n / sg vars v := Int.ediv_nonneg h0 (by omega)
    have hq1 : n / sg vars v < cntL vars l := Int.ediv_lt_of_lt_mul (by omega) h1
    obtain ⟨i1, i2, i3⟩ := ih (s := s.set v.toNat (n % sg vars v)) hV' (by simp [hl]) hq0 hq1
    have hsv : sg (putS vars l (s.set v.toNat (n % sg vars v)) (n / sg vars v)) v = n % sg vars v := by
      rw [i3 v hv0 hvl, sg_set_self hv0 (by omega)]
    have hm0 := Int.emod_nonneg n (show sg vars v ≠ 0 by omega)
    have hm1 := Int.emod_lt_of_pos n (show 0 < sg vars v by omega)
    refine ⟨?_, fun u hu => ?_, fun u hu0 hu => ?_⟩
    · rw [idxL_snoc, i1, hsv]
      have := Int.mul_ediv_add_emod n (sg vars v)
      rw [Int.mul_comm]; exact this
    · rcases List.mem_append.1 hu with h | h
      · exact i2 u h
      · rw [List.mem_singleton.1 h, hsv]; exact ⟨hm0, hm1⟩
    · have hne : v ≠ u := fun e => hu (by simp [e])
      rw [i3 u hu0 (fun h => hu (by simp [h])), sg_set_ne hv0 hu0 hne]
theorem putS_ok {vars p s : List Int} {n : Int} (hd : ∀ x ∈ vars, 1 ≤ x) (hV : InV vars p) (h0 : 0 ≤ n) (h1 : n < cntL vars p) (hl : s.length = vars.length) (hs : ∀ v : Int, 0 ≤ v → v < vars.length → v ∉ p → 0 ≤ sg s v ∧ sg s v < sg vars v) : StateOk vars (putS vars p s n) := by
  obtain ⟨_, i2, i3⟩ := putS_spec (s := s) hd hV hl h0 h1
  refine ⟨by rw [putS_len, hl], fun i hi => ?_⟩
  rw [putS_len, hl] at hi
  rw [← sg_of, ← sg_of]
  by_cases hm : (i : Int) ∈ p
  · exact i2 _ hm
  · rw [i3 _ (by omega) hm]; exact hs _ (by omega) (by omega) hm
theorem StateOk.rng {vars s : List Int} (h : StateOk vars s) {v : Int} (h0 : 0 ≤ v) (h1 : v < vars.length) : 0 ≤ sg s v ∧ sg s v < sg vars v := h.2 _ (by rw [h.1]; omega)

/-! ### Ascending lists -/
theorem asc_ext {l : List Int} : ∀ {m : List Int}, l.Pairwise (· < ·) → m.Pairwise (· < ·) → (∀ x, x ∈ l ↔ x ∈ m) → l = m := by
  induction l with
  | nil =>
    intro m _ _ h
    cases m with
    | nil => rfl
    | cons y m => exact absurd ((h y).2 (by simp)) (by simp)
  | cons x l ih =>
    intro m hl hm h
    cases m with
    | nil => exact absurd ((h x).1 (by simp)) (by simp)
    | cons y m =>
      rw [List.pairwise_cons] at hl hm
      have hxy : x = y := by
        rcases List.mem_cons.1 ((h x).1 (by simp)) with e | e
        · exact e
        · rcases List.mem_cons.1 ((h y).2 (by simp)) with e' | e'
          · exact e'.symm
          · have := hl.1 y e'; have := hm.1 x e; omega
      subst hxy
      refine congrArg _ (ih hl.2 hm.2 fun z => ?_)
      constructor
      · intro hz
        rcases List.mem_cons.1 ((h z).1 (by simp [hz])) with e | e
        · have := hl.1 z hz; omega
        · exact e
      · intro hz
        rcases List.mem_cons.1 ((h z).2 (by simp [hz])) with e | e
        · have := hm.1 z hz; omega
        · exact e
/-- The numbers below n, ascending. -/
def upTo (n : Int) : List Int := (List.range n.toNat).map fun (i : Nat) => (i : Int)
theorem upTo_mem {n x : Int} : x ∈ upTo n ↔ 0 ≤ x ∧ x < n := by
  simp only [upTo, List.mem_map, List.mem_range]
  constructor
  · rintro ⟨i, hi, rfl⟩; omega
  · intro h; exact ⟨x.toNat, by omega, by omega⟩
theorem upTo_asc (n : Int) : (upTo n).Pairwise (· < ·) := by
  rw [upTo, List.pairwise_map]
  exact List.pairwise_lt_range.imp fun h => by omega
theorem upTo_len (n : Int) : (upTo n).length = n.toNat := by simp [upTo]
open Classical in
noncomputable def pickL (n : Int) (p : Int → Prop) : List Int := (upTo n).filter fun x => decide (p x)
theorem pickL_mem {n x : Int} {p : Int → Prop} : x ∈ pickL n p ↔ (0 ≤ x ∧ x < n) ∧ p x := by simp [pickL, upTo_mem]
theorem pickL_asc (n : Int) (p : Int → Prop) : (pickL n p).Pairwise (· < ·) := (upTo_asc n).filter _
theorem pickL_len (n : Int) (p : Int → Prop) : (pickL n p).length ≤ n.toNat := by
  have := List.length_filter_le (fun x => @decide (p x) (Classical.propDecidable _)) (upTo n)
  rw [upTo_len] at this
  exact this
theorem asc_pick {l : List Int} {n : Int} {p : Int → Prop} (hl : l.Pairwise (· < ·)) (h : ∀ x, x ∈ l ↔ (0 ≤ x ∧ x < n) ∧ p x) : l = pickL n p :=
  asc_ext hl (pickL_asc n p) fun x => (h x).trans pickL_mem.symm

/-! ### The abstract steps -/
def TGp (t : TTask) (p : List Int) (a : Int) (op : Nat) (b : Int) : Prop := ∃ s, StateOk t.vars s ∧ idxL t.vars p s = a ∧ AppT t s op ∧ idxL t.vars p (succT t s op) = b
noncomputable def tgtL (t : TTask) (p : List Int) (a : Int) (op : Nat) : List Int := pickL (cntL t.vars p) (TGp t p a op)
def partL (p : List Int) (f : List Fact) : List Fact := f.filter fun x => decide (x.var ∈ p)
def GoalP (t : TTask) (p : List Int) (a : Int) : Prop := ∃ s, StateOk t.vars s ∧ idxL t.vars p s = a ∧ HoldFs s (partL p t.goal)
/-- Variables outside of the pattern that decide about effects on it and are not in the precondition. -/
def FreeOf (o : TOp) (p : List Int) (v : Int) : Prop := (∃ e ∈ o.effs, e.var ∈ p ∧ ∃ f ∈ e.when, f.var = v) ∧ v ∉ p ∧ ∀ f ∈ o.pre, f.var ≠ v
noncomputable def freeL (vars : List Int) (o : TOp) (p : List Int) : List Int := pickL vars.length (FreeOf o p)
theorem freeL_inV (vars : List Int) (o : TOp) (p : List Int) : InV vars (freeL vars o p) := ⟨fun v hv => (pickL_mem.1 hv).1, pickL_asc _ _⟩
/-- The effects on a pattern, in their order. -/
def effsP (p s : List Int) (effs : List Eff) : List Int := effs.foldl (fun out e => if e.var ∈ p ∧ HoldFs s e.when then out.set e.var.toNat e.val else out) s
theorem effsP_snoc (p s : List Int) (l : List Eff) (e : Eff) : effsP p s (l ++ [e]) = if e.var ∈ p ∧ HoldFs s e.when then (effsP p s l).set e.var.toNat e.val else effsP p s l := by simp [effsP]
theorem effsP_len (p s : List Int) (l : List Eff) : (effsP p s l).length = s.length := by
  refine snoc_ind (P := fun l => (effsP p s l).length = s.length) rfl ?_ l
  intro l e ih; rw [effsP_snoc]; split <;> simp [ih]
theorem effsP_eq {vars p s : List Int} {l : List Eff} (hs : s.length = vars.length) (hp : ∀ v ∈ p, 0 ≤ v ∧ v < vars.length) : (∀ e ∈ l, EffOk vars e) → ∀ v ∈ p, sg (effsP p s l) v = sg (effsL s l) v := by
  refine snoc_ind (P := fun l => (∀ e ∈ l, EffOk vars e) → ∀ v ∈ p, sg (effsP p s l) v = sg (effsL s l) v) (fun _ _ _ => rfl) ?_ l
  intro l e ih h v hv
  have h1 := ih (fun x hx => h x (by simp [hx])) v hv
  obtain ⟨a, b, c, d⟩ := effOk_range (h e (by simp))
  obtain ⟨hv0, hv1⟩ := hp v hv
  rw [effsP_snoc, effsL_snoc]
  by_cases hh : HoldFs s e.when
  · by_cases hm : e.var ∈ p
    · rw [if_pos ⟨hm, hh⟩, if_pos hh]
      by_cases hev : e.var = v
      · rw [← hev, sg_set_self a (by rw [effsP_len]; omega), sg_set_self a (by rw [effsL_len]; omega)]
      · rw [sg_set_ne a hv0 hev, sg_set_ne a hv0 hev, h1]
    · rw [if_neg (fun h => hm h.1), if_pos hh, sg_set_ne a hv0 (fun e' => hm (e' ▸ hv)), h1]
  · rw [if_neg (fun h => hh h.2), if_neg hh, h1]
theorem holdF_congr {s s' : List Int} {x : Fact} (hl : s.length = s'.length) (h : sg s x.var = sg s' x.var) : HoldF s x ↔ HoldF s' x := by
  unfold HoldF
  rw [hl, show s.getD x.var.toNat tInt.dflt = s'.getD x.var.toNat tInt.dflt from h]
theorem holdFs_congr {s s' : List Int} {f : List Fact} (hl : s.length = s'.length) (h : ∀ x ∈ f, sg s x.var = sg s' x.var) : HoldFs s f ↔ HoldFs s' f := by
  rw [holdFs_iff, holdFs_iff]
  constructor
  · intro hh x hx; exact (holdF_congr hl (h x hx)).1 (hh x hx)
  · intro hh x hx; exact (holdF_congr hl (h x hx)).2 (hh x hx)
theorem effsP_congr {vars p s s' : List Int} {l : List Eff} (hl : s.length = vars.length) (hl' : s'.length = vars.length) (hp : ∀ v ∈ p, 0 ≤ v ∧ v < vars.length) (hpp : ∀ v ∈ p, sg s v = sg s' v) :
    (∀ e ∈ l, EffOk vars e) → (∀ e ∈ l, e.var ∈ p → ∀ f ∈ e.when, sg s f.var = sg s' f.var) → ∀ v ∈ p, sg (effsP p s l) v = sg (effsP p s' l) v := by
  refine snoc_ind (P := fun l => (∀ e ∈ l, EffOk vars e) → (∀ e ∈ l, e.var ∈ p → ∀ f ∈ e.when, sg s f.var = sg s' f.var) → ∀ v ∈ p, sg (effsP p s l) v = sg (effsP p s' l) v) (fun _ _ => hpp) ?_ l
  intro l e ih h hw v hv
  have h1 := ih (fun x hx => h x (by simp [hx])) (fun x hx => hw x (by simp [hx])) v hv
  obtain ⟨a, b, c, d⟩ := effOk_range (h e (by simp))
  obtain ⟨hv0, hv1⟩ := hp v hv
  rw [effsP_snoc, effsP_snoc]
  by_cases hm : e.var ∈ p
  · have hc := holdFs_congr (hl.trans hl'.symm) (hw e (by simp) hm)
    by_cases hh : HoldFs s e.when
    · rw [if_pos ⟨hm, hh⟩, if_pos ⟨hm, hc.1 hh⟩]
      by_cases hev : e.var = v
      · rw [← hev, sg_set_self a (by rw [effsP_len]; omega), sg_set_self a (by rw [effsP_len]; omega)]
      · rw [sg_set_ne a hv0 hev, sg_set_ne a hv0 hev, h1]
    · rw [if_neg (fun h => hh h.2), if_neg (fun h => hh (hc.2 h.2)), h1]
  · rw [if_neg (fun h => hm h.1), if_neg (fun h => hm h.1), h1]
end Go.Proofs.Ytlgombjhcpgleaa
