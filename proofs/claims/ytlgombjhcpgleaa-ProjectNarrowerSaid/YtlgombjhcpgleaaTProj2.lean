/-
  What 'targets' computes: the abstract steps, in plain Lean.
-/
import Derived.Test.YtlgombjhcpgleaaTProj
namespace Go.Proofs.Ytlgombjhcpgleaa
open Go.Sl

def zerosL (n : Nat) : List Int := List.replicate n 0
theorem zerosL_len (n : Nat) : (zerosL n).length = n := by simp [zerosL]
theorem zerosL_sg (n : Nat) (v : Int) : sg (zerosL n) v = 0 := by
  simp only [sg, zerosL, List.getD_eq_getElem?_getD, List.getElem?_replicate]
  split <;> rfl
def preS (p s : List Int) (f : List Fact) : List Int := f.foldl (fun s x => if x.var ∈ p then s else s.set x.var.toNat x.val) s
theorem preS_snoc (p s : List Int) (f : List Fact) (x : Fact) : preS p s (f ++ [x]) = if x.var ∈ p then preS p s f else (preS p s f).set x.var.toNat x.val := by simp [preS]
theorem preS_len (p s : List Int) (f : List Fact) : (preS p s f).length = s.length := by
  refine snoc_ind (P := fun f => (preS p s f).length = s.length) rfl ?_ f
  intro l e ih; rw [preS_snoc]; split <;> simp [ih]
def PreIn (p s : List Int) (f : List Fact) : Prop := ∀ x ∈ f, x.var ∈ p → sg s x.var = x.val
theorem facts_mem {vars : List Int} {f : List Fact} (h : FactsOk vars f) : ∀ x ∈ f, FactOk vars x := by
  intro x hx
  obtain ⟨i, hi, rfl⟩ := List.getElem_of_mem hx
  have := (h i hi).1
  rwa [getD_at hi] at this
theorem facts_pw {vars : List Int} {f : List Fact} (h : FactsOk vars f) : f.Pairwise fun x y => x.var < y.var := by
  rw [List.pairwise_iff_getElem]
  intro i j hi hj hij
  have key : ∀ k, (hk : i + k + 1 < f.length) → f[i].var < f[i + k + 1].var := by
    intro k
    induction k with
    | zero => intro hk; have := (h (i + 1) (by omega)).2 (by omega); rw [getD_at (by omega), getD_at (by omega)] at this; simpa using this
    | succ k ih =>
      intro hk
      have h1 := ih (by omega)
      have := (h (i + k + 1 + 1) (by omega)).2 (by omega)
      rw [getD_at (by omega), getD_at (by omega)] at this
      simp only [Nat.add_sub_cancel] at this
      exact Int.lt_trans h1 this
  have := key (j - i - 1) (by omega)
  simpa [show i + (j - i - 1) + 1 = j by omega] using this
theorem preS_other {vars p s : List Int} {f : List Fact} {v : Int} (hv : 0 ≤ v) : (∀ x ∈ f, FactOk vars x) → (∀ x ∈ f, x.var ∉ p → x.var ≠ v) → sg (preS p s f) v = sg s v := by
  refine snoc_ind (P := fun f => (∀ x ∈ f, FactOk vars x) → (∀ x ∈ f, x.var ∉ p → x.var ≠ v) → sg (preS p s f) v = sg s v) (fun _ _ => rfl) ?_ f
  intro l x ih h hn
  have h1 := ih (fun y hy => h y (by simp [hy])) (fun y hy => hn y (by simp [hy]))
  have hx := h x (by simp)
  rw [preS_snoc]
  split
  · exact h1
  · rename_i hm
    rw [sg_set_ne hx.1 hv (hn x (by simp) hm), h1]
theorem preS_val {vars p s : List Int} {f : List Fact} (hs : s.length = vars.length) : (∀ x ∈ f, FactOk vars x) → (f.Pairwise fun x y => x.var < y.var) → ∀ x ∈ f, x.var ∉ p → sg (preS p s f) x.var = x.val := by
  refine snoc_ind (P := fun f => (∀ x ∈ f, FactOk vars x) → (f.Pairwise fun x y => x.var < y.var) → ∀ x ∈ f, x.var ∉ p → sg (preS p s f) x.var = x.val) (fun _ _ x hx => by simp at hx) ?_ f
  intro l y ih h hp x hx hxp
  have hy := h y (by simp)
  have hfx := h x hx
  rw [preS_snoc]
  rcases List.mem_append.1 hx with hx' | hx'
  · have h1 := ih (fun z hz => h z (by simp [hz])) (List.pairwise_append.1 hp).1 x hx' hxp
    have hlt := (List.pairwise_append.1 hp).2.2 x hx' y (by simp)
    split
    · exact h1
    · rw [sg_set_ne hy.1 hfx.1 (by omega), h1]
  · rw [List.mem_singleton.1 hx'] at hxp ⊢
    rw [if_neg hxp, sg_set_self hy.1 (by rw [preS_len, hs]; exact hy.2.1)]
theorem preS_ok {vars p s : List Int} {f : List Fact} (hs : StateOk vars s) : (∀ x ∈ f, FactOk vars x) → StateOk vars (preS p s f) := by
  refine snoc_ind (P := fun f => (∀ x ∈ f, FactOk vars x) → StateOk vars (preS p s f)) (fun _ => hs) ?_ f
  intro l x ih h
  have h1 := ih fun y hy => h y (by simp [hy])
  have hx := h x (by simp)
  rw [preS_snoc]
  split
  · exact h1
  · exact stateOk_set h1 hx.1 hx.2.2.1 hx.2.2.2

section
variable {t : TTask} {p : List Int} {op : Nat} {a : Int}
def opT (t : TTask) (op : Nat) : TOp := t.ops.getD op dOp
def st1 (t : TTask) (p : List Int) (a : Int) : List Int := putS t.vars p (zerosL t.vars.length) a
def st2 (t : TTask) (p : List Int) (op : Nat) (a : Int) : List Int := preS p (st1 t p a) (opT t op).pre
noncomputable def frL (t : TTask) (p : List Int) (op : Nat) : List Int := freeL t.vars (opT t op) p
/-- What the first k rounds have found. -/
def OutOf (t : TTask) (p : List Int) (op : Nat) (a k b : Int) : Prop := ∃ S, StateOk t.vars S ∧ (∀ v, 0 ≤ v → v ∉ frL t p op → sg S v = sg (st2 t p op a) v) ∧ idxL t.vars (frL t p op) S < k ∧ idxL t.vars p (effsP p S (opT t op).effs) = b

theorem zeros_ok (hd : ∀ x ∈ t.vars, 1 ≤ x) : StateOk t.vars (zerosL t.vars.length) := by
  refine ⟨zerosL_len _, fun i hi => ?_⟩
  rw [zerosL_len] at hi
  have := hd _ (mem_getD tInt.dflt hi)
  rw [← sg_of, zerosL_sg]
  omega
theorem st1_ok (hg : GoodT t) (hp : InV t.vars p) (h0 : 0 ≤ a) (h1 : a < cntL t.vars p) : StateOk t.vars (st1 t p a) ∧ idxL t.vars p (st1 t p a) = a := by
  have hz := zeros_ok (t := t) hg.pos
  exact ⟨putS_ok hg.pos hp h0 h1 (zerosL_len _) fun v hv hv' _ => hz.rng hv hv', (putS_spec hg.pos hp (zerosL_len _) h0 h1).1⟩
theorem st1_p (hg : GoodT t) (hp : InV t.vars p) (h0 : 0 ≤ a) (h1 : a < cntL t.vars p) {s : List Int} (hs : StateOk t.vars s) (ha : idxL t.vars p s = a) : ∀ v ∈ p, sg s v = sg (st1 t p a) v :=
  idxL_inj hs (st1_ok hg hp h0 h1).1 hp.mem (ha.trans (st1_ok hg hp h0 h1).2.symm)
theorem opFacts (hg : GoodT t) (ho : op < t.ops.length) : (∀ x ∈ (opT t op).pre, FactOk t.vars x) ∧ ((opT t op).pre.Pairwise fun x y => x.var < y.var) :=
  ⟨facts_mem (hg.op op ho).pre, facts_pw (hg.op op ho).pre⟩
theorem st2_ok (hg : GoodT t) (hp : InV t.vars p) (ho : op < t.ops.length) (h0 : 0 ≤ a) (h1 : a < cntL t.vars p) : StateOk t.vars (st2 t p op a) := preS_ok (st1_ok hg hp h0 h1).1 (opFacts hg ho).1
theorem st2_p (hg : GoodT t) (hp : InV t.vars p) (ho : op < t.ops.length) : ∀ v ∈ p, sg (st2 t p op a) v = sg (st1 t p a) v := fun v hv =>
  preS_other (hp.mem v hv).1 (opFacts hg ho).1 fun x _ hx e => hx (e ▸ hv)
theorem frL_p {v : Int} (hv : v ∈ frL t p op) : v ∉ p := (pickL_mem.1 hv).2.2.1
theorem frL_pre {x : Fact} (hx : x ∈ (opT t op).pre) : x.var ∉ frL t p op := fun h => (pickL_mem.1 h).2.2.2 x hx rfl
/-- No state projects to a and satisfies the precondition. -/
theorem tgt_none (hg : GoodT t) (hp : InV t.vars p) (h0 : 0 ≤ a) (h1 : a < cntL t.vars p) (hn : ¬ PreIn p (st1 t p a) (opT t op).pre) : tgtL t p a op = [] := by
  refine (asc_pick List.Pairwise.nil fun b => ⟨fun h => by simp at h, ?_⟩).symm
  rintro ⟨_, s, hs, ha, happ, _⟩
  exact absurd (fun x hx hxp => by
    rw [← st1_p hg hp h0 h1 hs ha _ hxp]
    exact (holdFs_iff.1 happ x hx).2.2) hn
theorem out_tg (hg : GoodT t) (hp : InV t.vars p) (ho : op < t.ops.length) (h0 : 0 ≤ a) (h1 : a < cntL t.vars p) (hpre : PreIn p (st1 t p a) (opT t op).pre) {b : Int} :
    OutOf t p op a (cntL t.vars (frL t p op)) b ↔ TGp t p a op b := by
  obtain ⟨hs1, hi1⟩ := st1_ok hg hp h0 h1
  have hs2 := st2_ok hg hp ho h0 h1
  have hfv : InV t.vars (frL t p op) := freeL_inV t.vars (opT t op) p
  have heff : ∀ e ∈ (opT t op).effs, EffOk t.vars e := (hg.op op ho).mem
  constructor
  · rintro ⟨S, hS, hag, _, rfl⟩
    have hSp : ∀ v ∈ p, sg S v = sg (st1 t p a) v := fun v hv => by
      rw [hag v (hp.mem v hv).1 (fun h => frL_p h hv), st2_p hg hp ho v hv]
    refine ⟨S, hS, (idxL_congr hSp).trans hi1, ?_, idxL_congr fun v hv => (effsP_eq hS.1 hp.mem heff v hv).symm⟩
    refine holdFs_iff.2 fun x hx => ?_
    have hxf := (opFacts hg ho).1 x hx
    refine ⟨hxf.1, by rw [hS.1]; exact hxf.2.1, ?_⟩
    show sg S x.var = x.val
    rw [hag x.var hxf.1 (frL_pre hx)]
    by_cases hxp : x.var ∈ p
    · rw [st2_p hg hp ho _ hxp]; exact hpre x hx hxp
    · exact preS_val hs1.1 (opFacts hg ho).1 (opFacts hg ho).2 x hx hxp
  · rintro ⟨s, hs, ha, happ, rfl⟩
    have hsp := st1_p hg hp h0 h1 hs ha
    have hb := idxL_bound hs hfv.mem
    have hq := putS_spec (s := st2 t p op a) hg.pos hfv hs2.1 hb.1 hb.2
    have hSo := putS_ok (s := st2 t p op a) hg.pos hfv hb.1 hb.2 hs2.1 fun v hv hv' _ => hs2.rng hv hv'
    have hfr := idxL_inj hSo hs hfv.mem hq.1
    refine ⟨putS t.vars (frL t p op) (st2 t p op a) (idxL t.vars (frL t p op) s), hSo, hq.2.2, by rw [hq.1]; exact hb.2, idxL_congr fun v hv => ?_⟩
    rw [show sg (succT t s op) v = sg (effsP p s (opT t op).effs) v from (effsP_eq hs.1 hp.mem heff v hv).symm]
    have hSp : ∀ v ∈ p, sg (putS t.vars (frL t p op) (st2 t p op a) (idxL t.vars (frL t p op) s)) v = sg s v := fun v hv => by
      rw [show sg (putS t.vars (frL t p op) (st2 t p op a) (idxL t.vars (frL t p op) s)) v = _ from hq.2.2 v (hp.mem v hv).1 (fun h => frL_p (op := op) h hv), st2_p hg hp ho v hv, hsp v hv]
    refine effsP_congr hSo.1 hs.1 hp.mem hSp heff (fun e he hep f hf => ?_) v hv
    have hff := facts_mem (heff e he).1 f hf
    by_cases hfp : f.var ∈ p
    · exact hSp _ hfp
    · by_cases hfx : ∃ x ∈ (opT t op).pre, x.var = f.var
      · obtain ⟨x, hx, hxe⟩ := hfx
        rw [show sg (putS t.vars (frL t p op) (st2 t p op a) (idxL t.vars (frL t p op) s)) f.var = _ from hq.2.2 f.var hff.1 (by rw [← hxe]; exact frL_pre hx)]
        rw [← hxe, show sg (st2 t p op a) x.var = x.val from preS_val hs1.1 (opFacts hg ho).1 (opFacts hg ho).2 x hx (by rw [hxe]; exact hfp)]
        exact (holdFs_iff.1 happ x hx).2.2.symm
      · refine hfr f.var (pickL_mem.2 ⟨⟨hff.1, hff.2.1⟩, ⟨e, he, hep, f, hf, rfl⟩, hfp, fun x hx hxe => hfx ⟨x, hx, hxe⟩⟩)
theorem out_succ (hg : GoodT t) (hp : InV t.vars p) (ho : op < t.ops.length) {k : Int} {S : List Int} (hS : StateOk t.vars S) (hag : ∀ v, 0 ≤ v → v ∉ frL t p op → sg S v = sg (st2 t p op a) v) (hk : idxL t.vars (frL t p op) S = k) {b : Int} :
    OutOf t p op a (k + 1) b ↔ OutOf t p op a k b ∨ b = idxL t.vars p (effsP p S (opT t op).effs) := by
  have hfv : InV t.vars (frL t p op) := freeL_inV t.vars (opT t op) p
  have heff : ∀ e ∈ (opT t op).effs, EffOk t.vars e := (hg.op op ho).mem
  constructor
  · rintro ⟨S', hS', hag', hlt, hb⟩
    by_cases h : idxL t.vars (frL t p op) S' < k
    · exact .inl ⟨S', hS', hag', h, hb⟩
    · right
      have hfr := idxL_inj hS' hS hfv.mem (show idxL t.vars (frL t p op) S' = idxL t.vars (frL t p op) S by omega)
      have hall : ∀ v, 0 ≤ v → sg S' v = sg S v := fun v hv => by
        by_cases hm : v ∈ frL t p op
        · exact hfr v hm
        · rw [hag' v hv hm, hag v hv hm]
      rw [← hb]
      exact idxL_congr (effsP_congr hS'.1 hS.1 hp.mem (fun v hv => hall v (hp.mem v hv).1) heff fun e he _ f hf => hall _ (facts_mem (heff e he).1 f hf).1)
  · rintro (⟨S', hS', hag', hlt, hb⟩ | rfl)
    · exact ⟨S', hS', hag', by omega, hb⟩
    · exact ⟨S, hS, hag, by omega, rfl⟩
theorem out_bd (hg : GoodT t) (hp : InV t.vars p) (ho : op < t.ops.length) {k b : Int} (h : OutOf t p op a k b) : 0 ≤ b ∧ b < cntL t.vars p := by
  obtain ⟨S, hS, _, _, rfl⟩ := h
  have heff : ∀ e ∈ (opT t op).effs, EffOk t.vars e := (hg.op op ho).mem
  rw [idxL_congr (effsP_eq hS.1 hp.mem heff)]
  exact idxL_bound (effsL_ok hS heff) hp.mem
end
end Go.Proofs.Ytlgombjhcpgleaa
