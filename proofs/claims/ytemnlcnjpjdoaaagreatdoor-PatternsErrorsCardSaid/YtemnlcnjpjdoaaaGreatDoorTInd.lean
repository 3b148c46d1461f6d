
/-
  Tasks of independent goals: each operator reaches one goal; the systematic patterns are the variables, and the canonical value is the sum.
-/
import Derived.Test.YtemnlcnjpjdoaaaGreatDoorTMore
import Derived.Test.YtemnlcnjpjdoaaaGreatDoorTSyst
set_option linter.unusedSimpArgs false
set_option linter.unusedVariables false
namespace Go.Proofs.YtemnlcnjpjdoaaaGreatDoor
open Go.Sl Go
/-- Independent goals. -/
structure Ind (t : TTask) : Prop where
  good : GoodT t
  bit : ∀ v : Nat, v < t.vars.length → t.vars.getD v tInt.dflt = 2
  len : t.ops.length = t.vars.length
  effs : ∀ v, v < t.ops.length → (t.ops.getD v dOp).effs = [⟨[], (v : Int), 1⟩]
  pre : ∀ v, v < t.ops.length → ∀ f ∈ (t.ops.getD v dOp).pre, f.var = v ∧ f.val = 0
  goal : ∀ f, f ∈ t.goal ↔ ∃ v : Nat, v < t.vars.length ∧ f = ⟨(v : Int), 1⟩
section
variable {t : TTask}
theorem Ind.arc (h : Ind t) {u v : Int} : ¬ arcT t u v := by
  rintro ⟨hne, op, ho, e, he, hv, hh⟩
  rw [h.effs op ho, List.mem_singleton] at he
  subst he
  simp only at hv hh
  rcases hh with ⟨f, hf, hfu⟩ | ⟨f, hf, _⟩ | ⟨d, hd, hdu⟩
  · have := (h.pre op ho f hf).1
    omega
  · simp at hf
  · rw [h.effs op ho, List.mem_singleton] at hd
    subst hd
    simp only at hdu
    omega
theorem Ind.near (h : Ind t) {u v : Int} : ¬ nearT t u v := fun hh => hh.elim h.arc h.arc
theorem Ind.sys1 (h : Ind t) {a : Nat} (ha : a < t.vars.length) : sysP t [(a : Int)] := ⟨⟨a, List.mem_singleton_self _, ⟨a, 1⟩, (h.goal _).2 ⟨a, ha, rfl⟩, rfl⟩, conn_one⟩
def singles (n : Nat) : List (List Int) := (List.range n).map fun (a : Nat) => [(a : Int)]
theorem singles_len (n : Nat) : (singles n).length = n := by simp [singles]
theorem singles_at {n k : Nat} (h : k < n) : (singles n).getD k [] = [(k : Int)] := by simp [singles, List.getD, h]
theorem Ind.sysK1 (h : Ind t) : sysK t 1 = singles t.vars.length := by
  rw [sysK_one]
  have key : ∀ n, n ≤ t.vars.length → s1K t n = singles n := by
    intro n
    induction n with
    | zero => intro _; rfl
    | succ n ih =>
      intro hn
      unfold s1K at *
      rw [seg_succ (Nat.zero_le n), ih (by omega), ifP_in (h.sys1 (by omega))]
      simp [singles, List.range_succ]
  exact key _ (Nat.le_refl _)
theorem Ind.sysK2 (h : Ind t) : sysK t 2 = [] := by
  rw [sysK_two]
  refine List.eq_nil_iff_forall_not_mem.2 fun p hp => ?_
  obtain ⟨a, _, _, hp⟩ := mem_seg.1 hp
  obtain ⟨b, _, _, hp⟩ := mem_seg.1 hp
  rw [ifP_out (fun hh => h.near (conn_two.1 hh.2))] at hp
  simp at hp
theorem Ind.sysK3 (h : Ind t) : sysK t 3 = [] := by
  rw [sysK_three]
  refine List.eq_nil_iff_forall_not_mem.2 fun p hp => ?_
  obtain ⟨a, _, _, hp⟩ := mem_seg.1 hp
  obtain ⟨b, _, _, hp⟩ := mem_seg.1 hp
  obtain ⟨c, _, _, hp⟩ := mem_seg.1 hp
  rw [ifP_out (fun hh => (conn_three.1 hh.2).elim (fun h1 => h.near h1.1) fun h1 => h1.elim (fun h1 => h.near h1.1) fun h1 => h.near h1.1)] at hp
  simp at hp
theorem Ind.sys (h : Ind t) {k : Nat} (h1 : 1 ≤ k) (h3 : k ≤ 3) : sysL t k = singles t.vars.length := by
  have : k = 1 ∨ k = 2 ∨ k = 3 := by omega
  rcases this with rfl | rfl | rfl
  · rw [sysL_one, h.sysK1]
  · rw [sysL_two, h.sysK1, h.sysK2, List.append_nil]
  · rw [sysL_three, h.sysK1, h.sysK2, h.sysK3, List.append_nil, List.append_nil]
theorem Ind.inV (h : Ind t) {k : Nat} (hk : k < (singles t.vars.length).length) : InV t.vars ((singles t.vars.length).getD k []) := by
  rw [singles_len] at hk
  rw [singles_at hk]
  exact ⟨fun v hv => by rw [List.mem_singleton.1 hv]; omega, List.pairwise_singleton _ _⟩
theorem Ind.sgv (h : Ind t) {v : Nat} (hv : v < t.vars.length) : sg t.vars (v : Int) = 2 := by rw [sg_of]; exact h.bit v hv
theorem Ind.cnt (h : Ind t) {k : Nat} (hk : k < (singles t.vars.length).length) : cntL t.vars ((singles t.vars.length).getD k []) = 2 := by
  rw [singles_len] at hk
  rw [singles_at hk]
  show prodL (valsL t.vars [(k : Int)]) = 2
  simp only [valsL, List.map_cons, List.map_nil, h.sgv hk]
  rfl
/-- The state of all goals. -/
def ones (n : Nat) : List Int := List.replicate n 1
theorem ones_sg {n v : Nat} (h : v < n) : sg (ones n) (v : Int) = 1 := by simp [sg, ones, List.getD, h]
theorem Ind.state (h : Ind t) {s : List Int} (hl : s.length = t.vars.length) (hb : ∀ v : Nat, v < s.length → s.getD v tInt.dflt = 0 ∨ s.getD v tInt.dflt = 1) : StateOk t.vars s := by
  refine ⟨hl, fun i hi => ?_⟩
  have h1 := h.bit i (by omega)
  have := hb i hi
  omega
theorem Ind.ones_ok (h : Ind t) : StateOk t.vars (ones t.vars.length) := h.state (by simp [ones]) fun v hv => .inr (by
  have := ones_sg (n := t.vars.length) (v := v) (by simpa [ones] using hv)
  rwa [sg_of] at this)
theorem Ind.ones_goal (h : Ind t) : HoldFs (ones t.vars.length) t.goal := holdFs_iff.2 fun f hf => by
  obtain ⟨v, hv, rfl⟩ := (h.goal f).1 hf
  refine ⟨by simp only; omega, by simp only [ones, List.length_replicate]; omega, ?_⟩
  have := ones_sg (n := t.vars.length) hv
  exact this
theorem Ind.rng (h : Ind t) {s : List Int} (hs : StateOk t.vars s) {v : Nat} (hv : v < t.vars.length) : sg s (v : Int) = 0 ∨ sg s (v : Int) = 1 := by
  have := hs.rng (v := v) (by omega) (by omega)
  rw [h.sgv hv] at this
  omega
theorem Ind.succ_sg (h : Ind t) {s : List Int} {op : Nat} (ho : op < t.ops.length) (hl : s.length = t.vars.length) (v : Nat) : sg (succT t s op) (v : Int) = if v = op then 1 else sg s (v : Int) := by
  have e : succT t s op = s.set op 1 := by
    show effsL s (t.ops.getD op dOp).effs = _
    rw [h.effs op ho]
    unfold effsL
    rw [List.foldl_cons, List.foldl_nil, if_pos (show HoldFs s [] from fun i hi => absurd hi (Nat.not_lt_zero _))]
    rfl
  rw [e]
  split
  · rename_i hh; subst hh
    have := sg_set_self (s := s) (v := (v : Int)) (x := 1) (by omega) (by have := h.len; omega)
    rwa [Int.toNat_natCast] at this
  · rename_i hh
    have := sg_set_ne (s := s) (v := (op : Int)) (u := (v : Int)) (x := 1) (by omega) (by omega) (by omega)
    rwa [Int.toNat_natCast] at this
theorem Ind.app (h : Ind t) {s : List Int} {op : Nat} (ho : op < t.ops.length) (hl : s.length = t.vars.length) (h0 : sg s (op : Int) = 0) : AppT t s op := holdFs_iff.2 fun f hf => by
  have := h.pre op ho f hf
  have hn := h.len
  exact ⟨by omega, by omega, by rw [this.2]; rw [show f.var.toNat = op by omega]; rwa [sg_of] at h0⟩
variable {Ds Cs : List (List Int)} {N : Nat → Nat}
/-- What a walk in the abstract space of one variable costs. -/
theorem Ind.walk (h : Ind t) {v : Nat} (hv : v < t.vars.length) {a k : Int} (hw : Walk (pEdges t [(v : Int)]) (costsT t) (GoalPK t [(v : Int)]) a k) : ∀ s, StateOk t.vars s → idxL t.vars [(v : Int)] s = a → sg s (v : Int) = 0 → (costsT t).getD v tInt.dflt ≤ k := by
  have hI : InV t.vars [(v : Int)] := ⟨fun u hu => by rw [List.mem_singleton.1 hu]; omega, List.pairwise_singleton _ _⟩
  have hc := costOk_T h.good
  have hE : EOk (pEdges t [(v : Int)]) (costsT t) (cntL t.vars [(v : Int)]).toNat := hc.eok
  induction hw with
  | @goal a hg =>
    intro s hs hi h0
    exfalso
    have hb := idxL_bound hs hI.mem
    rw [hi] at hb
    obtain ⟨s', hs', hi', hh⟩ := (goalPK_iff hb.1 hb.2).1 hg
    have := idxL_inj hs hs' hI.mem (hi.trans hi'.symm) v (List.mem_singleton_self _)
    have hf : HoldF s' ⟨(v : Int), 1⟩ := holdFs_iff.1 hh _ (by simp only [partL, List.mem_filter, decide_eq_true_eq, List.mem_singleton, and_true]; exact (h.goal _).2 ⟨v, hv, rfl⟩)
    have h1 : sg s' (v : Int) = 1 := hf.2.2
    omega
  | @step e k he hw ih =>
    intro s hs hi h0
    obtain ⟨a, op, b, ha, ho, hb, ⟨s1, hs1, hi1, happ, hi2⟩, rfl⟩ := mem_pEdges.1 he
    have hk := hw.nonneg hE
    simp only at hi ih hk ⊢
    have h1 : sg s1 (v : Int) = 0 := by rw [← idxL_inj hs hs1 hI.mem (hi.trans hi1.symm) v (List.mem_singleton_self _)]; exact h0
    have hcv := hc.at ho
    simp only [cst, Int.toNat_natCast]
    by_cases e2 : v = op
    · subst e2; omega
    · have hs2 := succT_ok h.good hs1 ho
      have h2 : sg (succT t s1 op) (v : Int) = 0 := by rw [h.succ_sg ho hs1.1 v, if_neg e2]; exact h1
      have := ih (succT t s1 op) hs2 hi2 h2
      omega
/-- The values of the databases. -/
theorem Ind.val (h : Ind t) (hC : CanC t (singles t.vars.length) Ds N Cs) {s : List Int} (hs : StateOk t.vars s) {v : Nat} (hv : v < t.vars.length) : valK t (singles t.vars.length) Ds s v = if sg s (v : Int) = 0 then (costsT t).getD v tInt.dflt else 0 := by
  have hvl : v < (singles t.vars.length).length := by rw [singles_len]; exact hv
  have hd := hC.dist v hvl
  have hI := hC.inv v hvl
  have hcong : ∀ s', sg s' (v : Int) = sg s (v : Int) → valK t (singles t.vars.length) Ds s v = valK t (singles t.vars.length) Ds s' v := fun s' e => by
    unfold valK
    rw [idxL_congr (s' := s') fun u hu => by rw [singles_at hv] at hu; rw [List.mem_singleton.1 hu, e]]
  have h1 : ∀ s', StateOk t.vars s' → sg s' (v : Int) = 1 → valK t (singles t.vars.length) Ds s' v = 0 := fun s' hs' e => by
    unfold valK
    rw [idxL_congr (s' := ones t.vars.length) fun u hu => by rw [singles_at hv] at hu; rw [List.mem_singleton.1 hu, e, ones_sg hv]]
    exact dist_goal hI hd h.ones_ok h.ones_goal
  split
  · rename_i h0
    have ho : v < t.ops.length := by rw [h.len]; exact hv
    have happ := h.app ho hs.1 h0
    have hs2 := succT_ok h.good hs ho
    have hz := h1 _ hs2 (by rw [h.succ_sg ho hs.1 v, if_pos rfl])
    have hst := hC.step1 hs ho happ hvl (by rw [hz]; decide)
    rw [hz] at hst
    have hlow : (costsT t).getD v tInt.dflt ≤ valK t (singles t.vars.length) Ds s v := by
      have hb := idxL_bound hs hI.mem
      have hw := hd.att (idxL t.vars ((singles t.vars.length).getD v []) s).toNat (by omega) (by rw [Int.toNat_of_nonneg hb.1]; exact hst.1)
      rw [Int.toNat_of_nonneg hb.1] at hw
      have e := singles_at hv
      unfold valK at *
      generalize Ds.getD v [] = D at *
      rw [e] at hw ⊢
      exact h.walk hv hw s hs rfl h0
    omega
  · rename_i h0
    exact h1 s hs ((h.rng hs hv).resolve_left h0)
/-- The canonical value is the sum. -/
theorem Ind.can (h : Ind t) (hC : CanC t (singles t.vars.length) Ds N Cs) {s : List Int} (hs : StateOk t.vars s) : canV t (singles t.vars.length) Ds Cs s = sumV (fun v => if sg s (v : Int) = 0 then (costsT t).getD v tInt.dflt else 0) t.vars.length := by
  have hl := singles_len t.vars.length
  have hval : sumV (valK t (singles t.vars.length) Ds s) t.vars.length = sumV (fun v => if sg s (v : Int) = 0 then (costsT t).getD v tInt.dflt else 0) t.vars.length := sumV_congr fun k hk => h.val hC hs hk
  have hnn := fun k (hk : k < (singles t.vars.length).length) => (hC.rng hs hk).1
  have hc := costOk_T h.good
  have hvb : ∀ k, k < t.vars.length → 0 ≤ valK t (singles t.vars.length) Ds s k ∧ valK t (singles t.vars.length) Ds s k ≤ 1048576 := fun k hk => by
    have := hc.at (i := k) (by rw [h.len]; exact hk)
    rw [h.val hC hs hk]
    split <;> omega
  have hsb := sumV_bd hvb
  have hn32 := hC.len
  rw [hl] at hn32
  have hfull : CliqM (singles t.vars.length).length N (2 ^ t.vars.length - 1) := by
    have hbit : ∀ v, ib (2 ^ t.vars.length - 1) v ↔ v < t.vars.length := fun v => by
      unfold ib; rw [Nat.testBit_two_pow_sub_one, decide_eq_true_eq]
    refine ⟨fun v hv => by rw [hl]; exact (hbit v).1 hv, fun u v hu hv huv => ?_⟩
    have h1 := (hbit u).1 hu
    have h2 := (hbit v).1 hv
    refine (hC.add u v (by omega) (by omega)).2 ⟨huv, ?_⟩
    rw [singles_at h1, singles_at h2]
    rintro op ho ⟨⟨e1, he1, hm1⟩, ⟨e2, he2, hm2⟩⟩
    rw [h.effs op ho, List.mem_singleton] at he1 he2
    subst he1
    rw [List.mem_singleton] at hm1
    rw [he2, List.mem_singleton] at hm2
    simp only at hm1 hm2
    omega
  have hsum : ∀ n C, (∀ v, v < n → ib C v) → sumM (valK t (singles t.vars.length) Ds s) C n = sumV (valK t (singles t.vars.length) Ds s) n := fun n C hC => by
    unfold sumM
    exact sumV_congr fun k hk => if_pos (hC k hk)
  have h1 := best_ge hC.gr hC.cl hnn hfull
  rw [hl, hsum _ (2 ^ t.vars.length - 1) fun v hv => by unfold ib; rw [Nat.testBit_two_pow_sub_one]; exact decide_eq_true hv] at h1
  obtain ⟨C, hcq, e⟩ := best_att hC.cl hnn
  have h2 := sumM_mono (C := C) (C' := 2 ^ t.vars.length - 1) (n := t.vars.length) (fun k hk => (hvb k hk).1) fun v hv => by
    have := hcq.bd v hv
    rw [hl] at this
    unfold ib; rw [Nat.testBit_two_pow_sub_one]; exact decide_eq_true this
  rw [hsum _ (2 ^ t.vars.length - 1) fun v hv => by unfold ib; rw [Nat.testBit_two_pow_sub_one]; exact decide_eq_true hv] at h2
  rw [hl] at e
  unfold canV
  rw [← hval, e]
  rw [e] at h1
  have e3 : inf = 1125899906842624 := rfl
  have : (t.vars.length : Int) * 1048576 ≤ 32 * 1048576 := by omega
  omega
end
end Go.Proofs.YtemnlcnjpjdoaaaGreatDoor
