
/-
  The canonical heuristic, in plain Lean: additive patterns, sums over sets of bits, admissible and consistent.
-/
import Derived.Test.YtemnlcnjpjdoaaaGreatDoorTSat2
import Derived.Test.YtemnlcnjpjdoaaaGreatDoorMTA
set_option linter.unusedSimpArgs false
set_option linter.unusedVariables false
namespace Go.Proofs.YtemnlcnjpjdoaaaGreatDoor
open Go.Sl Go

/-- The sum over a set of bits. -/
def sumM (f : Nat → Int) (C : Nat) (n : Nat) : Int := sumV (fun v => if C.testBit v then f v else 0) n
theorem sumM_zero (f : Nat → Int) (C : Nat) : sumM f C 0 = 0 := rfl
theorem sumM_in {f : Nat → Int} {C n : Nat} (h : ib C n) : sumM f C (n + 1) = sumM f C n + f n := by
  unfold sumM; rw [sumV_succ, if_pos h]
theorem sumM_out {f : Nat → Int} {C n : Nat} (h : ¬ ib C n) : sumM f C (n + 1) = sumM f C n := by
  unfold sumM; rw [sumV_succ, if_neg h]; omega
theorem sumM_nn {f : Nat → Int} {C : Nat} : ∀ {n : Nat}, (∀ k, k < n → 0 ≤ f k) → 0 ≤ sumM f C n
  | 0, _ => Int.le_refl _
  | n + 1, h => by
    have h1 := sumM_nn (C := C) (n := n) fun k hk => h k (by omega)
    have h2 := h n (by omega)
    by_cases hb : ib C n
    · rw [sumM_in hb]; omega
    · rw [sumM_out hb]; exact h1
theorem sumM_mono {f : Nat → Int} {C C' : Nat} : ∀ {n : Nat}, (∀ k, k < n → 0 ≤ f k) → (∀ v, ib C v → ib C' v) → sumM f C n ≤ sumM f C' n
  | 0, _, _ => Int.le_refl _
  | n + 1, h, hs => by
    have h1 := sumM_mono (n := n) (fun k hk => h k (by omega)) hs
    have h2 := h n (by omega)
    by_cases hb : ib C n
    · rw [sumM_in hb, sumM_in (hs n hb)]; omega
    · by_cases hb' : ib C' n
      · rw [sumM_out hb, sumM_in hb']; omega
      · rw [sumM_out hb, sumM_out hb']; exact h1
theorem sumM_le {f g : Nat → Int} {C : Nat} : ∀ {n : Nat}, (∀ k, k < n → ib C k → f k ≤ g k) → sumM f C n ≤ sumM g C n
  | 0, _ => Int.le_refl _
  | n + 1, h => by
    have h1 := sumM_le (n := n) fun k hk => h k (by omega)
    by_cases hb : ib C n
    · have := h n (by omega) hb
      rw [sumM_in hb, sumM_in hb]; omega
    · rw [sumM_out hb, sumM_out hb]; exact h1
theorem sumM_one {f : Nat → Int} {C : Nat} : ∀ {n k : Nat}, (∀ k, k < n → 0 ≤ f k) → k < n → ib C k → f k ≤ sumM f C n
  | 0, _, _, hk, _ => absurd hk (Nat.not_lt_zero _)
  | n + 1, k, h, hk, hb => by
    have hn := h n (by omega)
    have hs := sumM_nn (C := C) (n := n) fun k hk => h k (by omega)
    by_cases e : k = n
    · subst e; rw [sumM_in hb]; omega
    · have := sumM_one (n := n) (fun k hk => h k (by omega)) (by omega) hb
      by_cases hb' : ib C n
      · rw [sumM_in hb']; omega
      · rw [sumM_out hb']; exact this
theorem sumM_bd {f : Nat → Int} {C : Nat} {B : Int} (hB : 0 ≤ B) : ∀ {n : Nat}, (∀ k, k < n → ib C k → f k ≤ B) → sumM f C n ≤ n * B
  | 0, _ => by simp [sumM_zero]
  | n + 1, h => by
    have h1 := sumM_bd hB (n := n) fun k hk => h k (by omega)
    rw [Int.natCast_add, Int.add_mul]
    simp only [Int.natCast_one, Int.one_mul]
    by_cases hb : ib C n
    · have := h n (by omega) hb
      rw [sumM_in hb]; omega
    · rw [sumM_out hb]; omega
/-- At most one of them changes by at most c. -/
theorem sumM_step {f g : Nat → Int} {C : Nat} {c : Int} (hc : 0 ≤ c) : ∀ {n : Nat}, (∀ k, k < n → ib C k → f k = g k ∨ f k ≤ g k + c) → (∀ j k, j < n → k < n → ib C j → ib C k → f j ≠ g j → f k ≠ g k → j = k) → sumM f C n ≤ sumM g C n + c
  | 0, _, _ => by simp [sumM_zero]; exact hc
  | n + 1, h, hu => by
    have h1 := sumM_step hc (n := n) (fun k hk => h k (by omega)) fun j k hj hk => hu j k (by omega) (by omega)
    by_cases hb : ib C n
    · rw [sumM_in hb, sumM_in hb]
      by_cases e : f n = g n
      · omega
      · have h2 := h n (by omega) hb
        have h3 : sumM f C n ≤ sumM g C n := sumM_le fun k hk hbk => by
          by_cases e2 : f k = g k
          · omega
          · have := hu k n (by omega) (by omega) hbk hb e2 e
            omega
        omega
    · rw [sumM_out hb, sumM_out hb]; exact h1
/-- The sum along a list, never above infinity. -/
def capL (f : Nat → Int) (l : List Int) : Int := l.foldl (fun a i => min (a + f i.toNat) inf) 0
theorem capL_snoc (f : Nat → Int) (l : List Int) (i : Int) : capL f (l ++ [i]) = min (capL f l + f i.toNat) inf := by simp [capL]
theorem capL_bits {f : Nat → Int} {C : Nat} : ∀ {n : Nat}, (∀ k, k < n → 0 ≤ f k) → capL f (bitsK C n) = min (sumM f C n) inf
  | 0, _ => rfl
  | n + 1, h => by
    have h1 := capL_bits (C := C) (n := n) fun k hk => h k (by omega)
    have h2 := h n (by omega)
    by_cases hb : ib C n
    · rw [bitsK_in hb, capL_snoc, h1, sumM_in hb, Int.toNat_natCast]; omega
    · rw [bitsK_out hb, sumM_out hb, h1]
theorem capL_rng {f : Nat → Int} {l : List Int} (h : ∀ i ∈ l, 0 ≤ f i.toNat) : 0 ≤ capL f l ∧ capL f l ≤ inf := by
  have key : ∀ (l : List Int) (a : Int), 0 ≤ a → a ≤ inf → (∀ i ∈ l, 0 ≤ f i.toNat) → 0 ≤ l.foldl (fun a i => min (a + f i.toNat) inf) a ∧ l.foldl (fun a i => min (a + f i.toNat) inf) a ≤ inf := by
    intro l
    induction l with
    | nil => intro a h0 h1 _; exact ⟨h0, h1⟩
    | cons i l ih =>
      intro a h0 h1 hl
      have := hl i List.mem_cons_self
      refine ih _ ?_ ?_ fun j hj => hl j (List.mem_cons_of_mem _ hj)
      · have e : inf = 1125899906842624 := rfl
        show 0 ≤ min (a + f i.toNat) inf
        omega
      · show min (a + f i.toNat) inf ≤ inf
        omega
  exact key l 0 (Int.le_refl _) (by decide) h
/-- The greatest of the sums. -/
def bestL (f : Nat → Int) (Cs : List (List Int)) : Int := Cs.foldl (fun b l => max b (capL f l)) 0
theorem bestL_snoc (f : Nat → Int) (Cs : List (List Int)) (l : List Int) : bestL f (Cs ++ [l]) = max (bestL f Cs) (capL f l) := by simp [bestL]
theorem bestL_ge {f : Nat → Int} {Cs : List (List Int)} : 0 ≤ bestL f Cs ∧ ∀ l ∈ Cs, capL f l ≤ bestL f Cs := by
  refine snoc_ind (P := fun Cs => 0 ≤ bestL f Cs ∧ ∀ l ∈ Cs, capL f l ≤ bestL f Cs) ⟨Int.le_refl _, fun l hl => by simp at hl⟩ ?_ Cs
  intro L x ⟨h0, h1⟩
  rw [bestL_snoc]
  refine ⟨by omega, fun l hl => ?_⟩
  rcases List.mem_append.1 hl with hl | hl
  · have := h1 l hl; omega
  · rw [List.mem_singleton.1 hl]; omega
theorem bestL_att {f : Nat → Int} {Cs : List (List Int)} : bestL f Cs = 0 ∨ ∃ l ∈ Cs, bestL f Cs = capL f l := by
  refine snoc_ind (P := fun Cs => bestL f Cs = 0 ∨ ∃ l ∈ Cs, bestL f Cs = capL f l) (.inl rfl) ?_ Cs
  intro L x ih
  rw [bestL_snoc]
  by_cases h : bestL f L ≤ capL f x
  · exact .inr ⟨x, by simp, by omega⟩
  · rcases ih with ih | ⟨l, hl, e⟩
    · exact .inl (by omega)
    · exact .inr ⟨l, by simp [hl], by omega⟩
section
variable {n : Nat} {N : Nat → Nat} {Cs : List (List Int)} {f : Nat → Int}
theorem best_ge (hG : Gr n N) (hC : CliqL n N Cs) (hf : ∀ k, k < n → 0 ≤ f k) {C : Nat} (h : CliqM n N C) : min (sumM f C n) inf ≤ bestL f Cs := by
  obtain ⟨C', h1, h2⟩ := clq_grow hG _ C h (Nat.le_refl _)
  have h3 := (bestL_ge (f := f) (Cs := Cs)).2 _ ((hC _).2 ⟨C', h1, rfl⟩)
  rw [capL_bits hf] at h3
  have := sumM_mono hf h2
  omega
theorem best_att (hC : CliqL n N Cs) (hf : ∀ k, k < n → 0 ≤ f k) : ∃ C, CliqM n N C ∧ bestL f Cs = min (sumM f C n) inf := by
  rcases bestL_att (f := f) (Cs := Cs) with h | ⟨l, hl, e⟩
  · refine ⟨0, ⟨fun v hv => by simp [ib] at hv, fun u v hu => by simp [ib] at hu⟩, ?_⟩
    have : sumM f 0 n = 0 := by
      have h1 := sumM_nn (C := 0) hf
      have h2 := sumM_bd (f := f) (C := 0) (B := 0) (Int.le_refl _) (n := n) fun k _ hb => by simp [ib] at hb
      omega
    rw [this, h]; decide
  · obtain ⟨C, hm, rfl⟩ := (hC _).1 hl
    exact ⟨C, ⟨hm.bd, hm.clq⟩, by rw [e, capL_bits hf]⟩
theorem best_rng (hC : CliqL n N Cs) (hf : ∀ k, k < n → 0 ≤ f k) : 0 ≤ bestL f Cs ∧ bestL f Cs ≤ inf := by
  obtain ⟨C, _, e⟩ := best_att hC hf
  exact ⟨bestL_ge.1, by omega⟩
theorem best_one (hG : Gr n N) (hC : CliqL n N Cs) (hf : ∀ k, k < n → 0 ≤ f k) {k : Nat} (hk : k < n) (hi : f k ≤ inf) : f k ≤ bestL f Cs := by
  have hcl : CliqM n N (2 ^ k) := ⟨fun v hv => by
      have : k = v := by simpa [ib, Nat.testBit_two_pow] using hv
      omega, fun u v hu hv huv => by
      have h1 : k = u := by simpa [ib, Nat.testBit_two_pow] using hu
      have h2 : k = v := by simpa [ib, Nat.testBit_two_pow] using hv
      omega⟩
  have h1 := best_ge hG hC hf hcl
  have h2 := sumM_one hf hk (C := 2 ^ k) (by simp [ib])
  omega
end
/-! ### Additive patterns -/
def affT (t : TTask) (op : Nat) (p : List Int) : Prop := ∃ e ∈ (t.ops.getD op dOp).effs, e.var ∈ p
def addT (t : TTask) (a b : List Int) : Prop := ∀ op, op < t.ops.length → ¬ (affT t op a ∧ affT t op b)
theorem addT_symm {t : TTask} {a b : List Int} (h : addT t a b) : addT t b a := fun op ho hh => h op ho ⟨hh.2, hh.1⟩
theorem effsL_sg {vars s : List Int} {v : Int} (hv : 0 ≤ v) (l : List Eff) : (∀ e ∈ l, EffOk vars e) → (∀ e ∈ l, e.var ≠ v) → sg (effsL s l) v = sg s v := by
  refine snoc_ind (P := fun l => (∀ e ∈ l, EffOk vars e) → (∀ e ∈ l, e.var ≠ v) → sg (effsL s l) v = sg s v) (fun _ _ => rfl) ?_ l
  intro l e ih h1 h2
  have i1 := ih (fun x hx => h1 x (by simp [hx])) fun x hx => h2 x (by simp [hx])
  rw [effsL_snoc]
  split
  · rw [sg_set_ne (effOk_range (h1 e (by simp))).1 hv (h2 e (by simp))]; exact i1
  · exact i1
theorem idx_unaff {t : TTask} {p s : List Int} {op : Nat} (hg : GoodT t) (hp : InV t.vars p) (ho : op < t.ops.length) (h : ¬ affT t op p) : idxL t.vars p (succT t s op) = idxL t.vars p s :=
  idxL_congr fun v hv => effsL_sg (hp.mem v hv).1 _ (hg.op op ho).mem fun e he e2 => h ⟨e, he, by rw [e2]; exact hv⟩
/-- The databases of a list of patterns, and which of them are additive. -/
structure CanC (t : TTask) (Ls Ds : List (List Int)) (N : Nat → Nat) (Cs : List (List Int)) : Prop where
  good : GoodT t
  inv : ∀ k, k < Ls.length → InV t.vars (Ls.getD k [])
  small : ∀ k, k < Ls.length → cntL t.vars (Ls.getD k []) ≤ 64
  len : Ls.length ≤ 32
  dist : ∀ k, k < Ls.length → DistOk (pEdges t (Ls.getD k [])) (costsT t) (GoalPK t (Ls.getD k [])) (cntL t.vars (Ls.getD k [])).toNat (Ds.getD k [])
  gr : Gr Ls.length N
  add : ∀ u v, u < Ls.length → v < Ls.length → (ib (N u) v ↔ u ≠ v ∧ addT t (Ls.getD u []) (Ls.getD v []))
  cl : CliqL Ls.length N Cs
noncomputable def canV (t : TTask) (Ls Ds Cs : List (List Int)) (s : List Int) : Int := bestL (valK t Ls Ds s) Cs
section
variable {t : TTask} {Ls Ds Cs : List (List Int)} {N : Nat → Nat}
theorem CanC.rng (h : CanC t Ls Ds N Cs) {s : List Int} (hs : StateOk t.vars s) {k : Nat} (hk : k < Ls.length) : 0 ≤ valK t Ls Ds s k ∧ valK t Ls Ds s k ≤ inf := dist_at (h.inv k hk) (h.dist k hk) hs
theorem CanC.eok (h : CanC t Ls Ds N Cs) {k : Nat} : EOk (pEdges t (Ls.getD k [])) (costsT t) (cntL t.vars (Ls.getD k [])).toNat := (costOk_T h.good).eok
theorem CanC.bound (h : CanC t Ls Ds N Cs) {s : List Int} (hs : StateOk t.vars s) {k : Nat} (hk : k < Ls.length) (hf : valK t Ls Ds s k < inf) : valK t Ls Ds s k ≤ 67108864 := by
  have hb := idxL_bound hs (h.inv k hk).mem
  have hsm := h.small k hk
  have := (h.dist k hk).bound h.eok (C := 1048576) (by decide) (fun x hx => ((costOk_T h.good).rng x hx).2) (i := (idxL t.vars (Ls.getD k []) s).toNat) (by omega) (by rw [Int.toNat_of_nonneg hb.1]; exact hf)
  rw [Int.toNat_of_nonneg hb.1] at this
  exact Int.le_trans this (by omega)
theorem CanC.crng (h : CanC t Ls Ds N Cs) {s : List Int} (hs : StateOk t.vars s) : 0 ≤ canV t Ls Ds Cs s ∧ canV t Ls Ds Cs s ≤ inf := best_rng h.cl fun _ hk => (h.rng hs hk).1
theorem CanC.fin (h : CanC t Ls Ds N Cs) {s : List Int} (hs : StateOk t.vars s) : canV t Ls Ds Cs s < inf ↔ ∀ k, k < Ls.length → valK t Ls Ds s k < inf := by
  have hnn := fun k (hk : k < Ls.length) => (h.rng hs hk).1
  constructor
  · intro hl k hk
    have := best_one h.gr h.cl hnn hk (h.rng hs hk).2
    unfold canV at hl
    omega
  · intro hf
    obtain ⟨C, _, e⟩ := best_att h.cl hnn
    have hb := sumM_bd (f := valK t Ls Ds s) (C := C) (B := 67108864) (by decide) (n := Ls.length) fun k hk _ => h.bound hs hk (hf k hk)
    have hl := h.len
    unfold canV
    rw [e]
    have e2 : inf = 1125899906842624 := rfl
    omega
theorem CanC.step1 (h : CanC t Ls Ds N Cs) {s : List Int} {op : Nat} (hs : StateOk t.vars s) (ho : op < t.ops.length) (ha : AppT t s op) {k : Nat} (hk : k < Ls.length) (hf : valK t Ls Ds (succT t s op) k < inf) :
    valK t Ls Ds s k < inf ∧ valK t Ls Ds s k ≤ valK t Ls Ds (succT t s op) k + (costsT t).getD op tInt.dflt := by
  have hL := h.inv k hk
  have hd := h.dist k hk
  have he := step_proj h.good hL hs ho ha
  have hs2 := succT_ok h.good hs ho
  have hb := idxL_bound hs hL.mem
  have hb2 := idxL_bound hs2 hL.mem
  have hsm := h.small k hk
  have hst := hd.stab h.eok he hf
  simp only [cst, Int.toNat_natCast] at hst
  have hsf : valK t Ls Ds s k < inf := by
    have hw2 := hd.att (idxL t.vars (Ls.getD k []) (succT t s op)).toNat (by omega) (by rw [Int.toNat_of_nonneg hb2.1]; exact hf)
    rw [Int.toNat_of_nonneg hb2.1] at hw2
    have := (hd.fin h.eok (C := 1048576) (by decide) (fun x hx => ((costOk_T h.good).rng x hx).2) (by have e : inf = 1125899906842624 := rfl; omega) (i := (idxL t.vars (Ls.getD k []) s).toNat) (by omega)).2 ⟨_, by rw [Int.toNat_of_nonneg hb.1]; exact .step he hw2⟩
    rwa [Int.toNat_of_nonneg hb.1] at this
  exact ⟨hsf, hst⟩
theorem CanC.step (h : CanC t Ls Ds N Cs) {s : List Int} {op : Nat} (hs : StateOk t.vars s) (ho : op < t.ops.length) (ha : AppT t s op) (hf : canV t Ls Ds Cs (succT t s op) < inf) :
    canV t Ls Ds Cs s < inf ∧ canV t Ls Ds Cs s ≤ (costsT t).getD op tInt.dflt + canV t Ls Ds Cs (succT t s op) := by
  have hs2 := succT_ok h.good hs ho
  have hfk := (h.fin hs2).1 hf
  have hlt := (h.fin hs).2 fun k hk => (h.step1 hs ho ha hk (hfk k hk)).1
  refine ⟨hlt, ?_⟩
  have hnn := fun k (hk : k < Ls.length) => (h.rng hs hk).1
  have hnn2 := fun k (hk : k < Ls.length) => (h.rng hs2 hk).1
  obtain ⟨C, hC, e⟩ := best_att h.cl hnn
  have h1 := best_ge h.gr h.cl hnn2 hC
  have hc := ((costOk_T h.good).at ho).1
  have hne : ∀ k, k < Ls.length → valK t Ls Ds s k ≠ valK t Ls Ds (succT t s op) k → affT t op (Ls.getD k []) := fun k hk hne => Classical.byContradiction fun hna => hne (by
    unfold valK; rw [idx_unaff h.good (h.inv k hk) ho hna])
  have h2 := sumM_step (f := valK t Ls Ds s) (g := valK t Ls Ds (succT t s op)) (C := C) hc (n := Ls.length) (fun k hk _ => .inr (h.step1 hs ho ha hk (hfk k hk)).2) fun j k hj hk hbj hbk nj nk => Classical.byContradiction fun hjk =>
      ((h.add j k hj hk).1 (hC.clq j k hbj hbk hjk)).2 op ho ⟨hne j hj nj, hne k hk nk⟩
  unfold canV at hf ⊢
  rw [e]
  omega
theorem CanC.goal (h : CanC t Ls Ds N Cs) {s : List Int} (hs : StateOk t.vars s) (hg : HoldFs s t.goal) : canV t Ls Ds Cs s = 0 := by
  have hz : ∀ k, k < Ls.length → valK t Ls Ds s k = 0 := fun k hk => dist_goal (h.inv k hk) (h.dist k hk) hs hg
  have hnn := fun k (hk : k < Ls.length) => (h.rng hs hk).1
  obtain ⟨C, _, e⟩ := best_att h.cl hnn
  have hb := sumM_bd (f := valK t Ls Ds s) (C := C) (B := 0) (Int.le_refl _) (n := Ls.length) fun k hk _ => by rw [hz k hk]; exact Int.le_refl _
  have h0 := sumM_nn (C := C) hnn
  unfold canV
  rw [e]
  have e2 : inf = 1125899906842624 := rfl
  omega
theorem CanC.low (h : CanC t Ls Ds N Cs) {i k : Int} (hw : Walk (edgesT t) (costsT t) (GoalS t) i k) : 0 ≤ i → i < (statesL t.vars).length → canV t Ls Ds Cs ((statesL t.vars).getD i.toNat []) < inf ∧ canV t Ls Ds Cs ((statesL t.vars).getD i.toNat []) ≤ k := by
  induction hw with
  | @goal a hg =>
    intro h0 h1
    have hs := (statesL_at h.good.pos (show a.toNat < (statesL t.vars).length by omega)).1
    rw [h.goal hs hg]
    exact ⟨by decide, Int.le_refl _⟩
  | @step e k he _ ih =>
    intro h0 h1
    obtain ⟨i, op, hi, ho, ha, rfl⟩ := mem_edgesT.1 he
    have hst := (statesL_at h.good.pos hi).1
    have hs2 := succT_ok h.good hst ho
    have hr := statesL_of h.good.pos hs2
    have hb := rankL_bound hs2
    have h2 := ih hb.1 (by simp only; omega)
    simp only [hr.2] at h2
    have h3 := h.step hst ho ha h2.1
    simp only [Int.toNat_natCast, cst]
    exact ⟨h3.1, by omega⟩
end
end Go.Proofs.YtemnlcnjpjdoaaaGreatDoor
