/-
  States of a task, their ranks, the steps between them, in plain Lean.
-/
import Derived.Test.YtlgombjhcpgleaaTDefs
namespace Go.Proofs.Ytlgombjhcpgleaa
open Go.Sl

/-- A number with mixed radix: pairs (size, digit), the first the most significant. -/
def mix (ds : List (Int × Int)) : Int := ds.foldl (fun n d => n * d.1 + d.2) 0
theorem mix_snoc (l : List (Int × Int)) (d : Int × Int) : mix (l ++ [d]) = mix l * d.1 + d.2 := by simp [mix]
def DigOk (ds : List (Int × Int)) : Prop := ∀ d ∈ ds, 0 ≤ d.2 ∧ d.2 < d.1
theorem snoc_ind {α : Type} {P : List α → Prop} (h0 : P []) (h1 : ∀ l x, P l → P (l ++ [x])) (l : List α) : P l := by
  have : ∀ n, ∀ l : List α, l.length = n → P l := by
    intro n
    induction n with
    | zero => intro l hl; rw [List.length_eq_zero_iff.1 hl]; exact h0
    | succ n ih =>
      intro l hl
      have hne : l ≠ [] := fun h => by simp [h] at hl
      rw [← List.dropLast_concat_getLast hne]
      exact h1 _ _ (ih _ (by simp [hl]))
  exact this _ l rfl
theorem mix_bound {ds : List (Int × Int)} : DigOk ds → 0 ≤ mix ds ∧ mix ds < prodL (ds.map (·.1)) := by
  refine snoc_ind (P := fun ds => DigOk ds → 0 ≤ mix ds ∧ mix ds < prodL (ds.map (·.1))) ?_ ?_ ds
  · intro _; decide
  · intro l d ih h
    obtain ⟨a, b⟩ := ih fun x hx => h x (List.mem_append_left _ hx)
    obtain ⟨c, e⟩ := h d (List.mem_append_right _ (List.mem_singleton.2 rfl))
    rw [mix_snoc, List.map_append, List.map_cons, List.map_nil, prodL_snoc]
    have h1 : 0 ≤ mix l * d.1 := Int.mul_nonneg a (by omega)
    have h2 : (mix l + 1) * d.1 ≤ prodL (l.map (·.1)) * d.1 := Int.mul_le_mul_of_nonneg_right (by omega) (by omega)
    rw [Int.add_mul] at h2
    omega
theorem mix_inj {ds : List (Int × Int)} : ∀ {es : List (Int × Int)}, DigOk ds → DigOk es → ds.map (·.1) = es.map (·.1) → mix ds = mix es → ds = es := by
  refine snoc_ind (P := fun ds => ∀ {es : List (Int × Int)}, DigOk ds → DigOk es → ds.map (·.1) = es.map (·.1) → mix ds = mix es → ds = es) ?_ ?_ ds
  · intro es _ _ h _
    simpa using h.symm
  · intro l d ih es h1 h2 hm he
    have hne : es ≠ [] := fun h => by simp [h] at hm
    obtain ⟨m, f, rfl⟩ : ∃ m f, es = m ++ [f] := ⟨_, _, (List.dropLast_concat_getLast hne).symm⟩
    simp only [List.map_append, List.map_cons, List.map_nil] at hm
    obtain ⟨hm1, hm2⟩ := List.append_inj' hm rfl
    have hm3 : d.1 = f.1 := by simpa using hm2
    rw [mix_snoc, mix_snoc] at he
    obtain ⟨a, b⟩ := h1 d (by simp)
    obtain ⟨a', b'⟩ := h2 f (by simp)
    have hq : mix l = mix m := by
      have e1 : (mix l * d.1 + d.2) / d.1 = mix l := by
        rw [Int.add_comm, Int.add_mul_ediv_right _ _ (by omega), Int.ediv_eq_zero_of_lt a b]; omega
      have e2 : (mix m * f.1 + f.2) / f.1 = mix m := by
        rw [Int.add_comm, Int.add_mul_ediv_right _ _ (by omega), Int.ediv_eq_zero_of_lt a' b']; omega
      rw [he, hm3, e2] at e1; exact e1.symm
    rw [hq, hm3] at he
    have : d.2 = f.2 := by omega
    rw [ih (fun x hx => h1 x (by simp [hx])) (fun x hx => h2 x (by simp [hx])) hm1 hq, Prod.ext hm3 this]
theorem mix_ex (sz : List Int) (h : ∀ x ∈ sz, 1 ≤ x) : ∀ n : Int, 0 ≤ n → n < prodL sz → ∃ ds, DigOk ds ∧ ds.map (·.1) = sz ∧ mix ds = n := by
  refine snoc_ind (P := fun sz => (∀ x ∈ sz, 1 ≤ x) → ∀ n : Int, 0 ≤ n → n < prodL sz → ∃ ds, DigOk ds ∧ ds.map (·.1) = sz ∧ mix ds = n) ?_ ?_ sz h
  · intro _ n h0 h1
    exact ⟨[], fun _ h => by simp at h, rfl, by simp [prodL] at h1; simp [mix]; omega⟩
  · intro l x ih h n h0 h1
    have hx := h x (by simp)
    rw [prodL_snoc] at h1
    obtain ⟨ds, hd, hm, he⟩ := ih (fun y hy => h y (by simp [hy])) (n / x) (Int.ediv_nonneg h0 (by omega)) (Int.ediv_lt_of_lt_mul (by omega) h1)
    refine ⟨ds ++ [(x, n % x)], fun d hd' => ?_, by simp [hm], ?_⟩
    · rcases List.mem_append.1 hd' with h' | h'
      · exact hd d h'
      · rw [List.mem_singleton.1 h']; exact ⟨Int.emod_nonneg _ (by omega), Int.emod_lt_of_pos _ (by omega)⟩
    · rw [mix_snoc, he]; simp only; have := Int.mul_ediv_add_emod n x; rw [Int.mul_comm]; omega

/-- The rank of a state. -/
def rankL (vars s : List Int) : Int := mix (vars.zip s)
theorem rankL_snoc {vars s : List Int} (h : s.length = vars.length) (k x : Int) : rankL (vars ++ [k]) (s ++ [x]) = rankL vars s * k + x := by
  unfold rankL; rw [List.zip_append h.symm, List.zip_cons_cons, List.zip_nil_right, mix_snoc]
theorem StateOk.dig {vars s : List Int} (h : StateOk vars s) : DigOk (vars.zip s) := by
  intro d hd
  obtain ⟨i, hi, rfl⟩ := List.getElem_of_mem hd
  rw [List.length_zip] at hi
  have := h.2 i (by omega)
  rw [getD_at (by omega), getD_at (by omega)] at this
  simpa using this
theorem zip_fst {a b : List Int} (h : b.length = a.length) : (a.zip b).map (·.1) = a := by
  have := List.map_fst_zip (l₁ := a) (l₂ := b) (by omega)
  exact this
theorem rankL_bound {vars s : List Int} (h : StateOk vars s) : 0 ≤ rankL vars s ∧ rankL vars s < prodL vars := by
  have := mix_bound h.dig
  rwa [zip_fst h.1] at this
theorem zip_inj {a b c : List Int} (h1 : b.length = a.length) (h2 : c.length = a.length) (h : a.zip b = a.zip c) : b = c := by
  have e1 := List.map_snd_zip (l₁ := a) (l₂ := b) (by omega)
  have e2 := List.map_snd_zip (l₁ := a) (l₂ := c) (by omega)
  rw [← e1, h, e2]
theorem rankL_inj {vars s u : List Int} (h : StateOk vars s) (k : StateOk vars u) (e : rankL vars s = rankL vars u) : s = u :=
  zip_inj h.1 k.1 (mix_inj h.dig k.dig (by rw [zip_fst h.1, zip_fst k.1]) e)

/-- All states, by rank. -/
def statesS (out : List (List Int)) (k : Int) : List (List Int) := out.flatMap fun s => (List.range k.toNat).map fun (x : Nat) => s ++ [(x : Int)]
def statesL (vars : List Int) : List (List Int) := vars.foldl statesS [[]]
theorem statesL_snoc (vars : List Int) (k : Int) : statesL (vars ++ [k]) = statesS (statesL vars) k := by simp [statesL]
theorem range_mul (n k : Nat) : (List.range n).flatMap (fun r => (List.range k).map fun x => r * k + x) = List.range (n * k) := by
  induction n with
  | zero => simp
  | succ n ih => rw [List.range_succ, List.flatMap_append, ih, Nat.succ_mul, List.range_add]; simp
theorem flatMap_congr {α β : Type} {l : List α} {f g : α → List β} (h : ∀ x ∈ l, f x = g x) : l.flatMap f = l.flatMap g := by
  induction l with
  | nil => rfl
  | cons x l ih => rw [List.flatMap_cons, List.flatMap_cons, h x List.mem_cons_self, ih fun y hy => h y (List.mem_cons_of_mem _ hy)]
theorem stateOk_snoc {vars s : List Int} {k x : Int} (h : StateOk vars s) (h0 : 0 ≤ x) (h1 : x < k) : StateOk (vars ++ [k]) (s ++ [x]) := by
  refine ⟨by simp [h.1], fun i hi => ?_⟩
  simp only [List.length_append, List.length_cons, List.length_nil] at hi
  simp only [List.getD_eq_getElem?_getD]
  by_cases e : i < s.length
  · rw [List.getElem?_append_left e, List.getElem?_append_left (by rw [← h.1]; exact e)]
    simpa only [List.getD_eq_getElem?_getD] using h.2 i e
  · have e2 : i = s.length := by omega
    subst e2
    rw [List.getElem?_append_right (Nat.le_refl _), List.getElem?_append_right (by rw [h.1]; exact Nat.le_refl _), h.1]
    simpa using ⟨h0, h1⟩
theorem stateOk_unsnoc {vars s : List Int} {k : Int} (h : StateOk (vars ++ [k]) s) : ∃ s' x, s = s' ++ [x] ∧ StateOk vars s' ∧ 0 ≤ x ∧ x < k := by
  have hl := h.1
  simp only [List.length_append, List.length_cons, List.length_nil] at hl
  have hne : s ≠ [] := fun e => by simp [e] at hl
  refine ⟨s.dropLast, s.getLast hne, (List.dropLast_concat_getLast hne).symm, ?_, ?_⟩
  · refine ⟨by simp; omega, fun i hi => ?_⟩
    simp only [List.length_dropLast] at hi
    have := h.2 i (by omega)
    simp only [List.getD_eq_getElem?_getD] at this ⊢
    rw [List.getElem?_append_left (by omega)] at this
    rw [List.getElem?_dropLast, if_pos (by omega)]
    exact this
  · have := h.2 (s.length - 1) (by omega)
    simp only [List.getD_eq_getElem?_getD] at this
    rw [List.getElem?_append_right (by omega), show s.length - 1 - vars.length = 0 by omega] at this
    rw [List.getLast_eq_getElem]
    rw [List.getElem?_eq_getElem (by omega)] at this
    simpa using this
theorem mem_statesL {vars : List Int} : ∀ {s : List Int}, s ∈ statesL vars ↔ StateOk vars s := by
  refine snoc_ind (P := fun vars => ∀ {s : List Int}, s ∈ statesL vars ↔ StateOk vars s) ?_ ?_ vars
  · intro s
    simp only [statesL, List.foldl_nil, List.mem_singleton]
    constructor
    · rintro rfl; exact ⟨rfl, fun i hi => absurd hi (Nat.not_lt_zero _)⟩
    · intro h; exact List.length_eq_zero_iff.1 h.1
  · intro l k ih s
    rw [statesL_snoc, statesS, List.mem_flatMap]
    constructor
    · rintro ⟨s', hs', h⟩
      obtain ⟨x, hx, rfl⟩ := List.mem_map.1 h
      have := List.mem_range.1 hx
      exact stateOk_snoc (ih.1 hs') (by omega) (by omega)
    · intro h
      obtain ⟨s', x, rfl, h1, h2, h3⟩ := stateOk_unsnoc h
      exact ⟨s', ih.2 h1, List.mem_map.2 ⟨x.toNat, List.mem_range.2 (by omega), by rw [Int.toNat_of_nonneg h2]⟩⟩
theorem statesL_rank {vars : List Int} : (∀ x ∈ vars, 1 ≤ x) → (statesL vars).map (fun s => (rankL vars s).toNat) = List.range (prodL vars).toNat := by
  refine snoc_ind (P := fun vars => (∀ x ∈ vars, 1 ≤ x) → (statesL vars).map (fun s => (rankL vars s).toNat) = List.range (prodL vars).toNat) ?_ ?_ vars
  · intro _; decide
  · intro l k ih h
    have hk := h k (by simp)
    have hp := prodL_pos fun x hx => h x (List.mem_append_left [k] hx)
    have ih' := ih fun x hx => h x (by simp [hx])
    rw [statesL_snoc, statesS, List.map_flatMap, prodL_snoc, Int.toNat_mul (by omega) (by omega), ← range_mul, ← ih', List.flatMap_map]
    refine flatMap_congr fun s hs => ?_
    rw [List.map_map]
    refine List.map_congr_left fun x hx => ?_
    have hs' := mem_statesL.1 hs
    have hb := (rankL_bound hs').1
    simp only [Function.comp]
    rw [rankL_snoc hs'.1]
    have : 0 ≤ rankL l s * k := Int.mul_nonneg hb (by omega)
    rw [Int.toNat_add this (by omega), Int.toNat_mul hb (by omega)]
    omega
theorem statesL_len {vars : List Int} (h : ∀ x ∈ vars, 1 ≤ x) : (statesL vars).length = (prodL vars).toNat := by
  have := congrArg List.length (statesL_rank h)
  simpa using this
theorem statesL_at {vars : List Int} (h : ∀ x ∈ vars, 1 ≤ x) {i : Nat} (hi : i < (statesL vars).length) : StateOk vars ((statesL vars).getD i []) ∧ rankL vars ((statesL vars).getD i []) = i := by
  have hm : (statesL vars).getD i [] ∈ statesL vars := mem_getD [] hi
  have hs := mem_statesL.1 hm
  refine ⟨hs, ?_⟩
  have := congrArg (fun l => l[i]?) (statesL_rank h)
  rw [statesL_len h] at hi
  simp only [List.getElem?_map] at this
  rw [List.getElem?_range (by omega), List.getElem?_eq_getElem (by rw [statesL_len h]; omega)] at this
  simp only [Option.map_some, Option.some.injEq] at this
  rw [getD_at (by rw [statesL_len h]; omega)] at hs ⊢
  have hb := (rankL_bound hs).1
  omega
theorem statesL_of {vars : List Int} (h : ∀ x ∈ vars, 1 ≤ x) {s : List Int} (hs : StateOk vars s) : (rankL vars s).toNat < (statesL vars).length ∧ (statesL vars).getD (rankL vars s).toNat [] = s := by
  have hb := rankL_bound hs
  have hl : (rankL vars s).toNat < (statesL vars).length := by rw [statesL_len h]; omega
  refine ⟨hl, ?_⟩
  obtain ⟨h1, h2⟩ := statesL_at h hl
  exact rankL_inj h1 hs (by omega)

instance (s : List Int) (x : Fact) : Decidable (HoldF s x) := by unfold HoldF; infer_instance
instance (s : List Int) (f : List Fact) : Decidable (HoldFs s f) := by unfold HoldFs; infer_instance
theorem holdFs_iff {s : List Int} {f : List Fact} : HoldFs s f ↔ ∀ x ∈ f, HoldF s x := by
  constructor
  · intro h x hx
    obtain ⟨i, hi, rfl⟩ := List.getElem_of_mem hx
    have := h i hi
    rwa [getD_at hi] at this
  · intro h i hi; exact h _ (mem_getD _ hi)
/-- The effects, in their order. -/
def effsL (s : List Int) (effs : List Eff) : List Int := effs.foldl (fun out e => if HoldFs s e.when then out.set e.var.toNat e.val else out) s
theorem effsL_snoc (s : List Int) (l : List Eff) (e : Eff) : effsL s (l ++ [e]) = if HoldFs s e.when then (effsL s l).set e.var.toNat e.val else effsL s l := by simp [effsL]
theorem effsL_len (s : List Int) (l : List Eff) : (effsL s l).length = s.length := by
  refine snoc_ind (P := fun l => (effsL s l).length = s.length) rfl ?_ l
  intro l e ih; rw [effsL_snoc]; split <;> simp [ih]
def AppT (t : TTask) (s : List Int) (op : Nat) : Prop := HoldFs s (t.ops.getD op dOp).pre
instance (t : TTask) (s : List Int) (op : Nat) : Decidable (AppT t s op) := by unfold AppT; infer_instance
def succT (t : TTask) (s : List Int) (op : Nat) : List Int := effsL s (t.ops.getD op dOp).effs
theorem effOk_range {vars : List Int} {e : Eff} (h : EffOk vars e) : 0 ≤ e.var ∧ e.var < vars.length ∧ 0 ≤ e.val ∧ e.val < vars.getD e.var.toNat tInt.dflt := by
  have := (h.2 0 (Nat.zero_lt_succ _)).1
  exact this
theorem stateOk_set {vars s : List Int} {v x : Int} (h : StateOk vars s) (h2 : 0 ≤ v) (h0 : 0 ≤ x) (h1 : x < vars.getD v.toNat tInt.dflt) : StateOk vars (s.set v.toNat x) := by
  refine ⟨by simp [h.1], fun i hi => ?_⟩
  rw [List.length_set] at hi
  simp only [List.getD_eq_getElem?_getD, List.getElem?_set] at h1 ⊢
  split
  · rename_i e; subst e; rw [if_pos hi]; exact ⟨h0, h1⟩
  · simpa only [List.getD_eq_getElem?_getD] using h.2 i hi
theorem effsL_ok {vars s : List Int} {l : List Eff} (hs : StateOk vars s) : (∀ e ∈ l, EffOk vars e) → StateOk vars (effsL s l) := by
  refine snoc_ind (P := fun l => (∀ e ∈ l, EffOk vars e) → StateOk vars (effsL s l)) (fun _ => hs) ?_ l
  intro l e ih h
  have h1 := ih fun x hx => h x (by simp [hx])
  rw [effsL_snoc]
  split
  · obtain ⟨a, b, c, d⟩ := effOk_range (h e (by simp))
    exact stateOk_set h1 a c d
  · exact h1
theorem OpOk.mem {vars : List Int} {o : TOp} (h : OpOk vars o) : ∀ e ∈ o.effs, EffOk vars e := by
  intro e he
  obtain ⟨i, hi, rfl⟩ := List.getElem_of_mem he
  have := h.eff i hi
  rwa [getD_at hi] at this
theorem GoodT.pos {t : TTask} (h : GoodT t) : ∀ x ∈ t.vars, 1 ≤ x := by
  intro x hx
  obtain ⟨i, hi, rfl⟩ := List.getElem_of_mem hx
  have := (h.dom i hi).1
  rwa [getD_at hi] at this
theorem succT_ok {t : TTask} {s : List Int} {op : Nat} (h : GoodT t) (hs : StateOk t.vars s) (ho : op < t.ops.length) : StateOk t.vars (succT t s op) := effsL_ok hs (h.op op ho).mem

/-- A step (or an edge of a transition system). -/
structure Edg where
  src : Int
  lab : Int
  dst : Int
  deriving DecidableEq
def tEdg : Ty Edg := ⟨3, fun e => [.int .i64 e.src, .int .i64 e.lab, .int .i64 e.dst], fun _ => rfl, ⟨0, 0, 0⟩⟩
instance : OneT tEdg := ⟨fun x v hv => by simp only [tEdg, List.mem_cons, List.not_mem_nil, or_false] at hv; rcases hv with rfl | rfl | rfl <;> rfl⟩
def stepL (t : TTask) (s : List Int) (i : Nat) (op : Nat) : List Edg := if AppT t s op then [⟨i, op, rankL t.vars (succT t s op)⟩] else []
def edgesJ (t : TTask) (s : List Int) (i j : Nat) : List Edg := (List.range j).flatMap (stepL t s i)
def edgesK (t : TTask) (i : Nat) : List Edg := (List.range i).flatMap fun i => edgesJ t ((statesL t.vars).getD i []) i t.ops.length
def edgesT (t : TTask) : List Edg := edgesK t (statesL t.vars).length
theorem edgesJ_zero (t : TTask) (s : List Int) (i : Nat) : edgesJ t s i 0 = [] := rfl
theorem edgesJ_succ (t : TTask) (s : List Int) (i j : Nat) : edgesJ t s i (j + 1) = edgesJ t s i j ++ stepL t s i j := by simp [edgesJ, List.range_succ]
theorem edgesK_zero (t : TTask) : edgesK t 0 = [] := rfl
theorem edgesK_succ (t : TTask) (i : Nat) : edgesK t (i + 1) = edgesK t i ++ edgesJ t ((statesL t.vars).getD i []) i t.ops.length := by simp [edgesK, List.range_succ]
theorem edgesJ_len (t : TTask) (s : List Int) (i j : Nat) : (edgesJ t s i j).length ≤ j := by
  induction j with
  | zero => simp [edgesJ]
  | succ j ih =>
    rw [edgesJ_succ, List.length_append]
    have : (stepL t s i j).length ≤ 1 := by unfold stepL; split <;> simp
    omega
theorem edgesK_len (t : TTask) (i : Nat) : (edgesK t i).length ≤ i * t.ops.length := by
  induction i with
  | zero => simp [edgesK]
  | succ i ih =>
    rw [edgesK_succ, List.length_append, Nat.succ_mul]
    have := edgesJ_len t ((statesL t.vars).getD i []) i t.ops.length
    omega
theorem mem_edgesT {t : TTask} {e : Edg} : e ∈ edgesT t ↔ ∃ i op, i < (statesL t.vars).length ∧ op < t.ops.length ∧ AppT t ((statesL t.vars).getD i []) op ∧ e = ⟨i, op, rankL t.vars (succT t ((statesL t.vars).getD i []) op)⟩ := by
  simp only [edgesT, edgesK, edgesJ, stepL, List.mem_flatMap, List.mem_range]
  constructor
  · rintro ⟨i, hi, op, ho, h⟩
    split at h
    · rename_i ha; exact ⟨i, op, hi, ho, ha, List.mem_singleton.1 h⟩
    · cases h
  · rintro ⟨i, op, hi, ho, ha, rfl⟩
    exact ⟨i, hi, op, ho, by rw [if_pos ha]; exact List.mem_singleton.2 rfl⟩
end Go.Proofs.Ytlgombjhcpgleaa
