/-
  Plain facts about the reference's system: marked places, the parts of a goal, the numbers of edges.
-/
import Derived.Test.YtlgombjhcpgleaaTSys
namespace Go.Proofs.Ytlgombjhcpgleaa
open Go.Sl

/-- A list of marks. -/
noncomputable def markB (n : Nat) (p : Nat → Prop) : List Bool := (List.range n).map fun a => @decide (p a) (Classical.propDecidable _)
theorem markB_len (n : Nat) (p : Nat → Prop) : (markB n p).length = n := by simp [markB]
theorem markB_at {n : Nat} {p : Nat → Prop} {a : Nat} (h : a < n) : (markB n p).getD a tBool.dflt = true ↔ p a := by simp [markB, List.getD, h]
theorem markB_congr {n : Nat} {p q : Nat → Prop} (h : ∀ a, a < n → (p a ↔ q a)) : markB n p = markB n q := by
  unfold markB
  refine List.map_congr_left fun a ha => ?_
  have := h a (List.mem_range.1 ha)
  by_cases hp : p a
  · simp [hp, this.1 hp]
  · have hq : ¬ q a := fun hq => hp (this.2 hq)
    simp [hp, hq]
theorem markB_none {n : Nat} {p : Nat → Prop} (h : ∀ a, a < n → ¬ p a) : markB n p = List.replicate n false := by
  apply List.ext_getElem (by simp [markB])
  intro i h1 h2
  simp only [markB_len] at h1
  simp [markB, h i h1]
theorem markB_set {n : Nat} {p q : Nat → Prop} {a : Nat} (h : ∀ x, x < n → (q x ↔ p x ∨ x = a)) : (markB n p).set a true = markB n q := by
  apply List.ext_getElem (by simp [markB])
  intro i h1 h2
  simp only [markB_len] at h2
  rw [List.getElem_set]
  have hq := h i h2
  simp only [markB, List.getElem_map, List.getElem_range]
  split
  · rename_i e; simp [hq, e]
  · rename_i e
    have : q i ↔ p i := by rw [hq]; exact ⟨fun h => h.elim id fun e' => absurd e'.symm e, .inl⟩
    by_cases hp : p i
    · simp [hp, this.2 hp]
    · have : ¬ q i := fun hh => hp (this.1 hh)
      simp [hp, this]
theorem goals_mark (t : TTask) (p : List Int) (n : Nat) : goalsK t p n = markB n fun a => GoalP t p (a : Int) := by
  unfold goalsK markB goalB
  refine List.map_congr_left fun a _ => ?_
  congr

theorem partL_snoc (p : List Int) (f : List Fact) (x : Fact) : partL p (f ++ [x]) = partL p f ++ if x.var ∈ p then [x] else [] := by
  unfold partL
  rw [List.filter_append]
  congr 1
  by_cases h : x.var ∈ p <;> simp [h]
theorem partL_len (p : List Int) (f : List Fact) : (partL p f).length ≤ f.length := List.length_filter_le _ _
theorem enc_inj {n q r b c : Int} (hb : 0 ≤ b) (hb2 : b < n) (hc : 0 ≤ c) (hc2 : c < n) (h : q * n + b = r * n + c) : q = r ∧ b = c := by
  have hn : n ≠ 0 := by omega
  have e1 : (q * n + b) / n = q := by rw [Int.add_comm, Int.add_mul_ediv_right _ _ hn, Int.ediv_eq_zero_of_lt hb hb2]; omega
  have e2 : (r * n + c) / n = r := by rw [Int.add_comm, Int.add_mul_ediv_right _ _ hn, Int.ediv_eq_zero_of_lt hc hc2]; omega
  have hq : q = r := by rw [← e1, h, e2]
  subst hq
  exact ⟨rfl, by omega⟩
/-- The number of a possible edge. -/
def edgN (n m a op b : Int) : Int := (a * m + op) * n + b
theorem edgN_inj {n m a op b a' op' b' : Int} (h1 : 0 ≤ op) (h2 : op < m) (h3 : 0 ≤ b) (h4 : b < n) (h5 : 0 ≤ op') (h6 : op' < m) (h7 : 0 ≤ b') (h8 : b' < n) (h : edgN n m a op b = edgN n m a' op' b') : a = a' ∧ op = op' ∧ b = b' := by
  obtain ⟨e1, e2⟩ := enc_inj h3 h4 h7 h8 h
  obtain ⟨e3, e4⟩ := enc_inj h1 h2 h5 h6 e1
  exact ⟨e3, e4, e2⟩
theorem edgN_bd {n m a op b : Int} (h0 : 0 ≤ a) (h : a < n) (h1 : 0 ≤ op) (h2 : op < m) (h3 : 0 ≤ b) (h4 : b < n) : 0 ≤ edgN n m a op b ∧ edgN n m a op b < n * m * n ∧ 0 ≤ a * m ∧ a * m ≤ n * m ∧ 0 ≤ (a * m + op) * n ∧ (a * m + op) * n ≤ n * m * n := by
  have a1 : 0 ≤ a * m := Int.mul_nonneg h0 (by omega)
  have a2 : (a + 1) * m ≤ n * m := Int.mul_le_mul_of_nonneg_right (by omega) (by omega)
  have a3 : 0 ≤ (a * m + op) * n := Int.mul_nonneg (by omega) (by omega)
  rw [Int.add_mul] at a2
  have a4 : (a * m + op + 1) * n ≤ n * m * n := Int.mul_le_mul_of_nonneg_right (by omega) (by omega)
  rw [Int.add_mul (a * m + op)] at a4
  unfold edgN
  exact ⟨by omega, by omega, a1, by omega, a3, by omega⟩
theorem mul_bd {a b A B : Int} (h0 : 0 ≤ a) (h1 : a ≤ A) (h2 : 0 ≤ b) (h3 : b ≤ B) : 0 ≤ a * b ∧ a * b ≤ A * B :=
  ⟨Int.mul_nonneg h0 h2, Int.mul_le_mul h1 h3 h2 (by omega)⟩
/-- The places of the first k steps. -/
def FoundK (t : TTask) (p : List Int) (k : Nat) (x : Nat) : Prop := ∃ j, j < k ∧ (x : Int) = edgN (cntL t.vars p) t.ops.length (idxL t.vars p ((statesL t.vars).getD ((edgesT t).getD j tEdg.dflt).src.toNat [])) ((edgesT t).getD j tEdg.dflt).lab (idxL t.vars p ((statesL t.vars).getD ((edgesT t).getD j tEdg.dflt).dst.toNat []))
theorem edgeT_at {t : TTask} (hg : GoodT t) {j : Nat} (hj : j < (edgesT t).length) : ∃ (s : List Int) (op : Nat), StateOk t.vars s ∧ op < t.ops.length ∧ AppT t s op ∧ ((edgesT t).getD j tEdg.dflt).lab = op ∧
    (0 ≤ ((edgesT t).getD j tEdg.dflt).src ∧ ((edgesT t).getD j tEdg.dflt).src.toNat < (statesL t.vars).length ∧ (statesL t.vars).getD ((edgesT t).getD j tEdg.dflt).src.toNat [] = s) ∧
    (0 ≤ ((edgesT t).getD j tEdg.dflt).dst ∧ ((edgesT t).getD j tEdg.dflt).dst.toNat < (statesL t.vars).length ∧ (statesL t.vars).getD ((edgesT t).getD j tEdg.dflt).dst.toNat [] = succT t s op) := by
  obtain ⟨i, op, hi, ho, ha, he⟩ := mem_edgesT.1 (mem_getD tEdg.dflt hj)
  have hs := statesL_at hg.pos hi
  have hs2 := succT_ok hg hs.1 ho
  have hb := rankL_bound hs2
  have := statesL_of hg.pos hs2
  refine ⟨(statesL t.vars).getD i [], op, hs.1, ho, ha, by rw [he], ?_, ?_⟩
  · rw [he]; simp only [Int.toNat_natCast]; exact ⟨by omega, hi, trivial⟩
  · rw [he]; exact ⟨hb.1, this⟩
theorem found_iff {t : TTask} {p : List Int} (hg : GoodT t) (hp : InV t.vars p) {a b : Int} {op : Nat} (h0 : 0 ≤ a) (h1 : a < cntL t.vars p) (ho : op < t.ops.length) (h3 : 0 ≤ b) (h4 : b < cntL t.vars p) :
    FoundK t p (edgesT t).length (edgN (cntL t.vars p) t.ops.length a op b).toNat ↔ TGp t p a op b := by
  have hnn := (edgN_bd h0 h1 (m := t.ops.length) (op := op) (by omega) (by omega) h3 h4).1
  constructor
  · rintro ⟨j, hj, he⟩
    obtain ⟨s, o, hs, hoo, happ, hl, ⟨_, _, e1⟩, ⟨_, _, e2⟩⟩ := edgeT_at hg hj
    rw [e1, e2, hl, Int.toNat_of_nonneg hnn] at he
    have hb1 := idxL_bound hs hp.mem
    have hb2 := idxL_bound (succT_ok hg hs hoo) hp.mem
    obtain ⟨x1, x2, x3⟩ := edgN_inj (by omega) (by omega) h3 h4 (by omega) (by omega) hb2.1 hb2.2 he
    have x4 : op = o := by omega
    subst x4
    exact ⟨s, hs, x1.symm, happ, x3.symm⟩
  · rintro ⟨s, hs, rfl, happ, rfl⟩
    obtain ⟨r1, r2⟩ := statesL_of hg.pos hs
    have hm : (⟨(rankL t.vars s).toNat, op, rankL t.vars (succT t ((statesL t.vars).getD (rankL t.vars s).toNat []) op)⟩ : Edg) ∈ edgesT t := mem_edgesT.2 ⟨_, op, r1, ho, by rw [r2]; exact happ, rfl⟩
    obtain ⟨j, hj, hje⟩ := List.getElem_of_mem hm
    refine ⟨j, hj, ?_⟩
    rw [Int.toNat_of_nonneg hnn, getD_at hj, hje]
    simp only [Int.toNat_natCast]
    rw [r2, (statesL_of hg.pos (succT_ok hg hs ho)).2]
theorem pickL_succ {k : Nat} (p : Int → Prop) : (p (k : Int) → pickL ((k + 1 : Nat) : Int) p = pickL (k : Int) p ++ [(k : Int)]) ∧ (¬ p (k : Int) → pickL ((k + 1 : Nat) : Int) p = pickL (k : Int) p) := by
  unfold pickL
  rw [show upTo ((k + 1 : Nat) : Int) = upTo (k : Int) ++ [(k : Int)] by simp [upTo, List.range_succ], List.filter_append]
  exact ⟨fun h => by simp [h], fun h => by simp [h]⟩
theorem pickL_zero (p : Int → Prop) : pickL 0 p = [] := rfl
theorem edgB_snoc (a : Int) (op : Nat) (l : List Int) (b : Int) : edgB a op (l ++ [b]) = edgB a op l ++ [⟨a, op, b⟩] := by simp [edgB]
end Go.Proofs.Ytlgombjhcpgleaa
