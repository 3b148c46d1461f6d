/-
  Least costs to a goal in a graph of labelled edges, in plain Lean.
-/
import Derived.Test.YtlgombjhcpgleaaTState
namespace Go.Proofs.Ytlgombjhcpgleaa
open Go.Sl

abbrev inf : Int := 1125899906842624
abbrev dg (D : List Int) (i : Int) : Int := D.getD i.toNat tInt.dflt
/-- The cost of an edge's label. -/
abbrev cst (c : List Int) (e : Edg) : Int := c.getD e.lab.toNat tInt.dflt
/-- There is a walk from a node to a goal with this sum of costs. -/
inductive Walk (E : List Edg) (c : List Int) (G : Int → Prop) : Int → Int → Prop
  | goal {a : Int} : G a → Walk E c G a 0
  | step {e : Edg} {k : Int} : e ∈ E → Walk E c G e.dst k → Walk E c G e.src (cst c e + k)
/-- The edges lie among the first n nodes, their labels have costs. -/
structure EOk (E : List Edg) (c : List Int) (n : Nat) : Prop where
  src : ∀ e ∈ E, 0 ≤ e.src ∧ e.src < n
  dst : ∀ e ∈ E, 0 ≤ e.dst ∧ e.dst < n
  lab : ∀ e ∈ E, 0 ≤ e.lab ∧ e.lab < c.length
  cost : ∀ x ∈ c, 0 ≤ x ∧ x ≤ 1099511627776
theorem EOk.cst {E : List Edg} {c : List Int} {n : Nat} (h : EOk E c n) {e : Edg} (he : e ∈ E) : 0 ≤ cst c e ∧ cst c e ≤ 1099511627776 :=
  h.cost _ (mem_getD tInt.dflt (by have := h.lab e he; omega))
theorem EOk.getD {E : List Edg} {c : List Int} {n k : Nat} (h : EOk E c n) (hk : k < E.length) : (0 ≤ (E.getD k tEdg.dflt).src ∧ (E.getD k tEdg.dflt).src < n) ∧ (0 ≤ (E.getD k tEdg.dflt).dst ∧ (E.getD k tEdg.dflt).dst < n) ∧ (0 ≤ (E.getD k tEdg.dflt).lab ∧ (E.getD k tEdg.dflt).lab < c.length) ∧ 0 ≤ Go.Proofs.Ytlgombjhcpgleaa.cst c (E.getD k tEdg.dflt) ∧ Go.Proofs.Ytlgombjhcpgleaa.cst c (E.getD k tEdg.dflt) ≤ 1099511627776 :=
  have hm := mem_getD tEdg.dflt hk
  ⟨h.src _ hm, h.dst _ hm, h.lab _ hm, h.cst hm⟩
/-- What holds while distances go down. -/
structure DInv (E : List Edg) (c : List Int) (G : Int → Prop) (n : Nat) (D : List Int) : Prop where
  len : D.length = n
  rng : ∀ i : Nat, i < n → 0 ≤ dg D i ∧ dg D i ≤ inf
  att : ∀ i : Nat, i < n → dg D i < inf → Walk E c G i (dg D i)
  gol : ∀ i : Nat, i < n → G i → dg D i = 0
def Stab (c : List Int) (D : List Int) (e : Edg) : Prop := dg D e.dst < inf → dg D e.src ≤ dg D e.dst + cst c e
/-- Least costs. -/
structure DistOk (E : List Edg) (c : List Int) (G : Int → Prop) (n : Nat) (D : List Int) : Prop where
  len : D.length = n
  rng : ∀ i : Nat, i < n → 0 ≤ dg D i ∧ dg D i ≤ inf
  att : ∀ i : Nat, i < n → dg D i < inf → Walk E c G i (dg D i)
  low : ∀ i : Nat, i < n → ∀ k, Walk E c G i k → dg D i ≤ k
theorem Walk.nonneg {E : List Edg} {c : List Int} {G : Int → Prop} {n : Nat} (h : EOk E c n) {a k : Int} (hw : Walk E c G a k) : 0 ≤ k := by
  induction hw with
  | goal _ => omega
  | step he _ ih => have := h.cst he; omega
theorem DInv.dist {E : List Edg} {c : List Int} {G : Int → Prop} {n : Nat} {D : List Int} (hE : EOk E c n) (h : DInv E c G n D) (hs : ∀ e ∈ E, Stab c D e) : DistOk E c G n D := by
  refine ⟨h.len, h.rng, h.att, ?_⟩
  have key : ∀ {a k : Int}, Walk E c G a k → 0 ≤ a → a < n → dg D a ≤ k := by
    intro a k hw
    induction hw with
    | @goal a hg =>
      intro h0 h1
      have := h.gol a.toNat (by omega) (by rw [Int.toNat_of_nonneg h0]; exact hg)
      rw [Int.toNat_of_nonneg h0] at this
      omega
    | @step e k he _ ih =>
      intro h0 h1
      have hd := hE.dst e he
      have hc := hE.cst he
      have h2 := ih hd.1 hd.2
      have h3 := hs e he
      by_cases h4 : dg D e.dst < inf
      · have := h3 h4; omega
      · have := (h.rng e.src.toNat (by omega)).2
        rw [Int.toNat_of_nonneg h0] at this
        omega
  intro i hi k hw
  exact key hw (by omega) (by omega)
theorem DistOk.congr {E : List Edg} {c : List Int} {G : Int → Prop} {E' : List Edg} {c' : List Int} {G' : Int → Prop} {n : Nat} {D D' : List Int} (h : DistOk E c G n D) (h' : DistOk E' c' G' n D') (hw : ∀ i : Nat, i < n → ∀ k, Walk E c G i k ↔ Walk E' c' G' i k) : D = D' := by
  apply List.ext_getElem (by rw [h.len, h'.len])
  intro i h1 h2
  have hi : i < n := by rw [← h.len]; exact h1
  have e1 : D[i] = dg D (i : Int) := by simp [dg, List.getD, h1]
  have e2 : D'[i] = dg D' (i : Int) := by simp [dg, List.getD, h2]
  rw [e1, e2]
  have r1 := h.rng i hi
  have r2 := h'.rng i hi
  by_cases a1 : dg D (i : Int) < inf
  · have := h'.low i hi _ ((hw i hi _).1 (h.att i hi a1))
    have := h.low i hi _ ((hw i hi _).2 (h'.att i hi (by omega)))
    omega
  · by_cases a2 : dg D' (i : Int) < inf
    · have := h.low i hi _ ((hw i hi _).2 (h'.att i hi a2)); omega
    · omega
theorem DistOk.unique {E : List Edg} {c : List Int} {G : Int → Prop} {n : Nat} {D D' : List Int} (h : DistOk E c G n D) (h' : DistOk E c G n D') : D = D' := h.congr h' fun _ _ _ => Iff.rfl
theorem DistOk.goal {E : List Edg} {c : List Int} {G : Int → Prop} {n : Nat} {D : List Int} (h : DistOk E c G n D) {i : Nat} (hi : i < n) (hg : G i) : dg D i = 0 := by
  have := h.low i hi 0 (.goal hg)
  have := h.rng i hi
  omega
theorem DistOk.stab {E : List Edg} {c : List Int} {G : Int → Prop} {n : Nat} {D : List Int} (hE : EOk E c n) (h : DistOk E c G n D) {e : Edg} (he : e ∈ E) : Stab c D e := by
  intro hl
  have hd := hE.dst e he
  have hs := hE.src e he
  have h1 := h.att e.dst.toNat (by omega) (by rw [Int.toNat_of_nonneg hd.1]; exact hl)
  rw [Int.toNat_of_nonneg hd.1] at h1
  have h2 := h.low e.src.toNat (by omega) _ (by rw [Int.toNat_of_nonneg hs.1]; exact .step he h1)
  rw [Int.toNat_of_nonneg hs.1] at h2
  omega
/-! ### Going down -/
def sumD (D : List Int) : Nat := (D.map Int.toNat).sum
theorem sumD_set {v : Int} : ∀ {D : List Int} {i : Nat}, i < D.length → v.toNat < (D.getD i tInt.dflt).toNat → sumD (D.set i v) < sumD D
  | [], i, h, _ => by simp at h
  | x :: D, 0, _, h => by simp [sumD] at h ⊢; omega
  | x :: D, i + 1, h, h2 => by
    have := sumD_set (i := i) (D := D) (by simpa using h) (by simpa using h2)
    simp only [sumD, List.set_cons_succ, List.map_cons, List.sum_cons] at this ⊢
    omega
theorem dg_set {D : List Int} {a b v : Int} (ha : 0 ≤ a) (hb : 0 ≤ b) (hl : b < D.length) : dg (D.set b.toNat v) a = if a = b then v else dg D a := by
  simp only [dg, List.getD_eq_getElem?_getD, List.getElem?_set]
  by_cases e : a = b
  · subst e; rw [if_pos rfl, if_pos rfl, if_pos (by omega)]; rfl
  · rw [if_neg (by omega), if_neg e]
theorem DInv.relax {E : List Edg} {c : List Int} {G : Int → Prop} {n : Nat} {D : List Int} (hE : EOk E c n) (h : DInv E c G n D) {e : Edg} (he : e ∈ E) (h1 : dg D e.dst < inf) (h2 : dg D e.dst + cst c e < dg D e.src) :
    DInv E c G n (D.set e.src.toNat (dg D e.dst + cst c e)) ∧ sumD (D.set e.src.toNat (dg D e.dst + cst c e)) < sumD D := by
  have hd := hE.dst e he
  have hs := hE.src e he
  have hc := hE.cst he
  have hl := h.len
  have r1 := h.rng e.dst.toNat (by omega)
  have r2 := h.rng e.src.toNat (by omega)
  rw [Int.toNat_of_nonneg hd.1] at r1
  rw [Int.toNat_of_nonneg hs.1] at r2
  have hwk := h.att e.dst.toNat (by omega) (by rw [Int.toNat_of_nonneg hd.1]; exact h1)
  rw [Int.toNat_of_nonneg hd.1] at hwk
  have hg : ∀ i : Nat, dg (D.set e.src.toNat (dg D e.dst + cst c e)) i = if (i : Int) = e.src then dg D e.dst + cst c e else dg D i := fun i => dg_set (by omega) hs.1 (by omega)
  refine ⟨⟨by simp [hl], fun i hi => ?_, fun i hi hlt => ?_, fun i hi hgo => ?_⟩, sumD_set (by omega) (by simp only [dg] at *; omega)⟩
  · rw [hg]; split
    · omega
    · exact h.rng i hi
  · rw [hg] at hlt ⊢
    split
    · rename_i ei; rw [ei, Int.add_comm]; exact .step he hwk
    · rename_i ei; rw [if_neg ei] at hlt; exact h.att i hi hlt
  · rw [hg]; split
    · rename_i ei
      have := h.gol i hi hgo
      rw [ei] at this
      omega
    · exact h.gol i hi hgo
/-- 0 or infinity. -/
noncomputable def zi (p : Prop) : Int := @ite _ p (Classical.propDecidable _) 0 inf
theorem zi_pos {p : Prop} (h : p) : zi p = 0 := if_pos h
theorem zi_neg {p : Prop} (h : ¬ p) : zi p = inf := if_neg h
theorem zi_congr {p q : Prop} (h : p ↔ q) : zi p = zi q := by
  by_cases hp : p
  · rw [zi_pos hp, zi_pos (h.1 hp)]
  · rw [zi_neg hp, zi_neg (fun hq => hp (h.2 hq))]
/-- Where each node has 0 (a goal) or infinity. -/
noncomputable def dist0 (G : Int → Prop) (n : Nat) : List Int := (List.range n).map fun (i : Nat) => zi (G (i : Int))
theorem dist0_at {G : Int → Prop} {n i : Nat} (hi : i < n) : dg (dist0 G n) i = zi (G (i : Int)) := by simp [dg, dist0, List.getD, hi]
theorem dist0_inv (E : List Edg) (c : List Int) (G : Int → Prop) (n : Nat) : DInv E c G n (dist0 G n) := by
  refine ⟨by simp [dist0], fun i hi => ?_, fun i hi h => ?_, fun i hi h => ?_⟩
  · rw [dist0_at hi]
    by_cases g : G (i : Int)
    · rw [zi_pos g]; exact ⟨by decide, by decide⟩
    · rw [zi_neg g]; exact ⟨by decide, by decide⟩
  · rw [dist0_at hi] at h ⊢
    by_cases g : G (i : Int)
    · rw [zi_pos g]; exact .goal g
    · rw [zi_neg g] at h; omega
  · rw [dist0_at hi, zi_pos h]
/-- The first k nodes done. -/
noncomputable def dist0K (G : Int → Prop) (n k : Nat) : List Int := (List.range n).map fun (i : Nat) => zi (i < k → G (i : Int))
theorem dist0K_len (G : Int → Prop) (n k : Nat) : (dist0K G n k).length = n := by simp [dist0K]
theorem dist0K_zero (G : Int → Prop) (n : Nat) : dist0K G n 0 = List.replicate n 0 := by
  apply List.ext_getElem (by simp [dist0K])
  intro i h1 h2
  simp only [dist0K, List.getElem_map, List.getElem_range, List.getElem_replicate]
  exact zi_pos fun h => absurd h (Nat.not_lt_zero _)
theorem dist0K_end (G : Int → Prop) (n : Nat) : dist0K G n n = dist0 G n := by
  unfold dist0K dist0
  refine List.map_congr_left fun i hi => zi_congr ⟨fun h => h (List.mem_range.1 hi), fun h _ => h⟩
theorem dist0K_no {G : Int → Prop} {n k : Nat} (h : ¬ G (k : Int)) : (dist0K G n k).set k inf = dist0K G n (k + 1) := by
  apply List.ext_getElem (by simp [dist0K])
  intro i h1 h2
  rw [List.getElem_set]
  simp only [dist0K, List.getElem_map, List.getElem_range]
  split
  · rename_i e; subst e; rw [zi_neg]; intro hh; exact h (hh (Nat.lt_succ_self _))
  · rename_i e; exact zi_congr ⟨fun hh hi => hh (by omega), fun hh hi => hh (by omega)⟩
theorem dist0K_yes {G : Int → Prop} {n k : Nat} (h : G (k : Int)) : dist0K G n k = dist0K G n (k + 1) := by
  unfold dist0K
  refine List.map_congr_left fun i hi => zi_congr ⟨fun hh hi => ?_, fun hh hi => hh (by omega)⟩
  by_cases e : i = k
  · subst e; exact h
  · exact hh (by omega)
theorem dist0K_set0 {G : Int → Prop} {n k : Nat} {v : Int} (h : G (k : Int)) : ((dist0K G n k).set k v).set k 0 = dist0K G n (k + 1) := by
  rw [List.set_set, ← dist0K_yes h]
  apply List.ext_getElem (by simp)
  intro i h1 h2
  rw [List.getElem_set]
  split
  · rename_i e; subst e
    simp only [dist0K, List.getElem_map, List.getElem_range]
    exact (zi_pos fun h => absurd h (Nat.lt_irrefl _)).symm
  · rfl
end Go.Proofs.Ytlgombjhcpgleaa
