
/-
  LM-cut's values by going down, in plain Lean; the greatest fact as a function.
-/
import Derived.Test.YtkmbenhffledpaaGreatTCut3
set_option linter.unusedSimpArgs false
set_option linter.unusedVariables false
namespace Go.Proofs.YtkmbenhffledpaaGreat
open Go.Sl
/-- The greatest fact of a list, -1 of none. -/
def grtS (V : List Int) (o f : Int) : Int := if o < 0 ∨ dg V o < dg V f ∨ (dg V f = dg V o ∧ f < o) then f else o
def grtI (V l : List Int) : Int := l.foldl (grtS V) (-1)
theorem grtI_snoc (V l : List Int) (f : Int) : grtI V (l ++ [f]) = grtS V (grtI V l) f := by simp [grtI]
theorem grtI_ok {V : List Int} : ∀ {l : List Int}, (∀ f ∈ l, 0 ≤ f) → (l = [] ∧ grtI V l = -1) ∨ (0 ≤ grtI V l ∧ GrtF V l (grtI V l)) := by
  intro l
  refine snoc_ind (P := fun l => (∀ f ∈ l, 0 ≤ f) → (l = [] ∧ grtI V l = -1) ∨ (0 ≤ grtI V l ∧ GrtF V l (grtI V l))) (fun _ => .inl ⟨rfl, rfl⟩) ?_ l
  intro l f ih h
  right
  have hf := h f (by simp)
  rw [grtI_snoc]
  rcases ih fun g hg => h g (by simp [hg]) with ⟨e, h1⟩ | ⟨h0, h1, h2⟩
  · rw [h1, e]
    have : grtS V (-1) f = f := if_pos (.inl (by decide))
    rw [this]
    exact ⟨hf, by simp, fun g hg => by
      have : g = f := by simpa using hg
      rw [this]; exact .inr ⟨rfl, Int.le_refl _⟩⟩
  · unfold grtS
    split
    · rename_i hc
      refine ⟨hf, by simp, fun g hg => ?_⟩
      rcases List.mem_append.1 hg with hg | hg
      · rcases h2 g hg with h3 | h3 <;> omega
      · rw [List.mem_singleton.1 hg]; exact .inr ⟨rfl, Int.le_refl _⟩
    · rename_i hc
      refine ⟨h0, by simp [h1], fun g hg => ?_⟩
      rcases List.mem_append.1 hg with hg | hg
      · exact h2 g hg
      · rw [List.mem_singleton.1 hg]; omega
/-- The greatest value of a list, 0 of none. -/
def hiV (V l : List Int) : Int := if grtI V l < 0 then 0 else dg V (grtI V l)
theorem hiV_le {V l : List Int} (hl : ∀ f ∈ l, 0 ≤ f ∧ 0 ≤ dg V f) {b : Int} (hb : 0 ≤ b) : hiV V l ≤ b ↔ ∀ f ∈ l, dg V f ≤ b := by
  unfold hiV
  rcases grtI_ok (V := V) (l := l) fun f hf => (hl f hf).1 with ⟨e, h1⟩ | ⟨h0, h1⟩
  · rw [h1, if_pos (by decide), e]
    exact ⟨fun _ f hf => absurd hf List.not_mem_nil, fun _ => hb⟩
  · rw [if_neg (by omega)]
    exact ⟨fun h f hf => Int.le_trans (h1.ge hf) h, fun h => h _ h1.1⟩
theorem hiV_nn {V l : List Int} (hl : ∀ f ∈ l, 0 ≤ f ∧ 0 ≤ dg V f) : 0 ≤ hiV V l := by
  unfold hiV
  rcases grtI_ok (V := V) (l := l) fun f hf => (hl f hf).1 with ⟨_, h1⟩ | ⟨h0, h1⟩
  · rw [h1, if_pos (by decide)]; exact Int.le_refl _
  · rw [if_neg (by omega)]; exact (hl _ h1.1).2
theorem hiV_fin {V l : List Int} (hl : ∀ f ∈ l, 0 ≤ f ∧ 0 ≤ dg V f) : hiV V l < inf ↔ FinN V l := by
  have h := hiV_le (V := V) hl (b := inf - 1) (by decide)
  unfold FinN
  constructor
  · intro h1 g hg; have := h.1 (by omega) g hg; omega
  · intro h1; have := h.2 fun g hg => by have := h1 g hg; omega
    omega
theorem foldmax_le {V : List Int} {b : Int} : ∀ {l : List Int} {a : Int}, l.foldl (fun m n => max m (dg V n)) a ≤ b ↔ a ≤ b ∧ ∀ f ∈ l, dg V f ≤ b
  | [], a => by simp
  | x :: l, a => by
    rw [List.foldl_cons, foldmax_le (l := l)]
    constructor
    · rintro ⟨h1, h2⟩
      have h3 := Int.max_le.1 h1
      exact ⟨h3.1, fun f hf => by
        rcases List.mem_cons.1 hf with e | hf
        · rw [e]; exact h3.2
        · exact h2 f hf⟩
    · rintro ⟨h1, h2⟩
      exact ⟨Int.max_le.2 ⟨h1, h2 x List.mem_cons_self⟩, fun f hf => h2 f (List.mem_cons_of_mem _ hf)⟩
theorem hiV_max {V l : List Int} (hl : ∀ f ∈ l, 0 ≤ f ∧ 0 ≤ dg V f) : hiV V l = l.foldl (fun m n => max m (dg V n)) 0 := by
  refine Int.le_antisymm ?_ ?_
  · have h0 : (0 : Int) ≤ l.foldl (fun m n => max m (dg V n)) 0 := (foldmax_le.1 (Int.le_refl _)).1
    exact (hiV_le hl h0).2 (foldmax_le.1 (Int.le_refl _)).2
  · exact foldmax_le.2 ⟨hiV_nn hl, (hiV_le hl (hiV_nn hl)).1 (Int.le_refl _)⟩
/-- Lists with the same members. -/
def SameM (l m : List Int) : Prop := ∀ x, x ∈ l ↔ x ∈ m
theorem grtF_same {V l m : List Int} (h : SameM l m) {f : Int} : GrtF V l f ↔ GrtF V m f := by
  unfold GrtF; rw [h f]
  exact ⟨fun ⟨a, b⟩ => ⟨a, fun g hg => b g ((h g).2 hg)⟩, fun ⟨a, b⟩ => ⟨a, fun g hg => b g ((h g).1 hg)⟩⟩
theorem same_nil {l m : List Int} (h : SameM l m) : l = [] ↔ m = [] := by
  constructor
  · intro e; subst e
    cases m with
    | nil => rfl
    | cons x m => exact absurd ((h x).2 List.mem_cons_self) List.not_mem_nil
  · intro e; subst e
    cases l with
    | nil => rfl
    | cons x l => exact absurd ((h x).1 List.mem_cons_self) List.not_mem_nil
/-- While values go down. -/
structure LVI (t : TTask) (z D : List Int) : Prop where
  len : D.length = factN t
  rng : ∀ g : Int, 0 ≤ g → g < factN t → 0 ≤ dg D g ∧ dg D g ≤ inf
  der : ∀ g : Int, 0 ≤ g → g < factN t → dg D g < inf → Der (unT t) (StF t.vars z) g (dg D g)
  st : ∀ g, StF t.vars z g → dg D g ≤ 0
section
variable {t : TTask} {z D : List Int}
theorem LVI.need (h : LVI t z D) (hg : GoodT t) {i : Nat} (hi : i < (unT t).length) {L : List Int} (hL : SameM L (un (unT t) i).needs) : ∀ f ∈ L, (0 ≤ f ∧ 0 ≤ dg D f) ∧ f < factN t := fun f hf => by
  have hr := (unT_ok hg).needs i hi f ((hL f).1 hf)
  exact ⟨⟨hr.1, (h.rng f hr.1 hr.2).1⟩, hr.2⟩
theorem LVI.relax (h : LVI t z D) (hg : GoodT t) {i : Nat} (hi : i < (unT t).length) {L : List Int} (hL : SameM L (un (unT t) i).needs) (h1 : hiV D L < inf) (h2 : hiV D L + (un (unT t) i).cost < dg D (un (unT t) i).makes) :
    LVI t z (D.set (un (unT t) i).makes.toNat (hiV D L + (un (unT t) i).cost)) ∧ sumD (D.set (un (unT t) i).makes.toNat (hiV D L + (un (unT t) i).cost)) < sumD D := by
  have hU := unT_ok hg
  have hm := hU.makes i hi
  have hc := hU.cost i hi
  have hn := fun f hf => (h.need hg hi hL f hf).1
  have hnn := hiV_nn hn
  have hfin := (hiV_fin hn).1 h1
  have hle := (hiV_le hn hnn).1 (Int.le_refl _)
  have hlen := h.len
  have hr := h.rng _ hm.1 hm.2
  have hd : Der (unT t) (StF t.vars z) (un (unT t) i).makes ((un (unT t) i).cost + hiV D L) := .fire (v := fun n => dg D n) hi hnn (fun n hn' => by
    have h3 := (hL n).2 hn'
    have h4 := hU.needs i hi n hn'
    exact h.der n h4.1 h4.2 (hfin n h3)) fun n hn' => hle n ((hL n).2 hn')
  rw [Int.add_comm] at hd
  have hset : ∀ g : Int, 0 ≤ g → dg (D.set (un (unT t) i).makes.toNat (hiV D L + (un (unT t) i).cost)) g = if g = (un (unT t) i).makes then hiV D L + (un (unT t) i).cost else dg D g := fun g h0 => dg_set h0 hm.1 (by omega)
  refine ⟨⟨by rw [List.length_set]; exact hlen, fun g h0 h1' => ?_, fun g h0 h1' h3 => ?_, fun g hs => ?_⟩, sumD_set (by omega) (by simp only [dg] at *; omega)⟩
  · rw [hset g h0]
    split
    · omega
    · exact h.rng g h0 h1'
  · rw [hset g h0] at h3 ⊢
    split
    · rename_i e; rw [e]; exact hd
    · rename_i e; rw [if_neg e] at h3; exact h.der g h0 h1' h3
  · by_cases h0 : 0 ≤ g
    · rw [hset g h0]
      have h5 := h.st g hs
      split
      · rename_i e; rw [← e] at h2; omega
      · exact h5
    · have h5 := h.st g hs
      have e1 : dg (D.set (un (unT t) i).makes.toNat (hiV D L + (un (unT t) i).cost)) g = dg (D.set (un (unT t) i).makes.toNat (hiV D L + (un (unT t) i).cost)) 0 := by unfold dg; rw [show g.toNat = (0 : Int).toNat by omega]
      have e2 : dg D g = dg D 0 := by unfold dg; rw [show g.toNat = (0 : Int).toNat by omega]
      rw [e2] at h5
      rw [e1, hset 0 (Int.le_refl _)]
      split
      · rename_i e; rw [← e] at h2; omega
      · exact h5
/-- Nothing goes down any more. -/
theorem LVI.fin (h : LVI t z D) (hg : GoodT t) (hst : ∀ i : Nat, i < (unT t).length → hiV D (un (unT t) i).needs < inf → dg D (un (unT t) i).makes ≤ hiV D (un (unT t) i).needs + (un (unT t) i).cost) : IsHM t z D := by
  have hU := unT_ok hg
  refine isHM_of h.len h.rng hU h.st (fun i hi => ?_) h.der
  have hn := fun f hf => (h.need hg hi (L := (un (unT t) i).needs) (fun _ => Iff.rfl) f hf).1
  rw [← hiV_max hn]
  have hm := hU.makes i hi
  have hr := h.rng _ hm.1 hm.2
  have hc := hU.cost i hi
  by_cases hf : hiV D (un (unT t) i).needs < inf
  · have := hst i hi hf; omega
  · omega
end
theorem hiV_same {V l m : List Int} (h : SameM l m) (hl : ∀ f ∈ l, 0 ≤ f ∧ 0 ≤ dg V f) : hiV V l = hiV V m := by
  have hm : ∀ f ∈ m, 0 ≤ f ∧ 0 ≤ dg V f := fun f hf => hl f ((h f).2 hf)
  refine Int.le_antisymm ?_ ?_
  · exact (hiV_le hl (hiV_nn hm)).2 fun f hf => (hiV_le hm (hiV_nn hm)).1 (Int.le_refl _) f ((h f).1 hf)
  · exact (hiV_le hm (hiV_nn hl)).2 fun f hf => (hiV_le hl (hiV_nn hl)).1 (Int.le_refl _) f ((h f).2 hf)
/-- The unary operators under other costs. -/
theorem unT_with {t : TTask} {cs : List Int} {i : Nat} (hi : i < (unT t).length) : (unT (withC t cs)).length = (unT t).length ∧ (un (unT (withC t cs)) i).op = (un (unT t) i).op ∧ (un (unT (withC t cs)) i).makes = (un (unT t) i).makes ∧ (un (unT (withC t cs)) i).needs = (un (unT t) i).needs ∧ (un (unT (withC t cs)) i).cost = cs.getD (un (unT t) i).op.toNat tInt.dflt := by
  have key : ∀ k, k ≤ t.ops.length → unK (withC t cs) k = (unK t k).map fun u => { u with cost := cs.getD u.op.toNat tInt.dflt } := by
    intro k
    induction k with
    | zero => intro _; simp [unK]
    | succ k ih =>
      intro hk
      rw [unK_succ, unK_succ, ih (by omega), List.map_append, withC_op (by omega)]
      congr 1
      unfold unO
      rw [List.map_map]
      refine List.map_congr_left fun j _ => ?_
      simp [unE, withC]
  have e : unT (withC t cs) = (unT t).map fun u => { u with cost := cs.getD u.op.toNat tInt.dflt } := by
    have := key t.ops.length (Nat.le_refl _)
    unfold unT
    rw [withC_len]; exact this
  have h1 : un (unT (withC t cs)) i = { un (unT t) i with cost := cs.getD (un (unT t) i).op.toNat tInt.dflt } := by
    rw [e]
    unfold un
    rw [Int.toNat_natCast, getD_at (by rw [List.length_map]; exact hi), List.getElem_map, getD_at hi]
  exact ⟨by rw [e, List.length_map], by rw [h1], by rw [h1], by rw [h1], by rw [h1]⟩
end Go.Proofs.YtkmbenhffledpaaGreat
