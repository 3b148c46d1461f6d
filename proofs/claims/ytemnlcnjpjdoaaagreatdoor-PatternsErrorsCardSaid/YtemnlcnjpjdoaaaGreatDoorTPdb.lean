
/-
  Plain facts about tables of least costs: least walks are short, other costs, saturated costs, wider patterns.
-/
import Derived.Test.YtemnlcnjpjdoaaaGreatDoorMW6
import Derived.Test.YtemnlcnjpjdoaaaGreatDoorMW7
import Derived.Test.YtemnlcnjpjdoaaaGreatDoorMTA
set_option linter.unusedSimpArgs false
set_option linter.unusedVariables false
namespace Go.Proofs.YtemnlcnjpjdoaaaGreatDoor
open Go.Sl Go

/-! ### A least walk is short -/
section
variable {E : List Edg} {c c' : List Int} {G : Int → Prop} {n : Nat} {D D' : List Int} {C : Int}
inductive WalkIn (E : List Edg) (c : List Int) (G : Int → Prop) (S : List Int) : Int → Int → Prop
  | goal {a : Int} : a ∈ S → G a → WalkIn E c G S a 0
  | step {e : Edg} {k : Int} : e ∈ E → e.src ∈ S → WalkIn E c G S e.dst k → WalkIn E c G S e.src (cst c e + k)
def outA (a : Int) (S : List Int) : List Int := S.filter fun x => decide (x ≠ a)
theorem outA_mem {a x : Int} {S : List Int} : x ∈ outA a S ↔ x ∈ S ∧ x ≠ a := by simp [outA]
theorem outA_len {a : Int} {S : List Int} (h : a ∈ S) : (outA a S).length < S.length := by
  unfold outA
  rw [List.length_filter_lt_length_iff_exists]
  exact ⟨a, h, by simp⟩
theorem walkIn_split (hE : EOk E c n) {S : List Int} (a : Int) {x k : Int} (h : WalkIn E c G S x k) :
    WalkIn E c G (outA a S) x k ∨ G a ∨ ∃ e k', e ∈ E ∧ e.src = a ∧ WalkIn E c G (outA a S) e.dst k' ∧ cst c e + k' ≤ k := by
  induction h with
  | @goal b hb hg =>
    by_cases e : b = a
    · subst e; exact .inr (.inl hg)
    · exact .inl (.goal (outA_mem.2 ⟨hb, e⟩) hg)
  | @step e k he hs _ ih =>
    have hc := (hE.cst he).1
    rcases ih with ih | ih | ⟨e', k', h1, h2, h3, h4⟩
    · by_cases ea : e.src = a
      · exact .inr (.inr ⟨e, k, he, ea, ih, Int.le_refl _⟩)
      · exact .inl (.step he (outA_mem.2 ⟨hs, ea⟩) ih)
    · exact .inr (.inl ih)
    · exact .inr (.inr ⟨e', k', h1, h2, h3, by omega⟩)
theorem WalkIn.walk {S : List Int} {x k : Int} (h : WalkIn E c G S x k) : x ∈ S ∧ Walk E c G x k := by
  induction h with
  | goal h hg => exact ⟨h, .goal hg⟩
  | step he hs _ ih => exact ⟨hs, .step he ih.2⟩
theorem Walk.within (hE : EOk E c n) {x k : Int} (h : Walk E c G x k) : 0 ≤ x → x < n → WalkIn E c G (upTo (n : Int)) x k := by
  induction h with
  | goal hg => intro h0 h1; exact .goal (upTo_mem.2 ⟨h0, h1⟩) hg
  | step he _ ih => intro h0 h1; have := hE.dst _ he; exact .step he (upTo_mem.2 ⟨h0, h1⟩) (ih this.1 this.2)
theorem walkIn_short (hE : EOk E c n) (h0 : 0 ≤ C) (hC : ∀ x ∈ c, x ≤ C) : ∀ (m : Nat) (S : List Int), S.length ≤ m → ∀ x k, WalkIn E c G S x k → ∃ k', k' ≤ k ∧ k' ≤ m * C ∧ Walk E c G x k'
  | 0, S, hl, x, k, h => by
    have := h.walk.1
    have : S = [] := List.eq_nil_of_length_eq_zero (by omega)
    subst this; simp at *
  | m + 1, S, hl, x, k, h => by
    have hx := h.walk.1
    have hk := h.walk.2.nonneg hE
    have hm : 0 ≤ (m : Int) * C := Int.mul_nonneg (by omega) h0
    have e1 : ((m + 1 : Nat) : Int) * C = (m : Int) * C + C := by rw [Int.natCast_add, Int.add_mul]; simp
    rcases walkIn_split hE x h with h1 | h1 | ⟨e, k', he, hs, hw, hle⟩
    · exact absurd rfl (outA_mem.1 h1.walk.1).2
    · exact ⟨0, hk, by omega, .goal h1⟩
    · obtain ⟨k2, a1, a2, a3⟩ := walkIn_short hE h0 hC m (outA x S) (by have := outA_len hx; omega) _ _ hw
      have hc : cst c e ≤ C := hC _ (mem_getD tInt.dflt (by have := hE.lab e he; omega))
      exact ⟨cst c e + k2, by omega, by omega, hs ▸ .step he a3⟩
theorem DistOk.short (hE : EOk E c n) (h0 : 0 ≤ C) (hC : ∀ x ∈ c, x ≤ C) (h : DistOk E c G n D) {i : Nat} {k : Int} (hi : i < n) (hw : Walk E c G i k) : dg D i ≤ n * C := by
  obtain ⟨k', _, h2, h3⟩ := walkIn_short hE h0 hC n (upTo (n : Int)) (by simp [upTo]) _ _ (hw.within hE (by omega) (by omega))
  exact Int.le_trans (h.low i hi _ h3) h2
theorem DistOk.fin (hE : EOk E c n) (h0 : 0 ≤ C) (hC : ∀ x ∈ c, x ≤ C) (hB : n * C < inf) (h : DistOk E c G n D) {i : Nat} (hi : i < n) : dg D i < inf ↔ ∃ k, Walk E c G i k :=
  ⟨fun hl => ⟨_, h.att i hi hl⟩, fun ⟨_, hw⟩ => by have := h.short hE h0 hC hi hw; omega⟩
theorem DistOk.bound (hE : EOk E c n) (h0 : 0 ≤ C) (hC : ∀ x ∈ c, x ≤ C) (h : DistOk E c G n D) {i : Nat} (hi : i < n) (hl : dg D i < inf) : dg D i ≤ n * C := h.short hE h0 hC hi (h.att i hi hl)

/-! ### Other costs -/
theorem Walk.other (h : ∀ e ∈ E, cst c' e ≤ cst c e) {x k : Int} (hw : Walk E c G x k) : ∃ k', k' ≤ k ∧ Walk E c' G x k' := by
  induction hw with
  | goal hg => exact ⟨0, Int.le_refl _, .goal hg⟩
  | @step e k he _ ih =>
    obtain ⟨k', h1, h2⟩ := ih
    exact ⟨_, by have := h e he; omega, .step he h2⟩
theorem DistOk.other (hd : DistOk E c G n D) (hd' : DistOk E c' G n D') (h : ∀ e ∈ E, cst c' e ≤ cst c e) {i : Nat} (hi : i < n) : dg D' i ≤ dg D i := by
  by_cases hl : dg D i < inf
  · obtain ⟨k', h1, h2⟩ := (hd.att i hi hl).other h
    have := hd'.low i hi _ h2; omega
  · have := (hd'.rng i hi).2; omega
/-! ### Saturated costs -/
/-- One edge. -/
def satStep (D l : List Int) (e : Edg) : List Int := if dg D e.src < inf ∧ dg D e.dst < inf then l.set e.lab.toNat (if dg D e.src - dg D e.dst > cst l e then dg D e.src - dg D e.dst else cst l e) else l
def satK (E : List Edg) (D : List Int) (m k : Nat) : List Int := (E.take k).foldl (satStep D) (List.replicate m 0)
def satL (E : List Edg) (D : List Int) (m : Nat) : List Int := satK E D m E.length
theorem satK_succ {m k : Nat} (hk : k < E.length) : satK E D m (k + 1) = satStep D (satK E D m k) (E.getD k tEdg.dflt) := by
  rw [satK, take_snoc tEdg.dflt hk, List.foldl_append]; rfl
structure SatOk (E : List Edg) (D : List Int) (m : Nat) (l : List Int) : Prop where
  len : l.length = m
  nn : ∀ i : Nat, i < m → 0 ≤ l.getD i tInt.dflt
  low : ∀ e ∈ E, dg D e.src < inf → dg D e.dst < inf → dg D e.src - dg D e.dst ≤ cst l e
  att : ∀ i : Nat, i < m → l.getD i tInt.dflt = 0 ∨ ∃ e ∈ E, e.lab = i ∧ dg D e.src < inf ∧ dg D e.dst < inf ∧ l.getD i tInt.dflt = dg D e.src - dg D e.dst
theorem satK_ok {m : Nat} (hlab : ∀ e ∈ E, 0 ≤ e.lab ∧ e.lab < m) : ∀ k, k ≤ E.length → SatOk (E.take k) D m (satK E D m k)
  | 0, _ => ⟨by simp [satK], fun i hi => by simp [satK, List.getD, hi], fun e he => by simp at he, fun i hi => .inl (by simp [satK, List.getD, hi])⟩
  | k + 1, h => by
    have hk : k < E.length := by omega
    obtain ⟨h1, h2, h3, h4⟩ := satK_ok hlab k (by omega)
    have he := mem_getD tEdg.dflt hk
    have hl := hlab _ he
    rw [satK_succ hk, take_snoc tEdg.dflt hk]
    generalize satK E D m k = l at h1 h2 h3 h4
    generalize E.getD k tEdg.dflt = e at he hl
    have hg : ∀ (i : Int) (v : Int), 0 ≤ i → (l.set e.lab.toNat v).getD i.toNat tInt.dflt = if i = e.lab then v else l.getD i.toNat tInt.dflt := fun i v hi => dg_set hi hl.1 (by omega)
    unfold satStep
    split
    · rename_i hf
      have hmono : ∀ i : Int, 0 ≤ i → l.getD i.toNat tInt.dflt ≤ (l.set e.lab.toNat (if dg D e.src - dg D e.dst > cst l e then dg D e.src - dg D e.dst else cst l e)).getD i.toNat tInt.dflt := by
        intro i hi
        rw [hg i _ hi]
        split
        · rename_i ei; subst ei; show cst l e ≤ _; split <;> omega
        · exact Int.le_refl _
      refine ⟨by rw [List.length_set]; exact h1, fun i hi => ?_, fun e' he' a b => ?_, fun i hi => ?_⟩
      · have := hmono i (by omega); rw [Int.toNat_natCast] at this; have := h2 i hi; omega
      · rcases List.mem_append.1 he' with he' | he'
        · have hl' := hlab e' (List.mem_of_mem_take he')
          exact Int.le_trans (h3 e' he' a b) (hmono e'.lab hl'.1)
        · rw [List.mem_singleton.1 he']
          show _ ≤ (l.set e.lab.toNat _).getD e.lab.toNat tInt.dflt
          rw [hg _ _ hl.1, if_pos rfl]; split <;> omega
      · have hgi := hg i (if dg D e.src - dg D e.dst > cst l e then dg D e.src - dg D e.dst else cst l e) (by omega)
        rw [Int.toNat_natCast] at hgi
        rw [hgi]
        split
        · rename_i ei
          split
          · exact .inr ⟨e, by simp, ei.symm, hf.1, hf.2, rfl⟩
          · have e1 : cst l e = l.getD i tInt.dflt := by show l.getD e.lab.toNat tInt.dflt = _; rw [← ei]; rfl
            rw [e1]
            rcases h4 i hi with h | ⟨e', a, b⟩
            · exact .inl h
            · exact .inr ⟨e', List.mem_append_left _ a, b⟩
        · rcases h4 i hi with h | ⟨e', a, b⟩
          · exact .inl h
          · exact .inr ⟨e', List.mem_append_left _ a, b⟩
    · rename_i hf
      refine ⟨h1, h2, fun e' he' a b => ?_, fun i hi => ?_⟩
      · rcases List.mem_append.1 he' with he' | he'
        · exact h3 e' he' a b
        · rw [List.mem_singleton.1 he'] at a b; exact absurd ⟨a, b⟩ hf
      · rcases h4 i hi with h | ⟨e', a, b⟩
        · exact .inl h
        · exact .inr ⟨e', List.mem_append_left _ a, b⟩
theorem satL_ok {m : Nat} (hlab : ∀ e ∈ E, 0 ≤ e.lab ∧ e.lab < m) : SatOk E D m (satL E D m) := by
  have := satK_ok (D := D) hlab E.length (Nat.le_refl _)
  rwa [List.take_length] at this
/-- Where a step changes nothing bad: the parts of an update in bounds. -/
theorem SatOk.le {l : List Int} (hE : EOk E c n) (hd : DistOk E c G n D) (hs : SatOk E D c.length l) {i : Nat} (hi : i < c.length) : 0 ≤ l.getD i tInt.dflt ∧ l.getD i tInt.dflt ≤ c.getD i tInt.dflt := by
  refine ⟨hs.nn i hi, ?_⟩
  rcases hs.att i hi with h | ⟨e, he, hl, h1, h2, h3⟩
  · rw [h]; exact (hE.cost _ (mem_getD _ hi)).1
  · rw [h3]
    have := hd.stab hE he h2
    have e1 : cst c e = c.getD i tInt.dflt := by show c.getD e.lab.toNat tInt.dflt = _; rw [hl]; rfl
    omega
theorem SatOk.eok {l : List Int} (hE : EOk E c n) (hd : DistOk E c G n D) (hs : SatOk E D c.length l) : EOk E l n := by
  refine ⟨hE.src, hE.dst, fun e he => by have := hE.lab e he; rw [hs.len]; exact this, fun x hx => ?_⟩
  obtain ⟨i, hi, rfl⟩ := List.getElem_of_mem hx
  rw [hs.len] at hi
  have h1 := hs.le hE hd hi
  have h2 := (hE.cost _ (mem_getD tInt.dflt hi)).2
  rw [← getD_at (d := tInt.dflt) (by rw [hs.len]; exact hi)]
  omega
theorem SatOk.keep {l : List Int} (hE : EOk E c n) (h0 : 0 ≤ C) (hC : ∀ x ∈ c, x ≤ C) (hB : n * C < inf) (hd : DistOk E c G n D) (hs : SatOk E D c.length l) (hd' : DistOk E l G n D') {i : Nat} (hi : i < n) :
    (dg D i < inf ↔ dg D' i < inf) ∧ (dg D i < inf → dg D' i = dg D i) := by
  have hle : ∀ e ∈ E, cst l e ≤ cst c e := fun e he => by
    have := hE.lab e he
    exact (hs.le hE hd (i := e.lab.toNat) (by omega)).2
  have h1 := hd.other hd' hle hi
  have key : ∀ {x k : Int}, Walk E l G x k → 0 ≤ x → x < n → dg D x < inf ∧ dg D x ≤ k := by
    intro x k hw
    induction hw with
    | @goal a hg =>
      intro a0 a1
      have := hd.goal (i := a.toNat) (by omega) (by rw [Int.toNat_of_nonneg a0]; exact hg)
      rw [Int.toNat_of_nonneg a0] at this
      rw [this]; exact ⟨by decide, Int.le_refl _⟩
    | @step e k he _ ih =>
      intro a0 a1
      have hdst := hE.dst e he
      obtain ⟨b1, b2⟩ := ih hdst.1 hdst.2
      have hsf : dg D e.src < inf := by
        have hw2 := hd.att e.dst.toNat (by omega) (by rw [Int.toNat_of_nonneg hdst.1]; exact b1)
        rw [Int.toNat_of_nonneg hdst.1] at hw2
        have := (hd.fin hE h0 hC hB (i := e.src.toNat) (by omega)).2 ⟨_, by rw [Int.toNat_of_nonneg a0]; exact .step he hw2⟩
        rwa [Int.toNat_of_nonneg a0] at this
      exact ⟨hsf, by have := hs.low e he hsf b1; omega⟩
  refine ⟨⟨fun h => by omega, fun h => (key (hd'.att i hi h) (by omega) (by omega)).1⟩, fun h => ?_⟩
  have := (key (hd'.att i hi (by omega)) (by omega) (by omega)).2
  omega
end

/-! ### Wider patterns -/
/-- A proper state's goal has the value 0. -/
theorem dist_goal {t : TTask} {L c D : List Int} (hL : InV t.vars L) (h : DistOk (pEdges t L) c (GoalPK t L) (cntL t.vars L).toNat D) {s : List Int} (hs : StateOk t.vars s) (hh : HoldFs s t.goal) : dg D (idxL t.vars L s) = 0 := by
  have hb := idxL_bound hs hL.mem
  have := h.goal (i := (idxL t.vars L s).toNat) (by omega) (by rw [Int.toNat_of_nonneg hb.1]; exact goal_proj hL hs hh)
  rwa [Int.toNat_of_nonneg hb.1] at this
theorem dist_at {t : TTask} {L c D : List Int} (hL : InV t.vars L) (h : DistOk (pEdges t L) c (GoalPK t L) (cntL t.vars L).toNat D) {s : List Int} (hs : StateOk t.vars s) : 0 ≤ dg D (idxL t.vars L s) ∧ dg D (idxL t.vars L s) ≤ inf := by
  have hb := idxL_bound hs hL.mem
  have := h.rng (idxL t.vars L s).toNat (by omega)
  rwa [Int.toNat_of_nonneg hb.1] at this
end Go.Proofs.YtemnlcnjpjdoaaaGreatDoor
