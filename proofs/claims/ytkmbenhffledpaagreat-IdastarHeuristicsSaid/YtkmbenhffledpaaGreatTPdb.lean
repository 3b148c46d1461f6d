
/-
  Plain facts about tables of least costs: least walks are short, other costs, saturated costs, wider patterns.
-/
import Derived.Test.YtkmbenhffledpaaGreatTProjD
import Derived.Test.YtkmbenhffledpaaGreatTNarrow
import Derived.Test.YtkmbenhffledpaaGreatMTA
set_option linter.unusedSimpArgs false
set_option linter.unusedVariables false
namespace Go.Proofs.YtkmbenhffledpaaGreat
open Go.Sl Go

/-! ### A least walk is short -/
section
variable {E : List Edg} {c c' : List Int} {G : Int → Prop} {n : Nat} {D D' : List Int} {C : Int}
inductive WalkIn (E : List Edg) (c : List Int) (G : Int → Prop) (S : List Int) : Int → Int → Prop
  | goal {a : Int} : a ∈ S → G a → WalkIn E c G S a 0
  | step {e : Edg} {k : Int} : e ∈ E → e.src ∈ S → WalkIn E c G S e.dst k → WalkIn E c G S e.src (cst c e + k)
def outA (a : Int) (S : List Int) : List Int := S.filter fun x => decide (x ≠ a)
theorem outA_mem {a x : Int} {S : List Int} : x ∈ outA a S ↔ x ∈ S ∧ x ≠ a := by simp [outA]
theorem outA_len {a : Int} {S : List Int} (h : a ∈ S) : (outA a S).length < S.length := by
  unfold outA
  rw [List.length_filter_lt_length_iff_exists]
  exact ⟨a, h, by simp⟩
theorem walkIn_split (hE : EOk E c n) {S : List Int} (a : Int) {x k : Int} (h : WalkIn E c G S x k) :
    WalkIn E c G (outA a S) x k ∨ G a ∨ ∃ e k', e ∈ E ∧ e.src = a ∧ WalkIn E c G (outA a S) e.dst k' ∧ cst c e + k' ≤ k := by
  induction h with
  | @goal b hb hg =>
    by_cases e : b = a
    · subst e; exact .inr (.inl hg)
    · exact .inl (.goal (outA_mem.2 ⟨hb, e⟩) hg)
  | @step e k he hs _ ih =>
    have hc := (hE.cst he).1
    rcases ih with ih | ih | ⟨e', k', h1, h2, h3, h4⟩
    · by_cases ea : e.src = a
      · exact .inr (.inr ⟨e, k, he, ea, ih, Int.le_refl _⟩)
      · exact .inl (.step he (outA_mem.2 ⟨hs, ea⟩) ih)
    · exact .inr (.inl ih)
    · exact .inr (.inr ⟨e', k', h1, h2, h3, by omega⟩)
theorem WalkIn.walk {S : List Int} {x k : Int} (h : WalkIn E c G S x k) : x ∈ S ∧ Walk E c G x k := by
  induction h with
  | goal h hg => exact ⟨h, .goal hg⟩
  | step he hs _ ih => exact ⟨hs, .step he ih.2⟩
theorem Walk.within (hE : EOk E c n) {x k : Int} (h : Walk E c G x k) : 0 ≤ x → x < n → WalkIn E c G (upTo (n : Int)) x k := by
  induction h with
  | goal hg => intro h0 h1; exact .goal (upTo_mem.2 ⟨h0, h1⟩) hg
  | step he _ ih => intro h0 h1; have := hE.dst _ he; exact .step he (upTo_mem.2 ⟨h0, h1⟩) (ih this.1 this.2)
theorem walkIn_short (hE : EOk E c n) (h0 : 0 ≤ C) (hC : ∀ x ∈ c, x ≤ C) : ∀ (m : Nat) (S : List Int), S.length ≤ m → ∀ x k, WalkIn E c G S x k → ∃ k', k' ≤ k ∧ k' ≤ m * C ∧ Walk E c G x k'
  | 0, S, hl, x, k, h => by
    have := h.walk.1
    have : S = [] := List.eq_nil_of_length_eq_zero (by omega)
    subst this; simp at *
  | m + 1, S, hl, x, k, h => by
    have hx := h.walk.1
    have hk := h.walk.2.nonneg hE
    have hm : 0 ≤ (m : Int) * C := Int.mul_nonneg (by omega) h0
    have e1 : ((m + 1 : Nat) : Int) * C = (m : Int) * C + C := by rw [Int.natCast_add, Int.add_mul]; simp
    rcases walkIn_split hE x h with h1 | h1 | ⟨e, k', he, hs, hw, hle⟩
    · exact absurd rfl (outA_mem.1 h1.walk.1).2
    · exact ⟨0, hk, by omega, .goal h1⟩
    · obtain ⟨k2, a1, a2, a3⟩ := walkIn_short hE h0 hC m (outA x S) (by have := outA_len hx; omega) _ _ hw
      have hc : cst c e ≤ C := hC _ (mem_getD tInt.dflt (by have := hE.lab e he; omega))
      exact ⟨cst c e + k2, by omega, by omega, hs ▸ .step he a3⟩
theorem DistOk.short (hE : EOk E c n) (h0 : 0 ≤ C) (hC : ∀ x ∈ c, x ≤ C) (h : DistOk E c G n D) {i : Nat} {k : Int} (hi : i < n) (hw : Walk E c G i k) : dg D i ≤ n * C := by
  obtain ⟨k', _, h2, h3⟩ := walkIn_short hE h0 hC n (upTo (n : Int)) (by simp [upTo]) _ _ (hw.within hE (by omega) (by omega))
  exact Int.le_trans (h.low i hi _ h3) h2
theorem DistOk.fin (hE : EOk E c n) (h0 : 0 ≤ C) (hC : ∀ x ∈ c, x ≤ C) (hB : n * C < inf) (h : DistOk E c G n D) {i : Nat} (hi : i < n) : dg D i < inf ↔ ∃ k, Walk E c G i k :=
  ⟨fun hl => ⟨_, h.att i hi hl⟩, fun ⟨_, hw⟩ => by have := h.short hE h0 hC hi hw; omega⟩
theorem DistOk.bound (hE : EOk E c n) (h0 : 0 ≤ C) (hC : ∀ x ∈ c, x ≤ C) (h : DistOk E c G n D) {i : Nat} (hi : i < n) (hl : dg D i < inf) : dg D i ≤ n * C := h.short hE h0 hC hi (h.att i hi hl)

/-! ### Other costs -/
/-! ### Saturated costs -/
structure SatOk (E : List Edg) (D : List Int) (m : Nat) (l : List Int) : Prop where
  len : l.length = m
  nn : ∀ i : Nat, i < m → 0 ≤ l.getD i tInt.dflt
  low : ∀ e ∈ E, dg D e.src < inf → dg D e.dst < inf → dg D e.src - dg D e.dst ≤ cst l e
  att : ∀ i : Nat, i < m → l.getD i tInt.dflt = 0 ∨ ∃ e ∈ E, e.lab = i ∧ dg D e.src < inf ∧ dg D e.dst < inf ∧ l.getD i tInt.dflt = dg D e.src - dg D e.dst
/-- Where a step changes nothing bad: the parts of an update in bounds. -/
theorem SatOk.le {l : List Int} (hE : EOk E c n) (hd : DistOk E c G n D) (hs : SatOk E D c.length l) {i : Nat} (hi : i < c.length) : 0 ≤ l.getD i tInt.dflt ∧ l.getD i tInt.dflt ≤ c.getD i tInt.dflt := by
  refine ⟨hs.nn i hi, ?_⟩
  rcases hs.att i hi with h | ⟨e, he, hl, h1, h2, h3⟩
  · rw [h]; exact (hE.cost _ (mem_getD _ hi)).1
  · rw [h3]
    have := hd.stab hE he h2
    have e1 : cst c e = c.getD i tInt.dflt := by show c.getD e.lab.toNat tInt.dflt = _; rw [hl]; rfl
    omega
end

/-! ### Wider patterns -/
end Go.Proofs.YtkmbenhffledpaaGreat
