
/-
  A* with a consistent estimate, in plain Lean: no state is expanded twice, each with its least cost; which states are expanded.
-/
import Derived.Test.YtkmbenhffledpaaGreatTAstR
set_option linter.unusedSimpArgs false
set_option linter.unusedVariables false
namespace Go.Proofs.YtkmbenhffledpaaGreat
open Go.Sl
section
variable {A : APar}
/-- A consistent estimate. -/
def Cons (t : TTask) (H : List Int → Int) : Prop := ∀ s op, StateOk t.vars s → op < t.ops.length → AppT t s op → H s ≤ opC t op + H (succT t s op)
/-- Along a path: a state that waits, or the last state, or all is dead. -/
theorem front2 {t : TTask} {H : List Int → Int} {S : AS} (hg : GoodT t) (hC : Cons t H) (h : AInv t H none S fun _ => False) {p s : List Int} {c : Int} (hp : Pth t p s c) :
    (∃ j, j < S.st.length ∧ S.wi j = true ∧ S.gi j + H (S.si j) ≤ c + H s) ∨ (∃ j, j < S.st.length ∧ S.si j = s ∧ S.gi j ≤ c) ∨ inf ≤ c + H s := by
  induction hp with
  | nil =>
    obtain ⟨i, hi, h1, h2⟩ := h.init
    exact .inr (.inl ⟨i, hi, h1, h2⟩)
  | @snoc p s c op hp ho ha ih =>
    have hso := hp.ok hg
    have hc := hC s op hso ho ha
    have hnn := hp.nn hg
    rcases ih with ⟨j, h1, h2, h3⟩ | ⟨j, h1, h2, h3⟩ | h1
    · exact .inl ⟨j, h1, h2, by omega⟩
    · cases hw : S.wi j
      · rcases h.done j h1 hw id with hcut | ⟨_, hd⟩
        · rcases hcut with hcut | ⟨b, hb, _⟩
          · rw [h2] at hcut; exact .inr (.inr (by omega))
          · cases hb
        · rw [h2] at hd
          obtain ⟨k, k1, k2, k3⟩ := hd op ho ha
          exact .inr (.inl ⟨k, k1, k2, by omega⟩)
      · exact .inl ⟨j, h1, hw, by rw [h2]; omega⟩
    · exact .inr (.inr (by omega))
/-- What holds of the states that were expanded. -/
structure EInv (A : APar) (S : SA) : Prop where
  nd : S.ex.Nodup
  lt : ∀ k ∈ S.ex, k < S.st.length
  w : ∀ k ∈ S.ex, S.wi k = false
  opt : ∀ k ∈ S.ex, ∀ p c, Pth A.t p (S.si k) c → S.gi k ≤ c
  fin : ∀ k ∈ S.ex, A.H (S.si k) < inf
  low : ∀ k ∈ S.ex, ∀ p c, Pln A.t A.t.init p c → S.gi k + A.H (S.si k) ≤ c
  d : ∀ k, k < S.st.length → S.wi k = false → k ∈ S.ex ∨ inf ≤ A.H (S.si k)
/-- What a step leaves alone. -/
structure Keeps (S S' : SA) : Prop where
  st : ∀ k ∈ S.ex, k < S.st.length → S'.si k = S.si k ∧ S'.gi k = S.gi k ∧ S'.li k = S.li k
  ex : S'.ex = S.ex
  n : S.st.length ≤ S'.st.length
theorem RchTo.einv {S S' : SA} {i : Nat} {s : List Int} {g : Int} {l : Lnk} (r : RchTo A S S' i s g l) (hB : A.B = none) (he : EInv A S) (hi : i ∉ S.ex) : EInv A S' ∧ Keeps S S' := by
  have hne : ∀ k ∈ S.ex, k ≠ i := fun k hk e => hi (e ▸ hk)
  refine ⟨⟨by rw [r.ex]; exact he.nd, fun k hk => ?_, fun k hk => ?_, fun k hk => ?_, fun k hk => ?_, fun k hk => ?_, fun k hk hw => ?_⟩, fun k hk hl => ⟨r.s1 k hl, r.g1 k hl (hne k hk), r.l1 k hl (hne k hk)⟩, r.ex, r.n1⟩
  · rw [r.ex] at hk; exact Nat.lt_of_lt_of_le (he.lt k hk) r.n1
  · rw [r.ex] at hk; rw [r.w1 k (he.lt k hk) (hne k hk)]; exact he.w k hk
  · rw [r.ex] at hk; rw [r.s1 k (he.lt k hk), r.g1 k (he.lt k hk) (hne k hk)]; exact he.opt k hk
  · rw [r.ex] at hk; rw [r.s1 k (he.lt k hk)]; exact he.fin k hk
  · rw [r.ex] at hk; rw [r.s1 k (he.lt k hk), r.g1 k (he.lt k hk) (hne k hk)]; exact he.low k hk
  · by_cases e : k = i
    · subst e
      rw [r.w2] at hw
      have hc : cutA A s g = true := by simpa using hw
      unfold cutA at hc
      rw [hB] at hc
      right
      rw [r.s2]
      have h2 : decide (A.H s = inf) = true := by simpa using hc
      have := of_decide_eq_true h2
      omega
    · have hS := r.oth k hk e
      rw [r.w1 k hS e] at hw
      rw [r.ex, r.s1 k hS]
      exact he.d k hS hw
theorem Keeps.refl (S : SA) : Keeps S S := ⟨fun _ _ _ => ⟨rfl, rfl, rfl⟩, rfl, Nat.le_refl _⟩
theorem Keeps.trans {S T U : SA} (h : Keeps S T) (k : Keeps T U) : Keeps S U :=
  ⟨fun i hi hl => by
    obtain ⟨a1, a2, a3⟩ := h.st i hi hl
    obtain ⟨b1, b2, b3⟩ := k.st i (by rw [h.ex]; exact hi) (Nat.lt_of_lt_of_le hl h.n)
    exact ⟨b1.trans a1, b2.trans a2, b3.trans a3⟩, k.ex.trans h.ex, Nat.le_trans h.n k.n⟩
/-- The forms of a step. -/
theorem step_to {S : SA} {exi : Nat → Prop} {c i op : Nat} (h : SInv A S exi c) : stepA A i (S.si i) S op = S ∨ ∃ k, RchTo A S (stepA A i (S.si i) S op) k (succT A.t (S.si i) op) (S.gi i + opC A.t op) ⟨i, op, opC A.t op⟩ ∧ (k < S.st.length → S.si k = succT A.t (S.si i) op) := by
  unfold stepA SA.reach
  split
  · rename_i hm
    obtain ⟨hk, hke⟩ := idx_at hm
    split
    · exact .inl rfl
    · rename_i hlt
      have r := low_to (A := A) (l := ⟨i, op, opC A.t op⟩) hk (Int.not_le.1 hlt) h.ai.lg h.ai.lw h.ll h.lt
      have hke2 : S.si (S.st.idxOf (succT A.t (S.si i) op)) = succT A.t (S.si i) op := hke
      rw [hke2] at r
      exact .inr ⟨_, r, fun _ => hke2⟩
  · have r := new_to (A := A) (s := succT A.t (S.si i) op) (g := S.gi i + opC A.t op) (l := ⟨i, op, opC A.t op⟩) h.ai.lg h.ai.lw h.ll h.lt
    exact .inr ⟨_, r, fun hh => absurd hh (Nat.lt_irrefl _)⟩
theorem EInv.step {S : SA} {exi : Nat → Prop} {c i op : Nat} (hB : A.B = none) (h : SInv A S exi c) (he : EInv A S) (hi : i < S.st.length) (ho : op < A.t.ops.length) (ha : AppT A.t (S.si i) op) :
    EInv A (stepA A i (S.si i) S op) ∧ Keeps S (stepA A i (S.si i) S op) := by
  rcases step_to (i := i) (op := op) h with e | ⟨k, r, hks⟩
  · rw [e]; exact ⟨he, .refl S⟩
  · refine r.einv hB he fun hk => ?_
    have hkl := he.lt k hk
    have h3 := r.g3 hkl
    obtain ⟨p, c0, h1, h2⟩ := h.ai.path i hi
    have h4 := he.opt k hk _ _ (by rw [hks hkl]; exact h1.snoc ho ha)
    have h5 : c0 ≤ S.gi i := h2
    omega
/-- A state is taken: its cost is least. -/
theorem Taken.opt {S : SA} {c : Nat} {M : Int} (hg : GoodT A.t) (hC : Cons A.t A.H) (hB : A.B = none) (hM : ∀ y, A.H y < inf → A.H y ≤ M) (h : SInv A S (fun _ => False) c) (hb : (S.ex.length : Int) * 1048576 + M < inf) {x : Ent} {q : List Ent} (T : Taken A S x q) {p : List Int} {k : Int} (hp : Pth A.t p (S.si x.id.toNat) k) : S.gi x.id.toNat ≤ k := by
  have hai := h.ai
  rw [hB] at hai
  have hfin : A.H (S.si x.id.toNat) < inf := by rw [← T.ok.h]; exact T.ok.hi
  have hm := hM _ hfin
  have hgb := h.gb _ T.i1
  rcases front2 hg hC hai hp with ⟨j, h1, h2, h3⟩ | ⟨j, h1, h2, h3⟩ | h1
  · have h4 := T.min j h1 h2
    have h5 : S.gi j + A.H (S.si j) ≤ k + A.H (S.si x.id.toNat) := h3
    omega
  · have e := nodup_at h.ai.nd h1 T.i1 h2
    subst e; exact h3
  · refine Classical.byContradiction fun hn => ?_
    omega
/-- What is expanded in the end: states with their least costs; all states that lie below the least cost of a plan, and none above it. -/
structure ExOk (A : APar) (b : Int) (S : SA) : Prop where
  e : EInv A S
  up : ∀ k ∈ S.ex, b < inf → S.gi k + A.H (S.si k) ≤ b
  lo : ∀ p s c, Pth A.t p s c → A.H s < inf → c + A.H s < b → ∃ k ∈ S.ex, S.si k = s
  gb : ∀ k ∈ S.ex, S.gi k ≤ (S.ex.length : Int) * 1048576
  ok : ∀ k ∈ S.ex, StateOk A.t.vars (S.si k) ∧ ∃ p, Pth A.t p (S.si k) (S.gi k)
  nd : S.st.Nodup
theorem ExOk.of {S : SA} {c : Nat} {b : Int} (h : SInv A S (fun _ => False) c) (he : EInv A S) (hb : Least A.t A.t.init b) (hlo : ∀ p s c, Pth A.t p s c → A.H s < inf → c + A.H s < b → ∃ k ∈ S.ex, S.si k = s) : ExOk A b S :=
  ⟨he, fun k hk hlt => by obtain ⟨p, hp⟩ := hb.att hlt; exact he.low k hk p b hp, hlo, fun k hk => h.gb k (he.lt k hk), fun k hk => ⟨h.ai.ok k (he.lt k hk), by
    obtain ⟨p, c, h1, h2⟩ := h.ai.path k (he.lt k hk)
    have h3 := he.opt k hk p c h1
    have h4 : c ≤ S.gi k := h2
    have e : c = S.gi k := by omega
    exact ⟨p, e ▸ h1⟩⟩, h.ai.nd⟩
end
end Go.Proofs.YtkmbenhffledpaaGreat
