
/-
  Sums that stop at infinity, and scaled costs, for saturated partitions.
-/
import Derived.Test.YtemnlcnjpjdoaaaGreatDoorTSatLaw
set_option linter.unusedSimpArgs false
set_option linter.unusedVariables false
namespace Go.Proofs.YtemnlcnjpjdoaaaGreatDoor
open Go.Sl Go

/-- The sum that stays at infinity. -/
def capS (f : Nat → Int) : Nat → Int
  | 0 => 0
  | k + 1 => min inf (capS f k + f k)
theorem capS_rng {f : Nat → Int} : ∀ {n : Nat}, (∀ k, k < n → 0 ≤ f k) → 0 ≤ capS f n ∧ capS f n ≤ inf
  | 0, _ => ⟨Int.le_refl _, (by decide : (0 : Int) ≤ inf)⟩
  | n + 1, h => by
    have h1 := capS_rng (n := n) fun k hk => h k (by omega)
    have h2 := h n (by omega)
    simp only [capS]
    omega
theorem capS_fin {f : Nat → Int} : ∀ {n : Nat}, n ≤ 32 → (∀ k, k < n → 0 ≤ f k ∧ f k ≤ 67108864) → capS f n = sumV f n
  | 0, _, _ => rfl
  | n + 1, hn, h => by
    have h1 := capS_fin (n := n) (by omega) fun k hk => h k (by omega)
    have h2 := h n (by omega)
    have h3 := sumV_bd (n := n) (f := f) (B := 67108864) fun k hk => h k (by omega)
    simp only [capS]
    rw [h1, sumV_succ]
    have e : inf = 1125899906842624 := rfl
    omega
theorem capS_inf {f : Nat → Int} {j : Nat} : ∀ {n : Nat}, j < n → (∀ k, k < n → 0 ≤ f k) → f j = inf → capS f n = inf
  | 0, hj, _, _ => absurd hj (Nat.not_lt_zero _)
  | n + 1, hj, h, he => by
    have hr := capS_rng (n := n) fun k hk => h k (by omega)
    have h2 := h n (by omega)
    simp only [capS]
    by_cases e : j = n
    · subst e; omega
    · have := capS_inf (n := n) (by omega) (fun k hk => h k (by omega)) he
      omega
theorem SatC.cap {t : TTask} {Ls Ds Ps : List (List Int)} (h : SatC t Ls Ds Ps) {s : List Int} (hs : StateOk t.vars s) : capS (valK t Ls Ds s) Ls.length = valPt t Ls Ds s := by
  have hf := h.fin hs
  by_cases hl : valPt t Ls Ds s < inf
  · rw [hf.2.1 hl]
    exact capS_fin h.len fun k hk => ⟨(h.rng hs hk).1, h.bound hs hk (hf.1.1 hl k hk)⟩
  · have : ¬ ∀ k, k < Ls.length → valK t Ls Ds s k < inf := fun hh => hl (hf.1.2 hh)
    obtain ⟨k, hk⟩ := Classical.not_forall.1 this
    obtain ⟨hk, hn⟩ := Classical.not_imp.1 hk
    have := (h.rng hs hk).2
    rw [capS_inf hk (fun k hk => (h.rng hs hk).1) (by omega)]
    have := hf.2.2.2
    omega

/-! ### Scaled costs -/
section
variable {f : Int} {t : TTask} {Ls Ds Ps Ds' Ps' : List (List Int)}
theorem sumV_congr {g g' : Nat → Int} {n : Nat} (h : ∀ k, k < n → g k = g' k) : sumV g n = sumV g' n := by
  induction n with
  | zero => rfl
  | succ n ih => rw [sumV_succ, sumV_succ, ih fun k hk => h k (by omega), h n (by omega)]
end
/-! ### What a part alone gives -/
end Go.Proofs.YtemnlcnjpjdoaaaGreatDoor
