
/-
  What A*'s run returns, in plain Lean: plans along links, their costs, when the limit is reached.
-/
import Derived.Test.YtkmbenhffledpaaGreatMTA
import Derived.Test.YtkmbenhffledpaaGreatMW9
set_option linter.unusedSimpArgs false
set_option linter.unusedVariables false
namespace Go.Proofs.YtkmbenhffledpaaGreat
open Go.Sl
theorem nodup_sub {α : Type} [DecidableEq α] : ∀ {l m : List α}, l.Nodup → (∀ x ∈ l, x ∈ m) → l.length ≤ m.length
  | [], _, _, _ => Nat.zero_le _
  | x :: l, m, hn, hs => by
    obtain ⟨h1, h2⟩ := List.nodup_cons.1 hn
    have hx := hs x List.mem_cons_self
    have h3 : ∀ y ∈ l, y ∈ m.erase x := fun y hy => (List.mem_erase_of_ne (fun e => h1 (by rw [← e]; exact hy))).2 (hs y (List.mem_cons_of_mem _ hy))
    have h4 := nodup_sub h2 h3
    have h5 := List.length_erase_of_mem hx
    have h6 := List.length_pos_of_mem hx
    rw [List.length_cons]; omega
theorem countP_lt {α : Type} {P Q : α → Bool} : ∀ {l : List α}, (∀ x ∈ l, P x = true → Q x = true) → (∃ x ∈ l, Q x = true ∧ P x = false) → l.countP P < l.countP Q
  | [], _, h => by obtain ⟨x, hx, _⟩ := h; exact absurd hx List.not_mem_nil
  | y :: l, h1, h2 => by
    have hm : l.countP P ≤ l.countP Q := List.countP_mono_left fun x hx => h1 x (List.mem_cons_of_mem _ hx)
    rw [List.countP_cons, List.countP_cons]
    obtain ⟨x, hx, h3, h4⟩ := h2
    rcases List.mem_cons.1 hx with rfl | hx
    · rw [h3, h4, if_pos rfl, if_neg (by decide)]; omega
    · have ih := countP_lt (fun x hx => h1 x (List.mem_cons_of_mem _ hx)) ⟨x, hx, h3, h4⟩
      have hy := h1 y List.mem_cons_self
      cases hp : P y
      · rw [if_neg (by decide)]; omega
      · rw [hy hp, if_pos rfl]; omega
theorem Pth.cost {t : TTask} {p s : List Int} {c : Int} (h : Pth t p s c) : c = coL t p := by
  induction h with
  | nil => rfl
  | snoc _ _ _ ih => rw [coL_snoc, Int.toNat_natCast, ih]
theorem Pth.nn {t : TTask} (hg : GoodT t) {p s : List Int} {c : Int} (h : Pth t p s c) : 0 ≤ c := by
  induction h with
  | nil => exact Int.le_refl _
  | snoc _ ho _ ih => have := opC_rng hg ho; omega
theorem Pth.ok {t : TTask} (hg : GoodT t) {p s : List Int} {c : Int} (h : Pth t p s c) : StateOk t.vars s := by
  induction h with
  | nil => exact hg.init
  | snoc _ ho _ ih => exact succT_ok hg ih ho
section
variable {A : APar}
/-! ### Plans along links -/
/-! ### The run -/
/-! ### What is returned -/
end
end Go.Proofs.YtkmbenhffledpaaGreat
