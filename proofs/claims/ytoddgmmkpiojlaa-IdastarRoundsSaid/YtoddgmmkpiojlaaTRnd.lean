
/-
  The reference's rounds, in plain Lean: an empty table of visited states; the bounds of all rounds.
-/
import Derived.Test.YtoddgmmkpiojlaaMTA
import Derived.Test.YtoddgmmkpiojlaaTIda4
set_option linter.unusedSimpArgs false
set_option linter.unusedVariables false
namespace Go.Proofs.Ytoddgmmkpiojlaa
open Go.Sl
theorem fillL_end (n : Nat) (v : Int) : fillL n (fun _ => v) n = List.replicate n v := by
  apply List.ext_getElem (by simp [fillL])
  intro i h1 h2
  simp only [fillL, List.getElem_map, List.getElem_range, List.getElem_replicate]
  rw [if_pos (by simpa [fillL] using h1)]
theorem seenR_none {t : TTask} (hg : GoodT t) : SeenR t.vars (List.replicate (statesL t.vars).length inf) (fun _ => none) := ⟨fun y hy => by
  have h1 := (statesL_of hg.pos hy).1
  simp [List.getD, List.getElem?_replicate, h1]⟩
theorem minI_lt {x : Int} (h : x < inf) : minI x = x := by unfold minI; omega
theorem runF_sub {t : TTask} {H : List Int → Int} {lim : Nat} : ∀ (f : Nat) (next : Int) (e : Nat) (bs : List Int), ∀ x ∈ bs, x ∈ (runF t H lim f next e bs).2.2
  | 0, _, _, _ => fun x hx => hx
  | f + 1, next, e, bs => fun x hx => by
    by_cases hb : next < big62
    · cases hv : visF ⟨t, H, lim, next⟩ (lim + 1) t.init 0 (start0 e) with
      | mk r S =>
        by_cases hr : r = .goOn
        · subst hr
          rw [runF_more hb hv]
          exact runF_sub f _ _ _ x (List.mem_append_left _ hx)
        · rw [runF_fin hb hv hr]
          exact List.mem_append_left _ hx
    · rw [runF_end hb]; exact hx
theorem runF_next {t : TTask} {H : List Int → Int} {lim f : Nat} {next : Int} {e : Nat} {bs : List Int} (hb : next < big62) : next ∈ (runF t H lim (f + 1) next e bs).2.2 := by
  cases hv : visF ⟨t, H, lim, next⟩ (lim + 1) t.init 0 (start0 e) with
  | mk r S =>
    by_cases hr : r = .goOn
    · subst hr
      rw [runF_more hb hv]
      exact runF_sub f _ _ _ _ (List.mem_append_right _ (List.mem_singleton.2 rfl))
    · rw [runF_fin hb hv hr]
      exact List.mem_append_right _ (List.mem_singleton.2 rfl)
theorem first_min {t : TTask} {H : List Int → Int} (h : HOk t H) : minI (first0 t H) = H t.init := by
  have h1 := h.le t.init
  have e2 : inf = 1125899906842624 := rfl
  have e3 : big62 = 4611686018427387904 := rfl
  unfold first0 minI
  split <;> omega
/-- No bound lies above Infinity where the table's values are small. -/
theorem caps_rng {t : TTask} {xs : List Int} {n : Nat} {lim : Nat} (hg : GoodT t) (hn : n = (statesL t.vars).length) (h : ∀ x ∈ xs, 0 ≤ x ∧ x ≤ 65535) (hH : HOk t (tabH t (capTab xs n))) (hlim : lim ≤ 20000) : ∀ x ∈ (runR t (tabH t (capTab xs n)) lim).2.2, x < inf := fun x hx => by
  obtain ⟨q1, _, q3⟩ := capTab_ok h n
  have h1 := runR_rng (lim := lim) hH (by omega) (M := 1000) (by decide) (tabH_small hg (by rw [q1, hn]) (by decide) q3) x hx
  have e2 : inf = 1125899906842624 := rfl
  omega
end Go.Proofs.Ytoddgmmkpiojlaa
