
/-
  IDA* with a table of values, in plain Lean: plans and least costs, admissible tables, the bounds of the rounds.
-/
import Derived.Test.YtoddgmmkpiojlaaMTA
import Derived.Test.YtoddgmmkpiojlaaTPdb
set_option linter.unusedSimpArgs false
set_option linter.unusedVariables false
namespace Go.Proofs.Ytoddgmmkpiojlaa
open Go.Sl
section
variable {t : TTask}
open Classical in
/-- The values of a table (of improper states nothing is asked). -/
noncomputable def tabH (t : TTask) (T : List Int) (y : List Int) : Int := if StateOk t.vars y then T.getD (rankL t.vars y).toNat tInt.dflt else 0
theorem tabH_ok {T y : List Int} (h : StateOk t.vars y) : tabH t T y = T.getD (rankL t.vars y).toNat tInt.dflt := if_pos h
theorem tabH_no {T y : List Int} (h : ¬ StateOk t.vars y) : tabH t T y = 0 := if_neg h
theorem tab_ok (hg : GoodT t) {T : List Int} (hl : T.length = (statesL t.vars).length) (hT : ∀ x ∈ T, 0 ≤ x ∧ x ≤ inf) : HOk t (tabH t T) := by
  have key : ∀ y, 0 ≤ tabH t T y ∧ tabH t T y ≤ inf := fun y => by
    by_cases h : StateOk t.vars y
    · rw [tabH_ok h]
      have hr := statesL_of hg.pos h
      exact hT _ (mem_getD tInt.dflt (by omega))
    · rw [tabH_no h]; exact ⟨Int.le_refl _, by decide⟩
  exact ⟨hg, fun y => (key y).1, fun y => (key y).2⟩
variable {H : List Int → Int} {lim : Nat}
/-- The bounds are small where the finite values are. -/
theorem run_rng (h : HOk t H) (hlim : lim ≤ 1048576) {M : Int} (hM0 : 0 ≤ M) (hM : ∀ y, H y < inf → H y ≤ M) : ∀ (f : Nat) (next : Int) (e : Nat) (bs : List Int), e ≤ lim → 0 ≤ next → (next < big62 → next ≤ M + (lim : Int) * 1048576) → (∀ x ∈ bs, x ≤ M + (lim : Int) * 1048576) → ∀ x ∈ (runF t H lim f next e bs).2.2, x ≤ M + (lim : Int) * 1048576 := by
  intro f
  induction f with
  | zero => intro next e bs _ _ _ hb; exact hb
  | succ f ih =>
    intro next e bs he h0 hn hb
    by_cases hlt : next < big62
    · have hb' : ∀ x ∈ bs ++ [next], x ≤ M + (lim : Int) * 1048576 := fun x hx => by
        rcases List.mem_append.1 hx with hx | hx
        · exact hb x hx
        · rw [List.mem_singleton.1 hx]; exact hn hlt
      cases hv : visF ⟨t, H, lim, next⟩ (lim + 1) t.init 0 (start0 e) with
      | mk r S =>
        have hR := round_ok h h0 hlt hlim he hv
        by_cases hr : r = .goOn
        · subst hr
          rw [runF_more hlt hv]
          have ha := hR.asc rfl
          refine ih _ _ _ hR.lm (by omega) (fun h2 => ?_) hb'
          rcases hR.nxt rfl with h3 | ⟨y, c, h3, h4, h5, h6⟩
          · omega
          · have := hM y h4
            omega
        · rw [runF_fin hlt hv hr]
          exact hb'
    · rw [runF_end hlt]; exact hb
theorem runR_rng (h : HOk t H) (hlim : lim ≤ 1048576) {M : Int} (hM0 : 0 ≤ M) (hM : ∀ y, H y < inf → H y ≤ M) : ∀ x ∈ (runR t H lim).2.2, x ≤ M + (lim : Int) * 1048576 := by
  have h0 := h.nn t.init
  have e3 : big62 = 4611686018427387904 := rfl
  refine run_rng h hlim hM0 hM _ _ _ _ (Nat.zero_le _) ?_ (fun hh => ?_) fun x hx => by simp at hx
  · unfold first0; split
    · exact h0
    · decide
  · unfold first0 at *
    split at hh
    · rename_i hi
      rw [if_pos hi]
      have := hM _ hi
      omega
    · omega
end
end Go.Proofs.Ytoddgmmkpiojlaa
