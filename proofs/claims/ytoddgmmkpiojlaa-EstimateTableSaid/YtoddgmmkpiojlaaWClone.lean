
/-
  Contracts of 'slices.Clone' over facts and effects.
-/
import Derived.Test.YtoddgmmkpiojlaaMW2
import Derived.Test.YtoddgmmkpiojlaaWTCheck3
set_option linter.unusedSimpArgs false
set_option linter.unusedVariables false
namespace Go.Proofs.Ytoddgmmkpiojlaa
open Go.Sl Go
attribute [local irreducible] vc opsW opsD opV opW PureV ReadV Thn Blk
set_option maxRecDepth 8000 in
theorem CloneF_spec {w0 : World} {a : Value} {xs : List Fact} (ha : RS tFact w0 a xs) (hn : xs.length ≤ 1099511627776) :
    Calls Try.prog 51 #[a] w0 fun e w' => ∃ s, e = .returned s ∧ Sat w0 w' [OS tFact 72 s xs] := by
  have hw := Sat.start w0
  obtain ⟨ad, cap, hs⟩ := ha.shape
  subst hs
  refine calls_of_vc (args := [.slice ad xs.length cap]) mixed Try.func51 rfl (by kernel_rfl) (Nat.le_of_ble_eq_true rfl) ?_
  repeat (first | refine go_run ?_ | (refine go_newP ?_; clear hw; intro p w hw) | (refine go_newW ?_; clear hw; intro w hw) | (refine go_newS ?_; clear hw; intro s w hw))
  refine step_pure rfl (pv_eqlNilS (a := ad) (n := xs.length) (c := cap) rfl) ?_
  cases ad with
  | none =>
    have h0 : xs = [] := by
      rcases Nat.eq_zero_or_pos xs.length with h | h
      · exact List.eq_nil_of_length_eq_zero h
      · obtain ⟨p, c2, he, _⟩ := ha.some (by decide) h
        cases he
    subst h0
    repeat (first | refine go_run ?_ | (refine go_newP ?_; clear hw; intro p w hw) | (refine go_newW ?_; clear hw; intro w hw) | (refine go_newS ?_; clear hw; intro s w hw))
    exact res_one (v := .slice none 0 0) rfl rfl ⟨_, rfl, hw.nil⟩
  | some p =>
    repeat (first | refine go_run ?_ | (refine go_newP ?_; clear hw; intro p w hw) | (refine go_newW ?_; clear hw; intro w hw) | (refine go_newS ?_; clear hw; intro s w hw))
    refine st_buildSlice0 tFact hw ?_
    clear hw
    intro s1 w hw
    repeat (first | refine go_run ?_ | (refine go_newP ?_; clear hw; intro p w hw) | (refine go_newW ?_; clear hw; intro w hw) | (refine go_newS ?_; clear hw; intro s w hw))
    rw [List.nil_append] at hw
    exact res_one (v := s) rfl rfl ⟨_, rfl, hw⟩
set_option maxRecDepth 8000 in
theorem CloneE_spec {w0 : World} {a : Value} {xs : List EffV} (ha : RS tEff w0 a xs) (hn : xs.length ≤ 1099511627776) (ho : ∀ x ∈ xs, ∀ v ∈ tEff.enc x, v.oneCell' = true) :
    Calls Try.prog 58 #[a] w0 fun e w' => ∃ s, e = .returned s ∧ Sat w0 w' [OS tEff 99 s xs] := by
  have hw := Sat.start w0
  obtain ⟨ad, cap, hs⟩ := ha.shape
  subst hs
  refine calls_of_vc (args := [.slice ad xs.length cap]) mixed Try.func58 rfl (by kernel_rfl) (Nat.le_of_ble_eq_true rfl) ?_
  repeat (first | refine go_run ?_ | (refine go_newP ?_; clear hw; intro p w hw) | (refine go_newW ?_; clear hw; intro w hw) | (refine go_newS ?_; clear hw; intro s w hw))
  refine step_pure rfl (pv_eqlNilS (a := ad) (n := xs.length) (c := cap) rfl) ?_
  cases ad with
  | none =>
    have h0 : xs = [] := by
      rcases Nat.eq_zero_or_pos xs.length with h | h
      · exact List.eq_nil_of_length_eq_zero h
      · obtain ⟨p, c2, he, _⟩ := ha.some (by decide) h
        cases he
    subst h0
    repeat (first | refine go_run ?_ | (refine go_newP ?_; clear hw; intro p w hw) | (refine go_newW ?_; clear hw; intro w hw) | (refine go_newS ?_; clear hw; intro s w hw))
    exact res_one (v := .slice none 0 0) rfl rfl ⟨_, rfl, hw.nil⟩
  | some p =>
    repeat (first | refine go_run ?_ | (refine go_newP ?_; clear hw; intro p w hw) | (refine go_newW ?_; clear hw; intro w hw) | (refine go_newS ?_; clear hw; intro s w hw))
    refine st_buildSlice0 tEff hw ?_
    clear hw
    intro s1 w hw
    repeat (first | refine go_run ?_ | (refine go_newP ?_; clear hw; intro p w hw) | (refine go_newW ?_; clear hw; intro w hw) | (refine go_newS ?_; clear hw; intro s w hw))
    refine go_append ?_ (hone := ho)
    clear hw
    intro s w hw
    repeat (first | refine go_run ?_ | (refine go_newP ?_; clear hw; intro p w hw) | (refine go_newW ?_; clear hw; intro w hw) | (refine go_newS ?_; clear hw; intro s w hw))
    rw [List.nil_append] at hw
    exact res_one (v := s) rfl rfl ⟨_, rfl, hw⟩
end Go.Proofs.Ytoddgmmkpiojlaa
