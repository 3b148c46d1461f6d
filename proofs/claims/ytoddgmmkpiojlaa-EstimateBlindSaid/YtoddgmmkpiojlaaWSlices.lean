
/-
  Contracts of 'slices.Index', 'Contains' and 'Clone' over ints.
-/
import Derived.Test.YtoddgmmkpiojlaaWSort
set_option linter.unusedSimpArgs false
set_option linter.unusedVariables false
namespace Go.Proofs.Ytoddgmmkpiojlaa
open Go.Sl Go
attribute [local irreducible] vc opsW opsD opV opW PureV ReadV Thn Blk

set_option maxRecDepth 8000 in
theorem Index_spec {w0 : World} {a : Value} {xs : List Int} {v : Int} (ha : RS tInt w0 a xs) :
    Calls Try.prog 84 #[a, .int .i64 v] w0 fun e w' => (∃ r : Int, e = .returned (.int .i64 r) ∧ (0 ≤ r ↔ v ∈ xs)) ∧ Sat w0 w' [] := by
  have hla := ha.big
  have hw := Sat.start w0
  refine calls_of_vc (args := [a, .int .i64 v]) mixed Try.func84 rfl (by kernel_rfl) (Nat.le_of_ble_eq_true rfl) ?_
  repeat (first | refine go_run ?_ | (refine go_newP ?_; clear hw; intro p w hw) | (refine go_newW ?_; clear hw; intro w hw) | (refine go_newS ?_; clear hw; intro s w hw))
  refine vc_loop [4, 5, 8, 9, 10, 11, 12, 13, 14, 15, 16, 17, 18] (G := Nat) (fun k => [(8, .int .i64 k)]) (fun k w => k ≤ xs.length ∧ (∀ i, i < k → xs.getD i tInt.dflt ≠ v) ∧ Sat w0 w []) (fun k => xs.length - k) 0 (fun _ => rfl) ⟨rfl, trivial⟩ ⟨Nat.zero_le _, fun i hi => absurd hi (Nat.not_lt_zero _), hw⟩ ?_
  clear hw
  rintro σ k w ⟨hk, hpre, hw⟩
  repeat (first | refine go_run ?_ | (refine go_newP ?_; clear hw; intro p w hw) | (refine go_newW ?_; clear hw; intro w hw) | (refine go_newS ?_; clear hw; intro s w hw))
  refine go_if (fun h1 => ?_) (fun h1 => ?_)
  · have hkl : k < xs.length := by omega
    repeat (first | refine go_run ?_ | (refine go_newP ?_; clear hw; intro p w hw) | (refine go_newW ?_; clear hw; intro w hw) | (refine go_newS ?_; clear hw; intro s w hw))
    refine go_if (fun h2 => ?_) (fun h2 => ?_)
    · repeat (first | refine go_run ?_ | (refine go_newP ?_; clear hw; intro p w hw) | (refine go_newW ?_; clear hw; intro w hw) | (refine go_newS ?_; clear hw; intro s w hw))
      refine res_one (v := .int .i64 k) rfl rfl ⟨⟨k, rfl, ⟨fun _ => ?_, fun _ => by omega⟩⟩, hw⟩
      rw [h2]; exact mem_getD _ hkl
    · repeat (first | refine go_run ?_ | (refine go_newP ?_; clear hw; intro p w hw) | (refine go_newW ?_; clear hw; intro w hw) | (refine go_newS ?_; clear hw; intro s w hw))
      refine ⟨k + 1, ⟨rfl, trivial⟩, by repeat (first | exact agree_refl | (apply agree_upd rfl) | (apply agree_mix rfl) | (apply agree_sets rfl)), ⟨by omega, fun i hi => ?_, hw⟩, by omega⟩
      by_cases h : i = k
      · subst h; exact fun h => h2 h.symm
      · exact hpre i (by omega)
  · repeat (first | refine go_run ?_ | (refine go_newP ?_; clear hw; intro p w hw) | (refine go_newW ?_; clear hw; intro w hw) | (refine go_newS ?_; clear hw; intro s w hw))
    refine res_one (v := .int .i64 (-1)) rfl rfl ⟨⟨-1, rfl, ⟨fun h => by omega, fun h => ?_⟩⟩, hw⟩
    obtain ⟨i, hi, he⟩ := List.mem_iff_getElem.1 h
    exact absurd (by rw [getD_at hi]; exact he) (hpre i (by omega))

set_option maxRecDepth 8000 in
theorem Contains_spec {w0 : World} {a : Value} {xs : List Int} {v : Int} (ha : RS tInt w0 a xs) :
    Calls Try.prog 77 #[a, .int .i64 v] w0 fun e w' => e = .returned (.bool (decide (v ∈ xs))) ∧ Sat w0 w' [] := by
  have hw := Sat.start w0
  refine calls_of_vc (args := [a, .int .i64 v]) mixed Try.func77 rfl (by kernel_rfl) (Nat.le_of_ble_eq_true rfl) ?_
  repeat (first | refine go_run ?_ | (refine go_newP ?_; clear hw; intro p w hw) | (refine go_newW ?_; clear hw; intro w hw) | (refine go_newS ?_; clear hw; intro s w hw))
  refine st_call rfl (Index_spec ha) ?_
  rintro _ w' ⟨⟨r, rfl, hr⟩, hk'⟩
  replace hw := hw.call0 hk'
  clear hk'
  refine ⟨_, rfl, ?_⟩
  repeat (first | refine go_run ?_ | (refine go_newP ?_; clear hw; intro p w hw) | (refine go_newW ?_; clear hw; intro w hw) | (refine go_newS ?_; clear hw; intro s w hw))
  refine res_one (v := .bool (decide (0 ≤ r))) rfl rfl ⟨?_, hw⟩
  rw [decide_eq_decide.2 hr]

set_option maxRecDepth 8000 in
theorem Clone_spec {w0 : World} {a : Value} {xs : List Int} (ha : RS tInt w0 a xs) (hn : xs.length ≤ 1099511627776) :
    Calls Try.prog 38 #[a] w0 fun e w' => ∃ s, e = .returned s ∧ Sat w0 w' [OS tInt 3 s xs] := by
  have hw := Sat.start w0
  obtain ⟨ad, cap, hs⟩ := ha.shape
  subst hs
  refine calls_of_vc (args := [.slice ad xs.length cap]) mixed Try.func38 rfl (by kernel_rfl) (Nat.le_of_ble_eq_true rfl) ?_
  repeat (first | refine go_run ?_ | (refine go_newP ?_; clear hw; intro p w hw) | (refine go_newW ?_; clear hw; intro w hw) | (refine go_newS ?_; clear hw; intro s w hw))
  refine step_pure rfl (pv_eqlNilS (a := ad) (n := xs.length) (c := cap) rfl) ?_
  cases ad with
  | none =>
    have h0 : xs = [] := by
      rcases Nat.eq_zero_or_pos xs.length with h | h
      · exact List.eq_nil_of_length_eq_zero h
      · obtain ⟨p, c2, he, _⟩ := ha.some (by decide) h
        cases he
    subst h0
    repeat (first | refine go_run ?_ | (refine go_newP ?_; clear hw; intro p w hw) | (refine go_newW ?_; clear hw; intro w hw) | (refine go_newS ?_; clear hw; intro s w hw))
    exact res_one (v := .slice none 0 0) rfl rfl ⟨_, rfl, hw.nil⟩
  | some p =>
    repeat (first | refine go_run ?_ | (refine go_newP ?_; clear hw; intro p w hw) | (refine go_newW ?_; clear hw; intro w hw) | (refine go_newS ?_; clear hw; intro s w hw))
    refine st_buildSlice0 tInt hw ?_
    clear hw
    intro s1 w hw
    repeat (first | refine go_run ?_ | (refine go_newP ?_; clear hw; intro p w hw) | (refine go_newW ?_; clear hw; intro w hw) | (refine go_newS ?_; clear hw; intro s w hw))
    rw [List.nil_append] at hw
    exact res_one (v := s) rfl rfl ⟨_, rfl, hw⟩
end Go.Proofs.Ytoddgmmkpiojlaa
