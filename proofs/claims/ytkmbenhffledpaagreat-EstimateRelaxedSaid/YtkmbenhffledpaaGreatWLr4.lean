
/-
  Contract of reference 35's 'in'.
-/
import Derived.Test.YtkmbenhffledpaaGreatWLr3
import Derived.Test.YtkmbenhffledpaaGreatMSlB
set_option linter.unusedSimpArgs false
set_option linter.unusedVariables false
namespace Go.Proofs.YtkmbenhffledpaaGreat
open Go.Sl Go
attribute [local irreducible] vc opsW opsD opV opW PureV ReadV Thn Blk
instance r35Eq : EqIntsT Tryz.prog 77 2 := ⟨by kernel_rfl⟩
set_option maxRecDepth 8000 in
set_option maxHeartbeats 4000000 in
theorem r35in_spec {w0 : World} {lv : Value} {l : List Fact} {f : Fact} (hl : RS tFact w0 lv l) :
    Calls Tryz.prog 43 #[lv, .agg #[.int .i64 f.var, .int .i64 f.val]] w0 fun e w' => (∃ r, e = .returned (.bool r) ∧ (r = true ↔ f ∈ l)) ∧ Sat w0 w' [] := by
  have hlb := hl.big
  have hw := Sat.start w0
  refine calls_of_vc (args := [lv, .agg #[.int .i64 f.var, .int .i64 f.val]]) mixed Tryz.func43 rfl (by kernel_rfl) (Nat.le_of_ble_eq_true rfl) ?_
  refine vc_seq ?_
  refine vc_region ?_
  refine go_box ?_
  clear hw
  intro pf w hw
  replace hw : Sat w0 w [Box pf 77 (tFact.enc f)] := hw
  repeat (first | refine go_run ?_ | (refine go_newP ?_; clear hw; intro p w hw) | (refine go_newWr ?_; clear hw; intro w hw) | (refine go_newS ?_; clear hw; intro s w hw))
  refine vc_loop [4, 6, 9, 10, 11, 12, 13, 14, 15, 16] (G := Nat) (fun k => [(9, .int .i64 k)]) (fun k w => k ≤ l.length ∧ f ∉ l.take k ∧ Sat w0 w [Box pf 77 (tFact.enc f)]) (fun k => l.length - k) 0 (fun _ => rfl) ⟨rfl, trivial⟩ ⟨Nat.zero_le _, by simp, hw⟩ ?_
  clear hw
  rintro σ k w ⟨hk, hno, hw⟩
  repeat (first | refine go_run ?_ | (refine go_newP ?_; clear hw; intro p w hw) | (refine go_newW ?_; clear hw; intro w hw) | (refine go_newS ?_; clear hw; intro s w hw))
  refine go_if (fun h1 => ?_) (fun h1 => ?_)
  · have hkl : k < l.length := by omega
    have hma := mem_getD tFact.dflt hkl
    repeat (first | refine go_run ?_ | (refine go_newP ?_; clear hw; intro p w hw) | (refine go_newWr ?_; clear hw; intro w hw) | (refine go_newS ?_; clear hw; intro s w hw))
    refine step_pure rfl (pv_eqlInts (us := [(l.getD k tFact.dflt).var, (l.getD k tFact.dflt).val]) (zs := [f.var, f.val]) rfl rfl rfl rfl) ?_
    by_cases he : l.getD k tFact.dflt = f
    · have hd : decide ([(l.getD k tFact.dflt).var, (l.getD k tFact.dflt).val] = [f.var, f.val]) = true := decide_eq_true (by rw [he])
      rw [hd]
      repeat (first | refine go_run ?_ | (refine go_newP ?_; clear hw; intro p w hw) | (refine go_newW ?_; clear hw; intro w hw) | (refine go_newS ?_; clear hw; intro s w hw))
      exact res_one (v := .bool true) rfl rfl ⟨⟨true, rfl, ⟨fun _ => he ▸ hma, fun _ => rfl⟩⟩, sat_none hw⟩
    · have hd : decide ([(l.getD k tFact.dflt).var, (l.getD k tFact.dflt).val] = [f.var, f.val]) = false := decide_eq_false fun h => he (by
        have h2 : (l.getD k tFact.dflt).var = f.var ∧ (l.getD k tFact.dflt).val = f.val := by simpa using h
        cases hx : l.getD k tFact.dflt with
        | mk a b =>
          rw [hx] at h2
          cases f
          simp only at h2
          rw [h2.1, h2.2])
      rw [hd]
      repeat (first | refine go_run ?_ | (refine go_newP ?_; clear hw; intro p w hw) | (refine go_newW ?_; clear hw; intro w hw) | (refine go_newS ?_; clear hw; intro s w hw))
      exact ⟨k + 1, ⟨rfl, trivial⟩, by repeat (first | exact agree_refl | (apply agree_upd rfl) | (apply agree_mix rfl) | (apply agree_sets rfl)), ⟨by omega, fun h => by
        rw [take_snoc tFact.dflt hkl] at h
        rcases List.mem_append.1 h with h | h
        · exact hno h
        · exact he (List.mem_singleton.1 h).symm, hw.tail⟩, by omega⟩
  have hke : k = l.length := by omega
  rw [hke, List.take_of_length_le (Nat.le_refl _)] at hno
  repeat (first | refine go_run ?_ | (refine go_newP ?_; clear hw; intro p w hw) | (refine go_newW ?_; clear hw; intro w hw) | (refine go_newS ?_; clear hw; intro s w hw))
  exact res_one (v := .bool false) rfl rfl ⟨⟨false, rfl, ⟨(fun h => by cases h), fun h => absurd h hno⟩⟩, sat_none hw⟩
end Go.Proofs.YtkmbenhffledpaaGreat
