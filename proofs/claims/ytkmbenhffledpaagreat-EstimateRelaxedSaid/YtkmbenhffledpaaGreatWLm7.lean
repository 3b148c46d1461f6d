
/-
  Contract of LM-cut's 'numbers'.
-/
import Derived.Test.YtkmbenhffledpaaGreatWLm6
set_option linter.unusedSimpArgs false
set_option linter.unusedVariables false
namespace Go.Proofs.YtkmbenhffledpaaGreat
open Go.Sl Go
attribute [local irreducible] vc opsW opsD opV opW PureV ReadV Thn Blk
set_option maxRecDepth 8000 in
set_option maxHeartbeats 4000000 in
theorem lnumbers_spec {w0 : World} {pr : Addr} {c0 fv c2 c3 c4 c5 lv : Value} {vars : List Int} {l : List Fact} (hb : BoxR w0 pr [c0, fv, c2, c3, c4, c5]) (hf : RS tInt w0 fv (fstL vars vars.length)) (hp : ∀ x ∈ vars, 1 ≤ x) (hd : ∀ i, i < vars.length → vars.getD i tInt.dflt ≤ 64) (hvl : vars.length ≤ 64) (hl : RS tFact w0 lv l) (hok : ∀ f ∈ l, FactOk vars f) (hn : l.length ≤ 64) :
    Calls Tryz.prog 70 #[.pointer (some pr), lv] w0 fun e w' => ∃ nv, e = .returned nv ∧ Sat w0 w' [OS tInt 3 nv (l.map (numF vars))] := by
  have hfl := fstL_len vars vars.length
  have hw := Sat.start w0
  refine calls_of_vc (args := [.pointer (some pr), lv]) mixed Tryz.func70 rfl (by kernel_rfl) (Nat.le_of_ble_eq_true rfl) ?_
  replace hw := hw.nil (T := tInt) (e := 3)
  repeat (first | refine go_run ?_ | (refine go_newP ?_; clear hw; intro p w hw) | (refine go_newW ?_; clear hw; intro w hw) | (refine go_newS ?_; clear hw; intro s w hw))
  refine vc_loop2 [5, 7, 10, 11, 12, 13, 14, 15, 16, 17, 18, 19, 20, 21, 22, 23, 24, 25, 26, 27, 28] (G := Nat) (H := Value) (fun k ov => [(10, .int .i64 k), (5, ov)]) (fun k ov w => k ≤ l.length ∧ Sat w0 w [OS tInt 3 ov ((l.take k).map (numF vars))]) (fun k _ => l.length - k) 0 (.slice none 0 0) (fun _ _ => rfl) ⟨rfl, rfl, trivial⟩ ⟨Nat.zero_le _, hw⟩ ?_
  clear hw
  rintro σ k ov w ⟨hk, hw⟩
  have hml : ((l.take k).map (numF vars)).length = k := by rw [List.length_map, List.length_take]; omega
  repeat (first | refine go_run ?_ | (refine go_newP ?_; clear hw; intro p w hw) | (refine go_newW ?_; clear hw; intro w hw) | (refine go_newS ?_; clear hw; intro s w hw))
  refine go_if (fun h1 => ?_) (fun h1 => ?_)
  · have hkl : k < l.length := by omega
    obtain ⟨x0, x1, x2, x3⟩ := hok _ (mem_getD tFact.dflt hkl)
    have hv : (l.getD k tFact.dflt).var.toNat < vars.length := by omega
    obtain ⟨g0, g1, g2⟩ := dgf_nn hp hd hvl hv
    have g3 := hd _ hv
    have hsn : (l.take (k + 1)).map (numF vars) = (l.take k).map (numF vars) ++ [(fstL vars vars.length).getD (l.getD k tFact.dflt).var.toNat tInt.dflt + (l.getD k tFact.dflt).val] := by
      rw [take_snoc tFact.dflt hkl, List.map_append, g0]; rfl
    repeat (first | refine go_run ?_ | (refine go_newP ?_; clear hw; intro p w hw) | (refine go_newWr ?_; clear hw; intro w hw) | (refine go_newS ?_; clear hw; intro s w hw))
    refine vc_plan [.op 0, .op 1, .op 2, .op 3, .op 4, .op 5, .op 6, .op 7, .op 8, .op 9, .op 10, .op 11, .op 12, .op 13, .op 14] hw (by kernel_rfl) ?_; clear hw; intro w hw
    repeat (first | refine go_run ?_ | (refine go_newP ?_; clear hw; intro p w hw) | (refine go_newWr ?_; clear hw; intro w hw) | (refine go_newS ?_; clear hw; intro s w hw))
    rw [← hsn] at hw
    obtain ⟨ov2, hov2⟩ : ∃ ov2, ov2 = s := ⟨s, rfl⟩
    subst hov2
    exact ⟨k + 1, ov2, ⟨rfl, rfl, trivial⟩, by repeat (first | exact agree_refl | (apply agree_upd rfl) | (apply agree_mix rfl) | (apply agree_sets rfl)), ⟨by omega, hw.sel⟩, by omega⟩
  have hke : k = l.length := by omega
  rw [hke, List.take_of_length_le (Nat.le_refl _)] at hw
  repeat (first | refine go_run ?_ | (refine go_newP ?_; clear hw; intro p w hw) | (refine go_newW ?_; clear hw; intro w hw) | (refine go_newS ?_; clear hw; intro s w hw))
  exact res_one (v := ov) rfl rfl ⟨ov, rfl, hw⟩
end Go.Proofs.YtkmbenhffledpaaGreat
