
/-
  Contract of reference 34's 'Costs'.
-/
import Derived.Test.YtkmbenhffledpaaGreatTCut4
import Derived.Test.YtkmbenhffledpaaGreatMW1
import Derived.Test.YtkmbenhffledpaaGreatMSlB
set_option linter.unusedSimpArgs false
set_option linter.unusedVariables false
namespace Go.Proofs.YtkmbenhffledpaaGreat
open Go.Sl Go
attribute [local irreducible] vc opsW opsD opV opW PureV ReadV Thn Blk
set_option maxRecDepth 8000 in
set_option maxHeartbeats 4000000 in
theorem r34Costs_spec {w0 : World} {a b c d : Value} {vs : List OpV} {t : TTask} (ht : RTask w0 a b c d vs t) (hg : GoodT t) :
    Calls Tryz.prog 10 #[.agg #[a, b, c, d]] w0 fun e w' => ∃ cv, e = .returned cv ∧ Sat w0 w' [OS tInt 3 cv (costsT t)] := by
  have hdr := ht.ops.rs
  have hdl := ht.ops.len
  have hol := hg.ops
  have hcl : (costsT t).length = t.ops.length := costs_len t
  have hw := Sat.start w0
  refine calls_of_vc (args := [.agg #[a, b, c, d]]) mixed Tryz.func10 rfl (by kernel_rfl) (Nat.le_of_ble_eq_true rfl) ?_
  repeat (first | refine go_run ?_ | (refine go_newP ?_; clear hw; intro p w hw) | (refine go_newW ?_; clear hw; intro w hw) | (refine go_newS ?_; clear hw; intro s w hw))
  obtain ⟨pt, hpt⟩ : ∃ pt, pt = p := ⟨p, rfl⟩
  subst hpt
  replace hw := hw.nil (T := tInt) (e := 3)
  refine vc_loop2 [3, 5, 9, 10, 11, 12, 13, 14, 15, 16, 17, 18] (G := Nat) (H := Value) (fun k cv => [(9, .int .i64 k), (3, cv)]) (fun k cv w => k ≤ t.ops.length ∧ Sat w0 w [OS tInt 3 cv ((costsT t).take k), Box pt 26 [a, b, c, d]]) (fun k _ => t.ops.length - k) 0 (.slice none 0 0) (fun _ _ => rfl) ⟨rfl, rfl, trivial⟩ ⟨Nat.zero_le _, hw⟩ ?_
  clear hw
  rintro σ k cv w ⟨hk, hw⟩
  have hctl : ((costsT t).take k).length = k := by rw [List.length_take]; omega
  repeat (first | refine go_run ?_ | (refine go_newP ?_; clear hw; intro p w hw) | (refine go_newW ?_; clear hw; intro w hw) | (refine go_newS ?_; clear hw; intro s w hw))
  refine go_if (fun h1 => ?_) (fun h1 => ?_)
  · have hkl : k < t.ops.length := by omega
    have hop := ht.ops.at_ k hkl
    have hone := hop.one
    have hco := hop.cost
    have hcsn : (costsT t).take (k + 1) = (costsT t).take k ++ [(eget tOp vs k).cost] := by rw [take_snoc tInt.dflt (by omega), costsT_at hkl, hco]
    repeat (first | refine go_run ?_ | (refine go_newP ?_; clear hw; intro p w hw) | (refine go_newWr ?_; clear hw; intro w hw) | (refine go_newS ?_; clear hw; intro s w hw))
    obtain ⟨cv2, hcv2⟩ : ∃ cv2, cv2 = s := ⟨s, rfl⟩
    subst hcv2
    rw [← hcsn] at hw
    exact ⟨k + 1, cv2, ⟨rfl, rfl, trivial⟩, by repeat (first | exact agree_refl | (apply agree_upd rfl) | (apply agree_mix rfl) | (apply agree_sets rfl)), ⟨by omega, hw.sel⟩, by omega⟩
  have hke : k = t.ops.length := by omega
  rw [hke, List.take_of_length_le (by omega)] at hw
  repeat (first | refine go_run ?_ | (refine go_newP ?_; clear hw; intro p w hw) | (refine go_newW ?_; clear hw; intro w hw) | (refine go_newS ?_; clear hw; intro s w hw))
  exact res_one (v := cv) rfl rfl ⟨cv, rfl, hw.only⟩
end Go.Proofs.YtkmbenhffledpaaGreat
