
/-
  'awake', 'fits' and 'priced' of layer 41, 'Costs' of the reference of layer 34.
-/
import Derived.Test.YtemnlcnjpjdoaaaGreatDoorWPdbEx
import Derived.Test.YtemnlcnjpjdoaaaGreatDoorTCalc
set_option linter.unusedSimpArgs false
set_option linter.unusedVariables false
namespace Go.Proofs.YtemnlcnjpjdoaaaGreatDoor
open Go.Sl Go
attribute [local irreducible] vc opsW opsD opV opW PureV ReadV Thn Blk
instance : IntT Tryz.prog 59 .u16 := ⟨by kernel_rfl⟩
instance : IntT Tryz.prog 3 .i64 := ⟨by kernel_rfl⟩
set_option maxRecDepth 8000 in
theorem rCosts_spec {w0 : World} {a b c d : Value} {vs : List OpV} {t : TTask} (ht : RTask w0 a b c d vs t) (hol : t.ops.length ≤ 4096) :
    Calls Tryz.prog 18 #[.agg #[a, b, c, d]] w0 fun e w' => ∃ s, e = .returned s ∧ Sat w0 w' [OS tInt 3 s (costsT t)] := by
  obtain ⟨ha, hb, hc, hd⟩ := ht
  have hrs := hd.rs
  have hdl := hd.len
  have hcl : (costsT t).length = t.ops.length := by simp [costsT]
  have hw := Sat.start w0
  refine calls_of_vc (args := [.agg #[a, b, c, d]]) mixed Tryz.func18 rfl (by kernel_rfl) (Nat.le_of_ble_eq_true rfl) ?_
  repeat (first | refine go_run ?_ | (refine go_newP ?_; clear hw; intro p w hw) | (refine go_newW ?_; clear hw; intro w hw) | (refine go_newS ?_; clear hw; intro s w hw))
  obtain ⟨pt, hpt⟩ : ∃ pt, pt = p := ⟨p, rfl⟩
  subst hpt
  have hw := hw.nil (T := tInt) (e := 3)
  refine vc_loop2 [3, 5, 9, 10, 11, 12, 13, 14, 15, 16, 17, 18] (G := Nat) (H := Value) (fun k sv => [(9, .int .i64 k), (3, sv)]) (fun k sv w => k ≤ t.ops.length ∧ Sat w0 w [OS tInt 3 sv ((costsT t).take k), Box pt 26 [a, b, c, d]]) (fun k _ => t.ops.length - k) 0 (.slice none 0 0) (fun _ _ => rfl) ⟨rfl, rfl, trivial⟩ ⟨Nat.zero_le _, hw⟩ ?_
  clear hw
  rintro σ k sv w ⟨hk, hw⟩
  have htl : ((costsT t).take k).length = k := by simp; omega
  repeat (first | refine go_run ?_ | (refine go_newP ?_; clear hw; intro p w hw) | (refine go_newW ?_; clear hw; intro w hw) | (refine go_newS ?_; clear hw; intro s w hw))
  refine go_if (fun h1 => ?_) (fun h1 => ?_)
  · have hkl : k < t.ops.length := by omega
    have hop := hd.at_ k hkl
    have hone := hop.one
    have hco := hop.cost
    repeat (first | refine go_run ?_ | (refine go_newP ?_; clear hw; intro p w hw) | (refine go_newW ?_; clear hw; intro w hw) | (refine go_newS ?_; clear hw; intro s w hw))
    have hcs : (costsT t).take k ++ [(eget tOp vs k).cost] = (costsT t).take (k + 1) := by
      rw [take_snoc tInt.dflt (show k < (costsT t).length by omega), costsT_at hkl, hco]
    rw [hcs] at hw
    exact ⟨k + 1, s, ⟨rfl, rfl, trivial⟩, by repeat (first | exact agree_refl | (apply agree_upd rfl) | (apply agree_mix rfl) | (apply agree_sets rfl)), ⟨by omega, hw.sel⟩, by omega⟩
  · repeat (first | refine go_run ?_ | (refine go_newP ?_; clear hw; intro p w hw) | (refine go_newW ?_; clear hw; intro w hw) | (refine go_newS ?_; clear hw; intro s w hw))
    rw [List.take_of_length_le (by omega)] at hw
    exact res_one (v := sv) rfl rfl ⟨sv, rfl, hw.sel⟩

theorem bErr_zero {t : TTask} {L cs : List Int} (hg : GoodT t) (h : ¬ (0 < cs.length ∧ cs.length ≠ t.ops.length) ∧ ¬ ∃ x ∈ cs, BadC x) (hp : pErr t L = 0) : bErr t L cs = 0 := by
  unfold bErr
  rw [if_neg (by rw [(good_iff t).2 hg]; decide), if_neg h.1, if_neg h.2, hp]
end Go.Proofs.YtemnlcnjpjdoaaaGreatDoor
