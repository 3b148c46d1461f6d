
/-
  LM-cut as an estimate: contract of 'estimate.Cut'.
-/
import Derived.Test.YtkmbenhffledpaaGreatWLm8
import Derived.Test.YtkmbenhffledpaaGreatMW5
set_option linter.unusedSimpArgs false
set_option linter.unusedVariables false
namespace Go.Proofs.YtkmbenhffledpaaGreat
open Go.Sl Go
attribute [local irreducible] vc opsW opsD opV opW PureV ReadV Thn Blk
theorem LcR.at {w0 w : World} {Γ : List HP} {pr : Addr} {t : TTask} {a fv gv cv lv : Value} {us : List CUV} (h : LcR w0 pr t a fv gv cv lv us) (hw : Sat w0 w Γ) : LcR w pr t a fv gv cv lv us :=
  ⟨h.box.at hw, h.vars.at hw, h.fst.at hw, h.goal.at hw, h.costs.at hw, h.list.at hw, h.len, h.un.at hw⟩
theorem hval_cut {w : World} {t : TTask} {pr : Addr} {a fv gv cv lv : Value} {us : List CUV} (h : LcR w pr t a fv gv cv lv us) (hg : GoodT t) : HVal w (.iface 67 (.pointer (some pr))) t (lmH t) :=
  ⟨_, _, _, _, rfl, methAt_P _, inferInstance, fun _ _ _ _ hs hsv hok => lValue_spec (h.at hs) hg hsv hok⟩
set_option maxRecDepth 8000 in
set_option maxHeartbeats 2000000 in
theorem Cut_spec {w0 : World} {a b c d : Value} {vs : List OpV} {t : TTask} (ht : RTask w0 a b c d vs t) (hg : GoodT t) :
    Calls Tryz.prog 9 #[.agg #[a, b, c, d]] w0 fun e w' => ∃ p, e = .returned (.tuple #[.pointer (some p), .nilIface]) ∧ Sat w0 w' [RdH fun w => REst w p t (lmH t)] := by
  have hw := Sat.start w0
  refine calls_of_vc (args := [.agg #[a, b, c, d]]) mixed Tryz.func9 rfl (by kernel_rfl) (Nat.le_of_ble_eq_true rfl) ?_
  repeat (first | refine go_run ?_ | (refine go_newP ?_; clear hw; intro p w hw) | (refine go_newWr ?_; clear hw; intro w hw) | (refine go_newS ?_; clear hw; intro s w hw))
  obtain ⟨pt, hpt⟩ : ∃ pt, pt = p := ⟨p, rfl⟩
  subst hpt
  refine st_call rfl (lNew_spec (ht.at hw) hg) ?_
  rintro _ w' ⟨pr, a2, fv, gv, cv, lv, us, rfl, hk'⟩
  replace hw := hw.call1 hk'
  clear hk'
  refine ⟨_, rfl, ?_⟩
  repeat (first | refine go_run ?_ | (refine go_newP ?_; clear hw; intro p w hw) | (refine go_newWr ?_; clear hw; intro w hw) | (refine go_newS ?_; clear hw; intro s w hw))
  refine st_call rfl (made_spec (h := .iface 67 (.pointer (some pr))) (H := lmH t) (ht.at hw) hg ⟨_, _, rfl⟩) ?_
  rintro _ w' ⟨pe, rfl, hk'⟩
  replace hw := hw.call1 hk'
  clear hk'
  refine ⟨_, rfl, ?_⟩
  repeat (first | refine go_run ?_ | (refine go_newP ?_; clear hw; intro p w hw) | (refine go_newWr ?_; clear hw; intro w hw) | (refine go_newS ?_; clear hw; intro s w hw))
  have hw2 : Sat w0 w' [RdH fun w => HVal w (.iface 67 (.pointer (some pr))) t (lmH t) → REst w pe t (lmH t), RdH fun w => LcR w pr t a2 fv gv cv lv us, Box pt 26 [a, b, c, d]] := hw
  have hw3 := Sat.rd (Δ := [RdH fun w => HVal w (.iface 67 (.pointer (some pr))) t (lmH t) → REst w pe t (lmH t), RdH fun w => LcR w pr t a2 fv gv cv lv us]) (φ := fun w => REst w pe t (lmH t)) (fun _ w h => (h.rdE 0 rfl) (hval_cut (h.rdE 1 rfl) hg)) hw2
  exact res_two (v := .pointer (some pe)) (v' := .nilIface) rfl rfl rfl ⟨pe, rfl, hw3.sel⟩
end Go.Proofs.YtkmbenhffledpaaGreat
