
/-
  The statement 'EstimateBlind' returns true.
-/
import Derived.Test.YtkmbenhffledpaaGreatWI47
set_option linter.unusedSimpArgs false
set_option linter.unusedVariables false
namespace Go.Proofs.YtkmbenhffledpaaGreat
open Go.Sl Go
attribute [local irreducible] vc opsW opsD opV opW PureV ReadV Thn Blk
theorem dTrueE {h : Decidable True} : @decide True h = true := decide_eq_true trivial
set_option maxRecDepth 8000 in
theorem eDead_spec {w0 : World} {p : Addr} {t : TTask} {H : List Int → Int} {sv : Value} {s : List Int} (he : REst w0 p t H) (hs : RS tInt w0 sv s) :
    Calls Tryz.prog 16 #[.pointer (some p), sv] w0 fun e w' => e = .returned (.bool (decide (estV t H s = inf))) ∧ Sat w0 w' [] := by
  have hw := Sat.start w0
  refine calls_of_vc (args := [.pointer (some p), sv]) mixed Tryz.func16 rfl (by kernel_rfl) (Nat.le_of_ble_eq_true rfl) ?_
  repeat (first | refine go_run ?_ | (refine go_newP ?_; clear hw; intro p w hw) | (refine go_newW ?_; clear hw; intro w hw) | (refine go_newS ?_; clear hw; intro s w hw))
  refine st_call rfl (eValue_spec (he.at hw) (hs.at hw)) ?_
  rintro _ w' ⟨rfl, hk'⟩
  replace hw := hw.call0 hk'
  clear hk'
  refine ⟨_, rfl, ?_⟩
  repeat (first | refine go_run ?_ | (refine go_newP ?_; clear hw; intro p w hw) | (refine go_newW ?_; clear hw; intro w hw) | (refine go_newS ?_; clear hw; intro s w hw))
  exact res_one (v := .bool (decide (estV t H s = inf))) rfl rfl ⟨rfl, hw⟩
end Go.Proofs.YtkmbenhffledpaaGreat
