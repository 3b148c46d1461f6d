
/-
  Contracts of the helpers 'Num', 'Ints', 'State', 'Proper', 'operator', 'Good', 'Many', 'Small', 'Holds'.
-/
import Derived.Test.YtnoiagnmbipppaaDoorTypes
import Derived.Test.YtnoiagnmbipppaaDoorMTA
set_option linter.unusedSimpArgs false
set_option linter.unusedVariables false
namespace Go.Proofs.YtnoiagnmbipppaaDoor
open Go.Sl
attribute [local irreducible] vc opsW opsD opV opW PureV ReadV Thn Blk

def errV (c : Int) : Value := if c = 0 then .nilIface else .iface 40 (.int .i64 c)
theorem errV_zero {c : Int} (h : c = 0) : errV c = .nilIface := by simp [errV, h]
theorem errV_some {c : Int} (h : c ≠ 0) : errV c = .iface 40 (.int .i64 c) := by simp [errV, h]

set_option maxRecDepth 8000 in
theorem Num_spec {w0 : World} (c : Int) :
    Calls Tryd.prog 8 #[errV c] w0 fun e w' => e = .returned (.int .i64 c) ∧ Sat w0 w' [] := by
  have hw := Sat.start w0
  by_cases hc : c = 0
  · subst hc
    refine calls_of_vc (args := [.nilIface]) mixed Tryd.func8 rfl (by kernel_rfl) (Nat.le_of_ble_eq_true rfl) ?_
    repeat (first | refine go_run ?_ | (refine go_newP ?_; clear hw; intro p w hw) | (refine go_newW ?_; clear hw; intro w hw) | (refine go_newS ?_; clear hw; intro s w hw))
    exact res_one (v := .int .i64 0) rfl rfl ⟨rfl, hw⟩
  · rw [errV_some hc]
    refine calls_of_vc (args := [.iface 40 (.int .i64 c)]) mixed Tryd.func8 rfl (by kernel_rfl) (Nat.le_of_ble_eq_true rfl) ?_
    repeat (first | refine go_run ?_ | (refine go_newP ?_; clear hw; intro p w hw) | (refine go_newW ?_; clear hw; intro w hw) | (refine go_newS ?_; clear hw; intro s w hw))
    exact res_one (v := .int .i64 c) rfl rfl ⟨rfl, hw⟩

theorem op_eta (o : OpV) : (tOp.enc o) = [.string o.name, .int .i64 o.cost, o.pre, o.effs] := rfl

end Go.Proofs.YtnoiagnmbipppaaDoor
