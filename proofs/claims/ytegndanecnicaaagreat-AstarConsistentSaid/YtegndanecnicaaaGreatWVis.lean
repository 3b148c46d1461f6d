
/-
  Contract of 'idastar.visit': a visit, as the plain recursion.
-/
import Derived.Test.YtegndanecnicaaaGreatWSucG
import Derived.Test.YtegndanecnicaaaGreatWEst3
import Derived.Test.YtegndanecnicaaaGreatMTA
set_option linter.unusedSimpArgs false
set_option linter.unusedVariables false
namespace Go.Proofs.YtegndanecnicaaaGreat
open Go.Sl Go
attribute [local irreducible] vc opsW opsD opV opW PureV ReadV Thn Blk
instance : ZeroV Tryz.prog 3 (.int .i64 0) := ⟨by kernel_rfl⟩
/-- What a visit reads. -/
structure VEnv (w0 : World) (Γ : List HP) (t : TTask) (H : List Int → Int) (a b c d : Value) (vs : List OpV) (pe pg : Addr) : Prop where
  tk : Kept w0 Γ fun w => RTask w a b c d vs t
  est : Kept w0 Γ fun w => REst w pe t H
  gen : Kept w0 Γ fun w => RGen w pg t
theorem VEnv.more {w0 : World} {Γ : List HP} {t : TTask} {H : List Int → Int} {a b c d : Value} {vs : List OpV} {pe pg : Addr} (h : VEnv w0 Γ t H a b c d vs pe pg) (A : HP) : VEnv w0 (A :: Γ) t H a b c d vs pe pg := ⟨h.tk.more A, h.est.more A, h.gen.more A⟩
end Go.Proofs.YtegndanecnicaaaGreat
