/-
  Several texts as one: WSucB, WSucN, WSucG, WVis.
-/
import Derived.Test.YtkmbenhffledpaaGreatMW4
import Derived.Test.YtkmbenhffledpaaGreatMW9
import Derived.Test.YtkmbenhffledpaaGreatMTA
set_option linter.unusedSimpArgs false
set_option linter.unusedVariables false

/-
  Contracts of 'succgen.fact' and of the question of 'succgen.build'.
-/
namespace Go.Proofs.YtkmbenhffledpaaGreat
open Go.Sl Go
attribute [local irreducible] vc opsW opsD opV opW PureV ReadV Thn Blk
/-- A generator's task is read. -/
def GenT (w : World) (p : Addr) (t : TTask) : Prop := ∃ a b c d r vs, BoxR w p [a, b, c, d, r] ∧ RTask w a b c d vs t
theorem GenT.at {w0 w : World} {Γ : List HP} {p : Addr} {t : TTask} (h : GenT w0 p t) (hw : Sat w0 w Γ) : GenT w p t := by
  obtain ⟨a, b, c, d, r, vs, h1, h2⟩ := h
  exact ⟨a, b, c, d, r, vs, h1.at hw, h2.at hw⟩
end Go.Proofs.YtkmbenhffledpaaGreat

/-
  Contract of 'succgen.build': the decision tree.
-/
namespace Go.Proofs.YtkmbenhffledpaaGreat
open Go.Sl Go
attribute [local irreducible] vc opsW opsD opV opW PureV ReadV Thn Blk
def ChF (t : TTask) (f : Nat) (ops : List Int) (u : Nat) (ss : List Value) (x : Nat) (vl : List (Option Addr)) (w : World) : Prop := ∀ i, i < x → RS tInt w (vget ss i) (byV t ops u (i : Int)) → RNode t w f (vl.getD i none) (byV t ops u (i : Int)) (u + 1)
theorem ChF.step {t : TTask} {f : Nat} {ops : List Int} {u : Nat} {ss : List Value} {x : Nat} {vl : List (Option Addr)} {w : World} {a : Option Addr} (h : ChF t f ops u ss x vl w) (hl : vl.length = x) (hn : RS tInt w (vget ss x) (byV t ops u (x : Int)) → RNode t w f a (byV t ops u (x : Int)) (u + 1)) : ChF t f ops u ss (x + 1) (vl ++ [a]) w := fun i hi hr => by
  by_cases e : i < x
  · rw [show (vl ++ [a]).getD i none = vl.getD i none by simp [List.getD_eq_getElem?_getD, List.getElem?_append_left (show i < vl.length by omega)]]
    exact h i e hr
  · have e2 : i = x := by omega
    subst e2
    rw [show (vl ++ [a]).getD i none = a by subst hl; simp [List.getD_eq_getElem?_getD]]
    exact hn hr
end Go.Proofs.YtkmbenhffledpaaGreat

/-
  Contracts of 'succgen.New', 'collect', 'find', 'Applicable', 'Successors'.
-/
namespace Go.Proofs.YtkmbenhffledpaaGreat
open Go.Sl Go
attribute [local irreducible] vc opsW opsD opV opW PureV ReadV Thn Blk
/-- A generator is read. -/
def RGen (w : World) (p : Addr) (t : TTask) : Prop := ∃ a b c d ra vs, BoxR w p [a, b, c, d, .pointer ra] ∧ RTask w a b c d vs t ∧ RNode t w (t.vars.length + 1) ra (upTo (t.ops.length : Int)) 0
theorem RGen.at {w0 w : World} {Γ : List HP} {p : Addr} {t : TTask} (h : RGen w0 p t) (hw : Sat w0 w Γ) : RGen w p t := by
  obtain ⟨a, b, c, d, ra, vs, h1, h2, h3⟩ := h
  exact ⟨a, b, c, d, ra, vs, h1.at hw, h2.at hw, h3.at hw⟩
/-- The applicable operators. -/
def appL (t : TTask) (s : List Int) : List Int := (succsL t s).map fun (o : Nat) => (o : Int)
/-! ### Successors -/
structure SucV where
  op : Int
  st : Value
def tSuc : Ty SucV := ⟨2, fun x => [.int .i64 x.op, x.st], fun _ => rfl, ⟨0, .slice none 0 0⟩⟩
instance inWSucG1 : ShutT tSuc := ⟨trivial⟩
/-- The first k successors are read. -/
def SucF (t : TTask) (z L : List Int) (k : Nat) (us : List SucV) (w : World) : Prop := ∀ i, i < k → (eget tSuc us i).op = L.getD i tInt.dflt ∧ RS tInt w (eget tSuc us i).st (succT t z (L.getD i tInt.dflt).toNat)
theorem SucF.step {t : TTask} {z L : List Int} {k : Nat} {us : List SucV} {w : World} {v : SucV} (h : SucF t z L k us w) (hl : us.length = k) (h1 : v.op = L.getD k tInt.dflt) (h2 : RS tInt w v.st (succT t z (L.getD k tInt.dflt).toNat)) : SucF t z L (k + 1) (us ++ [v]) w := fun i hi => by
  rw [eget_app]
  by_cases e : i < k
  · rw [if_pos (by omega)]; exact h i e
  · have e2 : i = k := by omega
    rw [if_neg (by omega), if_pos (by omega), e2]; exact ⟨h1, h2⟩
structure RSuc (w : World) (t : TTask) (z : List Int) (sl : Value) (us : List SucV) : Prop where
  rs : RS tSuc w sl us
  len : us.length = (appL t z).length
  at_ : SucF t z (appL t z) (appL t z).length us w
theorem RSuc.at {w0 w : World} {Γ : List HP} {t : TTask} {z : List Int} {sl : Value} {us : List SucV} (h : RSuc w0 t z sl us) (hw : Sat w0 w Γ) : RSuc w t z sl us := ⟨h.rs.at hw, h.len, fun i hi => ⟨(h.at_ i hi).1, (h.at_ i hi).2.at hw⟩⟩
end Go.Proofs.YtkmbenhffledpaaGreat

/-
  Contract of 'idastar.visit': a visit, as the plain recursion.
-/
namespace Go.Proofs.YtkmbenhffledpaaGreat
open Go.Sl Go
attribute [local irreducible] vc opsW opsD opV opW PureV ReadV Thn Blk
instance inWVis1 : MapT Tryz.prog 137 9 3 := ⟨by kernel_rfl⟩
instance inWVis2 : ZeroV Tryz.prog 3 (.int .i64 0) := ⟨by kernel_rfl⟩
/-- What a visit reads. -/
structure VEnv (w0 : World) (Γ : List HP) (t : TTask) (H : List Int → Int) (a b c d : Value) (vs : List OpV) (pe pg : Addr) : Prop where
  tk : Kept w0 Γ fun w => RTask w a b c d vs t
  est : Kept w0 Γ fun w => REst w pe t H
  gen : Kept w0 Γ fun w => RGen w pg t
theorem VEnv.more {w0 : World} {Γ : List HP} {t : TTask} {H : List Int → Int} {a b c d : Value} {vs : List OpV} {pe pg : Addr} (h : VEnv w0 Γ t H a b c d vs pe pg) (A : HP) : VEnv w0 (A :: Γ) t H a b c d vs pe pg := ⟨h.tk.more A, h.est.more A, h.gen.more A⟩
end Go.Proofs.YtkmbenhffledpaaGreat
