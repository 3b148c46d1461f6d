
/-
  Contracts of 'succgen.New', 'collect', 'find', 'Applicable', 'Successors'.
-/
import Derived.Test.YtoddgmmkpiojlaaWSucN
set_option linter.unusedSimpArgs false
set_option linter.unusedVariables false
namespace Go.Proofs.Ytoddgmmkpiojlaa
open Go.Sl Go
attribute [local irreducible] vc opsW opsD opV opW PureV ReadV Thn Blk
/-- A generator is read. -/
def RGen (w : World) (p : Addr) (t : TTask) : Prop := ∃ a b c d ra vs, BoxR w p [a, b, c, d, .pointer ra] ∧ RTask w a b c d vs t ∧ RNode t w (t.vars.length + 1) ra (upTo (t.ops.length : Int)) 0
theorem RGen.at {w0 w : World} {Γ : List HP} {p : Addr} {t : TTask} (h : RGen w0 p t) (hw : Sat w0 w Γ) : RGen w p t := by
  obtain ⟨a, b, c, d, ra, vs, h1, h2, h3⟩ := h
  exact ⟨a, b, c, d, ra, vs, h1.at hw, h2.at hw, h3.at hw⟩
/-- The applicable operators. -/
def appL (t : TTask) (s : List Int) : List Int := (succsL t s).map fun (o : Nat) => (o : Int)
/-! ### Successors -/
structure SucV where
  op : Int
  st : Value
def tSuc : Ty SucV := ⟨2, fun x => [.int .i64 x.op, x.st], fun _ => rfl, ⟨0, .slice none 0 0⟩⟩
instance : ShutT tSuc := ⟨trivial⟩
/-- The first k successors are read. -/
def SucF (t : TTask) (z L : List Int) (k : Nat) (us : List SucV) (w : World) : Prop := ∀ i, i < k → (eget tSuc us i).op = L.getD i tInt.dflt ∧ RS tInt w (eget tSuc us i).st (succT t z (L.getD i tInt.dflt).toNat)
theorem SucF.step {t : TTask} {z L : List Int} {k : Nat} {us : List SucV} {w : World} {v : SucV} (h : SucF t z L k us w) (hl : us.length = k) (h1 : v.op = L.getD k tInt.dflt) (h2 : RS tInt w v.st (succT t z (L.getD k tInt.dflt).toNat)) : SucF t z L (k + 1) (us ++ [v]) w := fun i hi => by
  rw [eget_app]
  by_cases e : i < k
  · rw [if_pos (by omega)]; exact h i e
  · have e2 : i = k := by omega
    rw [if_neg (by omega), if_pos (by omega), e2]; exact ⟨h1, h2⟩
structure RSuc (w : World) (t : TTask) (z : List Int) (sl : Value) (us : List SucV) : Prop where
  rs : RS tSuc w sl us
  len : us.length = (appL t z).length
  at_ : SucF t z (appL t z) (appL t z).length us w
theorem RSuc.at {w0 w : World} {Γ : List HP} {t : TTask} {z : List Int} {sl : Value} {us : List SucV} (h : RSuc w0 t z sl us) (hw : Sat w0 w Γ) : RSuc w t z sl us := ⟨h.rs.at hw, h.len, fun i hi => ⟨(h.at_ i hi).1, (h.at_ i hi).2.at hw⟩⟩
end Go.Proofs.Ytoddgmmkpiojlaa
