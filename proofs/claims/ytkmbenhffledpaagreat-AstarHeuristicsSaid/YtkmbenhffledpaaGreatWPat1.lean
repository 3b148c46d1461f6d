/-
  Contracts of 'patterns.check', 'additive', 'Additive'.
-/
import Derived.Test.YtkmbenhffledpaaGreatWSatur
import Derived.Test.YtkmbenhffledpaaGreatTCanon
set_option linter.unusedSimpArgs false
set_option linter.unusedVariables false
namespace Go.Proofs.YtkmbenhffledpaaGreat
open Go.Sl Go
attribute [local irreducible] vc opsW opsD opV opW PureV ReadV Thn Blk
theorem qeU {n:Nat}{p:Nat→Prop}:(∃ i,i<n+1∧p i)↔(∃ i,i<n∧p i)∨p n:=by
 constructor
 ·rintro⟨i,hi,h⟩
  by_cases e:i=n
  ·subst e;exact .inr h
  ·exact .inl ⟨i,by omega,h⟩
 ·rintro (⟨i,hi,h⟩|h)
  ·exact⟨i,by omega,h⟩
  ·exact⟨n,by omega,h⟩
end Go.Proofs.YtkmbenhffledpaaGreat
