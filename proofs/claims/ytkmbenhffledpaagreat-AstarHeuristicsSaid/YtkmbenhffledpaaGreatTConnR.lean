/-
  The references 'Connected' and 'Systematic', in plain Lean: what is seen from the first variable; lists that grow.
-/
import Derived.Test.YtkmbenhffledpaaGreatTSyst
set_option linter.unusedSimpArgs false
set_option linter.unusedVariables false
namespace Go.Proofs.YtkmbenhffledpaaGreat
open Go.Sl
theorem qtg {n m:Nat}(hn:n≤12) (hm:m≤3):(grL n m).length≤220:=by
 have h:=qpH n (by omega)
 have:m=0∨m=1∨m=2∨m=3:=by omega
 rcases this with rfl|rfl|rfl|rfl
 ·simp [grL]
 ·omega
 ·omega
 ·omega
theorem qog (t:TTask):sysL t 0=[]:=qbI (by omega)
theorem qoh (t:TTask) (m:Nat):sysL t (m+1)=sysL t m++sysK t (m+1):=by
 unfold sysL;rw [qaN (by omega)]
theorem qlG {t:TTask}(hn:t.vars.length≤12):∀ {m:Nat},m≤3→(sysL t m).length≤m*220
 | 0,_=>by rw [qog];exact Nat.le_refl _
 | m+1,h=>by
  have ih:=qlG hn (m:=m) (by omega)
  have h1:=qfA (t:=t) (m+1)
  have h2:=qtg hn (m:=m+1) (by omega)
  rw [qoh,List.length_append]
  omega
end Go.Proofs.YtkmbenhffledpaaGreat
