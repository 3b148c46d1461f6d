/-
  Several texts as one: WProj2, WTgt, WProject, WSys.
-/
import Derived.Test.YtdadmnlenbdfbaaGreatMW5
import Derived.Test.YtdadmnlenbdfbaaGreatMTA
import Derived.Test.YtdadmnlenbdfbaaGreatMSlB
set_option linter.unusedSimpArgs false
set_option linter.unusedVariables false
/-
  Contracts of 'project.has' and 'outside'.
-/
namespace Go.Proofs.YtdadmnlenbdfbaaGreat
open Go.Sl Go
attribute [local irreducible] vc opsW opsD opV opW PureV ReadV Thn Blk
end Go.Proofs.YtdadmnlenbdfbaaGreat
/-
  Contract of 'project.targets'.
-/
namespace Go.Proofs.YtdadmnlenbdfbaaGreat
open Go.Sl Go
attribute [local irreducible] vc opsW opsD opV opW PureV ReadV Thn Blk
theorem qkQ (l:List Int):compL l=((List.range l.length).filter fun j=>decide (j=0∨l.getD j tInt.dflt≠l.getD (j-1) tInt.dflt)).map fun j=>l.getD j tInt.dflt:=by
 have e:∀ j,l.toArray[j]! = l.getD j tInt.dflt:=fun j=>by
  simp [getElem!_def,List.getD]
  cases l[j]? <;> rfl
 unfold compL Lib.compact Lib.compactUpTo Lib.keeps
 simp only [e]
theorem qjy {l:List Int}{x:Int}:x∈compL l↔x∈l:=by
 rw [qkQ]
 simp only [List.mem_map,List.mem_filter,List.mem_range,decide_eq_true_eq]
 constructor
 ·rintro⟨j,⟨hj,_⟩,rfl⟩;exact qan _ hj
 ·intro hx
  obtain⟨i,hi,he⟩:=List.mem_iff_getElem.1 hx
  have key:∀ i,i<l.length→∃ j,(j<l.length∧(j=0∨l.getD j tInt.dflt≠l.getD (j-1) tInt.dflt))∧l.getD j tInt.dflt=l.getD i tInt.dflt:=by
   intro i
   induction i with
   | zero=>intro h;exact⟨0,⟨h,.inl rfl⟩,rfl⟩
   | succ i ih =>
    intro h
    by_cases hh:l.getD (i+1) tInt.dflt=l.getD i tInt.dflt
    ·obtain⟨j,h1,h2⟩:=ih (by omega)
     exact⟨j,h1,h2.trans hh.symm⟩
    ·exact⟨i+1,⟨h,.inr hh⟩,rfl⟩
  obtain⟨j,h1,h2⟩:=key i hi
  exact⟨j,h1,by rw [h2,qak hi,he]⟩
end Go.Proofs.YtdadmnlenbdfbaaGreat
/-
  Contract of 'project.Project'.
-/
namespace Go.Proofs.YtdadmnlenbdfbaaGreat
open Go.Sl Go
attribute [local irreducible] vc opsW opsD opV opW PureV ReadV Thn Blk
theorem qas {w0 w:World}{Γ:List HP}(hw:Sat w0 w Γ):Sat w0 w []:=⟨hw.below,trivial⟩
end Go.Proofs.YtdadmnlenbdfbaaGreat
/-
  A system's three lists are read.
-/
namespace Go.Proofs.YtdadmnlenbdfbaaGreat
open Go.Sl Go
end Go.Proofs.YtdadmnlenbdfbaaGreat
