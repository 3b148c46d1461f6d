/-
  Merge-and-shrink as a function: one variable after another, and the value of a state.
-/
import Derived.Test.YtjdlohdcdmhigaaGreatDoorMTA
import Derived.Test.YtjdlohdcdmhigaaGreatDoorMW7
set_option linter.unusedSimpArgs false
set_option linter.unusedVariables false
namespace Go.Proofs.YtjdlohdcdmhigaaGreatDoor
open Go.Sl
structure StgV where
 var:Int
 cls:List Int
 aft:List Int
 sts:Int
structure CnS where
 cur:SysV
 sts:List StgV
 err:Int
theorem qkh (n:Int):∃ k:Nat,n<((k:Int)+1)*(k+1)∧∀ j:Nat,n<((j:Int)+1)*(j+1)→k≤j :=
 qi9 (p:=fun r:Nat=>n<((r:Int)+1)*(r+1)) n.toNat (by
  have h:(0:Int)≤(n.toNat:Int)*n.toNat:=Int.mul_nonneg (by omega) (by omega)
  have e:((n.toNat:Int)+1)*(n.toNat+1)=(n.toNat:Int)*n.toNat+n.toNat+n.toNat+1:=by simp only [Int.add_mul,Int.mul_add];omega
  omega)
noncomputable def rootF (n:Int):Nat:=Classical.choose (qkh n)
theorem qj1 (n:Int):n<((rootF n:Int)+1)*(rootF n+1)∧∀ j:Nat,n<((j:Int)+1)*(j+1)→rootF n≤j:=Classical.choose_spec (qkh n)
noncomputable def limL (most:Int) (a b:Int):Int × Int:=if a*b>most then (if a≤rootF most then (a,most.tdiv a) else if b≤rootF most then (most.tdiv b,b) else (rootF most,rootF most)) else (a,b)
noncomputable def cnFst (t:TTask) (most:Int) (v:Int):CnS :=
 if pErr t [v]≠0 then ⟨sysNo,[],pErr t [v]⟩
 else if smlErr (sysOk t [v]) most≠0 then ⟨sysNo,[],smlErr (sysOk t [v]) most⟩
 else ⟨smlS (sysOk t [v]) most,[⟨v,smlC (sysOk t [v]) most,[],(smlS (sysOk t [v]) most).st⟩],0⟩
noncomputable def cnNxt (t:TTask) (most:Int) (s:CnS) (v:Int):CnS :=
 if s.err≠0 then s
 else if pErr t [v]≠0 then ⟨sysNo,s.sts,pErr t [v]⟩
 else let A:=sysOk t [v];let lr:=limL most s.cur.st A.st
  if smlErr s.cur lr.1≠0 then ⟨sysNo,s.sts,smlErr s.cur lr.1⟩
  else if smlErr A lr.2≠0 then ⟨sysNo,s.sts,smlErr A lr.2⟩
  else if prdErr (smlS s.cur lr.1) (smlS A lr.2)≠0 then ⟨sysNo,s.sts++[⟨v,smlC A lr.2,smlC s.cur lr.1,(smlS A lr.2).st⟩],prdErr (smlS s.cur lr.1) (smlS A lr.2)⟩
  else ⟨prdS (smlS s.cur lr.1) (smlS A lr.2),s.sts++[⟨v,smlC A lr.2,smlC s.cur lr.1,(smlS A lr.2).st⟩],0⟩
noncomputable def cnK (t:TTask) (most:Int):Nat→CnS
 | 0=>⟨sysE t [] (pErr t []),[],pErr t []⟩
 | 1=>cnFst t most 0
 | k+1=>cnNxt t most (cnK t most k) k
noncomputable def bldM (most:Int):Int:=max 1 (min most 4096)
open Classical in
noncomputable def bldErr (t:TTask) (most:Int):Int:=if (cnK t (bldM most) t.vars.length).err≠0 then (cnK t (bldM most) t.vars.length).err else if ValS (cnK t (bldM most) t.vars.length).cur then 0 else 2
noncomputable def bldS (t:TTask) (most:Int):List StgV:=(cnK t (bldM most) t.vars.length).sts
noncomputable def bldD (t:TTask) (most:Int):List Int:=dstL (cnK t (bldM most) t.vars.length).cur
def atL (s:List Int):List StgV→Int
 | []=>0
 | x::r=>r.foldl (fun a y=>y.aft.getD a.toNat tInt.dflt*y.sts+y.cls.getD (s.getD y.var.toNat tInt.dflt).toNat tInt.dflt) (x.cls.getD (s.getD x.var.toNat tInt.dflt).toNat tInt.dflt)
end Go.Proofs.YtjdlohdcdmhigaaGreatDoor
