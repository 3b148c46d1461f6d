/-
  Several texts as one: WPdbEx, TCalc, WPdbAw, TPick.
-/
import Derived.Test.YtggdgcmjcahbbaaGreatDoorMW8
import Derived.Test.YtggdgcmjcahbbaaGreatDoorMW6
import Derived.Test.YtggdgcmjcahbbaaGreatDoorMSlB
import Derived.Test.YtggdgcmjcahbbaaGreatDoorMW14
import Derived.Test.YtggdgcmjcahbbaaGreatDoorMW7
set_option linter.unusedSimpArgs false
set_option linter.unusedVariables false
/-
  The example with which each statement of layer 41 begins, and what these statements share.
-/
namespace Go.Proofs.YtggdgcmjcahbbaaGreatDoor
open Go.Sl Go
attribute [local irreducible] vc opsW opsD opV opW PureV ReadV Thn Blk
end Go.Proofs.YtggdgcmjcahbbaaGreatDoor
/-
  Concrete tasks: goals and least costs of projections, calculated.
-/
namespace Go.Proofs.YtggdgcmjcahbbaaGreatDoor
open Go.Sl Go
end Go.Proofs.YtggdgcmjcahbbaaGreatDoor
/-
  'awake', 'fits' and 'priced' of layer 41, 'Costs' of the reference of layer 34.
-/
namespace Go.Proofs.YtggdgcmjcahbbaaGreatDoor
open Go.Sl Go
attribute [local irreducible] vc opsW opsD opV opW PureV ReadV Thn Blk
theorem qlb {t:TTask}{L cs:List Int}(hg:GoodT t) (h:¬(0<cs.length∧cs.length≠t.ops.length)∧¬∃ x∈cs,BadC x) (hp:pErr t L=0):bErr t L cs=0:=by
 unfold bErr
 rw [if_neg (by rw [(qaM t).2 hg];decide),if_neg h.1,if_neg h.2,hp]
end Go.Proofs.YtggdgcmjcahbbaaGreatDoor
/-
  What the statements of layer 42 share: patterns whose databases are small, and what 'New' makes of them.
-/
namespace Go.Proofs.YtggdgcmjcahbbaaGreatDoor
open Go.Sl Go
attribute [local irreducible] vc opsW opsD opV opW PureV ReadV Thn Blk
structure PatsOk (t:TTask) (Ls:List (List Int)):Prop where
 small:SmallT t
 len:Ls.length≤32
 inv:∀ i,i<Ls.length→InV t.vars (Ls.getD i [])
 cnt:∀ i,i<Ls.length→cntL t.vars (Ls.getD i [])≤512
 full:0<Ls.length→¬ClqFull Ls.length (nbA Ls.length (arcP t Ls Ls.length))
section
variable {t:TTask}{Ls Ds Cs:List (List Int)}
theorem PatsOk.lerr (h:PatsOk t Ls):lErr t Ls=0:=by
 unfold lErr
 rw [if_neg (by rw [(qaM t).2 h.small.good];decide),if_pos fun i hi=>(h.inv i hi).pat]
theorem PatsOk.cerr (h:PatsOk t Ls):clqErr t Ls=0:=by
 unfold clqErr
 rw [if_neg (by simp [h.lerr]),if_neg (by have:=h.len;omega),if_neg (fun hh=>h.full hh.1 hh.2)]
theorem PatsOk.perr (h:PatsOk t Ls):∀ i,i<Ls.length→pErr t (Ls.getD i [])=0:=fun i hi=>(qdc h.small (h.inv i hi)).1
theorem PatsOk.berr (h:PatsOk t Ls) {i:Nat}(hi:i<Ls.length):bErr t (Ls.getD i []) []=0:=qlb h.small.good ⟨by simp,by simp⟩ (h.perr i hi)
structure CanOk (t:TTask) (Ls Ds Cs:List (List Int)):Prop where
 pats:PatsOk t Ls
 dl:Ds.length=Ls.length
 cl:Cs.length≤4096
 zero:Ls=[]→Cs=[]
 clq:Ls≠[]→CliqL Ls.length (nbA Ls.length (arcP t Ls Ls.length)) Cs
 dist:∀ i,i<Ls.length→DistOk (pEdges t (Ls.getD i [])) (costsT t) (GoalPK t (Ls.getD i [])) (cntL t.vars (Ls.getD i [])).toNat (Ds.getD i [])
theorem CanOk.ci (h:CanOk t Ls Ds Cs):∀ l∈Cs,∀ i∈l,0≤i∧i<Ls.length:=fun l hl i hi=>by
 by_cases e:Ls=[]
 ·rw [h.zero e] at hl;simp at hl
 ·obtain⟨C,_,rfl⟩:=(h.clq e l).1 hl
  obtain⟨v,hv,_,rfl⟩:=qb6.1 hi
  omega
theorem CanOk.can (h:CanOk t Ls Ds Cs):∃ Cs',CanC t Ls Ds (nbA Ls.length (arcP t Ls Ls.length)) Cs'∧∀ s,canV t Ls Ds Cs s=canV t Ls Ds Cs' s:=by
 have hA:=addG t Ls
 by_cases e:Ls=[]
 ·refine⟨[[]],⟨h.pats.small.good,h.pats.inv,h.pats.cnt,h.pats.len,h.dist,hA.gr,hA.add,?_⟩,fun s => ?_⟩
  ·have e0:Ls.length=0:=by rw [e];rfl
   rw [e0]
   intro l
   constructor
   ·intro hl
    rw [List.mem_singleton] at hl
    subst hl
    exact⟨0,⟨fun v hv=>by simp [ib] at hv,fun u v hu=>by simp [ib] at hu,fun u hu=>absurd hu (Nat.not_lt_zero _)⟩,rfl⟩
   ·rintro⟨C,_,rfl⟩
    exact List.mem_singleton.2 rfl
  ·rw [h.zero e]
   unfold canV bestL
   rfl
 ·exact⟨Cs,⟨h.pats.small.good,h.pats.inv,h.pats.cnt,h.pats.len,h.dist,hA.gr,hA.add,h.clq e⟩,fun _=>rfl⟩
end
set_option maxRecDepth 8000 in
theorem qjl {w0:World}{a b c d s:Value}{vs:List OpV}{t:TTask}{ss:List Value}{Ls:List (List Int)}(ht:RTask w0 a b c d vs t) (hl:RLs w0 s ss Ls) (hT:TabB w0) (hp:PatsOk t Ls) :
  Calls Tryz.prog 9 #[.agg #[a,b,c,d],s] w0 fun e w'=>∃ p Ds Cs,e=.returned (.tuple #[.pointer (some p),.nilIface])∧CanOk t Ls Ds Cs∧Sat w0 w' [RdH fun w=>RCan w p t Ls Ds Cs]:=by
 refine (qdO ht hl hT).mono fun e w' h => ?_
 rcases h with ⟨h,_⟩|⟨_,⟨k,hk,_,hb,_⟩,_⟩|⟨_,_,_,_,p,Ds,Cs,he,h1,h2,h3,h4,h5,hk⟩
 ·exact absurd hp.cerr h
 ·exact absurd (hp.berr hk) hb
 ·exact⟨p,Ds,Cs,he,⟨hp,h4,h3,h1,h2,h5⟩,hk⟩
end Go.Proofs.YtggdgcmjcahbbaaGreatDoor
