/-
  Several texts as one: WAffects, TSmall, TLaw5, TNarrow.
-/
import Derived.Test.YtggdgcmjcahbbaaGreatDoorMW6
set_option linter.unusedSimpArgs false
set_option linter.unusedVariables false
/-
  Contract of 'project.Affects'.
-/
namespace Go.Proofs.YtggdgcmjcahbbaaGreatDoor
open Go.Sl Go
attribute [local irreducible] vc opsW opsD opV opW PureV ReadV Thn Blk
def AffOf (t:TTask) (L:List Int) (i:Nat):Prop:=∃ e∈(t.ops.getD i dOp).effs,e.var∈L
instance (t:TTask) (L:List Int) (i:Nat):Decidable (AffOf t L i):=by unfold AffOf;infer_instance
end Go.Proofs.YtggdgcmjcahbbaaGreatDoor
/-
  A small task's projections are within the limits.
-/
namespace Go.Proofs.YtggdgcmjcahbbaaGreatDoor
open Go.Sl Go
theorem qhi {α:Type} [DecidableEq α] {l:List α}:∀ {m:List α},l.Nodup→(∀ x∈l,x∈m)→l.length≤m.length:=by
 induction l with
 | nil=>intro m _ _;simp
 | cons x l ih =>
  intro m hn hs
  rw [List.nodup_cons] at hn
  have hx:=hs x (by simp)
  have h1:=ih (m:=m.erase x) hn.2 fun y hy=>by
   have hne:y≠x:=fun e=>hn.1 (by rw [←e];exact hy)
   exact (List.mem_erase_of_ne hne).2 (hs y (by simp [hy]))
  rw [List.length_erase_of_mem hx] at h1
  have:=List.length_pos_of_mem hx
  simp only [List.length_cons];omega
def belowI {α:Type}(g:α→Int) (l:List α) (n:Nat):Nat:=(l.filter fun s=>decide (0≤g s∧g s<n)).length
def atI {α:Type}(g:α→Int) (l:List α) (n:Nat):Nat:=(l.filter fun s=>decide (g s=n)).length
theorem qfB {α:Type}(g:α→Int) (n:Nat):∀ l:List α,belowI g l (n+1)=belowI g l n+atI g l n
 | []=>rfl
 | x::l=>by
  have ih:=qfB g n l
  simp only [belowI,atI,List.filter_cons] at ih ⊢
  by_cases h1:0≤g x∧g x<(n:Int)
  ·rw [if_pos (by simp;omega),if_pos (by simpa using h1),if_neg (by simp;omega)]
   simp only [List.length_cons];omega
  ·by_cases h2:g x=(n:Int)
   ·rw [if_pos (by simp;omega),if_neg (by simpa using h1),if_pos (by simpa using h2)]
    simp only [List.length_cons];omega
   ·rw [if_neg (by simp;omega),if_neg (by simpa using h1),if_neg (by simpa using h2)]
    exact ih
theorem qo4 (t:TTask) (p:List Int) (a:Nat) (op:Nat):(tgtL t p a op).length≤atI (idxL t.vars p) (statesL t.vars) a:=by
 have h1:=qhi (l:=tgtL t p a op) (m:=((statesL t.vars).filter fun s=>decide (idxL t.vars p s=(a:Int))).map fun s=>idxL t.vars p (succT t s op)) ((qeA _ _).imp fun h e=>by omega) fun b hb=>by
  obtain⟨_,s,hs,ha,_,hb⟩:=qbn.1 hb
  exact List.mem_map.2 ⟨s,List.mem_filter.2 ⟨qb3.2 hs,by simpa using ha⟩,hb⟩
 simpa [atI] using h1
theorem qlr (t:TTask) (p:List Int) (a:Nat):∀ j,(edgO t p a j).length≤j*atI (idxL t.vars p) (statesL t.vars) a
 | 0=>by simp [edgO]
 | j+1=>by
  have h1:=qlr t p a j
  have h2:=qo4 t p a j
  rw [qdf,List.length_append,qgk,Nat.succ_mul];omega
theorem qls (t:TTask) (p:List Int):∀ k,(edgA t p k).length≤t.ops.length*belowI (idxL t.vars p) (statesL t.vars) k
 | 0=>by simp [edgA]
 | k+1=>by
  have h1:=qls t p k
  have h2:=qlr t p k t.ops.length
  rw [qdg,List.length_append,qfB,Nat.mul_add];omega
theorem qlt (t:TTask) (p:List Int):(pEdges t p).length≤t.ops.length*(statesL t.vars).length :=
 Nat.le_trans (qls t p _) (Nat.mul_le_mul_left _ (List.length_filter_le _ _))
theorem qdc {t:TTask}{p:List Int}(h:SmallT t) (hp:InV t.vars p):pErr t p=0∧chkP t p=0:=by
 have hc:=qem.2 ⟨h.good,hp.pat⟩
 have h1:=qip h.good.pos hp
 have h2:=h.many
 have h3:=qlt t p
 have h4:(statesL t.vars).length≤512:=by rw [qaZ h.good.pos];omega
 have h5:t.ops.length*(statesL t.vars).length≤20*512:=Nat.mul_le_mul h.ops h4
 refine⟨?_,hc⟩
 rw [qid hc,pErr0,if_neg (by omega),if_neg (noBig h.good.pos (by omega)),if_neg (by omega)]
end Go.Proofs.YtggdgcmjcahbbaaGreatDoor
/-
  Plain facts for the statement 'ProjectAffects', and two steps for reads that are looked at again under a guard.
-/
namespace Go.Proofs.YtggdgcmjcahbbaaGreatDoor
open Go.Sl Go
theorem qdM (t:TTask) (L:List Int):sysE t L 0=sysOk t L:=if_pos rfl
theorem qiP (t:TTask) (L:List Int) (cv ev gv:Value):sysV (sysOk t L) cv ev gv=.agg #[.int .i64 (cntL t.vars L),.int .i64 (idxL t.vars L t.init),cv,ev,gv]:=rfl
end Go.Proofs.YtggdgcmjcahbbaaGreatDoor
/-
  Projections of projections, in plain Lean.
-/
namespace Go.Proofs.YtggdgcmjcahbbaaGreatDoor
open Go.Sl Go
section
variable {t:TTask}{p q:List Int}
end
theorem getD_set_ne {l:List Int}{i j:Nat}{v:Int}(h:i≠j):(l.set i v).getD j tInt.dflt=l.getD j tInt.dflt:=by
 simp only [List.getD_eq_getElem?_getD]
 rw [List.getElem?_set_ne h]
end Go.Proofs.YtggdgcmjcahbbaaGreatDoor
