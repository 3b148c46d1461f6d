/-
  Several texts as one: WAwake, WChosen, WAffects, TSmall.
-/
import Derived.Test.YtkmbenhffledpaaGreatMW9
import Derived.Test.YtkmbenhffledpaaGreatMSlB
set_option linter.unusedSimpArgs false
set_option linter.unusedVariables false
/-
  The example with which each statement begins: 'example' and 'awake'.
-/
namespace Go.Proofs.YtkmbenhffledpaaGreat
open Go.Sl Go
attribute [local irreducible] vc opsW opsD opV opW PureV ReadV Thn Blk
theorem qiC {vars:List Int}(hd:∀ x∈vars,1≤x):∀ (m:Nat) (q:List Int),m≤vars.length→InV vars q→(∀ v∈q,v<m)→cntL vars q≤prodL (vars.take m)
 | 0,q,_,hq,hm=>by
  cases q with
  | nil=>simp [cntL,valsL,prodL]
  | cons v q=>have:=hm v (by simp);have:=(hq.mem v (by simp)).1;omega
 | m+1,q,hl,hq,hm=>by
  have hml:m<vars.length:=by omega
  have hx:1≤vars.getD m tInt.dflt:=hd _ (qak _ hml)
  have hp:1≤prodL (vars.take m):=qbW fun x hx=>hd x (List.mem_of_mem_take hx)
  rw [qan tInt.dflt hml,qbq]
  rcases List.eq_nil_or_concat q with rfl|⟨l,v,rfl⟩
  ·have:cntL vars []=1:=rfl
   have:=Int.mul_le_mul hp hx (by omega) (by omega)
   omega
  ·simp only [List.concat_eq_append] at hq hm ⊢
   obtain⟨hl',⟨hv0,hv1⟩,hvl⟩:=hq.init
   have hlt:∀ u∈l,u<v:=fun u hu=>(List.pairwise_append.1 hq.asc).2.2 u hu v (by simp)
   have hvm:=hm v (by simp)
   by_cases e:v=m
   ·subst e
    have ih:=qiC hd m l (by omega) hl' fun u hu=>hlt u hu
    rw [qfP,sg_of]
    exact Int.mul_le_mul_of_nonneg_right ih (by omega)
   ·have ih:=qiC hd m (l++[v]) (by omega) hq fun u hu=>by
     rcases List.mem_append.1 hu with h|h
     ·have:=hlt u h;omega
     ·rw [List.mem_singleton.1 h];omega
    have h2:prodL (vars.take m)*1≤prodL (vars.take m)*vars.getD m tInt.dflt:=Int.mul_le_mul_of_nonneg_left hx (by omega)
    omega
theorem qkP {vars q:List Int}(hd:∀ x∈vars,1≤x) (hq:InV vars q):cntL vars q≤prodL vars:=by
 have:=qiC hd vars.length q (Nat.le_refl _) hq fun v hv=>(hq.mem v hv).2
 rwa [List.take_length] at this
theorem noBig {t:TTask}{p:List Int}(hd:∀ x∈t.vars,1≤x) (h:prodL t.vars≤4096):¬BigFree t p:=fun⟨op,_,h2⟩=>by
 have:=qkP hd (qcZ t.vars (opT t op) p)
 unfold frL at h2
 omega
instance (vars s:List Int):Decidable (StateOk vars s):=by unfold StateOk;infer_instance
instance (vars:List Int) (x:Fact):Decidable (FactOk vars x):=by unfold FactOk;infer_instance
instance (vars:List Int) (f:List Fact):Decidable (FactsOk vars f):=by unfold FactsOk;infer_instance
end Go.Proofs.YtkmbenhffledpaaGreat
/-
  Contracts of the laws' helpers 'chosen', 'few' and of the reference's 'Many', 'Index'; of 'project.Index'.
-/
namespace Go.Proofs.YtkmbenhffledpaaGreat
open Go.Sl Go
attribute [local irreducible] vc opsW opsD opV opW PureV ReadV Thn Blk
theorem qoi (k:Nat):upTo ((k+1:Nat):Int)=upTo (k:Int)++[(k:Int)]:=by simp [upTo,List.range_succ]
end Go.Proofs.YtkmbenhffledpaaGreat
/-
  Contract of 'project.Affects'.
-/
namespace Go.Proofs.YtkmbenhffledpaaGreat
open Go.Sl Go
attribute [local irreducible] vc opsW opsD opV opW PureV ReadV Thn Blk
def AffOf (t:TTask) (L:List Int) (i:Nat):Prop:=∃ e∈(t.ops.getD i dOp).effs,e.var∈L
instance (t:TTask) (L:List Int) (i:Nat):Decidable (AffOf t L i):=by unfold AffOf;infer_instance
end Go.Proofs.YtkmbenhffledpaaGreat
/-
  A small task's projections are within the limits.
-/
namespace Go.Proofs.YtkmbenhffledpaaGreat
open Go.Sl Go
theorem qjs {α:Type} [DecidableEq α] {l:List α}:∀ {m:List α},l.Nodup→(∀ x∈l,x∈m)→l.length≤m.length:=by
 induction l with
 | nil=>intro m _ _;simp
 | cons x l ih =>
  intro m hn hs
  rw [List.nodup_cons] at hn
  have hx:=hs x (by simp)
  have h1:=ih (m:=m.erase x) hn.2 fun y hy=>by
   have hne:y≠x:=fun e=>hn.1 (by rw [←e];exact hy)
   exact (List.mem_erase_of_ne hne).2 (hs y (by simp [hy]))
  rw [List.length_erase_of_mem hx] at h1
  have:=List.length_pos_of_mem hx
  simp only [List.length_cons];omega
def belowI {α:Type}(g:α→Int) (l:List α) (n:Nat):Nat:=(l.filter fun s=>decide (0≤g s∧g s<n)).length
def atI {α:Type}(g:α→Int) (l:List α) (n:Nat):Nat:=(l.filter fun s=>decide (g s=n)).length
theorem qhn {α:Type}(g:α→Int) (n:Nat):∀ l:List α,belowI g l (n+1)=belowI g l n+atI g l n
 | []=>rfl
 | x::l=>by
  have ih:=qhn g n l
  simp only [belowI,atI,List.filter_cons] at ih ⊢
  by_cases h1:0≤g x∧g x<(n:Int)
  ·rw [if_pos (by simp;omega),if_pos (by simpa using h1),if_neg (by simp;omega)]
   simp only [List.length_cons];omega
  ·by_cases h2:g x=(n:Int)
   ·rw [if_pos (by simp;omega),if_neg (by simpa using h1),if_pos (by simpa using h2)]
    simp only [List.length_cons];omega
   ·rw [if_neg (by simp;omega),if_neg (by simpa using h1),if_neg (by simpa using h2)]
    exact ih
theorem qsu (t:TTask) (p:List Int) (a:Nat) (op:Nat):(tgtL t p a op).length≤atI (idxL t.vars p) (statesL t.vars) a:=by
 have h1:=qjs (l:=tgtL t p a op) (m:=((statesL t.vars).filter fun s=>decide (idxL t.vars p s=(a:Int))).map fun s=>idxL t.vars p (succT t s op)) ((qfQ _ _).imp fun h e=>by omega) fun b hb=>by
  obtain⟨_,s,hs,ha,_,hb⟩:=qbO.1 hb
  exact List.mem_map.2 ⟨s,List.mem_filter.2 ⟨qca.2 hs,by simpa using ha⟩,hb⟩
 simpa [atI] using h1
theorem qoj (t:TTask) (p:List Int) (a:Nat):∀ j,(edgO t p a j).length≤j*atI (idxL t.vars p) (statesL t.vars) a
 | 0=>by simp [edgO]
 | j+1=>by
  have h1:=qoj t p a j
  have h2:=qsu t p a j
  rw [qd2,List.length_append,qh5,Nat.succ_mul];omega
theorem qok (t:TTask) (p:List Int):∀ k,(edgA t p k).length≤t.ops.length*belowI (idxL t.vars p) (statesL t.vars) k
 | 0=>by simp [edgA]
 | k+1=>by
  have h1:=qok t p k
  have h2:=qoj t p k t.ops.length
  rw [qd3,List.length_append,qhn,Nat.mul_add];omega
theorem qol (t:TTask) (p:List Int):(pEdges t p).length≤t.ops.length*(statesL t.vars).length :=
 Nat.le_trans (qok t p _) (Nat.mul_le_mul_left _ (List.length_filter_le _ _))
theorem qjt {t:TTask}{p:List Int}(h:SmallT t) (hp:InV t.vars p):pErr t p=0∧chkP t p=0:=by
 have hc:=qfT.2 ⟨h.good,hp.pat⟩
 have h1:=qkP h.good.pos hp
 have h2:=h.many
 have h3:=qol t p
 have h4:(statesL t.vars).length≤512:=by rw [qaK h.good.pos];omega
 have h5:t.ops.length*(statesL t.vars).length≤20*512:=Nat.mul_le_mul h.ops h4
 refine⟨?_,hc⟩
 rw [qkx hc,pErr0,if_neg (by omega),if_neg (noBig h.good.pos (by omega)),if_neg (by omega)]
end Go.Proofs.YtkmbenhffledpaaGreat
