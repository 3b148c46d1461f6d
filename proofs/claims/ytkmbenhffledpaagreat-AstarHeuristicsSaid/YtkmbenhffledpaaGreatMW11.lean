/-
  Several texts as one: TLaw5, TNarrow, TPdb, TIda3.
-/
import Derived.Test.YtkmbenhffledpaaGreatMW10
import Derived.Test.YtkmbenhffledpaaGreatMW9
import Derived.Test.YtkmbenhffledpaaGreatMTA
set_option linter.unusedSimpArgs false
set_option linter.unusedVariables false
/-
  Plain facts for the statement 'ProjectAffects', and two steps for reads that are looked at again under a guard.
-/
namespace Go.Proofs.YtkmbenhffledpaaGreat
open Go.Sl Go
theorem qhZ (t:TTask) (L:List Int):sysE t L 0=sysOk t L:=if_pos rfl
theorem qnL (t:TTask) (L:List Int) (cv ev gv:Value):sysV (sysOk t L) cv ev gv=.agg #[.int .i64 (cntL t.vars L),.int .i64 (idxL t.vars L t.init),cv,ev,gv]:=rfl
end Go.Proofs.YtkmbenhffledpaaGreat
/-
  Projections of projections, in plain Lean.
-/
namespace Go.Proofs.YtkmbenhffledpaaGreat
open Go.Sl Go
section
variable {t:TTask}{p q:List Int}
end
theorem getD_set_ne {l:List Int}{i j:Nat}{v:Int}(h:i≠j):(l.set i v).getD j tInt.dflt=l.getD j tInt.dflt:=by
 simp only [List.getD_eq_getElem?_getD]
 rw [List.getElem?_set_ne h]
end Go.Proofs.YtkmbenhffledpaaGreat
/-
  Plain facts about tables of least costs: least walks are short, other costs, saturated costs, wider patterns.
-/
namespace Go.Proofs.YtkmbenhffledpaaGreat
open Go.Sl Go
section
variable {E:List Edg}{c c':List Int}{G:Int→Prop}{n:Nat}{D D':List Int}{C:Int}
inductive WalkIn (E:List Edg) (c:List Int) (G:Int→Prop) (S:List Int):Int→Int→Prop
 | goal {a:Int}:a∈S→G a→WalkIn E c G S a 0
 | step {e:Edg}{k:Int}:e∈E→e.src∈S→WalkIn E c G S e.dst k→WalkIn E c G S e.src (cst c e+k)
def outA (a:Int) (S:List Int):List Int:=S.filter fun x=>decide (x≠a)
theorem qh0 {a x:Int}{S:List Int}:x∈outA a S↔x∈S∧x≠a:=by simp [outA]
theorem qqd {a:Int}{S:List Int}(h:a∈S):(outA a S).length<S.length:=by
 unfold outA
 rw [List.length_filter_lt_length_iff_exists]
 exact⟨a,h,by simp⟩
theorem qjg (hE:EOk E c n) {S:List Int}(a:Int) {x k:Int}(h:WalkIn E c G S x k) :
  WalkIn E c G (outA a S) x k∨G a∨∃ e k',e∈E∧e.src=a∧WalkIn E c G (outA a S) e.dst k'∧cst c e+k'≤k:=by
 induction h with
 | @goal b hb hg =>
  by_cases e:b=a
  ·subst e;exact .inr (.inl hg)
  ·exact .inl (.goal (qh0.2 ⟨hb,e⟩) hg)
 | @step e k he hs _ ih =>
  have hc:=(hE.cst he).1
  rcases ih with ih|ih|⟨e',k',h1,h2,h3,h4⟩
  ·by_cases ea:e.src=a
   ·exact .inr (.inr ⟨e,k,he,ea,ih,Int.le_refl _⟩)
   ·exact .inl (.step he (qh0.2 ⟨hs,ea⟩) ih)
  ·exact .inr (.inl ih)
  ·exact .inr (.inr ⟨e',k',h1,h2,h3,by omega⟩)
theorem WalkIn.walk {S:List Int}{x k:Int}(h:WalkIn E c G S x k):x∈S∧Walk E c G x k:=by
 induction h with
 | goal h hg=>exact⟨h,.goal hg⟩
 | step he hs _ ih=>exact⟨hs,.step he ih.2⟩
theorem Walk.within (hE:EOk E c n) {x k:Int}(h:Walk E c G x k):0≤x→x<n→WalkIn E c G (upTo (n:Int)) x k:=by
 induction h with
 | goal hg=>intro h0 h1;exact .goal (qic.2 ⟨h0,h1⟩) hg
 | step he _ ih=>intro h0 h1;have:=hE.dst _ he;exact .step he (qic.2 ⟨h0,h1⟩) (ih this.1 this.2)
theorem qe2 (hE:EOk E c n) (h0:0≤C) (hC:∀ x∈c,x≤C):∀ (m:Nat) (S:List Int),S.length≤m→∀ x k,WalkIn E c G S x k→∃ k',k'≤k∧k'≤m*C∧Walk E c G x k'
 | 0,S,hl,x,k,h=>by
  have:=h.walk.1
  have:S=[]:=List.eq_nil_of_length_eq_zero (by omega)
  subst this;simp at *
 | m+1,S,hl,x,k,h=>by
  have hx:=h.walk.1
  have hk:=h.walk.2.nonneg hE
  have hm:0≤(m:Int)*C:=Int.mul_nonneg (by omega) h0
  have e1:((m+1:Nat):Int)*C=(m:Int)*C+C:=by rw [Int.natCast_add,Int.add_mul];simp
  rcases qjg hE x h with h1|h1|⟨e,k',he,hs,hw,hle⟩
  ·exact absurd rfl (qh0.1 h1.walk.1).2
  ·exact⟨0,hk,by omega,.goal h1⟩
  ·obtain⟨k2,a1,a2,a3⟩:=qe2 hE h0 hC m (outA x S) (by have:=qqd hx;omega) _ _ hw
   have hc:cst c e≤C:=hC _ (qak tInt.dflt (by have:=hE.lab e he;omega))
   exact⟨cst c e+k2,by omega,by omega,hs ▸ .step he a3⟩
theorem DistOk.short (hE:EOk E c n) (h0:0≤C) (hC:∀ x∈c,x≤C) (h:DistOk E c G n D) {i:Nat}{k:Int}(hi:i<n) (hw:Walk E c G i k):dg D i≤n*C:=by
 obtain⟨k',_,h2,h3⟩:=qe2 hE h0 hC n (upTo (n:Int)) (by simp [upTo]) _ _ (hw.within hE (by omega) (by omega))
 exact Int.le_trans (h.low i hi _ h3) h2
theorem DistOk.fin (hE:EOk E c n) (h0:0≤C) (hC:∀ x∈c,x≤C) (hB:n*C<inf) (h:DistOk E c G n D) {i:Nat}(hi:i<n):dg D i<inf↔∃ k,Walk E c G i k :=
 ⟨fun hl=>⟨_,h.att i hi hl⟩,fun⟨_,hw⟩=>by have:=h.short hE h0 hC hi hw;omega⟩
theorem DistOk.bound (hE:EOk E c n) (h0:0≤C) (hC:∀ x∈c,x≤C) (h:DistOk E c G n D) {i:Nat}(hi:i<n) (hl:dg D i<inf):dg D i≤n*C:=h.short hE h0 hC hi (h.att i hi hl)
def satStep (D l:List Int) (e:Edg):List Int:=if dg D e.src<inf∧dg D e.dst<inf then l.set e.lab.toNat (if dg D e.src-dg D e.dst>cst l e then dg D e.src-dg D e.dst else cst l e) else l
def satK (E:List Edg) (D:List Int) (m k:Nat):List Int:=(E.take k).foldl (satStep D) (List.replicate m 0)
def satL (E:List Edg) (D:List Int) (m:Nat):List Int:=satK E D m E.length
theorem qnQ (E:List Edg) (D:List Int) (m:Nat):satK E D m 0=List.replicate m 0:=rfl
theorem qfJ {m k:Nat}(hk:k<E.length):satK E D m (k+1)=satStep D (satK E D m k) (E.getD k tEdg.dflt):=by
 rw [satK,qan tEdg.dflt hk,List.foldl_append];rfl
theorem qku (D l:List Int) (e:Edg):(satStep D l e).length=l.length:=by unfold satStep;split <;> simp
theorem qh1 {m:Nat}:∀ k,k≤E.length→(satK E D m k).length=m
 | 0,_=>by simp [satK]
 | k+1,h=>by rw [qfJ (by omega),qku,qh1 k (by omega)]
theorem qqe {m:Nat}:(satL E D m).length=m:=qh1 _ (Nat.le_refl _)
structure SatOk (E:List Edg) (D:List Int) (m:Nat) (l:List Int):Prop where
 len:l.length=m
 nn:∀ i:Nat,i<m→0≤l.getD i tInt.dflt
 low:∀ e∈E,dg D e.src<inf→dg D e.dst<inf→dg D e.src-dg D e.dst≤cst l e
 att:∀ i:Nat,i<m→l.getD i tInt.dflt=0∨∃ e∈E,e.lab=i∧dg D e.src<inf∧dg D e.dst<inf∧l.getD i tInt.dflt=dg D e.src-dg D e.dst
theorem qnR {m:Nat}(hlab:∀ e∈E,0≤e.lab∧e.lab<m):∀ k,k≤E.length→SatOk (E.take k) D m (satK E D m k)
 | 0,_=>⟨by simp [satK],fun i hi=>by simp [satK,List.getD,hi],fun e he=>by simp at he,fun i hi=>.inl (by simp [satK,List.getD,hi])⟩
 | k+1,h=>by
  have hk:k<E.length:=by omega
  obtain⟨h1,h2,h3,h4⟩:=qnR hlab k (by omega)
  have he:=qak tEdg.dflt hk
  have hl:=hlab _ he
  rw [qfJ hk,qan tEdg.dflt hk]
  generalize satK E D m k=l at h1 h2 h3 h4
  generalize E.getD k tEdg.dflt=e at he hl
  have hg:∀ (i:Int) (v:Int),0≤i→(l.set e.lab.toNat v).getD i.toNat tInt.dflt=if i=e.lab then v else l.getD i.toNat tInt.dflt:=fun i v hi=>qhM hi hl.1 (by omega)
  unfold satStep
  split
  ·rename_i hf
   have hmono:∀ i:Int,0≤i→l.getD i.toNat tInt.dflt≤(l.set e.lab.toNat (if dg D e.src-dg D e.dst>cst l e then dg D e.src-dg D e.dst else cst l e)).getD i.toNat tInt.dflt:=by
    intro i hi
    rw [hg i _ hi]
    split
    ·rename_i ei;subst ei;show cst l e≤_;split <;> omega
    ·exact Int.le_refl _
   refine⟨by rw [List.length_set];exact h1,fun i hi => ?_,fun e' he' a b => ?_,fun i hi => ?_⟩
   ·have:=hmono i (by omega);rw [Int.toNat_natCast] at this;have:=h2 i hi;omega
   ·rcases List.mem_append.1 he' with he'|he'
    ·have hl':=hlab e' (List.mem_of_mem_take he')
     exact Int.le_trans (h3 e' he' a b) (hmono e'.lab hl'.1)
    ·rw [List.mem_singleton.1 he']
     show _≤(l.set e.lab.toNat _).getD e.lab.toNat tInt.dflt
     rw [hg _ _ hl.1,if_pos rfl];split <;> omega
   ·have hgi:=hg i (if dg D e.src-dg D e.dst>cst l e then dg D e.src-dg D e.dst else cst l e) (by omega)
    rw [Int.toNat_natCast] at hgi
    rw [hgi]
    split
    ·rename_i ei
     split
     ·exact .inr ⟨e,by simp,ei.symm,hf.1,hf.2,rfl⟩
     ·have e1:cst l e=l.getD i tInt.dflt:=by show l.getD e.lab.toNat tInt.dflt=_;rw [←ei];rfl
      rw [e1]
      rcases h4 i hi with h|⟨e',a,b⟩
      ·exact .inl h
      ·exact .inr ⟨e',List.mem_append_left _ a,b⟩
    ·rcases h4 i hi with h|⟨e',a,b⟩
     ·exact .inl h
     ·exact .inr ⟨e',List.mem_append_left _ a,b⟩
  ·rename_i hf
   refine⟨h1,h2,fun e' he' a b => ?_,fun i hi => ?_⟩
   ·rcases List.mem_append.1 he' with he'|he'
    ·exact h3 e' he' a b
    ·rw [List.mem_singleton.1 he'] at a b;exact absurd ⟨a,b⟩ hf
   ·rcases h4 i hi with h|⟨e',a,b⟩
    ·exact .inl h
    ·exact .inr ⟨e',List.mem_append_left _ a,b⟩
theorem qnS {m:Nat}(hlab:∀ e∈E,0≤e.lab∧e.lab<m):SatOk E D m (satL E D m):=by
 have:=qnR (D:=D) hlab E.length (Nat.le_refl _)
 rwa [List.take_length] at this
theorem SatOk.le {l:List Int}(hE:EOk E c n) (hd:DistOk E c G n D) (hs:SatOk E D c.length l) {i:Nat}(hi:i<c.length):0≤l.getD i tInt.dflt∧l.getD i tInt.dflt≤c.getD i tInt.dflt:=by
 refine⟨hs.nn i hi,?_⟩
 rcases hs.att i hi with h|⟨e,he,hl,h1,h2,h3⟩
 ·rw [h];exact (hE.cost _ (qak _ hi)).1
 ·rw [h3]
  have:=hd.stab hE he h2
  have e1:cst c e=c.getD i tInt.dflt:=by show c.getD e.lab.toNat tInt.dflt=_;rw [hl];rfl
  omega
end
theorem qnT {t:TTask}{L c D:List Int}(hL:InV t.vars L) (h:DistOk (pEdges t L) c (GoalPK t L) (cntL t.vars L).toNat D) {s:List Int}(hs:StateOk t.vars s) (hh:HoldFs s t.goal):dg D (idxL t.vars L s)=0:=by
 have hb:=qaF hs hL.mem
 have:=h.goal (i:=(idxL t.vars L s).toNat) (by omega) (by rw [Int.toNat_of_nonneg hb.1];exact qpu hL hs hh)
 rwa [Int.toNat_of_nonneg hb.1] at this
theorem qnU {t:TTask}{L c D:List Int}(hL:InV t.vars L) (h:DistOk (pEdges t L) c (GoalPK t L) (cntL t.vars L).toNat D) {s:List Int}(hs:StateOk t.vars s):0≤dg D (idxL t.vars L s)∧dg D (idxL t.vars L s)≤inf:=by
 have hb:=qaF hs hL.mem
 have:=h.rng (idxL t.vars L s).toNat (by omega)
 rwa [Int.toNat_of_nonneg hb.1] at this
end Go.Proofs.YtkmbenhffledpaaGreat
/-
  IDA* with a table of values, in plain Lean: plans and least costs, admissible tables, the bounds of the rounds.
-/
namespace Go.Proofs.YtkmbenhffledpaaGreat
open Go.Sl
section
variable {t:TTask}
theorem qbQ (t:TTask):(costsT t).length=t.ops.length:=by simp [costsT]
theorem qc7 (hg:GoodT t):∀ x∈costsT t,0≤x∧x≤1048576:=fun x hx=>by
 obtain⟨i,hi,rfl⟩:=List.getElem_of_mem hx
 have hi':i<t.ops.length:=by rw [qbQ] at hi;exact hi
 rw [←qaj (d:=tInt.dflt) hi,qbi hi']
 exact⟨(hg.op i hi').cost0,(hg.op i hi').cost1⟩
theorem qqy (hg:GoodT t) {s p:List Int}{c:Int}(h:Pln t s p c):StateOk t.vars s→(Walk (edgesT t) (costsT t) (GoalS t)) (rankL t.vars s) c:=by
 induction h with
 | @goal s hh =>
  intro hs
  refine .goal ?_
  unfold GoalS
  rw [(qcs hg.pos hs).2]
  exact hh
 | @step s op p c ho ha _ ih =>
  intro hs
  have hs2:=qaZ hg hs ho
  have h1:=ih hs2
  have hr:=qcs hg.pos hs
  have hb:=qaQ hs
  have hm:(⟨((rankL t.vars s).toNat:Int),(op:Int),rankL t.vars (succT t s op)⟩:Edg)∈edgesT t:=qeA.2 ⟨(rankL t.vars s).toNat,op,hr.1,ho,by rw [hr.2];exact ha,by rw [hr.2]⟩
  have h2:=Walk.step hm h1
  simp only [cst,Int.toNat_natCast,qbi ho] at h2
  rwa [Int.toNat_of_nonneg hb.1] at h2
theorem qqz (hg:GoodT t) {i k:Int}(hw:(Walk (edgesT t) (costsT t) (GoalS t)) i k):0≤i→i<(statesL t.vars).length→∃ p,Pln t ((statesL t.vars).getD i.toNat []) p k:=by
 induction hw with
 | @goal a hh=>exact fun _ _=>⟨[],.goal hh⟩
 | @step e k he _ ih =>
  intro h0 h1
  obtain⟨i,op,hi,ho,ha,rfl⟩:=qeA.1 he
  have hst:=(qdm hg.pos hi).1
  have hs2:=qaZ hg hst ho
  have hr:=qcs hg.pos hs2
  have hb:=qaQ hs2
  obtain⟨p,hp⟩:=ih hb.1 (by simp only;omega)
  simp only [hr.2] at hp
  refine⟨(op:Int)::p,?_⟩
  simp only [Int.toNat_natCast,cst,qbi ho]
  exact .step ho ha hp
structure Least (t:TTask) (s:List Int) (b:Int):Prop where
 le:b≤inf
 nn:0≤b
 att:b<inf→∃ p,Pln t s p b
 low:∀ p c,Pln t s p c→b≤c∧b<inf
theorem qqA (hg:GoodT t) {D:List Int}(hl:(statesL t.vars).length≤512) (hD:DistOk (edgesT t) (costsT t) (GoalS t) (statesL t.vars).length D) {s:List Int}(hs:StateOk t.vars s):Least t s (D.getD (rankL t.vars s).toNat tInt.dflt):=by
 have hr:=qcs hg.pos hs
 have hb:=qaQ hs
 have hE:EOk (edgesT t) (costsT t) (statesL t.vars).length:=eok_T hg ⟨qbQ t,fun x hx=>by have:=qc7 hg x hx;omega⟩
 have e:dg D ((rankL t.vars s).toNat:Int)=D.getD (rankL t.vars s).toNat tInt.dflt:=by unfold dg;rw [Int.toNat_natCast]
 have hrg:=hD.rng _ hr.1
 rw [e] at hrg
 refine⟨hrg.2,hrg.1,fun h => ?_,fun p c hp => ?_⟩
 ·have h1:=hD.att _ hr.1 (by rw [e];exact h)
  rw [e] at h1
  obtain⟨p,hp⟩:=qqz hg h1 (by omega) (by omega)
  rw [Int.toNat_natCast,hr.2] at hp
  exact⟨p,hp⟩
 ·have hw:=qqy hg hp hs
  have h1:dg D ((rankL t.vars s).toNat:Int)≤c:=hD.low _ hr.1 c (by rw [Int.toNat_of_nonneg hb.1];exact hw)
  have h2:=(hD.fin hE (C:=1048576) (by decide) (fun x hx=>(qc7 hg x hx).2) (by have e2:inf=1125899906842624:=rfl;omega) hr.1).2 ⟨c,by rw [Int.toNat_of_nonneg hb.1];exact hw⟩
  rw [e] at h1 h2
  exact⟨h1,h2⟩
variable {H:List Int→Int}{lim:Nat}
end
end Go.Proofs.YtkmbenhffledpaaGreat
