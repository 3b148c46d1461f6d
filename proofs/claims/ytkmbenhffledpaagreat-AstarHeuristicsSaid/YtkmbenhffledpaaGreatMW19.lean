/-
  Several texts as one: TCut4, WLm1, WLm2, TCut5.
-/
import Derived.Test.YtkmbenhffledpaaGreatMW18
import Derived.Test.YtkmbenhffledpaaGreatMW2
import Derived.Test.YtkmbenhffledpaaGreatMSlB
import Derived.Test.YtkmbenhffledpaaGreatMW1
import Derived.Test.YtkmbenhffledpaaGreatMW6
import Derived.Test.YtkmbenhffledpaaGreatMW15
set_option linter.unusedSimpArgs false
set_option linter.unusedVariables false
/-
  LM-cut's values by going down, in plain Lean; the greatest fact as a function.
-/
namespace Go.Proofs.YtkmbenhffledpaaGreat
open Go.Sl
def grtS (V:List Int) (o f:Int):Int:=if o<0∨dg V o<dg V f∨(dg V f=dg V o∧f<o) then f else o
def grtI (V l:List Int):Int:=l.foldl (grtS V) (-1)
theorem qjR (V l:List Int) (f:Int):grtI V (l++[f])=grtS V (grtI V l) f:=by simp [grtI]
theorem qcP {V:List Int}:∀ {l:List Int},(∀ f∈l,0≤f)→(l=[]∧grtI V l = -1)∨(0≤grtI V l∧GrtF V l (grtI V l)):=by
 intro l
 refine qaC (P:=fun l=>(∀ f∈l,0≤f)→(l=[]∧grtI V l = -1)∨(0≤grtI V l∧GrtF V l (grtI V l))) (fun _=>.inl ⟨rfl,rfl⟩) ?_ l
 intro l f ih h
 right
 have hf:=h f (by simp)
 rw [qjR]
 rcases ih fun g hg=>h g (by simp [hg]) with ⟨e,h1⟩|⟨h0,h1,h2⟩
 ·rw [h1,e]
  have:grtS V (-1) f=f:=if_pos (.inl (by decide))
  rw [this]
  exact⟨hf,by simp,fun g hg=>by
   have:g=f:=by simpa using hg
   rw [this];exact .inr ⟨rfl,Int.le_refl _⟩⟩
 ·unfold grtS
  split
  ·rename_i hc
   refine⟨hf,by simp,fun g hg => ?_⟩
   rcases List.mem_append.1 hg with hg|hg
   ·rcases h2 g hg with h3|h3 <;> omega
   ·rw [List.mem_singleton.1 hg];exact .inr ⟨rfl,Int.le_refl _⟩
  ·rename_i hc
   refine⟨h0,by simp [h1],fun g hg => ?_⟩
   rcases List.mem_append.1 hg with hg|hg
   ·exact h2 g hg
   ·rw [List.mem_singleton.1 hg];omega
def hiV (V l:List Int):Int:=if grtI V l<0 then 0 else dg V (grtI V l)
theorem qe8 {V l:List Int}(hl:∀ f∈l,0≤f∧0≤dg V f) {b:Int}(hb:0≤b):hiV V l≤b↔∀ f∈l,dg V f≤b:=by
 unfold hiV
 rcases qcP (V:=V) (l:=l) fun f hf=>(hl f hf).1 with ⟨e,h1⟩|⟨h0,h1⟩
 ·rw [h1,if_pos (by decide),e]
  exact⟨fun _ f hf=>absurd hf List.not_mem_nil,fun _=>hb⟩
 ·rw [if_neg (by omega)]
  exact⟨fun h f hf=>Int.le_trans (h1.ge hf) h,fun h=>h _ h1.1⟩
theorem qe9 {V l:List Int}(hl:∀ f∈l,0≤f∧0≤dg V f):0≤hiV V l:=by
 unfold hiV
 rcases qcP (V:=V) (l:=l) fun f hf=>(hl f hf).1 with ⟨_,h1⟩|⟨h0,h1⟩
 ·rw [h1,if_pos (by decide)];exact Int.le_refl _
 ·rw [if_neg (by omega)];exact (hl _ h1.1).2
theorem qkL {V l:List Int}(hl:∀ f∈l,0≤f∧0≤dg V f):hiV V l<inf↔FinN V l:=by
 have h:=qe8 (V:=V) hl (b:=inf-1) (by decide)
 unfold FinN
 constructor
 ·intro h1 g hg;have:=h.1 (by omega) g hg;omega
 ·intro h1;have:=h.2 fun g hg=>by have:=h1 g hg;omega
  omega
theorem qdu {V:List Int}{b:Int}:∀ {l:List Int}{a:Int},l.foldl (fun m n=>max m (dg V n)) a≤b↔a≤b∧∀ f∈l,dg V f≤b
 | [],a=>by simp
 | x::l,a=>by
  rw [List.foldl_cons,qdu (l:=l)]
  constructor
  ·rintro⟨h1,h2⟩
   have h3:=Int.max_le.1 h1
   exact⟨h3.1,fun f hf=>by
    rcases List.mem_cons.1 hf with e|hf
    ·rw [e];exact h3.2
    ·exact h2 f hf⟩
  ·rintro⟨h1,h2⟩
   exact⟨Int.max_le.2 ⟨h1,h2 x List.mem_cons_self⟩,fun f hf=>h2 f (List.mem_cons_of_mem _ hf)⟩
theorem qoQ {V l:List Int}(hl:∀ f∈l,0≤f∧0≤dg V f):hiV V l=l.foldl (fun m n=>max m (dg V n)) 0:=by
 refine Int.le_antisymm ?_ ?_
 ·have h0:(0:Int)≤l.foldl (fun m n=>max m (dg V n)) 0:=(qdu.1 (Int.le_refl _)).1
  exact (qe8 hl h0).2 (qdu.1 (Int.le_refl _)).2
 ·exact qdu.2 ⟨qe9 hl,(qe8 hl (qe9 hl)).1 (Int.le_refl _)⟩
def SameM (l m:List Int):Prop:=∀ x,x∈l↔x∈m
theorem qoR {V l m:List Int}(h:SameM l m) {f:Int}:GrtF V l f↔GrtF V m f:=by
 unfold GrtF;rw [h f]
 exact⟨fun⟨a,b⟩=>⟨a,fun g hg=>b g ((h g).2 hg)⟩,fun⟨a,b⟩=>⟨a,fun g hg=>b g ((h g).1 hg)⟩⟩
theorem qlX {l m:List Int}(h:SameM l m):l=[]↔m=[]:=by
 constructor
 ·intro e;subst e
  cases m with
  | nil=>rfl
  | cons x m=>exact absurd ((h x).2 List.mem_cons_self) List.not_mem_nil
 ·intro e;subst e
  cases l with
  | nil=>rfl
  | cons x l=>exact absurd ((h x).1 List.mem_cons_self) List.not_mem_nil
structure LVI (t:TTask) (z D:List Int):Prop where
 len:D.length=factN t
 rng:∀ g:Int,0≤g→g<factN t→0≤dg D g∧dg D g≤inf
 der:∀ g:Int,0≤g→g<factN t→dg D g<inf→Der (unT t) (StF t.vars z) g (dg D g)
 st:∀ g,StF t.vars z g→dg D g≤0
section
variable {t:TTask}{z D:List Int}
theorem LVI.need (h:LVI t z D) (hg:GoodT t) {i:Nat}(hi:i<(unT t).length) {L:List Int}(hL:SameM L (un (unT t) i).needs):∀ f∈L,(0≤f∧0≤dg D f)∧f<factN t:=fun f hf=>by
 have hr:=(qbR hg).needs i hi f ((hL f).1 hf)
 exact⟨⟨hr.1,(h.rng f hr.1 hr.2).1⟩,hr.2⟩
theorem LVI.relax (h:LVI t z D) (hg:GoodT t) {i:Nat}(hi:i<(unT t).length) {L:List Int}(hL:SameM L (un (unT t) i).needs) (h1:hiV D L<inf) (h2:hiV D L+(un (unT t) i).cost<dg D (un (unT t) i).makes) :
  LVI t z (D.set (un (unT t) i).makes.toNat (hiV D L+(un (unT t) i).cost))∧sumD (D.set (un (unT t) i).makes.toNat (hiV D L+(un (unT t) i).cost))<sumD D:=by
 have hU:=qbR hg
 have hm:=hU.makes i hi
 have hc:=hU.cost i hi
 have hn:=fun f hf=>(h.need hg hi hL f hf).1
 have hnn:=qe9 hn
 have hfin:=(qkL hn).1 h1
 have hle:=(qe8 hn hnn).1 (Int.le_refl _)
 have hlen:=h.len
 have hr:=h.rng _ hm.1 hm.2
 have hd:Der (unT t) (StF t.vars z) (un (unT t) i).makes ((un (unT t) i).cost+hiV D L):=.fire (v:=fun n=>dg D n) hi hnn (fun n hn'=>by
  have h3:=(hL n).2 hn'
  have h4:=hU.needs i hi n hn'
  exact h.der n h4.1 h4.2 (hfin n h3)) fun n hn'=>hle n ((hL n).2 hn')
 rw [Int.add_comm] at hd
 have hset:∀ g:Int,0≤g→dg (D.set (un (unT t) i).makes.toNat (hiV D L+(un (unT t) i).cost)) g=if g=(un (unT t) i).makes then hiV D L+(un (unT t) i).cost else dg D g:=fun g h0=>qhM h0 hm.1 (by omega)
 refine⟨⟨by rw [List.length_set];exact hlen,fun g h0 h1' => ?_,fun g h0 h1' h3 => ?_,fun g hs => ?_⟩,qiU (by omega) (by simp only [dg] at *;omega)⟩
 ·rw [hset g h0]
  split
  ·omega
  ·exact h.rng g h0 h1'
 ·rw [hset g h0] at h3 ⊢
  split
  ·rename_i e;rw [e];exact hd
  ·rename_i e;rw [if_neg e] at h3;exact h.der g h0 h1' h3
 ·by_cases h0:0≤g
  ·rw [hset g h0]
   have h5:=h.st g hs
   split
   ·rename_i e;rw [←e] at h2;omega
   ·exact h5
  ·have h5:=h.st g hs
   have e1:dg (D.set (un (unT t) i).makes.toNat (hiV D L+(un (unT t) i).cost)) g=dg (D.set (un (unT t) i).makes.toNat (hiV D L+(un (unT t) i).cost)) 0:=by unfold dg;rw [show g.toNat=(0:Int).toNat by omega]
   have e2:dg D g=dg D 0:=by unfold dg;rw [show g.toNat=(0:Int).toNat by omega]
   rw [e2] at h5
   rw [e1,hset 0 (Int.le_refl _)]
   split
   ·rename_i e;rw [←e] at h2;omega
   ·exact h5
theorem LVI.fin (h:LVI t z D) (hg:GoodT t) (hst:∀ i:Nat,i<(unT t).length→hiV D (un (unT t) i).needs<inf→dg D (un (unT t) i).makes≤hiV D (un (unT t) i).needs+(un (unT t) i).cost):IsHM t z D:=by
 have hU:=qbR hg
 refine qgo h.len h.rng hU h.st (fun i hi => ?_) h.der
 have hn:=fun f hf=>(h.need hg hi (L:=(un (unT t) i).needs) (fun _=>Iff.rfl) f hf).1
 rw [←qoQ hn]
 have hm:=hU.makes i hi
 have hr:=h.rng _ hm.1 hm.2
 have hc:=hU.cost i hi
 by_cases hf:hiV D (un (unT t) i).needs<inf
 ·have:=hst i hi hf;omega
 ·omega
end
theorem qlY {V l m:List Int}(h:SameM l m) (hl:∀ f∈l,0≤f∧0≤dg V f):hiV V l=hiV V m:=by
 have hm:∀ f∈m,0≤f∧0≤dg V f:=fun f hf=>hl f ((h f).2 hf)
 refine Int.le_antisymm ?_ ?_
 ·exact (qe8 hl (qe9 hm)).2 fun f hf=>(qe8 hm (qe9 hm)).1 (Int.le_refl _) f ((h f).1 hf)
 ·exact (qe8 hm (qe9 hl)).2 fun f hf=>(qe8 hl (qe9 hl)).1 (Int.le_refl _) f ((h f).2 hf)
theorem qiw {t:TTask}{cs:List Int}{i:Nat}(hi:i<(unT t).length):(unT (withC t cs)).length=(unT t).length∧(un (unT (withC t cs)) i).op=(un (unT t) i).op∧(un (unT (withC t cs)) i).makes=(un (unT t) i).makes∧(un (unT (withC t cs)) i).needs=(un (unT t) i).needs∧(un (unT (withC t cs)) i).cost=cs.getD (un (unT t) i).op.toNat tInt.dflt:=by
 have key:∀ k,k≤t.ops.length→unK (withC t cs) k=(unK t k).map fun u=>{ u with cost:=cs.getD u.op.toNat tInt.dflt }:=by
  intro k
  induction k with
  | zero=>intro _;simp [unK]
  | succ k ih =>
   intro hk
   rw [qb2,qb2,ih (by omega),List.map_append,qco (by omega)]
   congr 1
   unfold unO
   rw [List.map_map]
   refine List.map_congr_left fun j _ => ?_
   simp [unE,withC]
 have e:unT (withC t cs)=(unT t).map fun u=>{ u with cost:=cs.getD u.op.toNat tInt.dflt }:=by
  have:=key t.ops.length (Nat.le_refl _)
  unfold unT
  rw [qbz];exact this
 have h1:un (unT (withC t cs)) i={ un (unT t) i with cost:=cs.getD (un (unT t) i).op.toNat tInt.dflt }:=by
  rw [e]
  unfold un
  rw [Int.toNat_natCast,qaj (by rw [List.length_map];exact hi),List.getElem_map,qaj hi]
 exact⟨by rw [e,List.length_map],by rw [h1],by rw [h1],by rw [h1],by rw [h1]⟩
end Go.Proofs.YtkmbenhffledpaaGreat
/-
  Contracts of LM-cut's 'greatest', 'highest'.
-/
namespace Go.Proofs.YtkmbenhffledpaaGreat
open Go.Sl Go
attribute [local irreducible] vc opsW opsD opV opW PureV ReadV Thn Blk
set_option maxRecDepth 8000 in
set_option maxHeartbeats 4000000 in
theorem qcr {w0:World}{lv vv:Value}{l V:List Int}(hl:RS tInt w0 lv l) (hv:RS tInt w0 vv V) (hr:∀ f∈l,0≤f∧f<V.length) :
  Calls Tryz.prog 201 #[lv,vv] w0 fun e w'=>e=.returned (.int .i64 (grtI V l))∧Sat w0 w' []:=by
 have hlb:=hl.big
 have hvb:=hv.big
 have hw:=Sat.start w0
 refine qab (args:=[lv,vv]) mixed Tryz.func201 rfl (by kernel_rfl) (Nat.le_of_ble_eq_true rfl) ?_
 repeat refine qaa ?_
 refine qao [5,7,10,11,12,13,14,15,16,17,18,19,20,21,22,23,24,25,26,27,28,29,30,31,32,33,34,35,36,37,38,39,40,41,42,43,44] (G:=Nat) (H:=Int) (fun k o=>[(10,.int .i64 k),(5,.int .i64 o)]) (fun k o w=>k≤l.length∧o=grtI V (l.take k)∧(o<0∨(0≤o∧o<V.length))∧Sat w0 w []) (fun k _=>l.length-k) 0 (-1) (fun _ _=>rfl) ⟨rfl,rfl,trivial⟩ ⟨Nat.zero_le _,rfl,.inl (by decide),hw⟩ ?_
 clear hw
 rintro σ k o w ⟨hk,ho,hor,hw⟩
 repeat refine qaa ?_
 refine go_if (fun h1 => ?_) (fun h1 => ?_)
 ·have hkl:k<l.length:=by omega
  have hf:=hr _ (qak tInt.dflt hkl)
  have hnx:grtI V (l.take (k+1))=grtS V o (l.getD k tInt.dflt):=by rw [qan tInt.dflt hkl,qjR,←ho]
  repeat refine qaa ?_
  refine qbu ?_
  clear hw
  intro w hw
  by_cases c1:o<0
  ·have hd1:decide (o<0)=true:=decide_eq_true c1
   have hc:o<0∨dg V o<dg V (l.getD k tInt.dflt)∨(dg V (l.getD k tInt.dflt)=dg V o∧(l.getD k tInt.dflt)<o):=.inl c1
   repeat refine qaa ?_
   simp only [hd1,beq_self_eq_true,qal,qam,Bool.false_and,Bool.true_and,Bool.false_or,Bool.true_or,Bool.not_true,Bool.not_false,Bool.cond_true,Bool.cond_false,gv_fI,gv_tI]
   repeat refine qaa ?_
   exact⟨k+1,(l.getD k tInt.dflt),⟨rfl,rfl,trivial⟩,agr,⟨by omega,by rw [hnx,grtS,if_pos hc],.inr hf,hw⟩,by omega⟩
  have hd1:decide (o<0)=false:=decide_eq_false c1
  have ho2:0≤o∧o<V.length:=by
   rcases hor with h|h
   ·exact absurd h c1
   ·exact h
  by_cases c2:dg V o<dg V (l.getD k tInt.dflt)
  ·have hd2:decide (V.getD o.toNat tInt.dflt<V.getD ((l.getD k tInt.dflt)).toNat tInt.dflt)=true:=decide_eq_true c2
   have hc:o<0∨dg V o<dg V (l.getD k tInt.dflt)∨(dg V (l.getD k tInt.dflt)=dg V o∧(l.getD k tInt.dflt)<o):=.inr (.inl c2)
   repeat refine qaa ?_
   simp only [hd1,beq_self_eq_true,qal,qam,Bool.false_and,Bool.true_and,Bool.false_or,Bool.true_or,Bool.not_true,Bool.not_false,Bool.cond_true,Bool.cond_false,gv_fI,gv_tI]
   repeat refine qaa ?_
   simp only [hd2,beq_self_eq_true,qal,qam,Bool.false_and,Bool.true_and,Bool.false_or,Bool.true_or,Bool.not_true,Bool.not_false,Bool.cond_true,Bool.cond_false,gv_fI,gv_tI]
   repeat refine qaa ?_
   exact⟨k+1,(l.getD k tInt.dflt),⟨rfl,rfl,trivial⟩,agr,⟨by omega,by rw [hnx,grtS,if_pos hc],.inr hf,hw⟩,by omega⟩
  have hd2:decide (V.getD o.toNat tInt.dflt<V.getD ((l.getD k tInt.dflt)).toNat tInt.dflt)=false:=decide_eq_false c2
  by_cases c3:dg V (l.getD k tInt.dflt)=dg V o
  ·have hd3:decide (V.getD ((l.getD k tInt.dflt)).toNat tInt.dflt=V.getD o.toNat tInt.dflt)=true:=decide_eq_true c3
   by_cases c4:(l.getD k tInt.dflt)<o
   ·have hd4:decide ((l.getD k tInt.dflt)<o)=true:=decide_eq_true c4
    have hc:o<0∨dg V o<dg V (l.getD k tInt.dflt)∨(dg V (l.getD k tInt.dflt)=dg V o∧(l.getD k tInt.dflt)<o):=.inr (.inr ⟨c3,c4⟩)
    repeat refine qaa ?_
    simp only [hd1,beq_self_eq_true,qal,qam,Bool.false_and,Bool.true_and,Bool.false_or,Bool.true_or,Bool.not_true,Bool.not_false,Bool.cond_true,Bool.cond_false,gv_fI,gv_tI]
    repeat refine qaa ?_
    simp only [hd2,beq_self_eq_true,qal,qam,Bool.false_and,Bool.true_and,Bool.false_or,Bool.true_or,Bool.not_true,Bool.not_false,Bool.cond_true,Bool.cond_false,gv_fI,gv_tI]
    repeat refine qaa ?_
    simp only [hd3,beq_self_eq_true,qal,qam,Bool.false_and,Bool.true_and,Bool.false_or,Bool.true_or,Bool.not_true,Bool.not_false,Bool.cond_true,Bool.cond_false,gv_fI,gv_tI]
    repeat refine qaa ?_
    simp only [hd4,beq_self_eq_true,qal,qam,Bool.false_and,Bool.true_and,Bool.false_or,Bool.true_or,Bool.not_true,Bool.not_false,Bool.cond_true,Bool.cond_false,gv_fI,gv_tI]
    repeat refine qaa ?_
    exact⟨k+1,(l.getD k tInt.dflt),⟨rfl,rfl,trivial⟩,agr,⟨by omega,by rw [hnx,grtS,if_pos hc],.inr hf,hw⟩,by omega⟩
   ·have hd4:decide ((l.getD k tInt.dflt)<o)=false:=decide_eq_false c4
    have hc:¬(o<0∨dg V o<dg V (l.getD k tInt.dflt)∨(dg V (l.getD k tInt.dflt)=dg V o∧(l.getD k tInt.dflt)<o)):=fun h=>by
     rcases h with h|h|h
     ·exact c1 h
     ·exact c2 h
     ·exact c4 h.2
    repeat refine qaa ?_
    simp only [hd1,beq_self_eq_true,qal,qam,Bool.false_and,Bool.true_and,Bool.false_or,Bool.true_or,Bool.not_true,Bool.not_false,Bool.cond_true,Bool.cond_false,gv_fI,gv_tI]
    repeat refine qaa ?_
    simp only [hd2,beq_self_eq_true,qal,qam,Bool.false_and,Bool.true_and,Bool.false_or,Bool.true_or,Bool.not_true,Bool.not_false,Bool.cond_true,Bool.cond_false,gv_fI,gv_tI]
    repeat refine qaa ?_
    simp only [hd3,beq_self_eq_true,qal,qam,Bool.false_and,Bool.true_and,Bool.false_or,Bool.true_or,Bool.not_true,Bool.not_false,Bool.cond_true,Bool.cond_false,gv_fI,gv_tI]
    repeat refine qaa ?_
    simp only [hd4,beq_self_eq_true,qal,qam,Bool.false_and,Bool.true_and,Bool.false_or,Bool.true_or,Bool.not_true,Bool.not_false,Bool.cond_true,Bool.cond_false,gv_fI,gv_tI]
    repeat refine qaa ?_
    exact⟨k+1,o,⟨rfl,rfl,trivial⟩,agr,⟨by omega,by rw [hnx,grtS,if_neg hc],hor,hw⟩,by omega⟩
  ·have hd3:decide (V.getD ((l.getD k tInt.dflt)).toNat tInt.dflt=V.getD o.toNat tInt.dflt)=false:=decide_eq_false c3
   have hc:¬(o<0∨dg V o<dg V (l.getD k tInt.dflt)∨(dg V (l.getD k tInt.dflt)=dg V o∧(l.getD k tInt.dflt)<o)):=fun h=>by
    rcases h with h|h|h
    ·exact c1 h
    ·exact c2 h
    ·exact c3 h.1
   repeat refine qaa ?_
   simp only [hd1,beq_self_eq_true,qal,qam,Bool.false_and,Bool.true_and,Bool.false_or,Bool.true_or,Bool.not_true,Bool.not_false,Bool.cond_true,Bool.cond_false,gv_fI,gv_tI]
   repeat refine qaa ?_
   simp only [hd2,beq_self_eq_true,qal,qam,Bool.false_and,Bool.true_and,Bool.false_or,Bool.true_or,Bool.not_true,Bool.not_false,Bool.cond_true,Bool.cond_false,gv_fI,gv_tI]
   repeat refine qaa ?_
   simp only [hd3,beq_self_eq_true,qal,qam,Bool.false_and,Bool.true_and,Bool.false_or,Bool.true_or,Bool.not_true,Bool.not_false,Bool.cond_true,Bool.cond_false,gv_fI,gv_tI]
   repeat refine qaa ?_
   exact⟨k+1,o,⟨rfl,rfl,trivial⟩,agr,⟨by omega,by rw [hnx,grtS,if_neg hc],hor,hw⟩,by omega⟩
 have hke:k=l.length:=by omega
 rw [hke,List.take_of_length_le (Nat.le_refl _)] at ho
 repeat refine qaa ?_
 exact qae (v:=.int .i64 o) rfl rfl ⟨by rw [ho],hw⟩
set_option maxRecDepth 8000 in
set_option maxHeartbeats 4000000 in
theorem qcT {w0:World}{lv vv:Value}{l V:List Int}(hl:RS tInt w0 lv l) (hv:RS tInt w0 vv V) (hr:∀ f∈l,0≤f∧f<V.length) :
  Calls Tryz.prog 199 #[lv,vv] w0 fun e w'=>e=.returned (.int .i64 (hiV V l))∧Sat w0 w' []:=by
 have hw:=Sat.start w0
 refine qab (args:=[lv,vv]) mixed Tryz.func199 rfl (by kernel_rfl) (Nat.le_of_ble_eq_true rfl) ?_
 repeat refine qaa ?_
 refine qac rfl (qcr (hl.at hw) (hv.at hw) hr) ?_
 rintro _ w' ⟨rfl,hk'⟩
 replace hw:=hw.call0 hk'
 clear hk'
 refine⟨_,rfl,?_⟩
 have hg:=qcP (V:=V) (l:=l) fun f hf=>(hr f hf).1
 repeat refine qaa ?_
 refine go_if (fun h1 => ?_) (fun h1 => ?_)
 ·have hm:grtI V l∈l:=by
   rcases hg with ⟨_,h⟩|⟨_,h⟩
   ·omega
   ·exact h.1
  have h2:=hr _ hm
  have e:hiV V l=dg V (grtI V l):=if_neg (by omega)
  repeat refine qaa ?_
  exact qae (v:=.int .i64 (V.getD (grtI V l).toNat tInt.dflt)) rfl rfl ⟨by rw [e],hw⟩
 ·have e:hiV V l=0:=if_pos (by omega)
  repeat refine qaa ?_
  exact qae (v:=.int .i64 0) rfl rfl ⟨by rw [e],hw⟩
end Go.Proofs.YtkmbenhffledpaaGreat
/-
  LM-cut's heuristic as it is read; contract of 'values'.
-/
namespace Go.Proofs.YtkmbenhffledpaaGreat
open Go.Sl Go
attribute [local irreducible] vc opsW opsD opV opW PureV ReadV Thn Blk
structure CUV where
 op:Int
 makes:Int
 needs:Value
def tCU:Ty CUV:=⟨3,fun x=>[.int .i64 x.op,.int .i64 x.makes,x.needs],fun _=>rfl,⟨0,0,.slice none 0 0⟩⟩
instance inWLm21:ShutT tCU:=⟨trivial⟩
def CuOk (w:World) (v:CUV) (u:Un):Prop:=v.op=u.op∧v.makes=u.makes∧∃ L,RS tInt w v.needs L∧SameM L u.needs
def CuF (us:List CUV) (U:List Un) (w:World):Prop:=∀ i:Nat,i<U.length→CuOk w (eget tCU us i) (un U i)
structure LcR (w:World) (pr:Addr) (t:TTask) (a fv gv cv lv:Value) (us:List CUV):Prop where
 box:BoxR w pr [a,fv,.int .i64 (factN t:Int),gv,cv,lv]
 vars:RS tInt w a t.vars
 fst:RS tInt w fv (fstL t.vars t.vars.length)
 goal:RS tInt w gv (goalN t)
 costs:RS tInt w cv (costsT t)
 list:RS tCU w lv us
 len:us.length=(unT t).length
 un:CuF us (unT t) w
theorem CuF.at {w0 w:World}{Γ:List HP}{us:List CUV}{U:List Un}(h:CuF us U w0) (hw:Sat w0 w Γ):CuF us U w:=fun i hi=>by
 obtain⟨h1,h2,L,h3,h4⟩:=h i hi
 exact⟨h1,h2,L,h3.at hw,h4⟩
theorem qsh {t:TTask}{i:Nat}(hi:i<(unT t).length):∃ op:Nat,(un (unT t) i).op=(op:Int)∧op<t.ops.length:=by
 obtain⟨op,j,h1,_,h2⟩:=qeO.1 (qem hi)
 have h3:un (unT t) (i:Int)=unE t.vars op (t.ops.getD op dOp) j:=h2
 exact⟨op,by rw [h3];rfl,h1⟩
theorem qpm {k m:Nat}:(List.replicate k inf++List.replicate (m+1) (0:Int)).set k inf=List.replicate (k+1) inf++List.replicate m 0:=by
 rw [List.set_append_right _ _ (by simp),List.length_replicate,Nat.sub_self,List.replicate_succ (n:=m),List.set_cons_zero,List.replicate_succ' (n:=k),List.append_assoc];rfl
structure SI (t:TTask) (z D:List Int) (k:Nat):Prop where
 len:D.length=factN t
 val:∀ g:Int,0≤g→g<factN t→dg D g=inf∨(dg D g=0∧StF t.vars z g)
 st:∀ v:Nat,v<k→dg D (firstV t.vars v+z.getD v tInt.dflt)=0
theorem SI.zero {t:TTask}{z:List Int}:SI t z (List.replicate (factN t) inf) 0:=⟨by simp,fun g h0 h1=>.inl (by
 have h2:g.toNat<factN t:=by omega
 simp [dg,List.getD,h2]),fun v hv=>absurd hv (Nat.not_lt_zero _)⟩
theorem SI.step {t:TTask}{z D:List Int}{k:Nat}(h:SI t z D k) (hg:GoodT t) (hs:StateOk t.vars z) (hk:k<t.vars.length):SI t z (D.set (firstV t.vars k+z.getD k tInt.dflt).toNat 0) (k+1):=by
 have hr:=qcI hg hs (f:=firstV t.vars k+z.getD k tInt.dflt) ⟨k,hk,rfl⟩
 have hl:=h.len
 have hset:∀ g:Int,0≤g→dg (D.set (firstV t.vars k+z.getD k tInt.dflt).toNat 0) g=if g=firstV t.vars k+z.getD k tInt.dflt then 0 else dg D g:=fun g h0=>qhM h0 hr.1 (by omega)
 refine⟨by rw [List.length_set];exact hl,fun g h0 h1 => ?_,fun v hv => ?_⟩
 ·rw [hset g h0]
  split
  ·rename_i e;exact .inr ⟨rfl,⟨k,hk,e⟩⟩
  ·exact h.val g h0 h1
 ·have hv':v<t.vars.length:=by omega
  have hrv:=qcI hg hs (f:=firstV t.vars v+z.getD v tInt.dflt) ⟨v,hv',rfl⟩
  rw [hset _ hrv.1]
  split
  ·rfl
  ·rename_i e
   exact h.st v (by
    have:v≠k:=fun e2=>e (by rw [e2])
    omega)
theorem SI.vi {t:TTask}{z D cs:List Int}(h:SI t z D t.vars.length):LVI (withC t cs) z D:=by
 refine⟨h.len,fun g h0 h1 => ?_,fun g h0 h1 hlt => ?_,fun g hg => ?_⟩
 ·rcases h.val g h0 h1 with e|⟨e,_⟩
  ·rw [e];exact⟨by decide,Int.le_refl _⟩
  ·rw [e];exact⟨Int.le_refl _,by decide⟩
 ·rcases h.val g h0 h1 with e|⟨e,hs⟩
  ·omega
  ·rw [e];exact .start hs
 ·obtain⟨v,hv,rfl⟩:=hg
  have:=h.st v hv
  exact Int.le_of_eq this
theorem qrq {t:TTask}{cs:List Int}:(unT (withC t cs)).length=(unT t).length:=by
 have key:∀ k,k≤t.ops.length→(unK (withC t cs) k).length=(unK t k).length:=by
  intro k
  induction k with
  | zero=>intro _;simp [unK]
  | succ k ih =>
   intro hk
   rw [qb2,qb2,List.length_append,List.length_append,ih (by omega),qco (by omega),qdR,qdR]
 unfold unT
 rw [qbz];exact key _ (Nat.le_refl _)
set_option maxRecDepth 8000 in
set_option maxHeartbeats 8000000 in
theorem qkl {w0:World}{pr:Addr}{a fv gv cv0 lv sv cv:Value}{us:List CUV}{t:TTask}{z cs:List Int}(hr:LcR w0 pr t a fv gv cv0 lv us) (hg:GoodT t) (hc:CostsOk t cs) (hs:RS tInt w0 sv z) (hok:StateOk t.vars z) (hcs:RS tInt w0 cv cs) :
  Calls Tryz.prog 198 #[.pointer (some pr),sv,cv] w0 fun e w'=>∃ ov V,e=.returned ov∧IsHM (withC t cs) z V∧Sat w0 w' [OS tInt 3 ov V]:=by
 obtain⟨hb,hvr,hfr,hgr,hcr,hlr,hll,hF⟩:=hr
 have hgT:=qbg hg hc
 have hN:=qcm hg
 have hcl:=hc.1
 have hzl:=hok.1
 have hvl:=hg.vars
 have hfl:=qcq t.vars t.vars.length
 have hol:=hg.ops
 have hUl:(unT t).length≤64*t.ops.length:=qdS hg (k:=t.ops.length) (Nat.le_refl _)
 have hw:=Sat.start w0
 refine qab (args:=[.pointer (some pr),sv,cv]) mixed Tryz.func198 rfl (by kernel_rfl) (Nat.le_of_ble_eq_true rfl) ?_
 repeat (first|refine qaa ?_|(refine qaq ?_;clear hw;intro s w hw))
 obtain⟨ov,hov⟩:∃ ov,ov=s:=⟨s,rfl⟩
 subst hov
 rw [Int.toNat_natCast] at hw
 have hln:∀ k,k≤factN t→(List.replicate k inf++List.replicate (factN t-k) (0:Int)).length=factN t:=fun k hk=>by simp;omega
 have hrep:(List.replicate ((factN t:Int)).toNat (0:Int)).length=factN t:=by simp
 have hw1:Sat w0 w [OS tInt 3 ov (List.replicate 0 inf++List.replicate (factN t-0) (0:Int))]:=hw
 repeat refine qaa ?_
 refine qap [8,22,23,24,25,26,27,28] (G:=Nat) (fun k=>[(22,.int .i64 k)]) (fun k w=>k≤factN t∧Sat w0 w [OS tInt 3 ov (List.replicate k inf++List.replicate (factN t-k) (0:Int))]) (fun k=>factN t-k) 0 (fun _=>rfl) ⟨rfl,trivial⟩ ⟨Nat.zero_le _,hw1⟩ ?_
 clear hw hw1
 rintro σ k w ⟨hk1,hw⟩
 have hlk:=hln k hk1
 repeat refine qaa ?_
 refine go_if (fun h1 => ?_) (fun h1 => ?_)
 ·have hkl:k<factN t:=by omega
  repeat (first|refine qaa ?_|(refine qag ?_;clear hw;intro w hw))
  rw [show factN t-k=(factN t-(k+1))+1 by omega,show (1125899906842624:Int)=inf from rfl,qpm] at hw
  exact⟨k+1,⟨rfl,trivial⟩,agr,⟨by omega,hw⟩,by omega⟩
 have hke:k=factN t:=by omega
 rw [hke,Nat.sub_self,List.replicate_zero,List.append_nil] at hw
 clear hlk hrep hln
 repeat refine qaa ?_
 refine qao [9,10,31,32,33,34,35,36,37,38,39,40,41,42,43,44,45,46,47] (G:=Nat) (H:=List Int) (fun k _=>[(31,.int .i64 k)]) (fun k D w=>k≤t.vars.length∧SI t z D k∧Sat w0 w [OS tInt 3 ov D]) (fun k _=>t.vars.length-k) 0 _ (fun _ _=>rfl) ⟨rfl,trivial⟩ ⟨Nat.zero_le _,SI.zero,hw⟩ ?_
 clear hw
 rintro σ1 k D w ⟨hk2,hSI,hw⟩
 have hDl:=hSI.len
 repeat refine qaa ?_
 refine go_if (fun h2 => ?_) (fun h2 => ?_)
 ·have hkl:k<t.vars.length:=by omega
  have hrg:=qcI hg hok (f:=firstV t.vars k+z.getD k tInt.dflt) ⟨k,hkl,rfl⟩
  obtain⟨g0,g1,g2⟩:=qhc hg.pos (fun i hi=>(hg.dom i hi).2) hvl hkl
  have hz:=hok.2 k (by omega)
  have hd:=hg.dom k hkl
  have hnx:=hSI.step hg hok hkl
  rw [←g0] at hnx hrg g1 g2
  repeat (first|refine qaa ?_|(refine qag ?_;clear hw;intro w hw))
  exact⟨k+1,_,⟨rfl,trivial⟩,agr,⟨by omega,hnx,hw⟩,by omega⟩
 have hke2:k=t.vars.length:=by omega
 subst hke2
 have hV0:=hSI.vi (cs:=cs)
 clear hSI hDl
 repeat refine qaa ?_
 refine qao [11,13,14,48,49,50,51,52,53,54,55,56,57,58,59,60,61,62,63,64,65,66,67,68,69,70,71,72,73,74,75,76,77,78,79,80,81,82,83,84,85,86,87,88,89,90] (G:=Bool) (H:=List Int) (fun ch _=>[(11,.bool ch)]) (fun ch D w=>LVI (withC t cs) z D∧(ch=false→∀ i:Nat,i<(unT t).length→(fun i D=>hiV D (un (unT (withC t cs)) i).needs<inf→dg D (un (unT (withC t cs)) i).makes≤hiV D (un (unT (withC t cs)) i).needs+(un (unT (withC t cs)) i).cost) i D)∧Sat w0 w [OS tInt 3 ov D]) (fun ch D=>2*sumD D+(bif ch then 1 else 0)) true _ (fun _ _=>rfl) ⟨rfl,trivial⟩ ⟨hV0,(fun h=>by cases h),hw⟩ ?_
 clear hw hV0
 rintro σ2 ch D w ⟨hV,hst,hw⟩
 cases ch
 ·repeat refine qaa ?_
  exact qae (v:=ov) rfl rfl ⟨ov,D,rfl,hV.fin hgT fun i hi=>hst rfl i (by
   by_cases h:i<(unT t).length
   ·exact h
   ·exfalso
    have:(unT (withC t cs)).length=(unT t).length:=qrq
    omega),hw⟩
 clear hst
 repeat refine qaa ?_
 refine qay [11,13,14,54,55,56,57,58,59,60,61,62,63,64,65,66,67,68,69,70,71,72,73,74,75,76,77,78,79,80,81,82,83,84,85,86,87,88,89,90] (G:=Nat) (H:=Bool) (I:=List Int) (fun k ch _=>[(54,.int .i64 k),(11,.bool ch)]) (fun k ch D' w=>k≤(unT t).length∧LVI (withC t cs) z D'∧sumD D'≤sumD D∧(ch=true→sumD D'<sumD D)∧(ch=false→∀ i:Nat,i<k→(fun i D=>hiV D (un (unT (withC t cs)) i).needs<inf→dg D (un (unT (withC t cs)) i).makes≤hiV D (un (unT (withC t cs)) i).needs+(un (unT (withC t cs)) i).cost) i D')∧Sat w0 w [OS tInt 3 ov D']) (fun k _ _=>(unT t).length-k) 0 false D (fun _ _ _=>rfl) ⟨rfl,rfl,trivial⟩ ⟨Nat.zero_le _,hV,Nat.le_refl _,(fun h=>by cases h),fun _ i hi=>absurd hi (Nat.not_lt_zero _),hw⟩ ?_
 clear hw
 rintro σ3 k ch D' w ⟨hk3,hV',hs1,hs2,hs3,hw⟩
 repeat refine qaa ?_
 refine go_if (fun h3 => ?_) (fun h3 => ?_)
 ·have hkl:k<(unT t).length:=by omega
  obtain⟨c1,c2,L,c3,c4⟩:=hF k hkl
  obtain⟨op,hop,hopl⟩:=qsh hkl
  obtain⟨u1,u2,u3,u4,u5⟩:=qiw (cs:=cs) hkl
  rw [hop,Int.toNat_natCast] at u5
  have hkl':k<(unT (withC t cs)).length:=by rw [u1];exact hkl
  have hSL:SameM L (un (unT (withC t cs)) k).needs:=by rw [u4];exact c4
  have hnd:=hV'.need hgT hkl' hSL
  have hmk:=(qbR hgT).makes k hkl'
  have hDl:=hV'.len
  have hfT:factN (withC t cs)=factN t:=rfl
  have hcr2:=hc.2 _ (qak tInt.dflt (show op<cs.length by omega))
  have hsame:=qlY hSL fun f hf=>(hnd f hf).1
  have hnn:=qe9 (V:=D') fun f hf=>(hnd f hf).1
  have hmr:=hV'.rng _ hmk.1 hmk.2
  rw [u3] at hmk hmr
  obtain⟨mk,hmke⟩:∃ mk,mk=(un (unT t) k).makes:=⟨_,rfl⟩
  rw [←hmke] at hmk hmr c2 u3
  have ouk:=c3.one
  have houk:(tCU.enc (eget tCU us k)).all Value.oneCell'=true:=by
   show ((Value.int .i64 (eget tCU us k).op).oneCell' && ((Value.int .i64 (eget tCU us k).makes).oneCell' && ((eget tCU us k).needs.oneCell' && true)))=true
   rw [ouk];rfl
  have hen:tCU.enc (eget tCU us k)=[.int .i64 (op:Int),.int .i64 mk,(eget tCU us k).needs]:=by
   show [Value.int .i64 (eget tCU us k).op,Value.int .i64 (eget tCU us k).makes,(eget tCU us k).needs]=_
   rw [c1,c2,hop]
  repeat (first|refine qaa ?_|(refine qaf ?_;clear hw;intro p w hw)|(refine qag ?_;clear hw;intro w hw))
  refine qac rfl (qcT (lv:=(eget tCU us k).needs) (c3.at hw) (rsO (s:=ov) hw) fun f hf=>⟨(hnd f hf).1.1,by have:=(hnd f hf).2;omega⟩) ?_
  rintro _ w' ⟨rfl,hk'⟩
  replace hw:=hw.call0 hk'
  clear hk'
  refine⟨_,rfl,?_⟩
  obtain⟨p13,hp13⟩:∃ p13,p13=p:=⟨p,rfl⟩
  subst hp13
  replace hw:Sat w0 w' [Box p13 135 [.int .i64 (op:Int),.int .i64 mk,(eget tCU us k).needs],OS tInt 3 ov D']:=by rw [←hen];exact hw
  by_cases q1:hiV D' L<inf
  ·have q1':hiV D' L<1125899906842624:=q1
   have hd1:decide (hiV D' L<1125899906842624)=true:=decide_eq_true q1
   by_cases q2:hiV D' L+cs.getD op tInt.dflt<dg D' mk
   ·have hd2:decide (hiV D' L+cs.getD op tInt.dflt<D'.getD mk.toNat tInt.dflt)=true:=decide_eq_true q2
    have hrx:=hV'.relax hgT hkl' hSL q1 (by rw [u5,u3];exact q2)
    rw [u5,u3] at hrx
    repeat refine qaa ?_
    refine qbu ?_
    clear hw
    intro w hw
    repeat refine qaa ?_
    simp only [hd1,beq_self_eq_true,qal,qam,Bool.false_and,Bool.true_and,Bool.false_or,Bool.true_or,Bool.not_true,Bool.not_false,Bool.cond_true,Bool.cond_false,gv_fI,gv_tI]
    repeat refine qaa ?_
    simp only [hd2,beq_self_eq_true,qal,qam,Bool.false_and,Bool.true_and,Bool.false_or,Bool.true_or,Bool.not_true,Bool.not_false,Bool.cond_true,Bool.cond_false,gv_fI,gv_tI]
    repeat refine qaa ?_
    refine qbu ?_
    clear hw
    intro w hw
    repeat (first|refine qaa ?_|(refine qai ?_;clear hw;intro w hw))
    exact⟨k+1,true,_,⟨rfl,rfl,trivial⟩,agr,⟨by omega,hrx.1,by omega,fun _=>by omega,(fun h=>by cases h),hw.tail⟩,by omega⟩
   ·have hd2:decide (hiV D' L+cs.getD op tInt.dflt<D'.getD mk.toNat tInt.dflt)=false:=decide_eq_false q2
    repeat refine qaa ?_
    refine qbu ?_
    clear hw
    intro w hw
    repeat refine qaa ?_
    simp only [hd1,beq_self_eq_true,qal,qam,Bool.false_and,Bool.true_and,Bool.false_or,Bool.true_or,Bool.not_true,Bool.not_false,Bool.cond_true,Bool.cond_false,gv_fI,gv_tI]
    repeat refine qaa ?_
    simp only [hd2,beq_self_eq_true,qal,qam,Bool.false_and,Bool.true_and,Bool.false_or,Bool.true_or,Bool.not_true,Bool.not_false,Bool.cond_true,Bool.cond_false,gv_fI,gv_tI]
    repeat refine qaa ?_
    refine⟨k+1,ch,D',⟨rfl,rfl,trivial⟩,agr,⟨by omega,hV',hs1,hs2,fun hch i hi => ?_,hw.tail⟩,by omega⟩
    by_cases e:i=k
    ·subst e
     intro _
     rw [u5,u3,←hsame]
     omega
    ·exact hs3 hch i (by omega)
  ·have hd1:decide (hiV D' L<1125899906842624)=false:=decide_eq_false q1
   repeat refine qaa ?_
   refine qbu ?_
   clear hw
   intro w hw
   repeat refine qaa ?_
   simp only [hd1,beq_self_eq_true,qal,qam,Bool.false_and,Bool.true_and,Bool.false_or,Bool.true_or,Bool.not_true,Bool.not_false,Bool.cond_true,Bool.cond_false,gv_fI,gv_tI]
   repeat refine qaa ?_
   refine⟨k+1,ch,D',⟨rfl,rfl,trivial⟩,agr,⟨by omega,hV',hs1,hs2,fun hch i hi => ?_,hw.tail⟩,by omega⟩
   by_cases e:i=k
   ·subst e
    intro hlt
    rw [←hsame] at hlt
    exact absurd hlt q1
   ·exact hs3 hch i (by omega)
 ·repeat refine qaa ?_
  refine⟨ch,D',⟨rfl,trivial⟩,agr,⟨hV',fun hch i hi=>hs3 hch i (by omega),hw⟩,?_⟩
  cases ch
  ·simp only [cond_true,cond_false];omega
  ·have:=hs2 rfl
   simp only [cond_true];omega
end Go.Proofs.YtkmbenhffledpaaGreat
/-
  LM-cut's arcs as a list, in plain Lean; the zones as closed sets.
-/
namespace Go.Proofs.YtkmbenhffledpaaGreat
open Go.Sl
structure LArc where
 src:Int
 dst:Int
 op:Int
def tLArc:Ty LArc:=⟨3,fun a=>[.int .i64 a.src,.int .i64 a.dst,.int .i64 a.op],fun _=>rfl,⟨0,0,0⟩⟩
instance inTCut51:OneT tLArc:=⟨fun x v hv=>by simp only [tLArc,List.mem_cons,List.not_mem_nil,or_false] at hv;rcases hv with rfl|rfl|rfl <;> rfl⟩
def arcU (V:List Int) (u:Un):List LArc:=if hiV V u.needs<inf then [⟨grtI V u.needs,u.makes,u.op⟩] else []
def arcK (t:TTask) (V:List Int) (k:Nat):List LArc:=(List.range k).flatMap fun (i:Nat)=>arcU V (un (unT t) i)
theorem qnW (t:TTask) (V:List Int):arcK t V 0=[]:=by simp [arcK]
theorem qjh (t:TTask) (V:List Int) (k:Nat):arcK t V (k+1)=arcK t V k++arcU V (un (unT t) k):=by simp [arcK,List.range_succ]
theorem qlz {t:TTask}{V:List Int}{k:Nat}{a:LArc}:a∈arcK t V k↔∃ i:Nat,i<k∧hiV V (un (unT t) i).needs<inf∧a=⟨grtI V (un (unT t) i).needs,(un (unT t) i).makes,(un (unT t) i).op⟩:=by
 unfold arcK
 rw [List.mem_flatMap]
 constructor
 ·rintro⟨i,hi,ha⟩
  unfold arcU at ha
  split at ha
  ·exact⟨i,List.mem_range.1 hi,‹_›,List.mem_singleton.1 ha⟩
  ·exact absurd ha List.not_mem_nil
 ·rintro⟨i,hi,h,rfl⟩
  exact⟨i,List.mem_range.2 hi,by unfold arcU;rw [if_pos h];exact List.mem_singleton.2 rfl⟩
theorem qh4 (t:TTask) (V:List Int):∀ k,(arcK t V k).length≤k
 | 0=>by simp [arcK]
 | k+1=>by
  rw [qjh,List.length_append]
  have:=qh4 t V k
  have h:(arcU V (un (unT t) k)).length≤1:=by unfold arcU;split <;> simp
  omega
theorem qnX {V l m:List Int}(h:SameM l m) (hl:∀ f∈l,0≤f):grtI V l=grtI V m:=by
 have hm:∀ f∈m,0≤f:=fun f hf=>hl f ((h f).2 hf)
 rcases qcP (V:=V) hl with ⟨e,h1⟩|⟨h0,h1⟩
 ·have:=(qlX h).1 e
  subst this
  rw [h1];rfl
 ·rcases qcP (V:=V) hm with ⟨e,h2⟩|⟨_,h2⟩
  ·have:=(qlX h).2 e
   subst this
   exact absurd h1.1 List.not_mem_nil
  ·exact qdl ((qoR h).1 h1) h2
def arcsT (t:TTask) (V:List Int):List LArc:=arcK t V (unT t).length
section
variable {t:TTask}{z V cs:List Int}{g0:Int}
theorem qlA (hg:GoodT t) (hV:∀ g:Int,0≤g→g<factN t→0≤dg V g) {a:LArc}(h:a∈arcsT t V):∃ u∈unT (withC t cs),FinN V u.needs∧u.makes=a.dst∧u.op=a.op∧u.cost=cs.getD a.op.toNat tInt.dflt∧((u.needs=[]∧a.src = -1)∨(0≤a.src∧GrtF V u.needs a.src))∧(0≤a.dst∧a.dst<factN t)∧a.src<factN t∧∃ op:Nat,a.op=(op:Int)∧op<t.ops.length:=by
 obtain⟨i,hi,hf,rfl⟩:=qlz.1 h
 obtain⟨u1,u2,u3,u4,u5⟩:=qiw (cs:=cs) hi
 have hU:=qbR hg
 have hn:∀ f∈(un (unT t) i).needs,0≤f∧0≤dg V f:=fun f hf=>by
  have:=hU.needs i hi f hf
  exact⟨this.1,hV f this.1 this.2⟩
 have hm:=hU.makes i hi
 obtain⟨op,j,o1,_,o2⟩:=qeO.1 (qem hi)
 have o3:un (unT t) (i:Int)=unE t.vars op (t.ops.getD op dOp) j:=o2
 refine⟨un (unT (withC t cs)) i,qem (by rw [u1];exact hi),by rw [u4];exact (qkL hn).1 hf,u3,u2,u5,?_,hm,?_,op,by rw [o3];rfl,o1⟩
 ·rw [u4]
  rcases qcP (V:=V) (l:=(un (unT t) i).needs) fun f hf=>(hn f hf).1 with ⟨e,h1⟩|h1
  ·exact .inl ⟨e,h1⟩
  ·exact .inr h1
 ·rcases qcP (V:=V) (l:=(un (unT t) i).needs) fun f hf=>(hn f hf).1 with ⟨e,h1⟩|h1
  ·show grtI V (un (unT t) i).needs<_;omega
  ·exact (hU.needs i hi _ h1.2.1).2
theorem qlB (hg:GoodT t) (hV:∀ g:Int,0≤g→g<factN t→0≤dg V g) {u:Un}(h:u∈unT (withC t cs)) (hf:FinN V u.needs):∃ a∈arcsT t V,a.dst=u.makes∧a.op=u.op∧u.cost=cs.getD a.op.toNat tInt.dflt∧((u.needs=[]∧a.src = -1)∨(0≤a.src∧GrtF V u.needs a.src)):=by
 obtain⟨i,hi,rfl⟩:=un_of h
 have hi':i<(unT t).length:=by
  have h1:∀ k,k≤t.ops.length→(unK (withC t cs) k).length=(unK t k).length:=by
   intro k
   induction k with
   | zero=>intro _;simp [unK]
   | succ k ih =>
    intro hk
    rw [qb2,qb2,List.length_append,List.length_append,ih (by omega),qco (by omega),qdR,qdR]
  have h2:(unT (withC t cs)).length=(unT t).length:=by
   unfold unT;rw [qbz];exact h1 _ (Nat.le_refl _)
  omega
 obtain⟨u1,u2,u3,u4,u5⟩:=qiw (cs:=cs) hi'
 have hU:=qbR hg
 have hn:∀ f∈(un (unT t) i).needs,0≤f∧0≤dg V f:=fun f hf=>by
  have:=hU.needs i hi' f hf
  exact⟨this.1,hV f this.1 this.2⟩
 rw [u4] at hf ⊢
 refine⟨_,qlz.2 ⟨i,hi',(qkL hn).2 hf,rfl⟩,u3.symm,u2.symm,u5,?_⟩
 rcases qcP (V:=V) (l:=(un (unT t) i).needs) fun f hf=>(hn f hf).1 with ⟨e,h1⟩|h1
 ·exact .inl ⟨e,h1⟩
 ·exact .inr h1
theorem qte (hg:GoodT t) (hV:∀ g:Int,0≤g→g<factN t→0≤dg V g) {a:LArc}(h:a∈arcsT t V) (h0:0≤a.src) (hc:cs.getD a.op.toNat tInt.dflt=0) (hz:ZT (withC t cs) V g0 a.dst):ZT (withC t cs) V g0 a.src:=by
 obtain⟨u,u1,u2,u3,u4,u5,u6,_⟩:=qlA (cs:=cs) hg hV h
 rcases u6 with ⟨_,e⟩|⟨_,hgr⟩
 ·omega
 ·exact .step u1 u2 hgr (by rw [u5];exact hc) (by rw [u3];exact hz)
theorem zt_of (hg:GoodT t) (hV:∀ g:Int,0≤g→g<factN t→0≤dg V g) {B:Int→Prop}(hb:B g0) (hcl:∀ a∈arcsT t V,0≤a.src→cs.getD a.op.toNat tInt.dflt=0→B a.dst→B a.src) {f:Int}(h:ZT (withC t cs) V g0 f):B f:=by
 induction h with
 | goal=>exact hb
 | @step u f hu hf hgr hc _ ih =>
  obtain⟨a,a1,a2,a3,a4,a5⟩:=qlB hg hV hu hf
  rcases a5 with ⟨e,_⟩|⟨h0,hg2⟩
  ·rw [e] at hgr;exact absurd hgr.1 List.not_mem_nil
  ·have:=hcl a a1 h0 (by rw [←a4];exact hc) (by rw [a2];exact ih)
   rw [qdl hg2 hgr] at this
   exact this
theorem qrM (hg:GoodT t) (hV:∀ g:Int,0≤g→g<factN t→0≤dg V g) {a:LArc}(h:a∈arcsT t V) (hs:a.src<0∨ZS (withC t cs) z V g0 a.src) (hz:¬ZT (withC t cs) V g0 a.dst):ZS (withC t cs) z V g0 a.dst:=by
 obtain⟨u,u1,u2,u3,u4,u5,u6,_⟩:=qlA (cs:=cs) hg hV h
 rw [←u3] at hz ⊢
 rcases u6 with ⟨e,_⟩|⟨h0,hgr⟩
 ·exact .start u1 e hz
 ·rcases hs with hs|hs
  ·omega
  ·exact .step u1 u2 hgr hs hz
theorem zs_of (hg:GoodT t) (hV:∀ g:Int,0≤g→g<factN t→0≤dg V g) {S:Int→Prop}(hb:∀ f,StF t.vars z f→S f) (hcl:∀ a∈arcsT t V,(a.src<0∨S a.src)→¬ZT (withC t cs) V g0 a.dst→S a.dst) {f:Int}(h:ZS (withC t cs) z V g0 f):S f:=by
 induction h with
 | st h=>exact hb _ h
 | @start u hu hn hz =>
  obtain⟨a,a1,a2,a3,a4,a5⟩:=qlB hg hV hu (fun n h=>by rw [hn] at h;exact absurd h List.not_mem_nil)
  rw [←a2] at hz ⊢
  rcases a5 with ⟨_,e⟩|⟨_,hg2⟩
  ·exact hcl a a1 (.inl (by omega)) hz
  ·rw [hn] at hg2;exact absurd hg2.1 List.not_mem_nil
 | @step u f hu hf hgr _ hz ih =>
  obtain⟨a,a1,a2,a3,a4,a5⟩:=qlB hg hV hu hf
  rw [←a2] at hz ⊢
  rcases a5 with ⟨e,_⟩|⟨_,hg2⟩
  ·rw [e] at hgr;exact absurd hgr.1 List.not_mem_nil
  ·exact hcl a a1 (.inr (by rw [qdl hg2 hgr];exact ih)) hz
theorem qji (hg:GoodT t) (hV:∀ g:Int,0≤g→g<factN t→0≤dg V g) {i:Nat}:InCut (withC t cs) z V g0 i↔∃ a∈arcsT t V,a.op=(i:Int)∧(a.src<0∨ZS (withC t cs) z V g0 a.src)∧ZT (withC t cs) V g0 a.dst:=by
 constructor
 ·rintro⟨u,hu,ho,hf,hs,hz⟩
  obtain⟨a,a1,a2,a3,a4,a5⟩:=qlB hg hV hu hf
  refine⟨a,a1,by rw [a3];exact ho,?_,by rw [a2];exact hz⟩
  rcases a5 with ⟨e,h1⟩|⟨h0,hg2⟩
  ·exact .inl (by omega)
  ·rcases hs with e|⟨f,hgr,hzs⟩
   ·rw [e] at hg2;exact absurd hg2.1 List.not_mem_nil
   ·exact .inr (by rw [qdl hg2 hgr];exact hzs)
 ·rintro⟨a,ha,ho,hs,hz⟩
  obtain⟨u,u1,u2,u3,u4,u5,u6,_⟩:=qlA (cs:=cs) hg hV ha
  refine⟨u,u1,by rw [u4];exact ho,u2,?_,by rw [u3];exact hz⟩
  rcases u6 with ⟨e,_⟩|⟨h0,hgr⟩
  ·exact .inl e
  ·rcases hs with hs|hs
   ·omega
   ·exact .inr ⟨_,hgr,hs⟩
end
def bAt (B:List Bool) (f:Int):Bool:=B.getD f.toNat tBool.dflt
def cntF (B:List Bool):Nat:=B.countP (fun b => !b)
theorem qcJ {B:List Bool}{f g:Int}(h0:0≤f) (hl:f<B.length) (hg:0≤g):bAt (B.set f.toNat true) g=if g=f then true else bAt B g:=by
 unfold bAt
 rw [qbw (by omega)]
 by_cases e:g=f
 ·rw [if_pos e,if_pos (by rw [e])]
 ·rw [if_neg e,if_neg (by omega)]
theorem qfh:∀ {B:List Bool}{i:Nat},i<B.length→B.getD i tBool.dflt=false→cntF (B.set i true)<cntF B
 | [],i,h,_=>by simp at h
 | b::B,0,_,h=>by
  have e:b=false:=h
  subst e
  simp [cntF]
 | b::B,i+1,h,h2=>by
  have ih:=qfh (B:=B) (i:=i) (by simpa using h) h2
  unfold cntF at ih ⊢
  rw [List.set_cons_succ,List.countP_cons,List.countP_cons];omega
theorem qnY (n:Nat) (f:Int):bAt (List.replicate n false) f=false:=by
 unfold bAt
 by_cases h:f.toNat<n
 ·simp [List.getD,h]
 ·simp [List.getD,h];rfl
end Go.Proofs.YtkmbenhffledpaaGreat
