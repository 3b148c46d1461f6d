/-
  Several texts as one: TTask, TDefs, TCheck, TState, TDist, TIda, TVis, TFill, TSucc, TProj, TSucc2, TNode, TIda2, TProj2, TSys, TWhole, TBy, TRef50, TVis2, TPln, THeap, TDijk, TRelax, THMax, TUn, TRelax2, THM2, TAst, TAstF, TLink, TBland, TFrac, TSimp, TSimp2, TRest, TFrc.
-/
import Derived.Test.YtdadmnlenbdfbaaGreatMSlA
import Derived.Test.YtdadmnlenbdfbaaGreatMSlB
set_option linter.unusedSimpArgs false
set_option linter.unusedVariables false
/-
  Finite-domain tasks, in plain Lean, and how they lie in memory.
-/
namespace Go.Proofs.YtdadmnlenbdfbaaGreat
open Go.Sl
structure Fact where
 var:Int
 val:Int
 deriving DecidableEq
def tFact:Ty Fact:=⟨2,fun f=>[.int .i64 f.var,.int .i64 f.val],fun _=>rfl,⟨0,0⟩⟩
instance inTTask1:OneT tFact:=⟨fun x v hv=>by simp only [tFact,List.mem_cons,List.not_mem_nil,or_false] at hv;rcases hv with rfl|rfl <;> rfl⟩
structure Eff where
 when:List Fact
 var:Int
 val:Int
structure TOp where
 name:ByteArray
 cost:Int
 pre:List Fact
 effs:List Eff
structure TTask where
 vars:List Int
 init:List Int
 goal:List Fact
 ops:List TOp
structure EffV where
 when:Value
 var:Int
 val:Int
def tEff:Ty EffV:=⟨3,fun e=>[e.when,.int .i64 e.var,.int .i64 e.val],fun _=>rfl,⟨.slice none 0 0,0,0⟩⟩
structure OpV where
 name:ByteArray
 cost:Int
 pre:Value
 effs:Value
def tOp:Ty OpV:=⟨4,fun o=>[.string o.name,.int .i64 o.cost,o.pre,o.effs],fun _=>rfl,⟨ByteArray.empty,0,.slice none 0 0,.slice none 0 0⟩⟩
instance inTTask2:ShutT tEff:=⟨trivial⟩
instance inTTask3:ShutT tOp:=⟨trivial⟩
def dEff:Eff:=⟨[],0,0⟩
def dOp:TOp:=⟨ByteArray.empty,0,[],[]⟩
structure REff (w:World) (v:EffV) (e:Eff):Prop where
 var:v.var=e.var
 val:v.val=e.val
 when:RS tFact w v.when e.when
structure REffs (w:World) (s:Value) (vs:List EffV) (es:List Eff):Prop where
 rs:RS tEff w s vs
 len:vs.length=es.length
 at_:∀ i,i<es.length→REff w (eget tEff vs i) (es.getD i dEff)
structure ROp (w:World) (v:OpV) (o:TOp):Prop where
 name:v.name=o.name
 size:o.name.size≤9223372036854775807
 cost:v.cost=o.cost
 pre:RS tFact w v.pre o.pre
 effs:∃ vs,REffs w v.effs vs o.effs
structure ROps (w:World) (s:Value) (vs:List OpV) (os:List TOp):Prop where
 rs:RS tOp w s vs
 len:vs.length=os.length
 at_:∀ i,i<os.length→ROp w (eget tOp vs i) (os.getD i dOp)
structure RTask (w:World) (a b c d:Value) (vs:List OpV) (t:TTask):Prop where
 vars:RS tInt w a t.vars
 init:RS tInt w b t.init
 goal:RS tFact w c t.goal
 ops:ROps w d vs t.ops
theorem REff.one {w:World}{v:EffV}{e:Eff}(h:REff w v e):(tEff.enc v).all Value.oneCell'=true:=by
 simp only [tEff,List.all_cons,List.all_nil,Bool.and_true,h.when.one];rfl
theorem ROp.one {w:World}{v:OpV}{o:TOp}(h:ROp w v o):(tOp.enc v).all Value.oneCell'=true:=by
 obtain⟨vs,he⟩:=h.effs
 simp only [tOp,List.all_cons,List.all_nil,Bool.and_true,h.pre.one,he.rs.one];rfl
theorem REffs.at {w0 w:World}{Γ:List HP}{s:Value}{vs:List EffV}{es:List Eff}(h:REffs w0 s vs es) (hw:Sat w0 w Γ):REffs w s vs es :=
 ⟨h.rs.at hw,h.len,fun i hi=>⟨(h.at_ i hi).var,(h.at_ i hi).val,(h.at_ i hi).when.at hw⟩⟩
theorem ROp.at {w0 w:World}{Γ:List HP}{v:OpV}{o:TOp}(h:ROp w0 v o) (hw:Sat w0 w Γ):ROp w v o :=
 ⟨h.name,h.size,h.cost,h.pre.at hw,let ⟨vs,he⟩:=h.effs;⟨vs,he.at hw⟩⟩
theorem ROps.at {w0 w:World}{Γ:List HP}{s:Value}{vs:List OpV}{os:List TOp}(h:ROps w0 s vs os) (hw:Sat w0 w Γ):ROps w s vs os :=
 ⟨h.rs.at hw,h.len,fun i hi=>(h.at_ i hi).at hw⟩
theorem RTask.at {w0 w:World}{Γ:List HP}{a b c d:Value}{vs:List OpV}{t:TTask}(h:RTask w0 a b c d vs t) (hw:Sat w0 w Γ):RTask w a b c d vs t :=
 ⟨h.vars.at hw,h.init.at hw,h.goal.at hw,h.ops.at hw⟩
end Go.Proofs.YtdadmnlenbdfbaaGreat
/-
  When a task is right, in plain Lean.
-/
namespace Go.Proofs.YtdadmnlenbdfbaaGreat
open Go.Sl
theorem qan {α:Type}{xs:List α}{i:Nat}(d:α) (h:i<xs.length):xs.getD i d∈xs:=by simp [List.getD,h]
theorem qak {α:Type}{l:List α}{d:α}{i:Nat}(h:i<l.length):l.getD i d=l[i]:=by simp [List.getD,h]
theorem iffF {p:Prop}(h:¬p):(false=true)↔p:=⟨(fun e=>by cases e),fun e=>absurd e h⟩
theorem iffT {p:Prop}(h:p):(true=true)↔p:=⟨fun _=>h,fun _=>rfl⟩
def StateOk (vars s:List Int):Prop:=s.length=vars.length∧∀ i,i<s.length→0≤s.getD i tInt.dflt∧s.getD i tInt.dflt<vars.getD i tInt.dflt
def FactOk (vars:List Int) (x:Fact):Prop:=0≤x.var∧x.var<vars.length∧0≤x.val∧x.val<vars.getD x.var.toNat tInt.dflt
def FactsOk (vars:List Int) (f:List Fact):Prop:=∀ i,i<f.length→FactOk vars (f.getD i tFact.dflt)∧(0<i→(f.getD (i-1) tFact.dflt).var<(f.getD i tFact.dflt).var)
def NameOk (b:ByteArray):Prop:=b.size≤256∧∀ i,i<b.size→32≤bat b i∧bat b i≤126
def EffOk (vars:List Int) (e:Eff):Prop:=FactsOk vars e.when∧FactsOk vars [⟨e.var,e.val⟩]
structure OpOk (vars:List Int) (o:TOp):Prop where
 cost0:0≤o.cost
 cost1:o.cost≤1048576
 effs:o.effs.length≤64
 name:NameOk o.name
 pre:FactsOk vars o.pre
 eff:∀ i,i<o.effs.length→EffOk vars (o.effs.getD i dEff)
structure GoodT (t:TTask):Prop where
 vars:t.vars.length≤64
 ops:t.ops.length≤4096
 dom:∀ i,i<t.vars.length→1≤t.vars.getD i tInt.dflt∧t.vars.getD i tInt.dflt≤64
 init:StateOk t.vars t.init
 goal:FactsOk t.vars t.goal
 op:∀ i,i<t.ops.length→OpOk t.vars (t.ops.getD i dOp)
def prodL (vars:List Int):Int:=vars.foldl (·*·) 1
structure SmallT (t:TTask):Prop where
 good:GoodT t
 vars:t.vars.length≤12
 ops:t.ops.length≤20
 effs:∀ i,i<t.ops.length→(t.ops.getD i dOp).effs.length≤8
 many:prodL t.vars≤512
def HoldF (s:List Int) (x:Fact):Prop:=0≤x.var∧x.var<s.length∧s.getD x.var.toNat tInt.dflt=x.val
def HoldFs (s:List Int) (f:List Fact):Prop:=∀ i,i<f.length→HoldF s (f.getD i tFact.dflt)
theorem qbc (l:List Int) (x:Int):prodL (l++[x])=prodL l*x:=by simp [prodL]
theorem qav {α:Type}{l:List α}{k:Nat}(d:α) (h:k<l.length):l.take (k+1)=l.take k++[l.getD k d]:=by
 rw [List.take_succ_eq_append_getElem h];simp [List.getD,h]
theorem qb3 {l:List Int}(h:∀ x∈l,1≤x):1≤prodL l:=by
 have key:∀ (l:List Int) (a:Int),1≤a→(∀ x∈l,1≤x)→1≤l.foldl (·*·) a:=by
  intro l
  induction l with
  | nil=>intro a ha _;exact ha
  | cons x l ih =>
   intro a ha hl
   refine ih (a*x) ?_ fun y hy=>hl y (List.mem_cons_of_mem _ hy)
   have hx:=hl x List.mem_cons_self
   have:=Int.mul_le_mul ha hx (by omega) (by omega)
   simpa using this
 exact key l 1 (Int.le_refl _) h
theorem qeP {l m:List Int}(hm:∀ x∈m,1≤x) (hl:∀ x∈l,1≤x):prodL l≤prodL (l++m):=by
 induction m generalizing l with
 | nil=>simp
 | cons x m ih =>
  have h1:=ih (l:=l++[x]) (fun y hy=>hm y (List.mem_cons_of_mem _ hy)) (fun y hy=>by
   rcases List.mem_append.1 hy with h|h
   ·exact hl y h
   ·rw [List.mem_singleton.1 h];exact hm x List.mem_cons_self)
  rw [qbc] at h1
  have h2:=qb3 hl
  have h3:=hm x List.mem_cons_self
  have h4:prodL l*1≤prodL l*x:=Int.mul_le_mul_of_nonneg_left h3 (by omega)
  have e:l++[x]++m=l++x::m:=by simp
  rw [e] at h1
  omega
end Go.Proofs.YtdadmnlenbdfbaaGreat
/-
  The error code of a task, in plain Lean.
-/
namespace Go.Proofs.YtdadmnlenbdfbaaGreat
open Go.Sl
def opConds (o:TOp):List (List Fact):=o.pre::o.effs.map (·.when)
def condsK (t:TTask) (k:Nat):List (List Fact):=t.goal::(t.ops.take k).flatMap opConds
def conds (t:TTask):List (List Fact):=condsK t t.ops.length
def LargeT (t:TTask):Prop:=64<t.vars.length∨4096<t.ops.length∨(∃ i,i<t.ops.length∧64<(t.ops.getD i dOp).effs.length)∨∃ i,i<(conds t).length∧64<((conds t).getD i []).length
def DomT (t:TTask):Prop:=∀ i,i<t.vars.length→1≤t.vars.getD i tInt.dflt∧t.vars.getD i tInt.dflt≤64
def CostT (t:TTask):Prop:=∀ i,i<t.ops.length→0≤(t.ops.getD i dOp).cost∧(t.ops.getD i dOp).cost≤1048576
def CondT (t:TTask):Prop:=∀ i,i<(conds t).length→FactsOk t.vars ((conds t).getD i [])
def EffT (t:TTask):Prop:=∀ i,i<t.ops.length→∀ j,j<(t.ops.getD i dOp).effs.length→FactsOk t.vars [⟨((t.ops.getD i dOp).effs.getD j dEff).var,((t.ops.getD i dOp).effs.getD j dEff).val⟩]
def NamesT (t:TTask):Prop:=∀ i,i<t.ops.length→NameOk (t.ops.getD i dOp).name
open Classical in
noncomputable def checkT (t:TTask):Int :=
 if LargeT t then 5 else if ¬DomT t then 1 else if ¬CostT t then 1 else if ¬StateOk t.vars t.init then 2 else if ¬CondT t then 2 else if ¬EffT t then 2 else if ¬NamesT t then 8 else 0
theorem qgS (t:TTask):condsK t 0=[t.goal]:=by simp [condsK]
theorem qem (t:TTask) {k:Nat}(hk:k<t.ops.length):condsK t (k+1)=condsK t k++opConds (t.ops.getD k dOp):=by
 simp [condsK,qav dOp hk]
theorem qdn (t:TTask):∀ k,k≤t.ops.length→(∀ i,i<t.ops.length→(t.ops.getD i dOp).effs.length≤64)→(condsK t k).length≤1+65*k
 | 0,_,_=>by simp [condsK]
 | k+1,hk,h=>by
  have:=qdn t k (by omega) h
  have h2:=h k (by omega)
  rw [qem t (by omega),List.length_append]
  simp only [opConds,List.length_cons,List.length_map]
  omega
theorem qc1 {t:TTask}{f:List Fact}:f∈conds t↔(f=t.goal∨∃ i,i<t.ops.length∧(f=(t.ops.getD i dOp).pre∨∃ j,j<(t.ops.getD i dOp).effs.length∧f=((t.ops.getD i dOp).effs.getD j dEff).when)):=by
 simp only [conds,condsK,List.take_length,List.mem_cons,List.mem_flatMap,opConds,List.mem_map]
 constructor
 ·rintro (h|⟨o,ho,h⟩)
  ·exact .inl h
  ·obtain⟨i,hi,rfl⟩:=List.getElem_of_mem ho
   refine .inr ⟨i,hi,?_⟩
   rw [qak hi]
   rcases h with h|⟨e,he,rfl⟩
   ·exact .inl h
   ·obtain⟨j,hj,rfl⟩:=List.getElem_of_mem he
    exact .inr ⟨j,hj,by rw [qak hj]⟩
 ·rintro (h|⟨i,hi,h⟩)
  ·exact .inl h
  ·refine .inr ⟨t.ops.getD i dOp,qan _ hi,?_⟩
   rcases h with h|⟨j,hj,rfl⟩
   ·exact .inl h
   ·exact .inr ⟨_,qan _ hj,rfl⟩
theorem qgb {vars:List Int}{f:List Fact}(h:FactsOk vars f):∀ i,i<f.length→(i:Int)≤(f.getD i tFact.dflt).var
 | 0,h0=>(h 0 h0).1.1
 | i+1,hi=>by
  have h1:=qgb h i (by omega)
  have h2:=(h (i+1) hi).2 (by omega)
  simp only [Nat.add_sub_cancel] at h2
  omega
theorem qaO {vars:List Int}{f:List Fact}(h:FactsOk vars f):f.length≤vars.length:=by
 rcases Nat.eq_zero_or_pos f.length with h0|h0
 ·omega
 ·have h1:=qgb h (f.length-1) (by omega)
  have h2:=(h (f.length-1) (by omega)).1.2.1
  omega
theorem qgc {t:TTask}:CondT t↔∀ f∈conds t,FactsOk t.vars f:=by
 constructor
 ·intro h f hf
  obtain⟨i,hi,rfl⟩:=List.getElem_of_mem hf
  have:=h i hi
  rwa [qak hi] at this
 ·intro h i hi
  exact h _ (qan _ hi)
theorem qc2 (t:TTask):checkT t=0↔GoodT t:=by
 unfold checkT
 constructor
 ·intro h
  split at h
  ·cases h
  rename_i h1
  split at h
  ·cases h
  rename_i h2
  split at h
  ·cases h
  rename_i h3
  split at h
  ·cases h
  rename_i h4
  split at h
  ·cases h
  rename_i h5
  split at h
  ·cases h
  rename_i h6
  split at h
  ·cases h
  rename_i h7
  rw [Classical.not_not] at h2 h3 h4 h5 h6 h7
  simp only [LargeT,not_or,not_exists,not_and,Nat.not_lt] at h1
  have h5':=qgc.1 h5
  refine⟨h1.1,h1.2.1,h2,h4,h5' _ (qc1.2 (.inl rfl)),fun i hi=>⟨(h3 i hi).1,(h3 i hi).2,h1.2.2.1 i hi,h7 i hi,h5' _ (qc1.2 (.inr ⟨i,hi,.inl rfl⟩)),fun j hj=>⟨h5' _ (qc1.2 (.inr ⟨i,hi,.inr ⟨j,hj,rfl⟩⟩)),h6 i hi j hj⟩⟩⟩
 ·intro h
  have hc:∀ f∈conds t,FactsOk t.vars f:=fun f hf=>by
   rcases qc1.1 hf with rfl|⟨i,hi,rfl|⟨j,hj,rfl⟩⟩
   ·exact h.goal
   ·exact (h.op i hi).pre
   ·exact ((h.op i hi).eff j hj).1
  have h1:¬LargeT t:=by
   rintro (h1|h1|⟨i,hi,h1⟩|⟨i,hi,h1⟩)
   ·have:=h.vars;omega
   ·have:=h.ops;omega
   ·have:=(h.op i hi).effs;omega
   ·have:=qaO (hc _ (qan [] hi))
    have:=h.vars
    omega
  have a2:DomT t:=h.dom
  have a3:CostT t:=fun i hi=>⟨(h.op i hi).cost0,(h.op i hi).cost1⟩
  have a5:CondT t:=qgc.2 hc
  have a6:EffT t:=fun i hi j hj=>((h.op i hi).eff j hj).2
  have a7:NamesT t:=fun i hi=>(h.op i hi).name
  rw [if_neg h1,if_neg (Classical.not_not.2 a2),if_neg (Classical.not_not.2 a3),if_neg (Classical.not_not.2 h.init),if_neg (Classical.not_not.2 a5),if_neg (Classical.not_not.2 a6),if_neg (Classical.not_not.2 a7)]
end Go.Proofs.YtdadmnlenbdfbaaGreat
/-
  States of a task, their ranks, the steps between them, in plain Lean.
-/
namespace Go.Proofs.YtdadmnlenbdfbaaGreat
open Go.Sl
def mix (ds:List (Int × Int)):Int:=ds.foldl (fun n d=>n*d.1+d.2) 0
theorem qhe (l:List (Int × Int)) (d:Int × Int):mix (l++[d])=mix l*d.1+d.2:=by simp [mix]
def DigOk (ds:List (Int × Int)):Prop:=∀ d∈ds,0≤d.2∧d.2<d.1
theorem qcD {α:Type}{P:List α→Prop}(h0:P []) (h1:∀ l x,P l→P (l++[x])) (l:List α):P l:=by
 have:∀ n,∀ l:List α,l.length=n→P l:=by
  intro n
  induction n with
  | zero=>intro l hl;rw [List.length_eq_zero_iff.1 hl];exact h0
  | succ n ih =>
   intro l hl
   have hne:l≠[]:=fun h=>by simp [h] at hl
   rw [←List.dropLast_concat_getLast hne]
   exact h1 _ _ (ih _ (by simp [hl]))
 exact this _ l rfl
theorem qiI {ds:List (Int × Int)}:DigOk ds→0≤mix ds∧mix ds<prodL (ds.map (·.1)):=by
 refine qcD (P:=fun ds=>DigOk ds→0≤mix ds∧mix ds<prodL (ds.map (·.1))) ?_ ?_ ds
 ·intro _;decide
 ·intro l d ih h
  obtain⟨a,b⟩:=ih fun x hx=>h x (List.mem_append_left _ hx)
  obtain⟨c,e⟩:=h d (List.mem_append_right _ (List.mem_singleton.2 rfl))
  rw [qhe,List.map_append,List.map_cons,List.map_nil,qbc]
  have h1:0≤mix l*d.1:=Int.mul_nonneg a (by omega)
  have h2:(mix l+1)*d.1≤prodL (l.map (·.1))*d.1:=Int.mul_le_mul_of_nonneg_right (by omega) (by omega)
  rw [Int.add_mul] at h2
  omega
def rankL (vars s:List Int):Int:=mix (vars.zip s)
theorem qhT {vars s:List Int}(h:s.length=vars.length) (k x:Int):rankL (vars++[k]) (s++[x])=rankL vars s*k+x:=by
 unfold rankL;rw [List.zip_append h.symm,List.zip_cons_cons,List.zip_nil_right,qhe]
theorem StateOk.dig {vars s:List Int}(h:StateOk vars s):DigOk (vars.zip s):=by
 intro d hd
 obtain⟨i,hi,rfl⟩:=List.getElem_of_mem hd
 rw [List.length_zip] at hi
 have:=h.2 i (by omega)
 rw [qak (by omega),qak (by omega)] at this
 simpa using this
theorem qlO {a b:List Int}(h:b.length=a.length):(a.zip b).map (·.1)=a:=by
 have:=List.map_fst_zip (l₁:=a) (l₂:=b) (by omega)
 exact this
theorem qdT {vars s:List Int}(h:StateOk vars s):0≤rankL vars s∧rankL vars s<prodL vars:=by
 have:=qiI h.dig
 rwa [qlO h.1] at this
def statesS (out:List (List Int)) (k:Int):List (List Int):=out.flatMap fun s=>(List.range k.toNat).map fun (x:Nat)=>s++[(x:Int)]
def statesL (vars:List Int):List (List Int):=vars.foldl statesS [[]]
theorem qbS (vars:List Int) (k:Int):statesL (vars++[k])=statesS (statesL vars) k:=by simp [statesL]
theorem qiJ (n k:Nat):(List.range n).flatMap (fun r=>(List.range k).map fun x=>r*k+x)=List.range (n*k):=by
 induction n with
 | zero=>simp
 | succ n ih=>rw [List.range_succ,List.flatMap_append,ih,Nat.succ_mul,List.range_add];simp
theorem qeV {α β:Type}{l:List α}{f g:α→List β}(h:∀ x∈l,f x=g x):l.flatMap f=l.flatMap g:=by
 induction l with
 | nil=>rfl
 | cons x l ih=>rw [List.flatMap_cons,List.flatMap_cons,h x List.mem_cons_self,ih fun y hy=>h y (List.mem_cons_of_mem _ hy)]
theorem qfD {vars s:List Int}{k x:Int}(h:StateOk vars s) (h0:0≤x) (h1:x<k):StateOk (vars++[k]) (s++[x]):=by
 refine⟨by simp [h.1],fun i hi => ?_⟩
 simp only [List.length_append,List.length_cons,List.length_nil] at hi
 simp only [List.getD_eq_getElem?_getD]
 by_cases e:i<s.length
 ·rw [List.getElem?_append_left e,List.getElem?_append_left (by rw [←h.1];exact e)]
  simpa only [List.getD_eq_getElem?_getD] using h.2 i e
 ·have e2:i=s.length:=by omega
  subst e2
  rw [List.getElem?_append_right (Nat.le_refl _),List.getElem?_append_right (by rw [h.1];exact Nat.le_refl _),h.1]
  simpa using ⟨h0,h1⟩
theorem qeu {vars s:List Int}{k:Int}(h:StateOk (vars++[k]) s):∃ s' x,s=s'++[x]∧StateOk vars s'∧0≤x∧x<k:=by
 have hl:=h.1
 simp only [List.length_append,List.length_cons,List.length_nil] at hl
 have hne:s≠[]:=fun e=>by simp [e] at hl
 refine⟨s.dropLast,s.getLast hne,(List.dropLast_concat_getLast hne).symm,?_,?_⟩
 ·refine⟨by simp;omega,fun i hi => ?_⟩
  simp only [List.length_dropLast] at hi
  have:=h.2 i (by omega)
  simp only [List.getD_eq_getElem?_getD] at this ⊢
  rw [List.getElem?_append_left (by omega)] at this
  rw [List.getElem?_dropLast,if_pos (by omega)]
  exact this
 ·have:=h.2 (s.length-1) (by omega)
  simp only [List.getD_eq_getElem?_getD] at this
  rw [List.getElem?_append_right (by omega),show s.length-1-vars.length=0 by omega] at this
  rw [List.getLast_eq_getElem]
  rw [List.getElem?_eq_getElem (by omega)] at this
  simpa using this
theorem qcl {vars:List Int}:∀ {s:List Int},s∈statesL vars↔StateOk vars s:=by
 refine qcD (P:=fun vars=>∀ {s:List Int},s∈statesL vars↔StateOk vars s) ?_ ?_ vars
 ·intro s
  simp only [statesL,List.foldl_nil,List.mem_singleton]
  constructor
  ·rintro rfl;exact⟨rfl,fun i hi=>absurd hi (Nat.not_lt_zero _)⟩
  ·intro h;exact List.length_eq_zero_iff.1 h.1
 ·intro l k ih s
  rw [qbS,statesS,List.mem_flatMap]
  constructor
  ·rintro⟨s',hs',h⟩
   obtain⟨x,hx,rfl⟩:=List.mem_map.1 h
   have:=List.mem_range.1 hx
   exact qfD (ih.1 hs') (by omega) (by omega)
  ·intro h
   obtain⟨s',x,rfl,h1,h2,h3⟩:=qeu h
   exact⟨s',ih.2 h1,List.mem_map.2 ⟨x.toNat,List.mem_range.2 (by omega),by rw [Int.toNat_of_nonneg h2]⟩⟩
theorem qdr {vars:List Int}:(∀ x∈vars,1≤x)→(statesL vars).map (fun s=>(rankL vars s).toNat)=List.range (prodL vars).toNat:=by
 refine qcD (P:=fun vars=>(∀ x∈vars,1≤x)→(statesL vars).map (fun s=>(rankL vars s).toNat)=List.range (prodL vars).toNat) ?_ ?_ vars
 ·intro _;decide
 ·intro l k ih h
  have hk:=h k (by simp)
  have hp:=qb3 fun x hx=>h x (List.mem_append_left [k] hx)
  have ih':=ih fun x hx=>h x (by simp [hx])
  rw [qbS,statesS,List.map_flatMap,qbc,Int.toNat_mul (by omega) (by omega),←qiJ,←ih',List.flatMap_map]
  refine qeV fun s hs => ?_
  rw [List.map_map]
  refine List.map_congr_left fun x hx => ?_
  have hs':=qcl.1 hs
  have hb:=(qdT hs').1
  simp only [Function.comp]
  rw [qhT hs'.1]
  have:0≤rankL l s*k:=Int.mul_nonneg hb (by omega)
  rw [Int.toNat_add this (by omega),Int.toNat_mul hb (by omega)]
  omega
theorem qa3 {vars:List Int}(h:∀ x∈vars,1≤x):(statesL vars).length=(prodL vars).toNat:=by
 have:=congrArg List.length (qdr h)
 simpa using this
theorem qhU {vars:List Int}(h:∀ x∈vars,1≤x) {i:Nat}(hi:i<(statesL vars).length):StateOk vars ((statesL vars).getD i [])∧rankL vars ((statesL vars).getD i [])=i:=by
 have hm:(statesL vars).getD i []∈statesL vars:=qan [] hi
 have hs:=qcl.1 hm
 refine⟨hs,?_⟩
 have:=congrArg (fun l=>l[i]?) (qdr h)
 rw [qa3 h] at hi
 simp only [List.getElem?_map] at this
 rw [List.getElem?_range (by omega),List.getElem?_eq_getElem (by rw [qa3 h];omega)] at this
 simp only [Option.map_some,Option.some.injEq] at this
 rw [qak (by rw [qa3 h];omega)] at hs ⊢
 have hb:=(qdT hs).1
 omega
instance (s:List Int) (x:Fact):Decidable (HoldF s x):=by unfold HoldF;infer_instance
instance (s:List Int) (f:List Fact):Decidable (HoldFs s f):=by unfold HoldFs;infer_instance
def AppT (t:TTask) (s:List Int) (op:Nat):Prop:=HoldFs s (t.ops.getD op dOp).pre
instance (t:TTask) (s:List Int) (op:Nat):Decidable (AppT t s op):=by unfold AppT;infer_instance
theorem qcm {vars:List Int}{e:Eff}(h:EffOk vars e):0≤e.var∧e.var<vars.length∧0≤e.val∧e.val<vars.getD e.var.toNat tInt.dflt:=by
 have:=(h.2 0 (Nat.zero_lt_succ _)).1
 exact this
theorem GoodT.pos {t:TTask}(h:GoodT t):∀ x∈t.vars,1≤x:=by
 intro x hx
 obtain⟨i,hi,rfl⟩:=List.getElem_of_mem hx
 have:=(h.dom i hi).1
 rwa [qak hi] at this
structure Edg where
 src:Int
 lab:Int
 dst:Int
 deriving DecidableEq
end Go.Proofs.YtdadmnlenbdfbaaGreat
/-
  Least costs to a goal in a graph of labelled edges, in plain Lean.
-/
namespace Go.Proofs.YtdadmnlenbdfbaaGreat
open Go.Sl
abbrev inf:Int:=1125899906842624
abbrev dg (D:List Int) (i:Int):Int:=D.getD i.toNat tInt.dflt
end Go.Proofs.YtdadmnlenbdfbaaGreat
/-
  IDA*, in plain Lean: one round as a recursion with fuel, and what it leaves.
-/
namespace Go.Proofs.YtdadmnlenbdfbaaGreat
open Go.Sl
inductive IR|goOn|solved|unknown
 deriving DecidableEq
structure ISt where
 exp:Nat
 next:Int
 vis:List Int→Option Int
 path:List Int
structure IPar where
 t:TTask
 H:List Int→Int
 lim:Nat
 bound:Int
section
variable {I:IPar}{rec:List Int→Int→ISt→IR × ISt}{s:List Int}{g:Int}{op:Nat}{l:List Nat}{S:ISt}
end
end Go.Proofs.YtdadmnlenbdfbaaGreat
/-
  The visited states of IDA*, kept under texts of bytes.
-/
namespace Go.Proofs.YtdadmnlenbdfbaaGreat
open Go.Sl Go
end Go.Proofs.YtdadmnlenbdfbaaGreat
/-
  A table that is filled from the left.
-/
namespace Go.Proofs.YtdadmnlenbdfbaaGreat
open Go.Sl
def fillL (n:Nat) (f:Nat→Int) (k:Nat):List Int:=(List.range n).map fun i=>if i<k then f i else 0
theorem qcJ (n:Nat) (f:Nat→Int) (k:Nat):(fillL n f k).length=n:=by simp [fillL]
theorem qeE (n:Nat) (f:Nat→Int):fillL n f 0=List.replicate n 0:=by
 apply List.ext_getElem (by simp [fillL])
 intro i h1 h2;simp [fillL]
theorem qfH {n:Nat}{f:Nat→Int}{k:Nat}:(fillL n f k).set k (f k)=fillL n f (k+1):=by
 apply List.ext_getElem (by simp [fillL])
 intro i h1 h2
 rw [List.getElem_set]
 simp only [fillL,List.getElem_map,List.getElem_range]
 split
 ·rename_i e;subst e;rw [if_pos (by omega)]
 ·by_cases h:i<k
  ·rw [if_pos h,if_pos (by omega)]
  ·rw [if_neg h,if_neg (by omega)]
theorem qkq {n:Nat}{f:Nat→Int}{k i:Nat}(h:i<n) (hk:i<k):(fillL n f k).getD i tInt.dflt=f i:=by simp [fillL,List.getD,h,hk]
end Go.Proofs.YtdadmnlenbdfbaaGreat
/-
  The decision tree of the applicable operators, in plain Lean: what is collected in a state.
-/
namespace Go.Proofs.YtdadmnlenbdfbaaGreat
open Go.Sl
end Go.Proofs.YtdadmnlenbdfbaaGreat
/-
  Projections of tasks to patterns, in plain Lean.
-/
namespace Go.Proofs.YtdadmnlenbdfbaaGreat
open Go.Sl
def PatOk (vars p:List Int):Prop:=∀ i,i<p.length→(0≤p.getD i tInt.dflt∧p.getD i tInt.dflt<vars.length)∧(0<i→p.getD (i-1) tInt.dflt<p.getD i tInt.dflt)
end Go.Proofs.YtdadmnlenbdfbaaGreat
/-
  The operators that the decision tree collects are the applicable ones.
-/
namespace Go.Proofs.YtdadmnlenbdfbaaGreat
open Go.Sl
end Go.Proofs.YtdadmnlenbdfbaaGreat
/-
  How a decision tree lies in memory: a node for a list of operators and a variable.
-/
namespace Go.Proofs.YtdadmnlenbdfbaaGreat
open Go.Sl Go
def QmK (w0:World) (Γ:List HP) (φ:World→Prop):Prop:=∀ (w:World) (Δ:List HP),Sat w0 w (Δ++Γ)→φ w
end Go.Proofs.YtdadmnlenbdfbaaGreat
/-
  IDA*, in plain Lean: all rounds; plans are of least cost with an admissible table; without a plan none is found.
-/
namespace Go.Proofs.YtdadmnlenbdfbaaGreat
open Go.Sl
section
variable {t:TTask}{H:List Int→Int}{lim f:Nat}{next:Int}{e:Nat}{bs:List Int}
end
end Go.Proofs.YtdadmnlenbdfbaaGreat
/-
  What 'targets' computes: the abstract steps, in plain Lean.
-/
namespace Go.Proofs.YtdadmnlenbdfbaaGreat
open Go.Sl
section
variable {t:TTask}{p:List Int}{op:Nat}{a:Int}
end
end Go.Proofs.YtdadmnlenbdfbaaGreat
/-
  The transition system of a projection, in plain Lean.
-/
namespace Go.Proofs.YtdadmnlenbdfbaaGreat
open Go.Sl
def costsT (t:TTask):List Int:=t.ops.map (·.cost)
theorem qee {t:TTask}{i:Nat}(h:i<t.ops.length):(costsT t).getD i tInt.dflt=(t.ops.getD i dOp).cost:=by
 rw [qak h];simp [costsT,List.getD,h]
end Go.Proofs.YtdadmnlenbdfbaaGreat
/-
  The projection to all variables has the steps of the task.
-/
namespace Go.Proofs.YtdadmnlenbdfbaaGreat
open Go.Sl
end Go.Proofs.YtdadmnlenbdfbaaGreat
/-
  The lists of operators by the values of a variable, step by step.
-/
namespace Go.Proofs.YtdadmnlenbdfbaaGreat
open Go.Sl Go
section
variable {t:TTask}{ops:List Int}{u n k:Nat}
end
end Go.Proofs.YtdadmnlenbdfbaaGreat
/-
  The successors from an operator on; what the reference's round says of the program's.
-/
namespace Go.Proofs.YtdadmnlenbdfbaaGreat
open Go.Sl Go
end Go.Proofs.YtdadmnlenbdfbaaGreat
/-
  What a visit changes in any case: the number of states, the path.
-/
namespace Go.Proofs.YtdadmnlenbdfbaaGreat
open Go.Sl Go
end Go.Proofs.YtdadmnlenbdfbaaGreat
/-
  Plans, operator by operator: the states along them and their costs.
-/
namespace Go.Proofs.YtdadmnlenbdfbaaGreat
open Go.Sl
section
variable {t:TTask}
end
end Go.Proofs.YtdadmnlenbdfbaaGreat
/-
  The plain law of a binary heap over any order: 'up' and 'down' restore the heap, and the first element is a least one.
-/
namespace Go.Proofs.YtdadmnlenbdfbaaGreat
open Go.Sl
class HOrd {α:Type}(lt:α→α→Bool):Prop where
 asym:∀ a b,lt a b=true→lt b a=false
 trans:∀ a b c,lt b a=false→lt c b=false→lt c a=false
abbrev hle {α:Type}(lt:α→α→Bool) (a b:α):Prop:=lt b a=false
section
variable {α:Type}{d:α}{lt:α→α→Bool}
theorem qdS [HOrd lt] (a:α):hle lt a a:=by
 show lt a a=false
 cases h:lt a a with
 | false=>rfl
 | true=>exact absurd (HOrd.asym a a h) (by rw [h];decide)
theorem qc5 [HOrd lt] {a b c:α}(h1:hle lt a b) (h2:hle lt b c):hle lt a c:=HOrd.trans a b c h1 h2
theorem qjY [HOrd lt] {a b:α}(h:lt a b=true):hle lt a b:=HOrd.asym a b h
abbrev hg (d:α) (xs:List α) (i:Nat):α:=xs.getD i d
def IsHeap (d:α) (lt:α→α→Bool) (xs:List α):Prop:=∀ i,0<i→i<xs.length→hle lt (hg d xs ((i-1) / 2)) (hg d xs i)
def sw (d:α) (xs:List α) (i j:Nat):List α:=(xs.set i (hg d xs j)).set j (hg d xs i)
theorem qeQ (xs:List α) (i j:Nat):(sw d xs i j).length=xs.length:=by simp [sw]
theorem qlL {xs:List α}{i k:Nat}{x:α}(hi:i<xs.length):hg d (xs.set i x) k=if k=i then x else hg d xs k:=by
 simp only [hg,List.getD_eq_getElem?_getD,List.getElem?_set]
 by_cases h:i=k
 ·subst h;simp [hi]
 ·rw [if_neg h,if_neg (Ne.symm h)]
theorem qbs {xs:List α}{i j k:Nat}(hi:i<xs.length) (hj:j<xs.length):hg d (sw d xs i j) k=if k=j then hg d xs i else if k=i then hg d xs j else hg d xs k:=by
 unfold sw
 rw [qlL (by simpa using hj),qlL hi]
theorem qep {xs:List α}{i j:Nat}(hi:i<xs.length) (hj:j<xs.length):(sw d xs i j).Perm xs:=by
 have h1:hg d xs i=xs[i]:=qak hi
 have h2:hg d xs j=xs[j]:=qak hj
 unfold sw
 rw [h1,h2]
 exact List.set_set_perm hi hj
structure UpI (d:α) (lt:α→α→Bool) (xs:List α) (j:Nat):Prop where
 inb:j<xs.length
 rest:∀ i,0<i→i<xs.length→i≠j→hle lt (hg d xs ((i-1) / 2)) (hg d xs i)
 over:∀ i,0<i→i<xs.length→(i-1) / 2=j→0<j→hle lt (hg d xs ((j-1) / 2)) (hg d xs i)
theorem UpI.done {xs:List α}{j:Nat}(h:UpI d lt xs j) (hd:(j-1) / 2=j∨hle lt (hg d xs ((j-1) / 2)) (hg d xs j)):IsHeap d lt xs:=by
 intro i h0 h1
 by_cases hij:i=j
 ·subst hij
  rcases hd with hd|hd
  ·omega
  ·exact hd
 ·exact h.rest i h0 h1 hij
theorem UpI.step [HOrd lt] {xs:List α}{j:Nat}(h:UpI d lt xs j) (hj:(j-1) / 2≠j) (hl:lt (hg d xs j) (hg d xs ((j-1) / 2))=true):UpI d lt (sw d xs ((j-1) / 2) j) ((j-1) / 2):=by
 have hlt:=h.inb
 have hp:(j-1) / 2<xs.length:=by omega
 have h0j:0<j:=by omega
 have hle1:=qjY hl
 refine⟨by rw [qeQ];exact hp,fun i h0 h1 hne => ?_,fun i h0 h1 he hpos => ?_⟩
 ·rw [qeQ] at h1
  rw [qbs hp hlt,qbs hp hlt]
  by_cases hij:i=j
  ·subst hij
   have e1:¬(i-1) / 2=i:=by omega
   rw [if_neg e1,if_pos rfl,if_pos rfl]
   exact hle1
  ·rw [if_neg hij,if_neg hne]
   by_cases hpj:(i-1) / 2=j
   ·rw [if_pos hpj]
    exact h.over i h0 h1 hpj h0j
   ·rw [if_neg hpj]
    by_cases hpp:(i-1) / 2=(j-1) / 2
    ·rw [if_pos hpp]
     have:=h.rest i h0 h1 hij
     rw [hpp] at this
     exact qc5 hle1 this
    ·rw [if_neg hpp]
     exact h.rest i h0 h1 hij
 ·rw [qeQ] at h1
  rw [qbs hp hlt,qbs hp hlt]
  have hr:=h.rest ((j-1) / 2) hpos hp (by omega)
  have e1:¬((j-1) / 2-1) / 2=j:=by omega
  have e2:¬((j-1) / 2-1) / 2=(j-1) / 2:=by omega
  rw [if_neg e1,if_neg e2]
  by_cases hij:i=j
  ·rw [if_pos hij];exact hr
  ·rw [if_neg hij]
   by_cases hip:i=(j-1) / 2
   ·omega
   ·rw [if_neg hip]
    have:=h.rest i h0 h1 hij
    rw [he] at this
    exact qc5 hr this
theorem qk8 {xs:List α}{x:α}(h:IsHeap d lt xs):UpI d lt (xs++[x]) xs.length:=by
 have hg':∀ k,k<xs.length→hg d (xs++[x]) k=hg d xs k:=fun k hk=>by simp [hg,List.getD_eq_getElem?_getD,List.getElem?_append_left hk]
 refine⟨by simp,fun i h0 h1 hne => ?_,fun i h0 h1 he hp => ?_⟩
 ·simp only [List.length_append,List.length_cons,List.length_nil] at h1
  rw [hg' _ (by omega),hg' _ (by omega)]
  exact h i h0 (by omega)
 ·simp only [List.length_append,List.length_cons,List.length_nil] at h1
  omega
structure DnI (d:α) (lt:α→α→Bool) (xs:List α) (n i:Nat):Prop where
 le:n≤xs.length
 rest:∀ c,0<c→c<n→(c-1) / 2≠i→hle lt (hg d xs ((c-1) / 2)) (hg d xs c)
 over:∀ c,0<c→c<n→(c-1) / 2=i→0<i→hle lt (hg d xs ((i-1) / 2)) (hg d xs c)
def HeapN (d:α) (lt:α→α→Bool) (xs:List α) (n:Nat):Prop:=∀ c,0<c→c<n→hle lt (hg d xs ((c-1) / 2)) (hg d xs c)
theorem DnI.leaf {xs:List α}{n i:Nat}(h:DnI d lt xs n i) (hl:n≤2*i+1):HeapN d lt xs n:=fun c h0 h1=>h.rest c h0 h1 (by omega)
theorem DnI.done [HOrd lt] {xs:List α}{n i j:Nat}(h:DnI d lt xs n i) (hmin:∀ c,0<c→c<n→(c-1) / 2=i→hle lt (hg d xs j) (hg d xs c)) (hle1:hle lt (hg d xs i) (hg d xs j)):HeapN d lt xs n:=by
 intro c h0 h1
 by_cases hc:(c-1) / 2=i
 ·have:=hmin c h0 h1 hc
  rw [hc];exact qc5 hle1 this
 ·exact h.rest c h0 h1 hc
theorem DnI.step [HOrd lt] {xs:List α}{n i j:Nat}(h:DnI d lt xs n i) (hj:j=2*i+1∨j=2*i+2) (hjn:j<n) (hmin:∀ c,0<c→c<n→(c-1) / 2=i→hle lt (hg d xs j) (hg d xs c)) (hlt:lt (hg d xs j) (hg d xs i)=true):DnI d lt (sw d xs i j) n j:=by
 have hle1:=h.le
 have hi:i<xs.length:=by omega
 have hjl:j<xs.length:=by omega
 refine⟨by rw [qeQ];exact hle1,fun c h0 h1 hne => ?_,fun c h0 h1 he hp => ?_⟩
 ·rw [qbs hi hjl,qbs hi hjl,if_neg hne]
  by_cases hci:(c-1) / 2=i
  ·rw [if_pos hci]
   by_cases hcj:c=j
   ·rw [if_pos hcj];exact qjY hlt
   ·rw [if_neg hcj,if_neg (by omega)]
    exact hmin c h0 h1 hci
  ·rw [if_neg hci]
   by_cases hcj:c=j
   ·omega
   ·rw [if_neg hcj]
    by_cases hc:c=i
    ·subst hc
     rw [if_pos rfl]
     exact h.over j (by omega) hjn (by omega) h0
    ·rw [if_neg hc]
     exact h.rest c h0 h1 hci
 ·rw [qbs hi hjl,qbs hi hjl]
  have e1:(j-1) / 2=i:=by omega
  rw [e1,if_neg (show ¬i=j by omega),if_pos rfl,if_neg (show ¬c=j by omega),if_neg (show ¬c=i by omega)]
  have:=h.rest c h0 h1 (by omega)
  rw [he] at this
  exact this
theorem qmv {xs:List α}(h:IsHeap d lt xs) (hl:0<xs.length):DnI d lt (sw d xs 0 (xs.length-1)) (xs.length-1) 0:=by
 refine⟨by rw [qeQ];omega,fun c h0 h1 hne => ?_,fun c _ _ _ h0=>absurd h0 (by omega)⟩
 rw [qbs hl (by omega),qbs hl (by omega),if_neg (by omega),if_neg (by omega),if_neg (by omega),if_neg (by omega)]
 exact h c h0 (by omega)
theorem qk9 [HOrd lt] {xs:List α}(h:IsHeap d lt xs):∀ i,i<xs.length→hle lt (hg d xs 0) (hg d xs i):=by
 intro i
 induction i using Nat.strongRecOn with
 | _ i ih =>
  intro hi
  rcases Nat.eq_zero_or_pos i with h0|h0
  ·subst h0;exact qdS _
  ·exact qc5 (ih ((i-1) / 2) (by omega) (by omega)) (h i h0 hi)
theorem qla [HOrd lt] {xs:List α}(h:IsHeap d lt xs) {x:α}(hx:x∈xs):hle lt (hg d xs 0) x:=by
 obtain⟨i,hi,rfl⟩:=List.getElem_of_mem hx
 have:=qk9 h i hi
 rwa [show hg d xs i=xs[i] from qak hi] at this
theorem qlb {xs ys:List α}(hl:0<xs.length) (hp:ys.Perm xs) (hh:HeapN d lt ys (xs.length-1)) (hlast:hg d ys (xs.length-1)=hg d xs 0) :
  IsHeap d lt (ys.take (xs.length-1))∧xs.Perm (hg d xs 0::ys.take (xs.length-1)):=by
 have hyl:=hp.length_eq
 refine⟨fun i h0 h1 => ?_,?_⟩
 ·simp only [List.length_take] at h1
  have hg':∀ k,k<xs.length-1→hg d (ys.take (xs.length-1)) k=hg d ys k:=fun k hk=>by simp [hg,hk]
  rw [hg' _ (by omega),hg' _ (by omega)]
  exact hh i h0 (by omega)
 ·have e:ys=ys.take (xs.length-1)++[hg d xs 0]:=by
   have h1:ys.drop (xs.length-1)=[hg d xs 0]:=by
    rw [List.drop_eq_getElem_cons (by omega),List.drop_eq_nil_of_le (by omega),←hlast]
    rw [show hg d ys (xs.length-1)=ys[xs.length-1] from qak (by omega)]
   rw [←h1,List.take_append_drop]
  refine hp.symm.trans ?_
  have:=List.perm_append_comm (l₁:=ys.take (xs.length-1)) (l₂:=[hg d xs 0])
  rw [←e] at this
  exact this
end
theorem qjZ (j:Nat):Int.tdiv ((j:Int)-1) 2=(((j-1) / 2:Nat):Int):=by
 rcases Nat.eq_zero_or_pos j with h|h
 ·subst h;rfl
 ·rw [Int.tdiv_eq_ediv_of_nonneg (by omega)];omega
end Go.Proofs.YtdadmnlenbdfbaaGreat
/-
  Dijkstra's algorithm with a heap of items, in plain Lean.
-/
namespace Go.Proofs.YtdadmnlenbdfbaaGreat
open Go.Sl
structure Item where
 dist:Int
 state:Int
 deriving DecidableEq
def tItem:Ty Item:=⟨2,fun x=>[.int .i64 x.dist,.int .i64 x.state],fun _=>rfl,⟨0,0⟩⟩
instance inTDijk1:OneT tItem:=⟨fun x v hv=>by simp only [tItem,List.mem_cons,List.not_mem_nil,or_false] at hv;rcases hv with rfl|rfl <;> rfl⟩
def ilt (a b:Item):Bool:=decide (a.dist<b.dist)
instance inTDijk2:HOrd ilt:=⟨fun a b h=>by simp only [ilt,decide_eq_true_eq,decide_eq_false_iff_not] at *;omega,fun a b c h1 h2=>by simp only [ilt,decide_eq_false_iff_not] at *;omega⟩
section
variable {E:List Edg}{c:List Int}{G:Int→Prop}{n:Nat}{D:List Int}{Q:List Item}{S:List Int}{m:Int}{done:Edg→Prop}
end
end Go.Proofs.YtdadmnlenbdfbaaGreat
/-
  The delete relaxation, in plain Lean: unary operators, derived values, and the algorithm that finds the least ones.
-/
namespace Go.Proofs.YtdadmnlenbdfbaaGreat
open Go.Sl
structure Un where
 op:Int
 eff:Int
 cost:Int
 makes:Int
 needs:List Int
def dUn:Un:=⟨0,0,0,0,[]⟩
def un (U:List Un) (i:Int):Un:=U.getD i.toNat dUn
inductive Der (U:List Un) (S:Int→Prop):Int→Int→Prop
 | start {f:Int}:S f→Der U S f 0
 | fire {i:Nat}{v:Int→Int}{m:Int}:i<U.length→0≤m→(∀ n∈(un U i).needs,Der U S n (v n))→(∀ n∈(un U i).needs,v n≤m)→Der U S (un U i).makes ((un U i).cost+m)
structure UnOk (U:List Un) (N:Nat):Prop where
 cost:∀ i:Nat,i<U.length→0≤(un U i).cost∧(un U i).cost≤1048576
 makes:∀ i:Nat,i<U.length→0≤(un U i).makes∧(un U i).makes<N
 needs:∀ i:Nat,i<U.length→∀ n∈(un U i).needs,0≤n∧n<N
 nd:∀ i:Nat,i<U.length→(un U i).needs.Nodup
def lft (dn:List Int) (l:List Int):Nat:=(l.filter fun n=>decide (n∉dn)).length
theorem qhD {dn l:List Int}:lft dn l=0↔∀ n∈l,n∈dn:=by
 unfold lft
 rw [List.length_eq_zero_iff,List.filter_eq_nil_iff]
 simp
theorem qmi (l:List Int):lft [] l=l.length:=by
 unfold lft
 rw [List.filter_eq_self.2 (by simp)]
theorem qjw {f:Int}{dn:List Int}(hf:f∉dn):∀ {l:List Int},l.Nodup→f∈l→lft dn l=lft (f::dn) l+1
 | [],_,h=>by simp at h
 | x::l,hn,h=>by
  obtain⟨h1,h2⟩:=List.nodup_cons.1 hn
  unfold lft
  by_cases e:x=f
  ·subst e
   rw [List.filter_cons,if_pos (by simp [hf]),List.filter_cons,if_neg (by simp)]
   have hc:(l.filter fun n=>decide (n∉dn))=l.filter fun n=>decide (n∉x::dn):=List.filter_congr fun y hy=>by
    have:y≠x:=fun e=>h1 (by rw [←e];exact hy)
    simp [this]
   rw [hc];rfl
  ·have ih:=qjw hf h2 (by rcases List.mem_cons.1 h with h|h;exact absurd h.symm e;exact h)
   unfold lft at ih
   by_cases hx:x∈dn
   ·rw [List.filter_cons,if_neg (by simp [hx]),List.filter_cons,if_neg (by simp [hx])];exact ih
   ·rw [List.filter_cons,if_pos (by simp [hx]),List.filter_cons,if_pos (by simp [hx,e])]
    simp only [List.length_cons];omega
theorem qmj {f:Int}{dn l:List Int}(h:f∉l):lft dn l=lft (f::dn) l:=by
 unfold lft
 rw [List.filter_congr fun y hy=>by
  have:y≠f:=fun e=>h (by rw [←e];exact hy)
  show decide (y∉dn)=decide (y∉f::dn)
  simp [this]]
def nedL (U:List Un) (f:Int):List Int:=((List.range U.length).filter fun (i:Nat)=>decide (f∈(un U i).needs)).map fun (i:Nat)=>(i:Int)
theorem qhE {U:List Un}{f i:Int}:i∈nedL U f↔∃ k:Nat,i=k∧k<U.length∧f∈(un U k).needs:=by
 unfold nedL
 simp only [List.mem_map,List.mem_filter,List.mem_range,decide_eq_true_eq]
 constructor
 ·rintro⟨k,⟨h1,h2⟩,rfl⟩;exact⟨k,rfl,h1,h2⟩
 ·rintro⟨k,rfl,h1,h2⟩;exact⟨k,⟨h1,h2⟩,rfl⟩
theorem qie (U:List Un) (f:Int):(nedL U f).Nodup:=by
 unfold nedL
 refine List.Pairwise.map _ (fun a b h => ?_) (List.nodup_range.filter _)
 intro e;exact h (by omega)
structure RI (U:List Un) (S:Int→Prop) (N:Nat) (D lf:List Int) (dn:List Int) (Q:List Item) (m:Int) (f:Int) (ok:Nat→Prop):Prop where
 dl:D.length=N
 ll:lf.length=U.length
 rng:∀ g:Int,0≤g→g<N→0≤dg D g∧dg D g≤inf
 der:∀ g:Int,0≤g→g<N→dg D g<inf→Der U S g (dg D g)
 lft1:∀ i:Nat,i<U.length→ok i→dg lf i=lft dn (un U i).needs
 lft2:∀ i:Nat,i<U.length→¬ok i→f∈(un U i).needs∧dg lf i=lft dn (un U i).needs+1
 low:∀ i:Nat,i<U.length→ok i→(∀ n∈(un U i).needs,n∈dn)→∀ k,0≤k→(∀ n∈(un U i).needs,dg D n≤k)→dg D (un U i).makes≤(un U i).cost+k
 act:∀ g:Int,0≤g→g<N→dg D g<inf→g∉dn→∃ x∈Q,x.state=g∧x.dist=dg D g
 ent:∀ x∈Q,(0≤x.state∧x.state<N)∧dg D x.state≤x.dist∧m≤x.dist∧x.dist<inf
 set:∀ g∈dn,(0≤g∧g<N)∧dg D g≤m
 m0:0≤m
 m1:m<inf
section
variable {U:List Un}{S:Int→Prop}{N:Nat}{D lf dn:List Int}{Q:List Item}{m f:Int}{ok:Nat→Prop}
theorem RI.perm (h:RI U S N D lf dn Q m f ok) {Q':List Item}(hp:Q'.Perm Q):RI U S N D lf dn Q' m f ok :=
 { h with
  act:=fun g a b c d=>let ⟨x,hx,hh⟩:=h.act g a b c d;⟨x,hp.mem_iff.2 hx,hh⟩
  ent:=fun x hx=>h.ent x (hp.mem_iff.1 hx) }
theorem RI.reach (h:RI U S N D lf dn Q m f ok) {g v:Int}(hg:0≤g∧g<N) (hv:v<dg D g) (hm:m≤v) (hd:Der U S g v):RI U S N (D.set g.toNat v) lf dn (⟨v,g⟩::Q) m f ok:=by
 have hr:=h.rng g hg.1 hg.2
 have hm0:=h.m0
 have hgd:g∉dn:=fun hh=>by have:=(h.set g hh).2;omega
 have hlt:g.toNat<D.length:=by rw [h.dl];omega
 have hget:∀ x:Int,0≤x→dg (D.set g.toNat v) x=if x=g then v else dg D x:=fun x hx=>by
  unfold dg
  by_cases e:x=g
  ·rw [if_pos e,e]
   simp [List.getD,hlt]
  ·rw [if_neg e]
   simp only [List.getD]
   rw [List.getElem?_set_ne (by omega)]
 have hle:∀ x:Int,0≤x→dg (D.set g.toNat v) x≤dg D x:=fun x hx=>by
  rw [hget x hx];split
  ·rename_i e;rw [e];omega
  ·exact Int.le_refl _
 refine⟨by simp [h.dl],h.ll,fun x h0 h1 => ?_,fun x h0 h1 h2 => ?_,h.lft1,h.lft2,fun i hi ho hn k hk hk2 => ?_,fun x h0 h1 h2 h3 => ?_,fun x hx => ?_,fun x hx => ?_,h.m0,h.m1⟩
 ·rw [hget x h0];split
  ·exact⟨by omega,by omega⟩
  ·exact h.rng x h0 h1
 ·rw [hget x h0] at h2 ⊢
  split
  ·rename_i e;rw [e];exact hd
  ·rename_i e;rw [if_neg e] at h2;exact h.der x h0 h1 h2
 ·have hmk:(0:Int)≤(un U i).makes∨(un U i).makes<0:=by omega
  have hb:=h.low i hi ho hn k hk fun n hn'=>by
   have:=hk2 n hn'
   have h0:=((h.set n (hn n hn')).1).1
   rw [hget n h0,if_neg (fun e=>hgd (by rw [←e];exact hn n hn'))] at this
   exact this
  rcases hmk with h0|h0
  ·have:=hle _ h0;omega
  ·unfold dg at hb ⊢
   rw [show (un U i).makes.toNat=(0:Int).toNat by omega] at hb ⊢
   have:=hle 0 (Int.le_refl _)
   unfold dg at this
   omega
 ·rw [hget x h0] at h2 ⊢
  by_cases e:x=g
  ·exact⟨⟨v,g⟩,List.mem_cons_self,e.symm,by rw [if_pos e]⟩
  ·rw [if_neg e] at h2 ⊢
   obtain⟨y,hy,h4⟩:=h.act x h0 h1 h2 h3
   exact⟨y,List.mem_cons_of_mem _ hy,h4⟩
 ·rcases List.mem_cons.1 hx with rfl|hx
  ·refine⟨hg,?_,hm,by have:=hr.2;show v<inf;omega⟩
   rw [hget _ hg.1,if_pos rfl];exact Int.le_refl _
  ·obtain⟨e1,e2,e3,e4⟩:=h.ent x hx
   exact⟨e1,by have:=hle x.state e1.1;omega,e3,e4⟩
 ·obtain⟨e1,e2⟩:=h.set x hx
  exact⟨e1,by have:=hle x e1.1;omega⟩
theorem RI.skip {x:Item}(h:RI U S N D lf dn (x::Q) m f ok) (hx:x.state∈dn):RI U S N D lf dn Q m f ok :=
 { h with
  act:=fun g a b c d=>by
   obtain⟨y,hy,h1,h2⟩:=h.act g a b c d
   rcases List.mem_cons.1 hy with rfl|hy
   ·exact absurd (h1 ▸ hx) d
   ·exact⟨y,hy,h1,h2⟩
  ent:=fun y hy=>h.ent y (List.mem_cons_of_mem _ hy) }
theorem RI.take (hU:UnOk U N) {x:Item}(h:RI U S N D lf dn (x::Q) m f fun _=>True) (hx:x.state∉dn) (hmin:∀ y∈Q,x.dist≤y.dist) :
  RI U S N D lf (x.state::dn) Q x.dist x.state (fun i=>x.state∉(un U i).needs)∧dg D x.state=x.dist∧(0≤x.state∧x.state<N)∧0≤x.dist∧x.dist<inf:=by
 obtain⟨e1,e2,e3,e4⟩:=h.ent x List.mem_cons_self
 have hm0:=h.m0
 have hd:dg D x.state=x.dist:=by
  obtain⟨y,hy,h1,h2⟩:=h.act x.state e1.1 e1.2 (by omega) hx
  rcases List.mem_cons.1 hy with rfl|hy
  ·exact h2.symm
  ·have:=hmin y hy;omega
 refine⟨⟨h.dl,h.ll,h.rng,h.der,fun i hi ho => ?_,fun i hi ho => ?_,fun i hi ho hn k hk hk2 => ?_,fun g h0 h1 h2 h3 => ?_,fun y hy => ?_,fun g hg => ?_,by omega,e4⟩,hd,e1,by omega,e4⟩
 ·rw [h.lft1 i hi trivial,qmj ho]
 ·have ho:x.state∈(un U i).needs:=Classical.byContradiction ho
  refine⟨ho,?_⟩
  rw [h.lft1 i hi trivial,qjw hx (hU.nd i hi) ho]
  rfl
 ·refine h.low i hi trivial (fun n hn' => ?_) k hk hk2
  rcases List.mem_cons.1 (hn n hn') with e|e
  ·exact absurd (e ▸ hn') ho
  ·exact e
 ·obtain⟨y,hy,h4,h5⟩:=h.act g h0 h1 h2 (fun hh=>h3 (List.mem_cons_of_mem _ hh))
  rcases List.mem_cons.1 hy with rfl|hy
  ·exact absurd (by rw [h4];exact List.mem_cons_self) h3
  ·exact⟨y,hy,h4,h5⟩
 ·obtain⟨f1,f2,f3,f4⟩:=h.ent y (List.mem_cons_of_mem _ hy)
  exact⟨f1,f2,hmin y hy,f4⟩
 ·rcases List.mem_cons.1 hg with rfl|hg
  ·exact⟨e1,by omega⟩
  ·obtain⟨f1,f2⟩:=h.set g hg
   exact⟨f1,by omega⟩
theorem RI.count {i:Nat}(hi:i<U.length) (h:RI U S N D lf dn Q m f ok) (hno:¬ok i) (hz:dg lf i-1≠0∨dg D (un U i).makes≤m+(un U i).cost) (hf:dg D f=m):RI U S N D (lf.set i (dg lf i-1)) dn Q m f (fun k=>ok k∨k=i):=by
 obtain⟨hfi,hl⟩:=h.lft2 i hi hno
 have hget:∀ k:Nat,dg (lf.set i (dg lf i-1)) k=if k=i then dg lf i-1 else dg lf k:=fun k=>by
  unfold dg
  by_cases e:k=i
  ·subst e
   rw [if_pos rfl]
   have:k<lf.length:=by rw [h.ll];exact hi
   simp [List.getD,this]
  ·rw [if_neg e]
   simp only [List.getD]
   rw [List.getElem?_set_ne (by omega)]
 refine { h with ll:=by simp [h.ll],lft1:=fun k hk ho => ?_,lft2:=fun k hk ho => ?_,low:=fun k hk ho hn c hc hc2 => ?_ }
 ·rw [hget]
  by_cases e:k=i
  ·subst e;rw [if_pos rfl,hl];omega
  ·rw [if_neg e];exact h.lft1 k hk (ho.resolve_right e)
 ·have e:k≠i:=fun e=>ho (.inr e)
  rw [hget,if_neg e]
  exact h.lft2 k hk fun hh=>ho (.inl hh)
 ·by_cases e:ok k
  ·exact h.low k hk e hn c hc hc2
  ·have e2:k=i:=ho.resolve_left e
   subst e2
   have hz0:=qhD.2 hn
   have:=hc2 f hfi
   rcases hz with hz|hz
   ·omega
   ·omega
theorem RI.fin (hU:UnOk U N) (h:RI U S N D lf dn [] m f fun _=>True) (hS:∀ g,S g→0≤g∧g<N∧dg D g≤0):∀ g v,Der U S g v→0≤g→g<N→dg D g≤v:=by
 have hdn:∀ g:Int,0≤g→g<N→dg D g<inf→g∈dn:=fun g h0 h1 h2=>by
  apply Classical.byContradiction
  intro hn
  obtain⟨x,hx,_⟩:=h.act g h0 h1 h2 hn
  simp at hx
 intro g v hd
 induction hd with
 | start hs=>intro _ _;exact (hS _ hs).2.2
 | @fire i v m hi hm hn hle ih =>
  intro h0 h1
  have hr:=h.rng _ h0 h1
  have hc:=(hU.cost i hi).1
  by_cases hall:∀ n∈(un U i).needs,dg D n<inf
  ·refine h.low i hi trivial (fun n hn' => ?_) m hm fun n hn' => ?_
   ·have hb:=hU.needs i hi n hn'
    exact hdn n hb.1 hb.2 (hall n hn')
   ·have hb:=hU.needs i hi n hn'
    have:=ih n hn' hb.1 hb.2
    have:=hle n hn'
    omega
  ·have:∃ n,n∈(un U i).needs∧¬dg D n<inf:=by
    apply Classical.byContradiction
    intro hh
    exact hall fun n hn'=>Classical.byContradiction fun h3=>hh ⟨n,hn',h3⟩
   obtain⟨n,hn',h3⟩:=this
   have hb:=hU.needs i hi n hn'
   have:=ih n hn' hb.1 hb.2
   have:=hle n hn'
   omega
theorem RI.fired {i:Nat}(hi:i<U.length) (h:RI U S N D lf dn Q m f ok) (hno:¬ok i) (hz:dg lf i-1=0) (hb:∀ n∈(un U i).needs,0≤n∧n<N):Der U S (un U i).makes (m+(un U i).cost):=by
 obtain⟨hfi,hl⟩:=h.lft2 i hi hno
 have hz0:lft dn (un U i).needs=0:=by omega
 have hall:=qhD.1 hz0
 rw [Int.add_comm]
 have hm1:=h.m1
 refine .fire (v:=dg D) hi h.m0 (fun n hn => ?_) fun n hn => ?_
 ·obtain⟨e1,e2⟩:=h.set n (hall n hn)
  exact h.der n e1.1 e1.2 (by omega)
 ·exact (h.set n (hall n hn)).2
end
end Go.Proofs.YtdadmnlenbdfbaaGreat
/-
  The heuristic hmax, in plain Lean: the unary operators of a task, their values; consistent, 0 in goal states.
-/
namespace Go.Proofs.YtdadmnlenbdfbaaGreat
open Go.Sl
def firstV (vars:List Int) (v:Nat):Int:=(vars.take v).foldl (·+·) 0
def numF (vars:List Int) (f:Fact):Int:=firstV vars f.var.toNat+f.val
def addN (acc:List Int) (n:Int):List Int:=if n∈acc then acc else acc++[n]
def needsL (vars:List Int) (l:List Fact) (acc:List Int):List Int:=l.foldl (fun acc f=>addN acc (numF vars f)) acc
theorem qgo (vars:List Int):firstV vars 0=0:=rfl
theorem qbd {vars:List Int}{v:Nat}(h:v<vars.length):firstV vars (v+1)=firstV vars v+vars.getD v tInt.dflt:=by
 unfold firstV
 rw [qav tInt.dflt h,List.foldl_append];rfl
theorem qbI {vars:List Int}(hp:∀ x∈vars,1≤x) {a:Nat}:∀ {b:Nat},a≤b→b≤vars.length→firstV vars a≤firstV vars b
 | 0,h,_=>by rw [show a=0 by omega];exact Int.le_refl _
 | b+1,h,hb=>by
  by_cases e:a=b+1
  ·rw [e];exact Int.le_refl _
  ·have:=qbI hp (a:=a) (b:=b) (by omega) (by omega)
   have h2:=hp _ (qan tInt.dflt (show b<vars.length by omega))
   rw [qbd (by omega)];omega
theorem qbT {vars:List Int}(hp:∀ x∈vars,1≤x) {b:Nat}(hb:b≤vars.length):0≤firstV vars b:=qbI hp (a:=0) (Nat.zero_le _) hb
theorem qcE {vars:List Int}(hp:∀ i,i<vars.length→vars.getD i tInt.dflt≤64):∀ {b:Nat},b≤vars.length→firstV vars b≤64*(b:Int)
 | 0,_=>by rw [qgo];omega
 | b+1,hb=>by
  have:=qcE hp (b:=b) (by omega)
  have:=hp b (by omega)
  rw [qbd (by omega)];omega
theorem qb8 {vars:List Int}(hp:∀ x∈vars,1≤x) {f:Fact}(h:FactOk vars f):0≤numF vars f∧numF vars f<firstV vars vars.length:=by
 obtain⟨h0,h1,h2,h3⟩:=h
 have hv:f.var.toNat<vars.length:=by omega
 have a:=qbT hp (b:=f.var.toNat) (by omega)
 have b:=qbI hp (a:=f.var.toNat+1) (b:=vars.length) (by omega) (Nat.le_refl _)
 rw [qbd hv] at b
 unfold numF
 omega
theorem qgp {vars:List Int}(hp:∀ x∈vars,1≤x) {v:Nat}(hv:v<vars.length) {x:Int}(h0:0≤x) (h1:x<vars.getD v tInt.dflt):0≤firstV vars v+x∧firstV vars v+x<firstV vars vars.length:=by
 have a:=qbT hp (b:=v) (by omega)
 have b:=qbI hp (a:=v+1) (b:=vars.length) (by omega) (Nat.le_refl _)
 rw [qbd hv] at b
 omega
theorem qkh {acc:List Int}{n x:Int}:x∈addN acc n↔x∈acc∨x=n:=by
 unfold addN
 split
 ·rename_i h
  exact⟨.inl,fun h2=>h2.elim id fun e=>by rw [e];exact h⟩
 ·simp
theorem qhV {acc:List Int}{n:Int}(h:acc.Nodup):(addN acc n).Nodup:=by
 unfold addN
 split
 ·exact h
 ·rename_i hn
  exact List.nodup_append.2 ⟨h,by simp,fun a ha b hb e=>hn (by rw [List.mem_singleton.1 hb] at e;rw [←e];exact ha)⟩
theorem qki (acc:List Int) (n:Int):(addN acc n).length≤acc.length+1:=by
 unfold addN;split <;> simp
theorem qcn (vars:List Int) (l:List Fact) (f:Fact) (acc:List Int):needsL vars (l++[f]) acc=addN (needsL vars l acc) (numF vars f):=by simp [needsL]
theorem qb9 {vars:List Int}{acc:List Int}{x:Int}:∀ {l:List Fact},x∈needsL vars l acc↔x∈acc∨∃ f∈l,numF vars f=x:=by
 intro l
 refine qcD (P:=fun l=>x∈needsL vars l acc↔x∈acc∨∃ f∈l,numF vars f=x) (by simp [needsL]) ?_ l
 intro l f ih
 rw [qcn,qkh,ih]
 simp only [List.mem_append,List.mem_singleton]
 constructor
 ·rintro ((h|⟨g,h1,h2⟩)|h)
  ·exact .inl h
  ·exact .inr ⟨g,.inl h1,h2⟩
  ·exact .inr ⟨f,.inr rfl,h.symm⟩
 ·rintro (h|⟨g,h1|h1,h2⟩)
  ·exact .inl (.inl h)
  ·exact .inl (.inr ⟨g,h1,h2⟩)
  ·exact .inr (by rw [←h2,h1])
theorem qbm {vars:List Int}{acc:List Int}(h:acc.Nodup) (l:List Fact):(needsL vars l acc).Nodup:=by
 refine qcD (P:=fun l=>(needsL vars l acc).Nodup) h ?_ l
 intro l f ih
 rw [qcn];exact qhV ih
def unE (vars:List Int) (i:Nat) (o:TOp) (k:Nat):Un:=⟨i,k,o.cost,numF vars ⟨(o.effs.getD k dEff).var,(o.effs.getD k dEff).val⟩,needsL vars (o.effs.getD k dEff).when (needsL vars o.pre [])⟩
def unO (vars:List Int) (i:Nat) (o:TOp) (m:Nat):List Un:=(List.range m).map (unE vars i o)
def unK (t:TTask) (k:Nat):List Un:=(List.range k).flatMap fun i=>unO t.vars i (t.ops.getD i dOp) (t.ops.getD i dOp).effs.length
def unT (t:TTask):List Un:=unK t t.ops.length
theorem qkj (vars:List Int) (i:Nat) (o:TOp) (m:Nat):unO vars i o (m+1)=unO vars i o m++[unE vars i o m]:=by simp [unO,List.range_succ]
theorem qhf (t:TTask) (k:Nat):unK t (k+1)=unK t k++unO t.vars k (t.ops.getD k dOp) (t.ops.getD k dOp).effs.length:=by simp [unK,List.range_succ]
theorem qlP {t:TTask}{k:Nat}{u:Un}:u∈unK t k↔∃ i j,i<k∧j<(t.ops.getD i dOp).effs.length∧u=unE t.vars i (t.ops.getD i dOp) j:=by
 simp only [unK,unO,List.mem_flatMap,List.mem_range,List.mem_map]
 constructor
 ·rintro⟨i,h1,j,h2,rfl⟩;exact⟨i,j,h1,h2,rfl⟩
 ·rintro⟨i,j,h1,h2,rfl⟩;exact⟨i,h1,j,h2,rfl⟩
theorem qiK (vars:List Int) (i:Nat) (o:TOp) (m:Nat):(unO vars i o m).length=m:=by simp [unO]
theorem qgq {t:TTask}(hg:GoodT t):∀ {k:Nat},k≤t.ops.length→(unK t k).length≤64*k
 | 0,_=>by simp [unK]
 | k+1,h=>by
  have:=qgq hg (k:=k) (by omega)
  have:=(hg.op k (by omega)).effs
  rw [qhf,List.length_append,qiK];omega
def factN (t:TTask):Nat:=(firstV t.vars t.vars.length).toNat
theorem qcF {t:TTask}(hg:GoodT t):(factN t:Int)=firstV t.vars t.vars.length:=by
 have:=qbT hg.pos (b:=t.vars.length) (Nat.le_refl _)
 unfold factN;omega
theorem qhg {t:TTask}(hg:GoodT t):factN t≤4096:=by
 have h1:=qcE (fun i hi=>(hg.dom i hi).2) (Nat.le_refl t.vars.length)
 have h2:=hg.vars
 unfold factN;omega
theorem qhh {U:List Un}{i:Nat}(h:i<U.length):un U i∈U:=qan dUn h
theorem qlf {t:TTask}(hg:GoodT t):UnOk (unT t) (factN t):=by
 have key:∀ u∈unT t,(0≤u.cost∧u.cost≤1048576)∧(0≤u.makes∧u.makes<factN t)∧(∀ n∈u.needs,0≤n∧n<factN t)∧u.needs.Nodup:=by
  intro u hu
  obtain⟨i,j,hi,hj,rfl⟩:=qlP.1 hu
  have ho:=hg.op i hi
  have he:=qcm (ho.eff j hj)
  rw [qcF hg]
  refine⟨⟨ho.cost0,ho.cost1⟩,qb8 hg.pos he,fun n hn => ?_,qbm (qbm List.nodup_nil _) _⟩
  have hw:=(ho.eff j hj).1
  rcases qb9.1 hn with h|⟨f,hf,rfl⟩
  ·rcases qb9.1 h with h|⟨f,hf,rfl⟩
   ·simp at h
   ·obtain⟨k,hk,rfl⟩:=List.getElem_of_mem hf
    have:=(ho.pre k hk).1
    rw [qak hk] at this
    exact qb8 hg.pos this
  ·obtain⟨k,hk,rfl⟩:=List.getElem_of_mem hf
   have:=(hw k hk).1
   rw [qak hk] at this
   exact qb8 hg.pos this
 exact⟨fun i hi=>(key _ (qhh hi)).1,fun i hi=>(key _ (qhh hi)).2.1,fun i hi=>(key _ (qhh hi)).2.2.1,fun i hi=>(key _ (qhh hi)).2.2.2⟩
def StF (vars s:List Int) (f:Int):Prop:=∃ v:Nat,v<vars.length∧f=firstV vars v+s.getD v tInt.dflt
structure IsHM (t:TTask) (s out:List Int):Prop where
 len:out.length=factN t
 rng:∀ g:Int,0≤g→g<factN t→0≤dg out g∧dg out g≤inf
 der:∀ g:Int,0≤g→g<factN t→dg out g<inf→Der (unT t) (StF t.vars s) g (dg out g)
 low:∀ g v,Der (unT t) (StF t.vars s) g v→0≤g→g<factN t→dg out g≤v
def maxG (vars:List Int) (goal:List Fact) (out:List Int):Int:=goal.foldl (fun m f=>max m (dg out (numF vars f))) 0
theorem qiL (vars:List Int) (l:List Fact) (f:Fact) (out:List Int):maxG vars (l++[f]) out=max (maxG vars l out) (dg out (numF vars f)):=by simp [maxG]
theorem qlQ {t:TTask}{s out out':List Int}(h:IsHM t s out) (h':IsHM t s out'):out=out':=by
 apply List.ext_getElem (by rw [h.len,h'.len])
 intro i h1 h2
 have hi:i<factN t:=by rw [←h.len];exact h1
 have a:=h.rng i (by omega) (by omega)
 have a':=h'.rng i (by omega) (by omega)
 have b:=h.der i (by omega) (by omega)
 have b':=h'.der i (by omega) (by omega)
 have c:=fun v hd=>h.low i v hd (by omega) (by omega)
 have c':=fun v hd=>h'.low i v hd (by omega) (by omega)
 have e:dg out (i:Int)=dg out' (i:Int):=by
  by_cases hx:dg out (i:Int)<inf
  ·have:=c' _ (b hx)
   have:=c _ (b' (by omega))
   omega
  ·by_cases hy:dg out' (i:Int)<inf
   ·have:=c _ (b' hy);omega
   ·omega
 unfold dg at e
 rw [Int.toNat_natCast,qak h1,qak h2] at e
 exact e
end Go.Proofs.YtdadmnlenbdfbaaGreat
/-
  What relax.New lays out: numbers of first facts, the operators that need a fact, those that need nothing; how unary operators lie in memory.
-/
namespace Go.Proofs.YtdadmnlenbdfbaaGreat
open Go.Sl
structure UnV where
 op:Int
 eff:Int
 cost:Int
 makes:Int
 needs:Value
def tUn:Ty UnV:=⟨5,fun u=>[.int .i64 u.op,.int .i64 u.eff,.int .i64 u.cost,.int .i64 u.makes,u.needs],fun _=>rfl,⟨0,0,0,0,.slice none 0 0⟩⟩
instance inTUn1:ShutT tUn:=⟨trivial⟩
structure RUn (w:World) (v:UnV) (u:Un):Prop where
 op:v.op=u.op
 eff:v.eff=u.eff
 cost:v.cost=u.cost
 makes:v.makes=u.makes
 needs:RS tInt w v.needs u.needs
def UnF (vs:List UnV) (us:List Un) (w:World):Prop:=∀ i:Nat,i<us.length→RUn w (eget tUn vs i) (un us i)
def fstL (vars:List Int) (k:Nat):List Int:=(List.range k).map (firstV vars)
theorem qfa (vars:List Int) (k:Nat):(fstL vars k).length=k:=by simp [fstL]
theorem ql7 {vars:List Int}{k i:Nat}(h:i<k):(fstL vars k).getD i tInt.dflt=firstV vars i:=by simp [fstL,List.getD,h]
theorem qja (vars:List Int) (k:Nat):fstL vars (k+1)=fstL vars k++[firstV vars k]:=by simp [fstL,List.range_succ]
def nedI (U:List Un) (u:Un) (i N:Nat):List (List Int):=(List.range N).map fun (f:Nat)=>nedL U f++(if (f:Int)∈u.needs.take i then [(U.length:Int)] else [])
def nedR (U:List Un) (N:Nat):List (List Int):=(List.range N).map fun (f:Nat)=>nedL U f
theorem qhw (U:List Un) (u:Un) (i N:Nat):(nedI U u i N).length=N:=by simp [nedI]
theorem qfb (U:List Un) (N:Nat):(nedR U N).length=N:=by simp [nedR]
theorem ql8 {U:List Un}{N f:Nat}(h:f<N):(nedR U N).getD f []=nedL U f:=by simp [nedR,List.getD,h]
theorem qkz (N:Nat):nedR [] N=List.replicate N []:=by
 apply List.ext_getElem (by simp [nedR])
 intro i h1 h2
 simp [nedR,nedL]
theorem qjb (U:List Un) (u:Un) (N:Nat):nedI U u 0 N=nedR U N:=by simp [nedI,nedR]
theorem qjc (U:List Un) (u:Un) (f:Int):nedL (U++[u]) f=nedL U f++(if f∈u.needs then [(U.length:Int)] else []):=by
 unfold nedL
 rw [List.length_append,List.length_singleton,List.range_succ,List.filter_append,List.map_append]
 have h1:(List.range U.length).filter (fun (i:Nat)=>decide (f∈(un (U++[u]) i).needs))=(List.range U.length).filter fun (i:Nat)=>decide (f∈(un U i).needs):=List.filter_congr fun i hi=>by
  have hi:=List.mem_range.1 hi
  have:un (U++[u]) i=un U i:=by unfold un;simp [List.getD,List.getElem?_append_left hi]
  rw [this]
 have h2:un (U++[u]) (U.length:Nat)=u:=by unfold un;simp [List.getD]
 rw [h1]
 congr 1
 simp only [List.filter_cons,List.filter_nil]
 rw [h2]
 by_cases h:f∈u.needs
 ·simp [h]
 ·simp [h]
theorem qkA (U:List Un) (u:Un) (N:Nat):nedI U u u.needs.length N=nedR (U++[u]) N:=by
 unfold nedI nedR
 refine List.map_congr_left fun f _ => ?_
 rw [qjc,List.take_length]
theorem qjd {U:List Un}{u:Un}{i N f:Nat}(h:f<N):(nedI U u i N).getD f []=nedL U f++(if (f:Int)∈u.needs.take i then [(U.length:Int)] else []):=by simp [nedI,List.getD,h]
theorem qkB {U:List Un}{u:Un}{i N:Nat}(hi:i<u.needs.length) (hn:u.needs.Nodup) (hr:∀ n∈u.needs,0≤n∧n<N):(nedI U u i N).set (u.needs.getD i tInt.dflt).toNat ((nedI U u i N).getD (u.needs.getD i tInt.dflt).toNat []++[(U.length:Int)])=nedI U u (i+1) N:=by
 have hm:=hr _ (qan tInt.dflt hi)
 have hni:u.needs.getD i tInt.dflt∉u.needs.take i:=by
  rw [qak hi]
  intro h
  obtain⟨j,hj,he⟩:=List.getElem_of_mem h
  rw [List.length_take] at hj
  rw [List.getElem_take] at he
  exact absurd he (by
   have:=List.pairwise_iff_getElem.1 hn j i (by omega) hi (by omega)
   exact this)
 have hts:u.needs.take (i+1)=u.needs.take i++[u.needs.getD i tInt.dflt]:=qav tInt.dflt hi
 rw [qjd (by omega),if_neg (by rw [Int.toNat_of_nonneg hm.1];exact hni),List.append_nil]
 apply List.ext_getElem (by simp [nedI])
 intro j h1 h2
 rw [List.getElem_set]
 have hj:j<N:=by simpa [nedI] using h2
 simp only [nedI,List.getElem_map,List.getElem_range]
 rw [hts]
 split
 ·rename_i e
  subst e
  rw [Int.toNat_of_nonneg hm.1,if_pos (by simp)]
 ·rename_i e
  have e2:(j:Int)≠u.needs.getD i tInt.dflt:=fun h=>e (by rw [←h];rfl)
  by_cases h:(j:Int)∈u.needs.take i
  ·rw [if_pos h,if_pos (List.mem_append_left _ h)]
  ·rw [if_neg h,if_neg (by simp only [List.mem_append,List.mem_singleton];exact fun hh=>hh.elim h e2)]
theorem qhx (U:List Un) (f:Int):(nedL U f).length≤U.length:=by
 unfold nedL
 rw [List.length_map]
 exact Nat.le_trans (List.length_filter_le _ _) (by simp)
theorem qgz (U:List Un) (u:Un) (i N f:Nat):((nedI U u i N).getD f []).length≤U.length+1:=by
 by_cases h:f<N
 ·rw [qjd h]
  have:=qhx U f
  split <;> simp <;> omega
 ·simp [nedI,List.getD,h]
def freL (U:List Un):List Int:=((List.range U.length).filter fun (i:Nat)=>decide ((un U i).needs=[])).map fun (i:Nat)=>(i:Int)
theorem qkC:freL []=[]:=by simp [freL]
theorem qhy {U:List Un}{i:Int}:i∈freL U↔∃ k:Nat,i=k∧k<U.length∧(un U k).needs=[]:=by
 unfold freL
 simp only [List.mem_map,List.mem_filter,List.mem_range,decide_eq_true_eq]
 constructor
 ·rintro⟨k,⟨h1,h2⟩,rfl⟩;exact⟨k,rfl,h1,h2⟩
 ·rintro⟨k,rfl,h1,h2⟩;exact⟨k,⟨h1,h2⟩,rfl⟩
theorem qhz (U:List Un):(freL U).length≤U.length:=by
 unfold freL
 rw [List.length_map]
 exact Nat.le_trans (List.length_filter_le _ _) (by simp)
theorem qfL (U:List Un) (u:Un):freL (U++[u])=freL U++(if u.needs=[] then [(U.length:Int)] else []):=by
 unfold freL
 rw [List.length_append,List.length_singleton,List.range_succ,List.filter_append,List.map_append]
 have h1:(List.range U.length).filter (fun (i:Nat)=>decide ((un (U++[u]) i).needs=[]))=(List.range U.length).filter fun (i:Nat)=>decide ((un U i).needs=[]):=List.filter_congr fun i hi=>by
  have hi:=List.mem_range.1 hi
  have:un (U++[u]) i=un U i:=by unfold un;simp [List.getD,List.getElem?_append_left hi]
  rw [this]
 have h2:un (U++[u]) (U.length:Nat)=u:=by unfold un;simp [List.getD]
 rw [h1]
 congr 1
 simp only [List.filter_cons,List.filter_nil]
 rw [h2]
 by_cases h:u.needs=[]
 ·simp [h]
 ·simp [h]
theorem qgA {U:List Un}{u:Un}{i:Nat}(h:i<U.length):un (U++[u]) i=un U i:=by unfold un;simp [List.getD,List.getElem?_append_left h]
theorem qgB {U:List Un}{u:Un}:un (U++[u]) (U.length:Nat)=u:=by unfold un;simp [List.getD]
end Go.Proofs.YtdadmnlenbdfbaaGreat
/-
  The start of the relaxation's algorithm; reaching a fact; the end gives the least values.
-/
namespace Go.Proofs.YtdadmnlenbdfbaaGreat
open Go.Sl
def rchD (D:List Int) (g v:Int):List Int:=if v<dg D g then D.set g.toNat v else D
def rchQ (D:List Int) (Q:List Item) (g v:Int):List Item:=if v<dg D g then ⟨v,g⟩::Q else Q
theorem qe8 (D:List Int) (Q:List Item) (g v:Int):(rchQ D Q g v).length≤Q.length+1:=by unfold rchQ;split <;> simp
theorem qe9 {D:List Int}{N:Nat}(hl:D.length=N) {g v:Int}(hg:0≤g∧g<N) {x:Int}(hx:0≤x):dg (D.set g.toNat v) x=if x=g then v else dg D x:=by
 unfold dg
 by_cases e:x=g
 ·rw [if_pos e,e]
  have hlt:g.toNat<D.length:=by omega
  simp [List.getD,hlt]
 ·rw [if_neg e]
  simp only [List.getD]
  rw [List.getElem?_set_ne (by omega)]
theorem qhv {D:List Int}{N:Nat}(hl:D.length=N) {g v:Int}(hg:0≤g∧g<N) {x:Int}(hx:0≤x):dg (rchD D g v) x≤dg D x:=by
 unfold rchD
 split
 ·rw [qe9 hl hg hx]
  split
  ·rename_i h e;rw [e];omega
  ·exact Int.le_refl _
 ·exact Int.le_refl _
theorem qi4 {D:List Int}{N:Nat}(hl:D.length=N) {g v:Int}(hg:0≤g∧g<N):dg (rchD D g v) g≤v:=by
 unfold rchD
 split
 ·rw [qe9 hl hg hg.1,if_pos rfl];exact Int.le_refl _
 ·omega
theorem qky {D:List Int}{N:Nat}(hl:D.length=N) {g v:Int}(hg:0≤g∧g<N) {x m:Int}(hx:0≤x) (hm:dg D x=m) (hv:m≤v):dg (rchD D g v) x=m:=by
 unfold rchD
 split
 ·rw [qe9 hl hg hx]
  split
  ·rename_i h e;rw [←e] at h;omega
  ·exact hm
 ·exact hm
structure RI0 (U:List Un) (S:Int→Prop) (N:Nat) (D:List Int) (Q:List Item):Prop where
 dl:D.length=N
 rng:∀ g:Int,0≤g→g<N→0≤dg D g∧dg D g≤inf
 der:∀ g:Int,0≤g→g<N→dg D g<inf→Der U S g (dg D g)
 act:∀ g:Int,0≤g→g<N→dg D g<inf→∃ x∈Q,x.state=g∧x.dist=dg D g
 ent:∀ x∈Q,(0≤x.state∧x.state<N)∧dg D x.state≤x.dist∧0≤x.dist∧x.dist<inf
section
variable {U:List Un}{S:Int→Prop}{N:Nat}{D lf dn:List Int}{Q:List Item}{m f:Int}{ok:Nat→Prop}
theorem RI0.init (U:List Un) (S:Int→Prop) (N:Nat):RI0 U S N (List.replicate N inf) []:=by
 have h:∀ g:Int,0≤g→g<N→dg (List.replicate N inf) g=inf:=fun g h0 h1=>by
  unfold dg
  have:g.toNat<N:=by omega
  simp [List.getD,List.getElem?_replicate,this]
 exact⟨by simp,fun g h0 h1=>by rw [h g h0 h1];exact⟨by decide,Int.le_refl _⟩,fun g h0 h1 h2=>by rw [h g h0 h1] at h2;exact absurd h2 (Int.lt_irrefl _),fun g h0 h1 h2=>by rw [h g h0 h1] at h2;exact absurd h2 (Int.lt_irrefl _),fun x hx=>by simp at hx⟩
theorem RI0.perm (h:RI0 U S N D Q) {Q':List Item}(hp:Q'.Perm Q):RI0 U S N D Q' :=
 { h with
  act:=fun g a b c=>let ⟨x,hx,hh⟩:=h.act g a b c;⟨x,hp.mem_iff.2 hx,hh⟩
  ent:=fun x hx=>h.ent x (hp.mem_iff.1 hx) }
theorem RI0.rch (h:RI0 U S N D Q) {g v:Int}(hg:0≤g∧g<N) (hv:0≤v) (hd:Der U S g v):RI0 U S N (rchD D g v) (rchQ D Q g v):=by
 unfold rchD rchQ
 by_cases hlt:v<dg D g
 ·rw [if_pos hlt,if_pos hlt]
  have hr:=h.rng g hg.1 hg.2
  have hget:∀ x:Int,0≤x→dg (D.set g.toNat v) x=if x=g then v else dg D x:=fun x hx=>qe9 h.dl hg hx
  refine⟨by simp [h.dl],fun x h0 h1 => ?_,fun x h0 h1 h2 => ?_,fun x h0 h1 h2 => ?_,fun x hx => ?_⟩
  ·rw [hget x h0];split
   ·exact⟨by omega,by omega⟩
   ·exact h.rng x h0 h1
  ·rw [hget x h0] at h2 ⊢
   split
   ·rename_i e;rw [e];exact hd
   ·rename_i e;rw [if_neg e] at h2;exact h.der x h0 h1 h2
  ·rw [hget x h0] at h2 ⊢
   by_cases e:x=g
   ·exact⟨⟨v,g⟩,List.mem_cons_self,e.symm,by rw [if_pos e]⟩
   ·rw [if_neg e] at h2 ⊢
    obtain⟨y,hy,h4⟩:=h.act x h0 h1 h2
    exact⟨y,List.mem_cons_of_mem _ hy,h4⟩
  ·rcases List.mem_cons.1 hx with rfl|hx
   ·refine⟨hg,?_,hv,by have:=hr.2;show v<inf;omega⟩
    rw [hget _ hg.1,if_pos rfl];exact Int.le_refl _
   ·obtain⟨e1,e2,e3,e4⟩:=h.ent x hx
    have h5:=hget x.state e1.1
    refine⟨e1,?_,e3,e4⟩
    rw [h5]
    split
    ·rename_i e;rw [e] at e2;omega
    ·exact e2
 ·rw [if_neg hlt,if_neg hlt];exact h
theorem RI0.start (h:RI0 U S N D Q) (hl:lf.length=U.length) (hlf:∀ i:Nat,i<U.length→dg lf i=(un U i).needs.length) (hc:∀ i:Nat,i<U.length→0≤(un U i).cost) (hfree:∀ i:Nat,i<U.length→(un U i).needs=[]→dg D (un U i).makes≤(un U i).cost):RI U S N D lf [] Q 0 0 (fun _=>True):=by
 refine⟨h.dl,hl,h.rng,h.der,fun i hi _=>by rw [hlf i hi,qmi],fun i hi ho=>absurd trivial ho,fun i hi _ hn k hk hk2 => ?_,fun g a b c _=>h.act g a b c,h.ent,fun g hg=>by simp at hg,Int.le_refl _,by decide⟩
 have hnil:(un U i).needs=[]:=by
  cases hx:(un U i).needs with
  | nil=>rfl
  | cons a l=>have:=hn a (by rw [hx];exact List.mem_cons_self);simp at this
 have:=hfree i hi hnil
 omega
theorem RI.okc (h:RI U S N D lf dn Q m f ok) {ok':Nat→Prop}(hk:∀ i,ok i↔ok' i):RI U S N D lf dn Q m f ok':=by
 have:ok=ok':=funext fun i=>propext (hk i)
 rw [←this];exact h
theorem RI.rch (h:RI U S N D lf dn Q m f ok) {g v:Int}(hg:0≤g∧g<N) (hm:m≤v) (hd:Der U S g v):RI U S N (rchD D g v) lf dn (rchQ D Q g v) m f ok:=by
 unfold rchD rchQ
 by_cases hlt:v<dg D g
 ·rw [if_pos hlt,if_pos hlt];exact h.reach hg hlt hm hd
 ·rw [if_neg hlt,if_neg hlt];exact h
end
def dnL (dn:List Int) (N:Nat):List Bool:=(List.range N).map fun (g:Nat)=>decide ((g:Int)∈dn)
theorem ql4 (dn:List Int) (N:Nat):(dnL dn N).length=N:=by simp [dnL]
theorem ql5 (N:Nat):dnL [] N=List.replicate N false:=by
 apply List.ext_getElem (by simp [dnL])
 intro i h1 h2
 simp [dnL]
theorem qmF {dn:List Int}{N:Nat}{g:Int}(h0:0≤g) (h1:g<N) {d:Bool}:(dnL dn N).getD g.toNat d=decide (g∈dn):=by
 have:g.toNat<N:=by omega
 simp [dnL,List.getD,this,Int.toNat_of_nonneg h0]
theorem ql6 {dn:List Int}{N:Nat}{g:Int}(h0:0≤g) (h1:g<N):(dnL dn N).set g.toNat true=dnL (g::dn) N:=by
 apply List.ext_getElem (by simp [dnL])
 intro i h2 h3
 have hi:i<N:=by simpa [dnL] using h3
 rw [List.getElem_set]
 simp only [dnL,List.getElem_map,List.getElem_range]
 split
 ·rename_i e
  have:(i:Int)=g:=by omega
  simp [this]
 ·rename_i e
  have:(i:Int)≠g:=by omega
  simp [this]
theorem qbL:∀ {N:Nat}{l:List Int},l.Nodup→(∀ v∈l,0≤v∧v<(N:Int))→l.length≤N
 | 0,l,_,h=>by
  cases l with
  | nil=>exact Nat.le_refl _
  | cons a l=>have:=h a List.mem_cons_self;omega
 | n+1,l,hn,h=>by
  by_cases hm:(n:Int)∈l
  ·have h1:=qbL (N:=n) (hn.erase (n:Int)) fun v hv=>by
    have hv':=(hn.mem_erase_iff).1 hv
    have:=h v hv'.2
    have:=hv'.1
    omega
   rw [List.length_erase_of_mem hm] at h1
   omega
  ·have:=qbL (N:=n) hn fun v hv=>by
    have:=h v hv
    have:v≠(n:Int):=fun e=>hm (e ▸ hv)
    omega
   omega
end Go.Proofs.YtdadmnlenbdfbaaGreat
/-
  The heuristic hmax as a function, in plain Lean: it exists for each state, is consistent, and 0 in goal states.
-/
namespace Go.Proofs.YtdadmnlenbdfbaaGreat
open Go.Sl
open Classical in
noncomputable def hmaxH (t:TTask) (s:List Int):Int:=if h:StateOk t.vars s∧∃ out,IsHM t s out then maxG t.vars t.goal (Classical.choose h.2) else 0
theorem qjV {t:TTask}{s out:List Int}(hs:StateOk t.vars s) (h:IsHM t s out):hmaxH t s=maxG t.vars t.goal out:=by
 have hx:StateOk t.vars s∧∃ out,IsHM t s out:=⟨hs,out,h⟩
 unfold hmaxH
 rw [dif_pos hx,qlQ (Classical.choose_spec hx.2) h]
theorem qmu {t:TTask}{s out:List Int}(hl:out.length=factN t) (hr:∀ g:Int,0≤g→g<factN t→0≤dg out g∧dg out g≤inf) (hU:UnOk (unT t) (factN t)) (hs:∀ g,StF t.vars s g→dg out g≤0)
  (hlow:∀ i:Nat,i<(unT t).length→dg out (un (unT t) i).makes≤(un (unT t) i).cost+(un (unT t) i).needs.foldl (fun m n=>max m (dg out n)) 0)
  (hder:∀ g:Int,0≤g→g<factN t→dg out g<inf→Der (unT t) (StF t.vars s) g (dg out g)):IsHM t s out:=by
 have hfm:∀ (l:List Int) (a k:Int),a≤k→(∀ n∈l,dg out n≤k)→l.foldl (fun m n=>max m (dg out n)) a≤k:=by
  intro l
  induction l with
  | nil=>intro a k h _;exact h
  | cons x l ih =>
   intro a k h h2
   exact ih _ _ (Int.max_le.2 ⟨h,h2 x List.mem_cons_self⟩) fun n hn=>h2 n (List.mem_cons_of_mem _ hn)
 refine⟨hl,hr,hder,fun g v hd => ?_⟩
 induction hd with
 | start h=>intro _ _;exact hs _ h
 | @fire i v m hi hm hn hle ih =>
  intro h0 h1
  have h2:=hlow i hi
  have h3:=hfm (un (unT t) i).needs 0 m hm fun n hn'=>by
   have hb:=hU.needs i hi n hn'
   have:=ih n hn' hb.1 hb.2
   have:=hle n hn'
   omega
  omega
end Go.Proofs.YtdadmnlenbdfbaaGreat
/-
  A* with reopening, in plain Lean: what holds of the states that were reached; where nothing waits there is no plan, and a goal state of least f ends a plan of least cost.
-/
namespace Go.Proofs.YtdadmnlenbdfbaaGreat
open Go.Sl
structure AS where
 st:List (List Int)
 g:List Int
 wt:List Bool
section
variable {t:TTask}{H:List Int→Int}{B:Option Int}{S:AS}
end
end Go.Proofs.YtdadmnlenbdfbaaGreat
/-
  A* as a function, in plain Lean: the open list in order, reaching a state, the next state, expanding, the run.
-/
namespace Go.Proofs.YtdadmnlenbdfbaaGreat
open Go.Sl
structure APar where
 t:TTask
 H:List Int→Int
 B:Option Int
end Go.Proofs.YtdadmnlenbdfbaaGreat
/-
  The operators along links, in plain Lean.
-/
namespace Go.Proofs.YtdadmnlenbdfbaaGreat
open Go.Sl
end Go.Proofs.YtdadmnlenbdfbaaGreat
/-
  The simplex method with Bland's rule comes to no basis twice, in plain Lean over the rational numbers.
-/
namespace Go.Proofs.YtdadmnlenbdfbaaGreat
def sumR (f:Nat→Rat):Nat→Rat
 | 0=>0
 | n+1=>sumR f n+f n
theorem qaC {f g:Nat→Rat}:∀ {n:Nat},(∀ j,j<n→f j=g j)→sumR f n=sumR g n
 | 0,_=>rfl
 | n+1,h=>by
  show sumR f n+f n=sumR g n+g n
  rw [qaC fun j hj=>h j (by omega),h n (by omega)]
theorem qcT:∀ (n:Nat),sumR (fun _=>0) n=0
 | 0=>rfl
 | n+1=>by
  show sumR (fun _=>0) n+0=0
  rw [qcT n];grind
theorem qdK (f g:Nat→Rat):∀ n,sumR (fun j=>f j+g j) n=sumR f n+sumR g n
 | 0=>by show (0:Rat)=0+0;grind
 | n+1=>by
  show sumR (fun j=>f j+g j) n+(f n+g n)=sumR f n+f n+(sumR g n+g n)
  rw [qdK f g n];grind
theorem qch (a:Rat) (f:Nat→Rat):∀ n,sumR (fun j=>a*f j) n=a*sumR f n
 | 0=>by show (0:Rat)=a*0;grind
 | n+1=>by
  show sumR (fun j=>a*f j) n+a*f n=a*(sumR f n+f n)
  rw [qch a f n];grind
theorem qfh (f g:Nat→Rat) (n:Nat):sumR (fun j=>f j-g j) n=sumR f n-sumR g n:=by
 have h1:sumR (fun j=>f j-g j) n=sumR (fun j=>f j+(-1)*g j) n:=qaC fun j _=>by grind
 rw [h1,qdK,qch];grind
theorem qfV (f:Nat→Nat→Rat) (n:Nat):∀ m,sumR (fun j=>sumR (fun i=>f i j) m) n=sumR (fun i=>sumR (fun j=>f i j) n) m
 | 0=>by
  show sumR (fun _=>0) n=0
  exact qcT n
 | m+1=>by
  show sumR (fun j=>sumR (fun i=>f i j) m+f m j) n=sumR (fun i=>sumR (fun j=>f i j) n) m+sumR (fun j=>f m j) n
  rw [qdK,qfV f n m]
theorem qdL {k:Nat}{f:Nat→Rat}:∀ {n:Nat},k<n→sumR (fun j=>if j=k then f j else 0) n=f k
 | 0,h=>absurd h (Nat.not_lt_zero _)
 | n+1,h=>by
  show sumR (fun j=>if j=k then f j else 0) n+(if n=k then f n else 0)=f k
  by_cases e:n=k
  ·subst e
   rw [if_pos rfl,qaC (g:=fun _=>0) fun j hj=>if_neg (by omega),qcT];grind
  ·rw [if_neg e,qdL (by omega)];grind
theorem qhF {f:Nat→Rat}:∀ {n:Nat},sumR f n<0→∃ i,i<n∧f i<0
 | 0,h=>absurd h (by show ¬(0:Rat)<0;grind)
 | n+1,h=>by
  have h':sumR f n+f n<0:=h
  by_cases h1:f n<0
  ·exact⟨n,Nat.lt_succ_self n,h1⟩
  ·obtain⟨i,hi,h2⟩:=qhF (f:=f) (n:=n) (by grind)
   exact⟨i,by omega,h2⟩
structure Tab where
 A:Nat→Nat→Rat
 b:Nat→Rat
 B:Nat→Nat
 c:Nat→Rat
 z:Rat
def pivT (T:Tab) (r k:Nat):Tab where
 A:=fun i j=>if i=r then T.A r j / T.A r k else T.A i j-T.A i k*(T.A r j / T.A r k)
 b:=fun i=>if i=r then T.b r / T.A r k else T.b i-T.A i k*(T.b r / T.A r k)
 B:=fun i=>if i=r then k else T.B i
 c:=fun j=>T.c j-T.c k*(T.A r j / T.A r k)
 z:=T.z+T.c k*(T.b r / T.A r k)
section
variable (N m:Nat)
structure TabOk (T:Tab):Prop where
 lt:∀ i,i<m→T.B i<N
 one:∀ i,i<m→T.A i (T.B i)=1
 off:∀ i k,i<m→k<m→i≠k→T.A i (T.B k)=0
 goal:∀ i,i<m→T.c (T.B i)=0
 nn:∀ i,i<m→0≤T.b i
structure BlaK (T:Tab) (r k:Nat):Prop where
 hk:k<N
 pos:0<T.c k
 low:∀ j,j<k→T.c j≤0
 hr:r<m
 a:0<T.A r k
 min:∀ i,i<m→0<T.A i k→T.b r / T.A r k<T.b i / T.A i k∨(T.b r / T.A r k=T.b i / T.A i k∧T.B r≤T.B i)
def Sol (T:Tab) (x:Nat→Rat):Prop:=∀ i,i<m→sumR (fun j=>T.A i j*x j) N=T.b i
def objT (T:Tab) (x:Nat→Rat):Rat:=T.z+sumR (fun j=>T.c j*x j) N
end
section
variable {N m:Nat}{T:Tab}{r k:Nat}
theorem qlu {a b:Rat}(ha:0≤a) (hb:0<b):0≤a / b:=by
 rw [Rat.div_def]
 have hi:0<b⁻¹:=Rat.inv_pos.2 hb
 exact Rat.mul_nonneg ha (Rat.le_of_lt hi)
theorem TabOk.piv (h:TabOk N m T) (p:BlaK N m T r k):TabOk N m (pivT T r k):=by
 have hp:=p.a
 have hne:T.A r k≠0:=by grind
 have hr:=p.hr
 have hnk:∀ i,i<m→T.B i≠k:=fun i hi e=>by
  have:=h.goal i hi
  rw [e] at this
  have:=p.pos
  grind
 refine⟨fun i hi => ?_,fun i hi => ?_,fun i l hi hl hil => ?_,fun i hi => ?_,fun i hi => ?_⟩
 ·show (if i=r then k else T.B i)<N
  split
  ·exact p.hk
  ·exact h.lt i hi
 ·by_cases e:i=r
  ·subst e
   show (if i=i then T.A i (if i=i then k else T.B i) / T.A i k else _)=1
   rw [if_pos rfl,if_pos rfl];grind
  ·show (if i=r then _ else T.A i (if i=r then k else T.B i)-T.A i k*(T.A r (if i=r then k else T.B i) / T.A r k))=1
   rw [if_neg e,if_neg e,h.one i hi,h.off r i hr hi (fun e2=>e e2.symm)];grind
 ·by_cases e:i=r
  ·subst e
   show (if i=i then T.A i (if l=i then k else T.B l) / T.A i k else _)=0
   rw [if_pos rfl,if_neg (fun e2=>hil e2.symm),h.off i l hi hl hil];grind
  ·show (if i=r then _ else T.A i (if l=r then k else T.B l)-T.A i k*(T.A r (if l=r then k else T.B l) / T.A r k))=0
   rw [if_neg e]
   by_cases e2:l=r
   ·rw [if_pos e2];grind
   ·rw [if_neg e2,h.off i l hi hl hil,h.off r l hr hl (fun e3=>e2 e3.symm)];grind
 ·show T.c (if i=r then k else T.B i)-T.c k*(T.A r (if i=r then k else T.B i) / T.A r k)=0
  by_cases e:i=r
  ·rw [if_pos e];grind
  ·rw [if_neg e,h.goal i hi,h.off r i hr hi (fun e2=>e e2.symm)];grind
 ·have hbr:=h.nn r hr
  have hq:0≤T.b r / T.A r k:=qlu hbr hp
  show 0≤(if i=r then T.b r / T.A r k else T.b i-T.A i k*(T.b r / T.A r k))
  split
  ·exact hq
  ·have hbi:=h.nn i hi
   by_cases ha:0<T.A i k
   ·have hle:T.b r / T.A r k≤T.b i / T.A i k:=by rcases p.min i hi ha with h1|⟨h1,_⟩ <;> grind
    have h2:0≤(T.b i / T.A i k-T.b r / T.A r k)*T.A i k:=Rat.mul_nonneg (by grind) (Rat.le_of_lt ha)
    have h3:T.b i / T.A i k*T.A i k=T.b i:=by grind
    grind
   ·have h2:0≤(-(T.A i k))*(T.b r / T.A r k):=Rat.mul_nonneg (by grind) hq
    grind
def resT (N:Nat) (T:Tab) (x:Nat→Rat) (i:Nat):Rat:=sumR (fun j=>T.A i j*x j) N-T.b i
theorem qgK {x:Nat→Rat}:Sol N m T x↔∀ i,i<m→resT N T x i=0:=by
 unfold Sol resT
 exact⟨fun h i hi=>by rw [h i hi];grind,fun h i hi=>by have:=h i hi;grind⟩
theorem res_r (x:Nat→Rat):resT N (pivT T r k) x r=resT N T x r / T.A r k:=by
 have h1:sumR (fun j=>(pivT T r k).A r j*x j) N=sumR (fun j=>(T.A r k)⁻¹*(T.A r j*x j)) N:=qaC fun j _=>by
  show (if r=r then T.A r j / T.A r k else _)*x j=_
  rw [if_pos rfl];grind
 have h2:(pivT T r k).b r=T.b r / T.A r k:=if_pos rfl
 unfold resT
 rw [h1,qch,h2];grind
theorem res_i {i:Nat}(hi:i≠r) (x:Nat→Rat):resT N (pivT T r k) x i=resT N T x i-T.A i k*(resT N T x r / T.A r k):=by
 have h1:sumR (fun j=>(pivT T r k).A i j*x j) N=sumR (fun j=>T.A i j*x j-(T.A i k*(T.A r k)⁻¹)*(T.A r j*x j)) N:=qaC fun j _=>by
  show (if i=r then _ else T.A i j-T.A i k*(T.A r j / T.A r k))*x j=_
  rw [if_neg hi];grind
 have h2:(pivT T r k).b i=T.b i-T.A i k*(T.b r / T.A r k):=if_neg hi
 unfold resT
 rw [h1,qfh,qch,h2];grind
theorem qmm (p:BlaK N m T r k) {x:Nat→Rat}:Sol N m (pivT T r k) x↔Sol N m T x:=by
 have hp:=p.a
 have hr:=p.hr
 rw [qgK,qgK]
 constructor
 ·intro h i hi
  have h1:=h r hr
  rw [res_r] at h1
  have h2:resT N T x r=0:=by
   have:resT N T x r / T.A r k*T.A r k=0:=by rw [h1];grind
   grind
  by_cases e:i=r
  ·rw [e];exact h2
  ·have h3:=h i hi
   rw [res_i e,h2] at h3
   grind
 ·intro h i hi
  have h2:=h r hr
  by_cases e:i=r
  ·rw [e,res_r,h2];grind
  ·rw [res_i e,h2,h i hi];grind
theorem qmn (p:BlaK N m T r k) {x:Nat→Rat}(hx:Sol N m T x):objT N (pivT T r k) x=objT N T x:=by
 have h2:=qgK.1 hx r p.hr
 have h1:sumR (fun j=>(pivT T r k).c j*x j) N=sumR (fun j=>T.c j*x j-(T.c k*(T.A r k)⁻¹)*(T.A r j*x j)) N:=qaC fun j _=>by
  show (T.c j-T.c k*(T.A r j / T.A r k))*x j=_
  grind
 have h3:(pivT T r k).z=T.z+T.c k*(T.b r / T.A r k):=rfl
 unfold objT
 unfold resT at h2
 rw [h1,qfh,qch,h3];grind
def ptT (m:Nat) (T:Tab) (v:Nat→Rat) (s:Nat) (y:Rat) (j:Nat):Rat:=sumR (fun i=>if T.B i=j then v i else 0) m+(if j=s then y else 0)
theorem qhG (h:TabOk N m T) {v:Nat→Rat}{s:Nat}(hs:s<N) {y:Rat}(f:Nat→Rat):sumR (fun j=>f j*ptT m T v s y j) N=sumR (fun i=>f (T.B i)*v i) m+f s*y:=by
 have h1:sumR (fun j=>f j*ptT m T v s y j) N=sumR (fun j=>sumR (fun i=>f j*(if T.B i=j then v i else 0)) m+(if j=s then f j*y else 0)) N:=qaC fun j _=>by
  unfold ptT
  rw [qch]
  split <;> grind
 rw [h1,qdK,qdL hs,qfV]
 congr 1
 refine qaC fun i hi => ?_
 have h2:sumR (fun j=>f j*(if T.B i=j then v i else 0)) N=sumR (fun j=>if j=T.B i then f j*v i else 0) N:=qaC fun j _=>by
  by_cases e:j=T.B i
  ·rw [if_pos e,if_pos e.symm]
  ·rw [if_neg e,if_neg fun e2=>e e2.symm];grind
 rw [h2,qdL (h.lt i hi)]
theorem qjD (h:TabOk N m T) {i:Nat}(hi:i<m) (v:Nat→Rat):sumR (fun l=>T.A i (T.B l)*v l) m=v i:=by
 have h1:sumR (fun l=>T.A i (T.B l)*v l) m=sumR (fun l=>if l=i then v l else 0) m:=qaC fun l hl=>by
  by_cases e:l=i
  ·rw [if_pos e,e,h.one i hi];grind
  ·rw [if_neg e,h.off i l hi hl fun e2=>e e2.symm];grind
 rw [h1,qdL hi]
theorem qhH (h:TabOk N m T) (v:Nat→Rat):sumR (fun l=>T.c (T.B l)*v l) m=0:=by
 have h1:sumR (fun l=>T.c (T.B l)*v l) m=sumR (fun _=>0) m:=qaC fun l hl=>by rw [h.goal l hl];grind
 rw [h1,qcT]
theorem qjE (h:TabOk N m T) {s:Nat}(hs:s<N) (y:Rat):Sol N m T (ptT m T (fun i=>T.b i-T.A i s*y) s y)∧objT N T (ptT m T (fun i=>T.b i-T.A i s*y) s y)=T.z+T.c s*y:=by
 constructor
 ·intro i hi
  rw [qhG h hs,qjD h hi];grind
 ·unfold objT
  rw [qhG h hs,qhH h];grind
end
theorem TabOk.inj {N m:Nat}{T:Tab}(h:TabOk N m T) {i l:Nat}(hi:i<m) (hl:l<m) (e:T.B i=T.B l):i=l:=by
 refine Classical.byContradiction fun hne => ?_
 have h1:=h.off i l hi hl hne
 have h2:=h.one i hi
 rw [←e,h2] at h1
 exact absurd h1 (by decide)
def InB (m:Nat) (T:Tab) (v:Nat):Prop:=∃ i,i<m∧T.B i=v
structure Cyc (N m n:Nat) (T:Nat→Tab) (r k:Nat→Nat):Prop where
 ok0:TabOk N m (T 0)
 bla:∀ s,s<n→BlaK N m (T s) (r s) (k s)
 nxt:∀ s,s<n→T (s+1)=pivT (T s) (r s) (k s)
section
variable {N m n:Nat}{T:Nat→Tab}{r k:Nat→Nat}
theorem Cyc.ok (h:Cyc N m n T r k):∀ {s:Nat},s≤n→TabOk N m (T s)
 | 0,_=>h.ok0
 | s+1,hs=>by
  rw [h.nxt s (by omega)]
  exact (h.ok (by omega)).piv (h.bla s (by omega))
theorem Cyc.sol (h:Cyc N m n T r k) {x:Nat→Rat}:∀ {s:Nat},s≤n→(Sol N m (T s) x↔Sol N m (T 0) x)
 | 0,_=>Iff.rfl
 | s+1,hs=>by
  rw [h.nxt s (by omega),qmm (h.bla s (by omega))]
  exact h.sol (by omega)
theorem Cyc.obj (h:Cyc N m n T r k) {x:Nat→Rat}(hx:Sol N m (T 0) x):∀ {s:Nat},s≤n→objT N (T s) x=objT N (T 0) x
 | 0,_=>rfl
 | s+1,hs=>by
  rw [h.nxt s (by omega),qmn (h.bla s (by omega)) ((h.sol (by omega)).2 hx)]
  exact h.obj hx (by omega)
theorem Cyc.B (h:Cyc N m n T r k) {s:Nat}(hs:s<n) (i:Nat):(T (s+1)).B i=if i=r s then k s else (T s).B i:=by
 rw [h.nxt s hs];rfl
theorem Cyc.out (h:Cyc N m n T r k) {s:Nat}(hs:s<n):¬InB m (T s) (k s):=by
 rintro⟨i,hi,e⟩
 have h1:=(h.ok (Nat.le_of_lt hs)).goal i hi
 have h2:=(h.bla s hs).pos
 rw [e] at h1
 grind
theorem Cyc.inn (h:Cyc N m n T r k) {s:Nat}(hs:s<n):InB m (T (s+1)) (k s):=⟨r s,(h.bla s hs).hr,by rw [h.B hs,if_pos rfl]⟩
theorem Cyc.gone (h:Cyc N m n T r k) {s:Nat}(hs:s<n):¬InB m (T (s+1)) ((T s).B (r s)):=by
 rintro⟨i,hi,e⟩
 have hr:=(h.bla s hs).hr
 rw [h.B hs] at e
 by_cases e2:i=r s
 ·rw [if_pos e2] at e
  exact h.out hs ⟨r s,hr,e.symm⟩
 ·rw [if_neg e2] at e
  exact e2 ((h.ok (Nat.le_of_lt hs)).inj hi hr e)
theorem Cyc.enter (h:Cyc N m n T r k) {a v:Nat}(ha:¬InB m (T a) v):∀ {b:Nat},a≤b→b≤n→InB m (T b) v→∃ s,a≤s∧s<b∧k s=v
 | 0,hab,_,hb=>absurd hb (by rw [show a=0 by omega] at ha;exact ha)
 | b+1,hab,hn,hb=>by
  by_cases e:a=b+1
  ·subst e;exact absurd hb ha
  by_cases hbv:InB m (T b) v
  ·obtain⟨s,s1,s2,s3⟩:=h.enter ha (b:=b) (by omega) (by omega) hbv
   exact⟨s,s1,by omega,s3⟩
  ·obtain⟨i,hi,e2⟩:=hb
   rw [h.B (by omega)] at e2
   by_cases e3:i=r b
   ·rw [if_pos e3] at e2;exact⟨b,by omega,by omega,e2⟩
   ·rw [if_neg e3] at e2;exact absurd ⟨i,hi,e2⟩ hbv
theorem Cyc.leave (h:Cyc N m n T r k) {a v:Nat}(ha:InB m (T a) v):∀ {b:Nat},a≤b→b≤n→¬InB m (T b) v→∃ s,a≤s∧s<b∧(T s).B (r s)=v
 | 0,hab,_,hb=>absurd ha (by rw [show a=0 by omega];exact hb)
 | b+1,hab,hn,hb=>by
  by_cases e:a=b+1
  ·subst e;exact absurd ha hb
  by_cases hbv:InB m (T b) v
  ·obtain⟨i,hi,e2⟩:=hbv
   by_cases e3:i=r b
   ·exact⟨b,by omega,by omega,by rw [←e3];exact e2⟩
   ·exact absurd ⟨i,hi,by rw [h.B (by omega),if_neg e3];exact e2⟩ hb
  ·obtain⟨s,s1,s2,s3⟩:=h.leave ha (b:=b) (by omega) (by omega) hbv
   exact⟨s,s1,by omega,s3⟩
theorem Cyc.stay (h:Cyc N m n T r k) {i:Nat}{a:Nat}:∀ {b:Nat},a≤b→b≤n→(∀ s,s<n→r s≠i)→(T b).B i=(T a).B i
 | 0,hab,_,_=>by rw [show a=0 by omega]
 | b+1,hab,hn,hr=>by
  by_cases e:a=b+1
  ·rw [e]
  ·rw [h.B (by omega),if_neg fun e2=>hr b (by omega) e2.symm]
   exact h.stay (by omega) (by omega) hr
theorem Cyc.up (h:Cyc N m n T r k) {s:Nat}(hs:s<n):(T (s+1)).z=(T s).z+(T s).c (k s)*((T s).b (r s) / (T s).A (r s) (k s))∧0≤(T s).c (k s)*((T s).b (r s) / (T s).A (r s) (k s)):=by
 refine⟨by rw [h.nxt s hs];rfl,?_⟩
 have p:=h.bla s hs
 exact Rat.mul_nonneg (Rat.le_of_lt p.pos) (qlu ((h.ok (Nat.le_of_lt hs)).nn _ p.hr) p.a)
theorem Cyc.mono (h:Cyc N m n T r k) {a:Nat}:∀ {b:Nat},a≤b→b≤n→(T a).z≤(T b).z
 | 0,hab,_=>by rw [show a=0 by omega];exact Rat.le_refl
 | b+1,hab,hn=>by
  by_cases e:a=b+1
  ·rw [e];exact Rat.le_refl
  ·have h1:=h.mono (a:=a) (b:=b) (by omega) (by omega)
   obtain⟨h2,h3⟩:=h.up (s:=b) (by omega)
   grind
theorem qlv (k:Nat→Nat):∀ {n:Nat},0<n→∃ s,s<n∧∀ s',s'<n→k s'≤k s
 | 0,h=>absurd h (Nat.lt_irrefl _)
 | n+1,_=>by
  by_cases h0:n=0
  ·subst h0
   exact⟨0,by omega,fun s' hs=>by rw [show s'=0 by omega];exact Nat.le_refl _⟩
  ·obtain⟨s,h1,h2⟩:=qlv k (n:=n) (by omega)
   by_cases h3:k n≤k s
   ·refine⟨s,by omega,fun s' hs => ?_⟩
    by_cases e:s'=n
    ·rw [e];exact h3
    ·exact h2 s' (by omega)
   ·refine⟨n,by omega,fun s' hs => ?_⟩
    by_cases e:s'=n
    ·rw [e];exact Nat.le_refl _
    ·have:=h2 s' (by omega);omega
theorem qkT (h:Cyc N m n T r k) (hn:0<n) (hB:∀ i,i<m→(T n).B i=(T 0).B i):False:=by
 have hin:∀ v,InB m (T n) v↔InB m (T 0) v:=fun v =>
  ⟨fun⟨i,hi,e⟩=>⟨i,hi,by rw [←hB i hi];exact e⟩,fun⟨i,hi,e⟩=>⟨i,hi,by rw [hB i hi];exact e⟩⟩
 have h0:=h.ok0
 have hk0:=(h.bla 0 hn).hk
 
 have hz:(T n).z=(T 0).z:=by
  obtain⟨d1,d2⟩:=qjE h0 hk0 0
  have d3:=h.obj d1 (Nat.le_refl n)
  rw [d2] at d3
  have e:∀ j,ptT m (T 0) (fun i=>(T 0).b i-(T 0).A i (k 0)*0) (k 0) 0 j=ptT m (T n) (fun i=>(T 0).b i-(T 0).A i (k 0)*0) (k 0) 0 j:=fun j=>by
   unfold ptT
   congr 1
   exact qaC fun i hi=>by rw [hB i hi]
  have e2:objT N (T n) (ptT m (T 0) (fun i=>(T 0).b i-(T 0).A i (k 0)*0) (k 0) 0)=(T n).z:=by
   unfold objT
   rw [qaC (g:=fun j=>(T n).c j*ptT m (T n) (fun i=>(T 0).b i-(T 0).A i (k 0)*0) (k 0) 0 j) fun j _=>by rw [e j],qhG (h.ok (Nat.le_refl n)) hk0,qhH (h.ok (Nat.le_refl n))]
   grind
  rw [e2] at d3
  grind
 
 have hb0:∀ s,s<n→(T s).b (r s)=0:=fun s hs=>by
  obtain⟨u1,u2⟩:=h.up hs
  have m1:=h.mono (a:=0) (b:=s) (Nat.zero_le _) (by omega)
  have m2:=h.mono (a:=s+1) (b:=n) (by omega) (Nat.le_refl _)
  have p:=h.bla s hs
  have hpos:=p.pos
  have ha:=p.a
  have h1:(T s).c (k s)*((T s).b (r s) / (T s).A (r s) (k s))=0:=by grind
  have h2:(T s).b (r s) / (T s).A (r s) (k s)=0:=by
   rcases Rat.mul_eq_zero.1 h1 with h3|h3
   ·grind
   ·exact h3
  have h3:(T s).b (r s)=(T s).b (r s) / (T s).A (r s) (k s)*(T s).A (r s) (k s):=by grind
  rw [h3,h2];grind
 have hbs:∀ s,s<n→∀ i,(T (s+1)).b i=(T s).b i:=fun s hs i=>by
  rw [h.nxt s hs]
  have h1:=hb0 s hs
  show (if i=r s then (T s).b (r s) / (T s).A (r s) (k s) else (T s).b i-(T s).A i (k s)*((T s).b (r s) / (T s).A (r s) (k s)))=_
  split
  ·rename_i e;rw [e,h1];grind
  ·rw [h1];grind
 have hbc:∀ s,s≤n→∀ i,(T s).b i=(T 0).b i:=fun s=>by
  induction s with
  | zero=>intro _ i;rfl
  | succ s ih=>intro hs i;rw [hbs s (by omega),ih (by omega)]
 
 have hLE:∀ s,s<n→∃ s',s'<n∧k s'=(T s).B (r s):=fun s hs=>by
  have hbas:InB m (T s) ((T s).B (r s)):=⟨r s,(h.bla s hs).hr,rfl⟩
  by_cases hv:InB m (T n) ((T s).B (r s))
  ·obtain⟨s',_,h2,h3⟩:=h.enter (h.gone hs) (b:=n) (by omega) (Nat.le_refl _) hv
   exact⟨s',h2,h3⟩
  ·obtain⟨s',_,h2,h3⟩:=h.enter (a:=0) (fun h0=>hv ((hin _).2 h0)) (b:=s) (Nat.zero_le _) (by omega) hbas
   exact⟨s',by omega,h3⟩
 have hEL:∀ s,s<n→∃ s',s'<n∧(T s').B (r s')=k s:=fun s hs=>by
  by_cases hv:InB m (T n) (k s)
  ·obtain⟨s',_,h2,h3⟩:=h.leave ((hin _).1 hv) (b:=s) (Nat.zero_le _) (by omega) (h.out hs)
   exact⟨s',by omega,h3⟩
  ·obtain⟨s',_,h2,h3⟩:=h.leave (h.inn hs) (b:=n) (by omega) (Nat.le_refl _) hv
   exact⟨s',h2,h3⟩
 obtain⟨s2,hs2,hmax⟩:=qlv k hn
 obtain⟨s1,hs1,hl1⟩:=hEL s2 hs2
 have ok1:=h.ok (Nat.le_of_lt hs1)
 have ok2:=h.ok (Nat.le_of_lt hs2)
 have p1:=h.bla s1 hs1
 have p2:=h.bla s2 hs2
 have hr1:=p1.hr
 have hq1:=p1.hk
 have hqt:k s1≠k s2:=fun e=>h.out hs1 ⟨r s1,hr1,by rw [hl1,e]⟩
 have hq2:(T s2).c (k s1)≤0:=p2.low _ (by have:=hmax s1 hs1;omega)
 have hc1:=p1.pos
 have hc2:=p2.pos
 
 have hsum:sumR (fun i=>(T s2).c ((T s1).B i)*(T s1).A i (k s1)) m<0:=by
  have key:∀ y:Rat,(T s2).z+(sumR (fun i=>(T s2).c ((T s1).B i)*((T s1).b i-(T s1).A i (k s1)*y)) m+(T s2).c (k s1)*y)=(T s1).z+(T s1).c (k s1)*y:=fun y=>by
   obtain⟨d1,d2⟩:=qjE ok1 hq1 y
   have d0:=(h.sol (Nat.le_of_lt hs1)).1 d1
   have e1:=h.obj d0 (Nat.le_of_lt hs1)
   have e2:=h.obj d0 (Nat.le_of_lt hs2)
   rw [←d2,e1,←e2]
   unfold objT
   rw [qhG ok1 hq1]
  have k0:=key 0
  have k1:=key 1
  have e0:sumR (fun i=>(T s2).c ((T s1).B i)*((T s1).b i-(T s1).A i (k s1)*0)) m=sumR (fun i=>(T s2).c ((T s1).B i)*(T s1).b i) m:=qaC fun i _=>by grind
  have e1:sumR (fun i=>(T s2).c ((T s1).B i)*((T s1).b i-(T s1).A i (k s1)*1)) m=sumR (fun i=>(T s2).c ((T s1).B i)*(T s1).b i) m-sumR (fun i=>(T s2).c ((T s1).B i)*(T s1).A i (k s1)) m:=by
   rw [←qfh]
   exact qaC fun i _=>by grind
  rw [e0] at k0
  rw [e1] at k1
  grind
 obtain⟨i,hi,hneg⟩:=qhF hsum
 have hvne:(T s2).c ((T s1).B i)≠0:=fun e=>by rw [e] at hneg;grind
 have hv2:¬InB m (T s2) ((T s1).B i):=fun⟨l,hl,e⟩=>hvne (by rw [←e];exact ok2.goal l hl)
 have hv1:InB m (T s1) ((T s1).B i):=⟨i,hi,rfl⟩
 have hvle:(T s1).B i≤k s2:=by
  have:∃ s,s<n∧k s=(T s1).B i:=by
   by_cases hle:s2≤s1
   ·obtain⟨s,_,h2,h3⟩:=h.enter hv2 hle (by omega) hv1
    exact⟨s,by omega,h3⟩
   ·obtain⟨s,_,h2,h3⟩:=h.leave hv1 (b:=s2) (by omega) (by omega) hv2
    obtain⟨s',h4,h5⟩:=hLE s (by omega)
    exact⟨s',h4,by rw [h5,h3]⟩
  obtain⟨s,h2,h3⟩:=this
  rw [←h3];exact hmax s h2
 have ha1:=p1.a
 have hvt:(T s1).B i≠k s2:=fun e=>by
  have e2:i=r s1:=ok1.inj hi hr1 (by rw [hl1,e])
  rw [e,e2] at hneg
  have:=Rat.mul_pos hc2 ha1
  grind
 have hv0:(T s2).c ((T s1).B i)≤0:=p2.low _ (by omega)
 have hai:0<(T s1).A i (k s1):=by
  refine Classical.byContradiction fun hna => ?_
  have:=Rat.mul_nonneg (a := -(T s2).c ((T s1).B i)) (b := -(T s1).A i (k s1)) (by grind) (by grind)
  grind
 have hbi:(T s1).b i=0:=by
  have:∃ s,s<n∧r s=i:=Classical.byContradiction fun hno=>by
   have hno':∀ s,s<n→r s≠i:=fun s hs e=>hno ⟨s,hs,e⟩
   have e0:(T s2).B i=(T s1).B i:=by
    rw [h.stay (a:=0) (Nat.zero_le _) (by omega) hno',h.stay (a:=0) (b:=s1) (Nat.zero_le _) (by omega) hno']
   exact hv2 ⟨i,hi,e0⟩
  obtain⟨s,h2,h3⟩:=this
  have h4:=hb0 s h2
  rw [h3,hbc s (by omega)] at h4
  rw [hbc s1 (by omega)];exact h4
 have hbr:=hb0 s1 hs1
 rcases p1.min i hi hai with h5|⟨_,h5⟩
 ·rw [hbr,hbi] at h5
  grind
 ·rw [hl1] at h5
  omega
def codeB (N:Nat) (B:Nat→Nat):Nat→Nat
 | 0=>0
 | m+1=>codeB N B m+B m*N ^ m
theorem qdM {N:Nat}{B:Nat→Nat}:∀ {m:Nat},(∀ i,i<m→B i<N)→codeB N B m<N ^ m
 | 0,_=>by show 0<1;omega
 | m+1,h=>by
  have h1:=qdM (m:=m) fun i hi=>h i (by omega)
  have h2:=h m (by omega)
  have h3:(B m+1)*N ^ m≤N*N ^ m:=Nat.mul_le_mul_right _ h2
  have h4:N ^ (m+1)=N*N ^ m:=by rw [Nat.pow_succ,Nat.mul_comm]
  rw [Nat.succ_mul] at h3
  show codeB N B m+B m*N ^ m<_
  omega
theorem qfW {N:Nat}{B C:Nat→Nat}:∀ {m:Nat},(∀ i,i<m→B i<N)→(∀ i,i<m→C i<N)→codeB N B m=codeB N C m→∀ i,i<m→B i=C i
 | 0,_,_,_,i,hi=>absurd hi (Nat.not_lt_zero _)
 | m+1,hB,hC,h,i,hi=>by
  have b1:=qdM (m:=m) fun i hi=>hB i (by omega)
  have c1:=qdM (m:=m) fun i hi=>hC i (by omega)
  have h':codeB N B m+B m*N ^ m=codeB N C m+C m*N ^ m:=h
  have hp:0<N ^ m:=by omega
  have e:B m=C m:=by
   have q1:(codeB N B m+B m*N ^ m) / N ^ m=B m:=by rw [Nat.add_mul_div_right _ _ hp,Nat.div_eq_of_lt b1];omega
   have q2:(codeB N C m+C m*N ^ m) / N ^ m=C m:=by rw [Nat.add_mul_div_right _ _ hp,Nat.div_eq_of_lt c1];omega
   rw [←q1,←q2,h']
  by_cases hm:i=m
  ·rw [hm];exact e
  ·exact qfW (m:=m) (fun i hi=>hB i (by omega)) (fun i hi=>hC i (by omega)) (by rw [e] at h';omega) i (by omega)
theorem pigeon {f:Nat→Nat}{M n:Nat}(hf:∀ s,s≤n→f s<M) (hn:M≤n):∃ a b,a<b∧b≤n∧f a=f b:=by
 refine Classical.byContradiction fun hno => ?_
 have hinj:∀ a b,a≤n→b≤n→f a=f b→a=b:=fun a b ha hb e=>by
  rcases Nat.lt_trichotomy a b with h|h|h
  ·exact absurd ⟨a,b,h,hb,e⟩ hno
  ·exact h
  ·exact absurd ⟨b,a,h,ha,e.symm⟩ hno
 have key:∀ (M:Nat) (l:List Nat),l.Nodup→(∀ x∈l,x<M)→l.length≤M:=by
  intro M
  induction M with
  | zero =>
   intro l _ h
   cases l with
   | nil=>exact Nat.le_refl _
   | cons x l=>exact absurd (h x List.mem_cons_self) (Nat.not_lt_zero _)
  | succ M ih =>
   intro l hd h
   have h1:=ih (l.filter fun x=>x≠M) (hd.filter _) fun x hx=>by
    have h2:=List.mem_filter.1 hx
    have h3:=h x h2.1
    have h4:x≠M:=by simpa using h2.2
    omega
   have h2:l.length≤(l.filter fun x=>x≠M).length+1:=by
    clear h ih h1
    induction l with
    | nil=>simp
    | cons y l ih2 =>
     obtain⟨g1,g2⟩:=List.nodup_cons.1 hd
     by_cases e:y=M
     ·subst e
      have:(l.filter fun x=>x≠y)=l:=List.filter_eq_self.2 fun x hx=>by simpa using fun e:x=y=>g1 (e ▸ hx)
      rw [List.filter_cons_of_neg (by simp),this,List.length_cons]
      exact Nat.le_refl _
     ·have:=ih2 g2
      rw [List.filter_cons_of_pos (by simpa using e),List.length_cons,List.length_cons]
      omega
   omega
 have hd:((List.range (n+1)).map f).Nodup:=by
  refine List.pairwise_map.2 (List.Pairwise.imp_of_mem ?_ (List.nodup_range (n:=n+1)))
  intro a b ha hb hab e
  exact hab (hinj a b (by have:=List.mem_range.1 ha;omega) (by have:=List.mem_range.1 hb;omega) e)
 have:=key M _ hd fun x hx=>by
  obtain⟨s,hs,rfl⟩:=List.mem_map.1 hx
  exact hf s (by have:=List.mem_range.1 hs;omega)
 simp at this
 omega
theorem Cyc.shift (h:Cyc N m n T r k) {a b:Nat}(hab:a≤b) (hb:b≤n):Cyc N m (b-a) (fun s=>T (a+s)) (fun s=>r (a+s)) (fun s=>k (a+s)) :=
 ⟨h.ok (by omega),fun s hs=>h.bla (a+s) (by omega),fun s hs=>h.nxt (a+s) (by omega)⟩
theorem Cyc.short (h:Cyc N m n T r k):n<N ^ m:=by
 refine Nat.not_le.1 fun hle => ?_
 obtain⟨a,b,h1,h2,h3⟩:=pigeon (f:=fun s=>codeB N (T s).B m) (M:=N ^ m) (n:=n) (fun s hs=>qdM (h.ok hs).lt) hle
 have hc:=h.shift (Nat.le_of_lt h1) h2
 refine qkT hc (by omega) fun i hi => ?_
 show (T (a+(b-a))).B i=(T (a+0)).B i
 rw [show a+(b-a)=b by omega,Nat.add_zero]
 exact (qfW (h.ok (by omega)).lt (h.ok h2).lt h3 i hi).symm
end
end Go.Proofs.YtdadmnlenbdfbaaGreat
/-
  Fractions of bounded size, in plain Lean: the results are proper and have the exact values.
-/
namespace Go.Proofs.YtdadmnlenbdfbaaGreat
structure Frc where
 num:Int
 den:Int
 deriving DecidableEq
def valF (f:Frc):Rat:=(f.num:Rat) / (f.den:Rat)
def PrpF (f:Frc):Prop:=1≤f.den∧f.den≤1048576 ∧ -1099511627776≤f.num∧f.num≤1099511627776∧Int.gcd f.num f.den=1
instance prpDec (f:Frc):Decidable (PrpF f):=by unfold PrpF;infer_instance
def newF (num den:Int):Int × Frc :=
 let n:=if den<0 then -num else num
 let d:=if den<0 then -den else den
 let g:Int:=Int.gcd n d
 let f:Frc:=⟨n / g,d / g⟩
 if 1099511627776<f.num.natAbs∨1048576<f.den then (5,⟨0,0⟩) else (0,f)
def timesF (num den other rest:Int):Int × Frc :=
 if num=0∨other=0 then (0,⟨0,1⟩) else
 let g:Int:=Int.gcd num rest
 let h:Int:=Int.gcd other den
 let n:=num / g
 let r:=rest / g
 let o:=other / h
 let d:=den / h
 if 1099511627776 / (o.natAbs:Int)<n.natAbs∨1048576 / r<d then (5,⟨0,0⟩) else (0,⟨n*o,d*r⟩)
theorem qaU {a:Int}(h:a≠0):(a:Rat)≠0:=fun e=>h (by exact_mod_cast e)
theorem qgr {a b g:Int}(hg:g≠0) (ha:g ∣ a) (hb:g ∣ b) (h0:b≠0):((a / g:Int):Rat) / ((b / g:Int):Rat)=(a:Rat) / (b:Rat):=by
 obtain⟨a',rfl⟩:=ha
 obtain⟨b',rfl⟩:=hb
 have hb':b'≠0:=fun e=>h0 (by rw [e,Int.mul_zero])
 rw [Int.mul_ediv_cancel_left _ hg,Int.mul_ediv_cancel_left _ hg,Rat.intCast_mul,Rat.intCast_mul]
 have h1:=qaU hg
 have h2:=qaU hb'
 grind
theorem qiM {num den:Int}{f:Frc}(h0:den≠0) (h:newF num den=(0,f)):valF f=(num:Rat) / (den:Rat)∧PrpF f:=by
 unfold newF at h
 simp only at h
 generalize hn:(if den<0 then -num else num)=n at h
 generalize hd:(if den<0 then -den else den)=d at h
 have hdp:0<d:=by rw [←hd];split <;> omega
 split at h
 ·exact absurd (show (5:Int)=0 from congrArg Prod.fst h) (by decide)
 ·rename_i hc
  have e:f=⟨n / (Int.gcd n d:Int),d / (Int.gcd n d:Int)⟩:=(congrArg Prod.snd h).symm
  have hg:0<(Int.gcd n d:Int):=by
   have:=Int.gcd_pos_of_ne_zero_right n (show d≠0 by omega)
   omega
  subst e
  replace hc:¬(1099511627776<((n / (Int.gcd n d:Int)).natAbs:Int)∨1048576<d / (Int.gcd n d:Int)):=by
   intro hh;apply hc
   rcases hh with hh|hh
   ·left;omega
   ·exact .inr hh
  have h1:valF ⟨n / (Int.gcd n d:Int),d / (Int.gcd n d:Int)⟩=(n:Rat) / (d:Rat):=qgr (by omega) (Int.gcd_dvd_left ..) (Int.gcd_dvd_right ..) (by omega)
  refine⟨?_,?_,?_,?_,?_,?_⟩
  ·rw [h1,←hn,←hd]
   have:=qaU h0
   split
   ·rw [Rat.intCast_neg,Rat.intCast_neg];grind
   ·rfl
  ·exact Int.le_ediv_of_mul_le hg (by have:=Int.le_of_dvd hdp (Int.gcd_dvd_right (a:=n) (b:=d));omega)
  ·simp only;omega
  ·simp only;omega
  ·simp only;omega
  ·simp only
   rw [Int.gcd_ediv_gcd_ediv_gcd (by omega)]
theorem qdU {num den other rest:Int}{f:Frc}(hd:0<den) (hr:0<rest) (h:timesF num den other rest=(0,f)):valF f=(num:Rat)*(other:Rat) / ((den:Rat)*(rest:Rat)):=by
 have c1:=qaU (show den≠0 by omega)
 have c2:=qaU (show rest≠0 by omega)
 unfold timesF at h
 simp only at h
 split at h
 ·rename_i hz
  have e:f=⟨0,1⟩:=(congrArg Prod.snd h).symm
  subst e
  unfold valF
  rcases hz with e|e <;> subst e <;> simp <;> grind
 ·split at h
  ·exact absurd (show (5:Int)=0 from congrArg Prod.fst h) (by decide)
  ·have e:=(congrArg Prod.snd h).symm
   simp only at e
   subst e
   have g1:(Int.gcd num rest:Int)≠0:=by have:=Int.gcd_pos_of_ne_zero_right num (show rest≠0 by omega);omega
   have g2:(Int.gcd other den:Int)≠0:=by have:=Int.gcd_pos_of_ne_zero_right other (show den≠0 by omega);omega
   have v1:=qgr g1 (Int.gcd_dvd_left (a:=num) (b:=rest)) (Int.gcd_dvd_right ..) (show rest≠0 by omega)
   have v2:=qgr g2 (Int.gcd_dvd_left (a:=other) (b:=den)) (Int.gcd_dvd_right ..) (show den≠0 by omega)
   unfold valF
   simp only [Rat.intCast_mul]
   have n1:((rest / (Int.gcd num rest:Int):Int):Rat)≠0:=qaU fun e=>by
    have:=Int.ediv_mul_cancel (Int.gcd_dvd_right (a:=num) (b:=rest))
    rw [e] at this;omega
   have n2:((den / (Int.gcd other den:Int):Int):Rat)≠0:=qaU fun e=>by
    have:=Int.ediv_mul_cancel (Int.gcd_dvd_right (a:=other) (b:=den))
    rw [e] at this;omega
   grind
theorem qiN {a b c d:Int}(h:Int.gcd a b=1) (h1:c ∣ a) (h2:d ∣ b):Int.gcd c d=1:=by
 have h3:(Int.gcd c d:Int) ∣ (Int.gcd a b:Int):=Int.dvd_coe_gcd (Int.dvd_trans (Int.gcd_dvd_left ..) h1) (Int.dvd_trans (Int.gcd_dvd_right ..) h2)
 rw [h] at h3
 have h4:Int.gcd c d ∣ 1:=by exact_mod_cast h3
 exact Nat.dvd_one.1 h4
theorem qlR {a b c d:Int}(h1:Int.gcd a c=1) (h2:Int.gcd a d=1) (h3:Int.gcd b c=1) (h4:Int.gcd b d=1):Int.gcd (a*b) (c*d)=1:=by
 unfold Int.gcd at *
 rw [Int.natAbs_mul,Int.natAbs_mul]
 exact Nat.Coprime.mul_left (Nat.Coprime.mul_right h1 h2) (Nat.Coprime.mul_right h3 h4)
theorem qdV {num den other rest:Int}{f:Frc}(hd:0<den) (hr:0<rest) (c1:Int.gcd num den=1) (c2:Int.gcd other rest=1) (h:timesF num den other rest=(0,f)):PrpF f:=by
 unfold timesF at h
 simp only at h
 split at h
 ·have e:f=⟨0,1⟩:=(congrArg Prod.snd h).symm
  subst e;decide
 ·rename_i hz
  split at h
  ·exact absurd (show (5:Int)=0 from congrArg Prod.fst h) (by decide)
  ·rename_i hc
   have e:=(congrArg Prod.snd h).symm
   simp only at e
   subst e
   have g1:0<(Int.gcd num rest:Int):=by have:=Int.gcd_pos_of_ne_zero_right num (show rest≠0 by omega);omega
   have g2:0<(Int.gcd other den:Int):=by have:=Int.gcd_pos_of_ne_zero_right other (show den≠0 by omega);omega
   have k1:=Int.ediv_mul_cancel (Int.gcd_dvd_right (a:=num) (b:=rest))
   have k2:=Int.ediv_mul_cancel (Int.gcd_dvd_right (a:=other) (b:=den))
   have k3:=Int.ediv_mul_cancel (Int.gcd_dvd_left (a:=num) (b:=rest))
   have k4:=Int.ediv_mul_cancel (Int.gcd_dvd_left (a:=other) (b:=den))
   have q1:Int.gcd (num / (Int.gcd num rest:Int)) (rest / (Int.gcd num rest:Int))=1:=Int.gcd_ediv_gcd_ediv_gcd (by omega)
   have q2:Int.gcd (other / (Int.gcd other den:Int)) (den / (Int.gcd other den:Int))=1:=Int.gcd_ediv_gcd_ediv_gcd (by omega)
   obtain⟨n,hn⟩:∃ n,n=num / (Int.gcd num rest:Int):=⟨_,rfl⟩
   obtain⟨r,hr2⟩:∃ r,r=rest / (Int.gcd num rest:Int):=⟨_,rfl⟩
   obtain⟨o,ho⟩:∃ o,o=other / (Int.gcd other den:Int):=⟨_,rfl⟩
   obtain⟨d,hd2⟩:∃ d,d=den / (Int.gcd other den:Int):=⟨_,rfl⟩
   rw [←hn,←hr2,←ho,←hd2] at hc
   rw [←hn,←hr2] at q1
   rw [←ho,←hd2] at q2
   rw [←hr2] at k1
   rw [←hd2] at k2
   rw [←hn] at k3
   rw [←ho] at k4
   rw [←hn,←hr2,←ho,←hd2]
   have rp:0<r:=by
    refine Int.not_le.1 fun h => ?_
    have:=Int.mul_nonpos_of_nonpos_of_nonneg h (Int.le_of_lt g1)
    omega
   have dp:0<d:=by
    refine Int.not_le.1 fun h => ?_
    have:=Int.mul_nonpos_of_nonpos_of_nonneg h (Int.le_of_lt g2)
    omega
   have o0:o≠0:=fun e=>by rw [e,Int.zero_mul] at k4;exact hz (.inr k4.symm)
   have q3:Int.gcd n d=1:=qiN c1 ⟨_,k3.symm⟩ ⟨_,k2.symm⟩
   have q4:Int.gcd o r=1:=qiN c2 ⟨_,k4.symm⟩ ⟨_,k1.symm⟩
   have op:0<(o.natAbs:Int):=by omega
   have b1:(n.natAbs:Int)*(o.natAbs:Int)≤1099511627776:=by
    have:=Int.mul_le_mul_of_nonneg_right (show (n.natAbs:Int)≤1099511627776 / (o.natAbs:Int) by omega) (Int.le_of_lt op)
    have h2:=Int.ediv_mul_le 1099511627776 (show (o.natAbs:Int)≠0 by omega)
    omega
   have b2:d*r≤1048576:=by
    have:=Int.mul_le_mul_of_nonneg_right (show d≤1048576 / r by omega) (Int.le_of_lt rp)
    have h2:=Int.ediv_mul_le 1048576 (show r≠0 by omega)
    omega
   have b3:((n*o).natAbs:Int)≤1099511627776:=by rw [Int.natAbs_mul,Int.natCast_mul];exact b1
   refine⟨?_,b2,?_,?_,qlR q3 q1 q2 q4⟩
   ·have:=Int.mul_pos dp rp
    show 1≤d*r
    omega
   ·show _≤n*o;omega
   ·show n*o≤_;omega
def addF (a b:Frc):Int × Frc:=if ¬PrpF a∨¬PrpF b then (2,⟨0,0⟩) else newF (a.num*b.den+b.num*a.den) (a.den*b.den)
def subF (a b:Frc):Int × Frc:=if ¬PrpF a∨¬PrpF b then (2,⟨0,0⟩) else newF (a.num*b.den-b.num*a.den) (a.den*b.den)
def mulF (a b:Frc):Int × Frc:=if ¬PrpF a∨¬PrpF b then (2,⟨0,0⟩) else timesF a.num a.den b.num b.den
def divF (zc:Int) (a b:Frc):Int × Frc:=if ¬PrpF a∨¬PrpF b then (2,⟨0,0⟩) else if b.num=0 then (zc,⟨0,0⟩) else if b.num<0 then timesF (-a.num) a.den b.den (-b.num) else timesF a.num a.den b.den b.num
theorem qhi {a b:Int}(h:Int.gcd a b=1):Int.gcd b a=1:=by rw [Int.gcd_comm];exact h
theorem val_add {a b f:Frc}(h:addF a b=(0,f)):PrpF a∧PrpF b∧PrpF f∧valF f=valF a+valF b:=by
 unfold addF at h
 split at h
 ·exact absurd (show (2:Int)=0 from congrArg Prod.fst h) (by decide)
 ·rename_i hp
  have ha:PrpF a:=Classical.byContradiction fun hn=>hp (.inl hn)
  have hb:PrpF b:=Classical.byContradiction fun hn=>hp (.inr hn)
  have a1:=ha.1
  have b1:=hb.1
  have h0:a.den*b.den≠0:=by have:=Int.mul_pos (show 0<a.den by omega) (show 0<b.den by omega);omega
  obtain⟨h1,h2⟩:=qiM h0 h
  refine⟨ha,hb,h2,?_⟩
  rw [h1,Rat.intCast_add,Rat.intCast_mul,Rat.intCast_mul,Rat.intCast_mul]
  unfold valF
  have c1:=qaU (show a.den≠0 by omega)
  have c2:=qaU (show b.den≠0 by omega)
  grind
theorem val_sub {a b f:Frc}(h:subF a b=(0,f)):PrpF a∧PrpF b∧PrpF f∧valF f=valF a-valF b:=by
 unfold subF at h
 split at h
 ·exact absurd (show (2:Int)=0 from congrArg Prod.fst h) (by decide)
 ·rename_i hp
  have ha:PrpF a:=Classical.byContradiction fun hn=>hp (.inl hn)
  have hb:PrpF b:=Classical.byContradiction fun hn=>hp (.inr hn)
  have a1:=ha.1
  have b1:=hb.1
  have h0:a.den*b.den≠0:=by have:=Int.mul_pos (show 0<a.den by omega) (show 0<b.den by omega);omega
  obtain⟨h1,h2⟩:=qiM h0 h
  refine⟨ha,hb,h2,?_⟩
  rw [h1,Rat.intCast_sub,Rat.intCast_mul,Rat.intCast_mul,Rat.intCast_mul]
  unfold valF
  have c1:=qaU (show a.den≠0 by omega)
  have c2:=qaU (show b.den≠0 by omega)
  grind
theorem val_mul {a b f:Frc}(h:mulF a b=(0,f)):PrpF a∧PrpF b∧PrpF f∧valF f=valF a*valF b:=by
 unfold mulF at h
 split at h
 ·exact absurd (show (2:Int)=0 from congrArg Prod.fst h) (by decide)
 ·rename_i hp
  have ha:PrpF a:=Classical.byContradiction fun hn=>hp (.inl hn)
  have hb:PrpF b:=Classical.byContradiction fun hn=>hp (.inr hn)
  have a1:=ha.1
  have b1:=hb.1
  refine⟨ha,hb,qdV (by omega) (by omega) ha.2.2.2.2 hb.2.2.2.2 h,?_⟩
  rw [qdU (by omega) (by omega) h]
  unfold valF
  have c1:=qaU (show a.den≠0 by omega)
  have c2:=qaU (show b.den≠0 by omega)
  grind
theorem qeW {zc:Int}{a b f:Frc}(hz:zc≠0) (h:divF zc a b=(0,f)):PrpF a∧PrpF b∧b.num≠0∧PrpF f∧valF f=valF a / valF b:=by
 unfold divF at h
 split at h
 ·exact absurd (show (2:Int)=0 from congrArg Prod.fst h) (by decide)
 ·rename_i hp
  have ha:PrpF a:=Classical.byContradiction fun hn=>hp (.inl hn)
  have hb:PrpF b:=Classical.byContradiction fun hn=>hp (.inr hn)
  have a1:=ha.1
  have b1:=hb.1
  have c1:=qaU (show a.den≠0 by omega)
  have c2:=qaU (show b.den≠0 by omega)
  split at h
  ·exact absurd (show zc=0 from congrArg Prod.fst h) hz
  ·rename_i hn
   have c3:=qaU hn
   split at h
   ·rename_i hlt
    have k1:Int.gcd (-a.num) a.den=1:=by rw [Int.neg_gcd];exact ha.2.2.2.2
    have k2:Int.gcd b.den (-b.num)=1:=by rw [Int.gcd_neg];exact qhi hb.2.2.2.2
    refine⟨ha,hb,hn,qdV (by omega) (by omega) k1 k2 h,?_⟩
    rw [qdU (by omega) (by omega) h,Rat.intCast_neg,Rat.intCast_neg]
    unfold valF
    grind
   ·refine⟨ha,hb,hn,qdV (by omega) (by omega) ha.2.2.2.2 (qhi hb.2.2.2.2) h,?_⟩
    rw [qdU (by omega) (by omega) h]
    unfold valF
    grind
def vluF (f:Frc):Frc:=if PrpF f then f else ⟨0,1⟩
def cmpF (a b:Frc):Int:=if (vluF a).num*(vluF b).den<(vluF b).num*(vluF a).den then -1 else if (vluF b).num*(vluF a).den<(vluF a).num*(vluF b).den then 1 else 0
theorem qhj {a b c d:Int}(hb:0<b) (hd:0<d):a*d<c*b↔(a:Rat) / (b:Rat)<(c:Rat) / (d:Rat):=by
 have c1:(0:Rat)<(b:Rat):=by exact_mod_cast hb
 have c2:(0:Rat)<(d:Rat):=by exact_mod_cast hd
 have e:((c:Rat) / (d:Rat)-(a:Rat) / (b:Rat))*((b:Rat)*(d:Rat))=(c:Rat)*(b:Rat)-(a:Rat)*(d:Rat):=by grind
 have hp:=Rat.mul_pos c1 c2
 have k:a*d<c*b↔(a:Rat)*(d:Rat)<(c:Rat)*(b:Rat):=by
  rw [←Rat.intCast_mul,←Rat.intCast_mul]
  constructor
  ·intro h;exact_mod_cast h
  ·intro h;exact_mod_cast h
 rw [k]
 constructor
 ·intro h
  refine Classical.byContradiction fun hn => ?_
  have:=Rat.mul_nonneg (a:=(a:Rat) / (b:Rat)-(c:Rat) / (d:Rat)) (by grind) (Rat.le_of_lt hp)
  grind
 ·intro h
  have:=Rat.mul_pos (a:=(c:Rat) / (d:Rat)-(a:Rat) / (b:Rat)) (by grind) hp
  grind
theorem qlg {a b:Frc}(ha:PrpF a) (hb:PrpF b):(cmpF a b<0↔valF a<valF b)∧(cmpF a b=0↔valF a=valF b):=by
 have a1:=ha.1
 have b1:=hb.1
 have h1:=qhj (a:=a.num) (b:=a.den) (c:=b.num) (d:=b.den) (by omega) (by omega)
 have h2:=qhj (a:=b.num) (b:=b.den) (c:=a.num) (d:=a.den) (by omega) (by omega)
 have e1:(a.num:Rat) / (a.den:Rat)=valF a:=rfl
 have e2:(b.num:Rat) / (b.den:Rat)=valF b:=rfl
 rw [e1,e2] at h1 h2
 unfold cmpF vluF
 rw [if_pos ha,if_pos hb]
 by_cases h3:a.num*b.den<b.num*a.den
 ·rw [if_pos h3]
  have h4:=h1.1 h3
  exact⟨⟨fun _=>h4,fun _=>by decide⟩,⟨fun h=>absurd h (by decide),fun h=>by grind⟩⟩
 ·rw [if_neg h3]
  have h4:¬valF a<valF b:=fun h=>h3 (h1.2 h)
  by_cases h5:b.num*a.den<a.num*b.den
  ·rw [if_pos h5]
   have h6:=h2.1 h5
   exact⟨⟨fun h=>absurd h (by decide),fun h=>absurd h h4⟩,⟨fun h=>absurd h (by decide),fun h=>by grind⟩⟩
  ·rw [if_neg h5]
   have h6:¬valF b<valF a:=fun h=>h5 (h2.2 h)
   exact⟨⟨fun h=>absurd h (by decide),fun h=>absurd h h4⟩,⟨fun _=>by grind,fun _=>rfl⟩⟩
def ceilF (f:Frc):Int:=if (vluF f).num.tdiv (vluF f).den*(vluF f).den<(vluF f).num then (vluF f).num.tdiv (vluF f).den+1 else (vluF f).num.tdiv (vluF f).den
def sumF:Frc→List Frc→Int × Frc
 | s,[]=>(0,s)
 | s,f::l=>if (addF s f).1=0 then sumF (addF s f).2 l else ((addF s f).1,⟨0,0⟩)
end Go.Proofs.YtdadmnlenbdfbaaGreat
/-
  The simplex method on lists of fractions, as a function; it ends.
-/
namespace Go.Proofs.YtdadmnlenbdfbaaGreat
def dF:Frc:=⟨0,0⟩
structure SimS where
 rows:List (List Frc)
 right:List Frc
 basic:List Int
 goal:List Frc
 value:Frc
def lessF (x f y:Frc):Int × Frc:=if (mulF f y).1=0 then subF x (mulF f y).2 else ((mulF f y).1,dF)
def elimF (f:Frc):List Frc→List Frc→Int × List Frc
 | x::row,y::piv=>if (lessF x f y).1=0 then (if (elimF f row piv).1=0 then (0,(lessF x f y).2::(elimF f row piv).2) else ((elimF f row piv).1,[])) else ((lessF x f y).1,[])
 | [],_=>(0,[])
 | _::_,[]=>(0,[])
def divL (p:Frc):List Frc→Int × List Frc
 | []=>(0,[])
 | x::row=>if (divF 22 x p).1=0 then (if (divL p row).1=0 then (0,(divF 22 x p).2::(divL p row).2) else ((divL p row).1,[])) else ((divF 22 x p).1,[])
theorem qfe {f:Frc}:∀ {row piv out:List Frc},row.length≤piv.length→elimF f row piv=(0,out)→out.length=row.length∧∀ i,i<row.length→PrpF (out.getD i dF)∧valF (out.getD i dF)=valF (row.getD i dF)-valF f*valF (piv.getD i dF)
 | [],piv,out,_,h=>by
  have e:out=[]:=(congrArg Prod.snd h).symm
  subst e
  exact⟨rfl,fun i hi=>absurd hi (Nat.not_lt_zero _)⟩
 | x::row,[],_,hl,_=>absurd hl (by simp)
 | x::row,y::piv,out,hl,h=>by
  unfold elimF at h
  split at h
  ·rename_i h0
   split at h
   ·rename_i h1
    have e:out=(lessF x f y).2::(elimF f row piv).2:=(congrArg Prod.snd h).symm
    subst e
    obtain⟨g1,g2⟩:=qfe (f:=f) (row:=row) (piv:=piv) (out:=(elimF f row piv).2) (by simpa using hl) (by rw [←h1])
    refine⟨by simp [g1],fun i hi => ?_⟩
    cases i with
    | zero =>
     have h2:(mulF f y).1=0:=Classical.byContradiction fun hn=>by
      unfold lessF at h0
      rw [if_neg hn] at h0
      exact hn h0
     have h3:lessF x f y=subF x (mulF f y).2:=by unfold lessF;rw [if_pos h2]
     rw [h3] at h0
     obtain⟨_,_,_,v1⟩:=val_mul (f:=(mulF f y).2) (show mulF f y=(0,(mulF f y).2) by rw [←h2])
     obtain⟨_,_,p2,v2⟩:=val_sub (f:=(subF x (mulF f y).2).2) (show subF x (mulF f y).2=(0,(subF x (mulF f y).2).2) by rw [←h0])
     show PrpF (lessF x f y).2∧valF (lessF x f y).2=valF x-valF f*valF y
     rw [h3,v2,v1]
     exact⟨p2,rfl⟩
    | succ i =>
     have:=g2 i (by simpa using hi)
     simpa [List.getD_cons_succ] using this
   ·rename_i h1
    exact absurd (show (elimF f row piv).1=0 from congrArg Prod.fst h) h1
  ·rename_i h0
   exact absurd (show (lessF x f y).1=0 from congrArg Prod.fst h) h0
theorem qjz {p:Frc}:∀ {row out:List Frc},divL p row=(0,out)→out.length=row.length∧∀ i,i<row.length→PrpF (out.getD i dF)∧valF (out.getD i dF)=valF (row.getD i dF) / valF p
 | [],out,h=>by
  have e:out=[]:=(congrArg Prod.snd h).symm
  subst e
  exact⟨rfl,fun i hi=>absurd hi (Nat.not_lt_zero _)⟩
 | x::row,out,h=>by
  unfold divL at h
  split at h
  ·rename_i h0
   split at h
   ·rename_i h1
    have e:out=(divF 22 x p).2::(divL p row).2:=(congrArg Prod.snd h).symm
    subst e
    obtain⟨g1,g2⟩:=qjz (p:=p) (row:=row) (out:=(divL p row).2) (by rw [←h1])
    refine⟨by simp [g1],fun i hi => ?_⟩
    cases i with
    | zero =>
     obtain⟨_,_,_,p2,v2⟩:=qeW (zc:=22) (by decide) (f:=(divF 22 x p).2) (show divF 22 x p=(0,(divF 22 x p).2) by rw [←h0])
     exact⟨p2,v2⟩
    | succ i =>
     have:=g2 i (by simpa using hi)
     simpa [List.getD_cons_succ] using this
   ·rename_i h1
    exact absurd (show (divL p row).1=0 from congrArg Prod.fst h) h1
  ·rename_i h0
   exact absurd (show (divF 22 x p).1=0 from congrArg Prod.fst h) h0
def elimRs (r k:Nat) (rowR:List Frc) (xr:Frc):Nat→List (List Frc)→List Frc→Int × List (List Frc) × List Frc
 | i,row::rows,x::right =>
  if i=r then
   (if (elimRs r k rowR xr (i+1) rows right).1=0 then (0,rowR::(elimRs r k rowR xr (i+1) rows right).2.1,xr::(elimRs r k rowR xr (i+1) rows right).2.2) else ((elimRs r k rowR xr (i+1) rows right).1,[],[]))
  else if (elimF (row.getD k dF) row rowR).1=0 then
   (if (lessF x (row.getD k dF) xr).1=0 then
    (if (elimRs r k rowR xr (i+1) rows right).1=0 then (0,(elimF (row.getD k dF) row rowR).2::(elimRs r k rowR xr (i+1) rows right).2.1,(lessF x (row.getD k dF) xr).2::(elimRs r k rowR xr (i+1) rows right).2.2) else ((elimRs r k rowR xr (i+1) rows right).1,[],[]))
   else ((lessF x (row.getD k dF) xr).1,[],[]))
  else ((elimF (row.getD k dF) row rowR).1,[],[])
 | _,[],_=>(0,[],[])
 | _,_::_,[]=>(0,[],[])
theorem qkR {x f y out:Frc}(h:lessF x f y=(0,out)):PrpF out∧valF out=valF x-valF f*valF y:=by
 have h2:(mulF f y).1=0:=Classical.byContradiction fun hn=>by
  unfold lessF at h
  rw [if_neg hn] at h
  exact hn (congrArg Prod.fst h)
 have h3:lessF x f y=subF x (mulF f y).2:=by unfold lessF;rw [if_pos h2]
 rw [h3] at h
 obtain⟨_,_,_,v1⟩:=val_mul (f:=(mulF f y).2) (show mulF f y=(0,(mulF f y).2) by rw [←h2])
 obtain⟨_,_,p2,v2⟩:=val_sub h
 rw [v2,v1]
 exact⟨p2,rfl⟩
theorem qec {r k:Nat}{rowR:List Frc}{xr:Frc}{N:Nat}(hR:rowR.length=N):∀ {rows:List (List Frc)}{right:List Frc}{i:Nat}{o1:List (List Frc)}{o2:List Frc},rows.length=right.length→(∀ l∈rows,l.length=N)→elimRs r k rowR xr i rows right=(0,o1,o2) →
  o1.length=rows.length∧o2.length=rows.length∧∀ j,j<rows.length →
   (i+j=r→o1.getD j []=rowR∧o2.getD j dF=xr) ∧
   (i+j≠r→(o1.getD j []).length=N∧(∀ q,q<N→PrpF ((o1.getD j []).getD q dF)∧valF ((o1.getD j []).getD q dF)=valF ((rows.getD j []).getD q dF)-valF ((rows.getD j []).getD k dF)*valF (rowR.getD q dF))∧PrpF (o2.getD j dF)∧valF (o2.getD j dF)=valF (right.getD j dF)-valF ((rows.getD j []).getD k dF)*valF xr)
 | [],right,i,o1,o2,_,_,h=>by
  have e1:o1=[]:=(congrArg (fun x=>x.2.1) h).symm
  have e2:o2=[]:=(congrArg (fun x=>x.2.2) h).symm
  subst e1;subst e2
  exact⟨rfl,rfl,fun j hj=>absurd hj (Nat.not_lt_zero _)⟩
 | row::rows,[],_,_,_,hl,_,_=>absurd hl (by simp)
 | row::rows,x::right,i,o1,o2,hl,hN,h=>by
  have hl':rows.length=right.length:=by simpa using hl
  have hN':∀ l∈rows,l.length=N:=fun l hl=>hN l (List.mem_cons_of_mem _ hl)
  have hrow:row.length=N:=hN row List.mem_cons_self
  unfold elimRs at h
  by_cases hi:i=r
  ·rw [if_pos hi] at h
   split at h
   ·rename_i h1
    obtain⟨g1,g2,g3⟩:=qec hR (i:=i+1) (o1:=(elimRs r k rowR xr (i+1) rows right).2.1) (o2:=(elimRs r k rowR xr (i+1) rows right).2.2) hl' hN' (by rw [←h1])
    have e1:o1=rowR::(elimRs r k rowR xr (i+1) rows right).2.1:=(congrArg (fun x=>x.2.1) h).symm
    have e2:o2=xr::(elimRs r k rowR xr (i+1) rows right).2.2:=(congrArg (fun x=>x.2.2) h).symm
    subst e1;subst e2
    refine⟨by simp [g1],by simp [g2],fun j hj => ?_⟩
    cases j with
    | zero=>exact⟨fun _=>⟨rfl,rfl⟩,fun hne=>absurd hi hne⟩
    | succ j =>
     have:=g3 j (by simpa using hj)
     rw [show i+1+j=i+(j+1) by omega] at this
     simpa [List.getD_cons_succ] using this
   ·rename_i h1
    exact absurd (congrArg Prod.fst h) h1
  ·rw [if_neg hi] at h
   split at h
   ·rename_i h2
    split at h
    ·rename_i h3
     split at h
     ·rename_i h1
      obtain⟨g1,g2,g3⟩:=qec hR (i:=i+1) (o1:=(elimRs r k rowR xr (i+1) rows right).2.1) (o2:=(elimRs r k rowR xr (i+1) rows right).2.2) hl' hN' (by rw [←h1])
      have e1:o1=(elimF (row.getD k dF) row rowR).2::(elimRs r k rowR xr (i+1) rows right).2.1:=(congrArg (fun x=>x.2.1) h).symm
      have e2:o2=(lessF x (row.getD k dF) xr).2::(elimRs r k rowR xr (i+1) rows right).2.2:=(congrArg (fun x=>x.2.2) h).symm
      subst e1;subst e2
      obtain⟨k1,k2⟩:=qfe (f:=row.getD k dF) (row:=row) (piv:=rowR) (out:=(elimF (row.getD k dF) row rowR).2) (by omega) (by rw [←h2])
      obtain⟨k3,k4⟩:=qkR (x:=x) (f:=row.getD k dF) (y:=xr) (out:=(lessF x (row.getD k dF) xr).2) (by rw [←h3])
      refine⟨by simp [g1],by simp [g2],fun j hj => ?_⟩
      cases j with
      | zero=>exact⟨fun e=>absurd e hi,fun _=>⟨by show (elimF (row.getD k dF) row rowR).2.length=N;omega,fun q hq=>k2 q (by omega),k3,k4⟩⟩
      | succ j =>
       have:=g3 j (by simpa using hj)
       rw [show i+1+j=i+(j+1) by omega] at this
       simpa [List.getD_cons_succ] using this
     ·rename_i h1
      exact absurd (congrArg Prod.fst h) h1
    ·rename_i h3
     exact absurd (congrArg Prod.fst h) h3
   ·rename_i h2
    exact absurd (congrArg Prod.fst h) h2
def pivS (S:SimS) (r k:Nat):Int × SimS :=
 let e:=(S,S)
 if (divL ((S.rows.getD r []).getD k dF) (S.rows.getD r [])).1≠0 then ((divL ((S.rows.getD r []).getD k dF) (S.rows.getD r [])).1,e.1) else
 if (divF 22 (S.right.getD r dF) ((S.rows.getD r []).getD k dF)).1≠0 then ((divF 22 (S.right.getD r dF) ((S.rows.getD r []).getD k dF)).1,e.1) else
 let rowR:=(divL ((S.rows.getD r []).getD k dF) (S.rows.getD r [])).2
 let xr:=(divF 22 (S.right.getD r dF) ((S.rows.getD r []).getD k dF)).2
 if (elimRs r k rowR xr 0 S.rows S.right).1≠0 then ((elimRs r k rowR xr 0 S.rows S.right).1,e.1) else
 if (elimF (S.goal.getD k dF) S.goal rowR).1≠0 then ((elimF (S.goal.getD k dF) S.goal rowR).1,e.1) else
 if (mulF (S.goal.getD k dF) xr).1≠0 then ((mulF (S.goal.getD k dF) xr).1,e.1) else
 if (addF S.value (mulF (S.goal.getD k dF) xr).2).1≠0 then ((addF S.value (mulF (S.goal.getD k dF) xr).2).1,e.1) else
 (0,⟨(elimRs r k rowR xr 0 S.rows S.right).2.1,(elimRs r k rowR xr 0 S.rows S.right).2.2,S.basic.set r (k:Int),(elimF (S.goal.getD k dF) S.goal rowR).2,(addF S.value (mulF (S.goal.getD k dF) xr).2).2⟩)
def tabS (S:SimS):Tab:=⟨fun i j=>valF ((S.rows.getD i []).getD j dF),fun i=>valF (S.right.getD i dF),fun i=>(S.basic.getD i 0).toNat,fun j=>valF (S.goal.getD j dF),valF S.value⟩
structure SimOk (N m:Nat) (S:SimS):Prop where
 rl:S.rows.length=m
 rw_:∀ l∈S.rows,l.length=N
 bl:S.right.length=m
 al:S.basic.length=m
 gl:S.goal.length=N
 rp:∀ i j,i<m→j<N→PrpF ((S.rows.getD i []).getD j dF)
 bp:∀ i,i<m→PrpF (S.right.getD i dF)
 gp:∀ j,j<N→PrpF (S.goal.getD j dF)
 vp:PrpF S.value
 an:∀ i,i<m→0≤S.basic.getD i 0
theorem qed:valF dF=0:=by unfold valF dF;simp;grind
theorem qaF {α:Type}{l:List α}{i:Nat}{d:α}(h:l.length≤i):l.getD i d=d:=by
 rw [List.getD,List.getElem?_eq_none h];rfl
theorem qlt {N m:Nat}{S S':SimS}{r k:Nat}(hS:SimOk N m S) (hr:r<m) (hk:k<N) (h:pivS S r k=(0,S')):SimOk N m S'∧tabS S'=pivT (tabS S) r k:=by
 obtain⟨p,hp⟩:∃ p,p=(S.rows.getD r []).getD k dF:=⟨_,rfl⟩
 unfold pivS at h
 simp only [←hp] at h
 split at h
 ·rename_i h0;exact absurd (congrArg Prod.fst h) h0
 rename_i h1
 split at h
 ·rename_i h0;exact absurd (congrArg Prod.fst h) h0
 rename_i h2
 split at h
 ·rename_i h0;exact absurd (congrArg Prod.fst h) h0
 rename_i h3
 split at h
 ·rename_i h0;exact absurd (congrArg Prod.fst h) h0
 rename_i h4
 split at h
 ·rename_i h0;exact absurd (congrArg Prod.fst h) h0
 rename_i h5
 split at h
 ·rename_i h0;exact absurd (congrArg Prod.fst h) h0
 rename_i h6
 have h1:=Decidable.not_not.1 h1
 have h2:=Decidable.not_not.1 h2
 have h3:=Decidable.not_not.1 h3
 have h4:=Decidable.not_not.1 h4
 have h5:=Decidable.not_not.1 h5
 have h6:=Decidable.not_not.1 h6
 have eS:S'=_:=(congrArg Prod.snd h).symm
 clear h
 have hrow:(S.rows.getD r []).length=N:=hS.rw_ _ (by rw [qak (by rw [hS.rl];exact hr)];exact List.getElem_mem _)
 obtain⟨rowR,hrR⟩:∃ rowR,rowR=(divL p (S.rows.getD r [])).2:=⟨_,rfl⟩
 obtain⟨xr,hxr⟩:∃ xr,xr=(divF 22 (S.right.getD r dF) p).2:=⟨_,rfl⟩
 rw [←hrR] at h3 h4 eS
 rw [←hxr] at h3 h5 h6 eS
 obtain⟨a1,a2⟩:=qjz (p:=p) (row:=S.rows.getD r []) (out:=rowR) (by rw [hrR,←h1])
 obtain⟨_,_,_,b1,b2⟩:=qeW (zc:=22) (by decide) (f:=xr) (show divF 22 (S.right.getD r dF) p=(0,xr) by rw [hxr,←h2])
 obtain⟨c1,c2,c3⟩:=qec (r:=r) (k:=k) (rowR:=rowR) (xr:=xr) (N:=N) (by omega) (rows:=S.rows) (right:=S.right) (i:=0) (o1:=(elimRs r k rowR xr 0 S.rows S.right).2.1) (o2:=(elimRs r k rowR xr 0 S.rows S.right).2.2) (by rw [hS.rl,hS.bl]) hS.rw_ (by rw [←h3])
 obtain⟨d1,d2⟩:=qfe (f:=S.goal.getD k dF) (row:=S.goal) (piv:=rowR) (out:=(elimF (S.goal.getD k dF) S.goal rowR).2) (by rw [hS.gl];omega) (by rw [←h4])
 obtain⟨_,_,_,m2⟩:=val_mul (f:=(mulF (S.goal.getD k dF) xr).2) (show mulF (S.goal.getD k dF) xr=(0,_) by rw [←h5])
 obtain⟨_,_,n1,n2⟩:=val_add (f:=(addF S.value (mulF (S.goal.getD k dF) xr).2).2) (show addF S.value (mulF (S.goal.getD k dF) xr).2=(0,_) by rw [←h6])
 obtain⟨o1,ho1⟩:∃ o1,o1=(elimRs r k rowR xr 0 S.rows S.right).2.1:=⟨_,rfl⟩
 obtain⟨o2,ho2⟩:∃ o2,o2=(elimRs r k rowR xr 0 S.rows S.right).2.2:=⟨_,rfl⟩
 obtain⟨gl,hgl⟩:∃ gl,gl=(elimF (S.goal.getD k dF) S.goal rowR).2:=⟨_,rfl⟩
 rw [←ho1] at c1 c3 eS
 rw [←ho2] at c2 c3 eS
 rw [←hgl] at d1 d2 eS
 subst eS
 have hrl:=hS.rl
 have hat:∀ j,j<m→(j=r→o1.getD j []=rowR∧o2.getD j dF=xr)∧(j≠r→(o1.getD j []).length=N∧(∀ q,q<N→PrpF ((o1.getD j []).getD q dF)∧valF ((o1.getD j []).getD q dF)=valF ((S.rows.getD j []).getD q dF)-valF ((S.rows.getD j []).getD k dF)*valF (rowR.getD q dF))∧PrpF (o2.getD j dF)∧valF (o2.getD j dF)=valF (S.right.getD j dF)-valF ((S.rows.getD j []).getD k dF)*valF xr):=fun j hj=>by
  have:=c3 j (by omega)
  rw [Nat.zero_add] at this
  exact this
 constructor
 ·refine⟨by rw [c1,hrl],fun l hl => ?_,by rw [c2,hrl],by rw [List.length_set];exact hS.al,by rw [d1,hS.gl],fun i j hi hj => ?_,fun i hi => ?_,fun j hj=>(d2 j (by rw [hS.gl];exact hj)).1,n1,fun i hi => ?_⟩
  ·obtain⟨i,hi,rfl⟩:=List.getElem_of_mem hl
   have hi':i<m:=by rw [c1,hrl] at hi;exact hi
   rw [←qak (d:=([]:List Frc)) hi]
   by_cases e:i=r
   ·rw [((hat i hi').1 e).1,a1,hrow]
   ·exact ((hat i hi').2 e).1
  ·by_cases e:i=r
   ·rw [((hat i hi).1 e).1];exact (a2 j (by omega)).1
   ·exact (((hat i hi).2 e).2.1 j hj).1
  ·by_cases e:i=r
   ·rw [((hat i hi).1 e).2];exact b1
   ·exact ((hat i hi).2 e).2.2.1
  ·show 0≤(S.basic.set r (k:Int)).getD i 0
   have hi':i<(S.basic.set r (k:Int)).length:=by rw [List.length_set,hS.al];exact hi
   rw [qak hi',List.getElem_set]
   split
   ·exact Int.natCast_nonneg k
   ·have:=hS.an i hi
    rwa [qak (by rw [hS.al];exact hi)] at this
 ·have eA:∀ i j,valF ((o1.getD i []).getD j dF)=(pivT (tabS S) r k).A i j:=fun i j=>by
   show _=if i=r then valF ((S.rows.getD r []).getD j dF) / valF ((S.rows.getD r []).getD k dF) else valF ((S.rows.getD i []).getD j dF)-valF ((S.rows.getD i []).getD k dF)*(valF ((S.rows.getD r []).getD j dF) / valF ((S.rows.getD r []).getD k dF))
   rw [←hp]
   by_cases hj:j<N
   ·by_cases hi:i<m
    ·by_cases e:i=r
     ·rw [if_pos e,((hat i hi).1 e).1,(a2 j (by omega)).2]
     ·rw [if_neg e,(((hat i hi).2 e).2.1 j hj).2,(a2 j (by omega)).2]
    ·rw [if_neg (by omega),qaF (l:=o1) (by omega),qaF (l:=S.rows) (i:=i) (by omega)]
     rw [qaF (l:=([]:List Frc)) (Nat.zero_le _),qaF (l:=([]:List Frc)) (Nat.zero_le _),qed];grind
   ·have z1:(S.rows.getD r []).getD j dF=dF:=qaF (by omega)
    rw [z1,qed]
    by_cases hi:i<m
    ·by_cases e:i=r
     ·rw [if_pos e,((hat i hi).1 e).1,qaF (l:=rowR) (by omega),qed];grind
     ·have hil:(S.rows.getD i []).length=N:=hS.rw_ _ (by rw [qak (by rw [hrl];exact hi)];exact List.getElem_mem _)
      have hol:=((hat i hi).2 e).1
      rw [if_neg e,qaF (l:=o1.getD i []) (by omega),qaF (l:=S.rows.getD i []) (i:=j) (by omega),qed];grind
    ·rw [if_neg (by omega),qaF (l:=o1) (by omega),qaF (l:=S.rows) (i:=i) (by omega)]
     rw [qaF (l:=([]:List Frc)) (Nat.zero_le _),qaF (l:=([]:List Frc)) (Nat.zero_le _),qed];grind
  have eb:∀ i,valF (o2.getD i dF)=(pivT (tabS S) r k).b i:=fun i=>by
   show _=if i=r then valF (S.right.getD r dF) / valF ((S.rows.getD r []).getD k dF) else valF (S.right.getD i dF)-valF ((S.rows.getD i []).getD k dF)*(valF (S.right.getD r dF) / valF ((S.rows.getD r []).getD k dF))
   rw [←hp]
   by_cases hi:i<m
   ·by_cases e:i=r
    ·rw [if_pos e,((hat i hi).1 e).2,b2]
    ·rw [if_neg e,((hat i hi).2 e).2.2.2,b2]
   ·have hbl:=hS.bl
    rw [if_neg (by omega),qaF (l:=o2) (by omega),qaF (l:=S.right) (by omega),qaF (l:=S.rows) (i:=i) (by omega)]
    rw [qaF (l:=([]:List Frc)) (Nat.zero_le _),qed];grind
  have eB:∀ i,((S.basic.set r (k:Int)).getD i 0).toNat=(pivT (tabS S) r k).B i:=fun i=>by
   show _=if i=r then k else (S.basic.getD i 0).toNat
   have hal:=hS.al
   by_cases e:i=r
   ·subst e
    rw [if_pos rfl,qak (by rw [List.length_set];omega),List.getElem_set_self,Int.toNat_natCast]
   ·rw [if_neg e]
    congr 1
    simp only [List.getD]
    rw [List.getElem?_set_ne (fun e2=>e e2.symm)]
  have ec:∀ j,valF (gl.getD j dF)=(pivT (tabS S) r k).c j:=fun j=>by
   show _=valF (S.goal.getD j dF)-valF (S.goal.getD k dF)*(valF ((S.rows.getD r []).getD j dF) / valF ((S.rows.getD r []).getD k dF))
   rw [←hp]
   have hgl2:=hS.gl
   by_cases hj:j<N
   ·rw [(d2 j (by omega)).2,(a2 j (by omega)).2]
   ·rw [qaF (l:=gl) (by omega),qaF (l:=S.goal) (i:=j) (by omega),qaF (l:=S.rows.getD r []) (i:=j) (by omega),qed];grind
  have ez:valF (addF S.value (mulF (S.goal.getD k dF) xr).2).2=(pivT (tabS S) r k).z:=by
   show _=valF S.value+valF (S.goal.getD k dF)*(valF (S.right.getD r dF) / valF ((S.rows.getD r []).getD k dF))
   rw [←hp,n2,m2,b2]
  unfold tabS
  simp only
  have f1:(fun i j=>valF ((o1.getD i []).getD j dF))=(pivT (tabS S) r k).A:=funext fun i=>funext fun j=>eA i j
  have f2:(fun i=>valF (o2.getD i dF))=(pivT (tabS S) r k).b:=funext eb
  have f3:(fun i=>((S.basic.set r (k:Int)).getD i 0).toNat)=(pivT (tabS S) r k).B:=funext eB
  have f4:(fun j=>valF (gl.getD j dF))=(pivT (tabS S) r k).c:=funext ec
  rw [f1,f2,f3,f4,ez]
  rfl
end Go.Proofs.YtdadmnlenbdfbaaGreat
/-
  The simplex method on lists of fractions: the row that leaves, the column, the run.
-/
namespace Go.Proofs.YtdadmnlenbdfbaaGreat
def candS (S:SimS) (k:Nat) (m:Nat):List Nat:=(List.range m).filter fun i=>0<((S.rows.getD i []).getD k dF).num
def pickS (S:SimS) (k:Nat):Int→Frc→List Nat→Int × Int
 | best,_,[]=>(0,best)
 | best,least,i::l =>
  if (divF 22 (S.right.getD i dF) ((S.rows.getD i []).getD k dF)).1≠0 then ((divF 22 (S.right.getD i dF) ((S.rows.getD i []).getD k dF)).1,0)
  else if best<0∨cmpF (divF 22 (S.right.getD i dF) ((S.rows.getD i []).getD k dF)).2 least<0∨(cmpF (divF 22 (S.right.getD i dF) ((S.rows.getD i []).getD k dF)).2 least=0∧S.basic.getD i 0<S.basic.getD best.toNat 0)
   then pickS S k (i:Int) (divF 22 (S.right.getD i dF) ((S.rows.getD i []).getD k dF)).2 l
   else pickS S k best least l
def leavS (S:SimS) (k m:Nat):Int × Int :=
 match candS S k m with
 | []=>(0,-1)
 | [i]=>(0,(i:Int))
 | l=>pickS S k (-1) ⟨0,1⟩ l
theorem qfi {f:Frc}(h:PrpF f):0<f.num↔0<valF f:=by
 unfold valF
 have hd:(0:Rat)<(f.den:Rat):=by have:=h.1;exact_mod_cast (show (0:Int)<f.den by omega)
 constructor
 ·intro hn
  have hn':(0:Rat)<(f.num:Rat):=by exact_mod_cast hn
  rw [Rat.div_def]
  exact Rat.mul_pos hn' (Rat.inv_pos.2 hd)
 ·intro hv
  have h1:0<(f.num:Rat) / (f.den:Rat)*(f.den:Rat):=Rat.mul_pos hv hd
  rw [Rat.div_mul_cancel (by grind)] at h1
  exact_mod_cast h1
theorem qcU {S:SimS}{k m i:Nat}:i∈candS S k m↔i<m∧0<((S.rows.getD i []).getD k dF).num:=by
 unfold candS
 rw [List.mem_filter,List.mem_range]
 simp
structure PickI (S:SimS) (k:Nat) (P:Nat→Prop) (best:Nat) (least:Frc):Prop where
 inn:P best
 prp:PrpF least
 eq:valF least=valF (S.right.getD best dF) / valF ((S.rows.getD best []).getD k dF)
 min:∀ i,P i→valF least<valF (S.right.getD i dF) / valF ((S.rows.getD i []).getD k dF)∨(valF least=valF (S.right.getD i dF) / valF ((S.rows.getD i []).getD k dF)∧S.basic.getD best 0≤S.basic.getD i 0)
theorem qfj {S:SimS}{k:Nat}{Q:Nat→Prop}:∀ {l:List Nat}{P:Nat→Prop}{best:Int}{least:Frc}{r:Int},(best<0∧∀ i,¬P i)∨(0≤best∧PickI S k P best.toNat least)→(∀ i,Q i↔(P i∨i∈l))→pickS S k best least l=(0,r)→(r<0∧∀ i,¬Q i)∨(0≤r∧∃ f,PickI S k Q r.toNat f)
 | [],P,best,least,r,hI,hQ,h=>by
  have e:r=best:=(congrArg Prod.snd h).symm
  subst e
  have hPQ:Q=P:=funext fun i=>propext (by rw [hQ];simp)
  subst hPQ
  rcases hI with hI|hI
  ·exact Or.inl hI
  ·exact Or.inr ⟨hI.1,least,hI.2⟩
 | i::l,P,best,least,r,hI,hQ,h=>by
  obtain⟨d,hd⟩:∃ d,d=divF 22 (S.right.getD i dF) ((S.rows.getD i []).getD k dF):=⟨_,rfl⟩
  unfold pickS at h
  rw [←hd] at h
  split at h
  ·rename_i h0;exact absurd (congrArg Prod.fst h) h0
  rename_i h0
  have h0:=Decidable.not_not.1 h0
  obtain⟨_,_,_,p2,v2⟩:=qeW (zc:=22) (by decide) (f:=d.2) (show divF 22 (S.right.getD i dF) ((S.rows.getD i []).getD k dF)=(0,d.2) by rw [←hd,←h0])
  have hQ':∀ j,Q j↔((P j∨j=i)∨j∈l):=fun j=>by rw [hQ,List.mem_cons];grind
  split at h
  ·rename_i hc
   refine qfj (P:=fun j=>P j∨j=i) (Or.inr ⟨Int.natCast_nonneg i,?_⟩) hQ' h
   rw [Int.toNat_natCast]
   refine⟨Or.inr rfl,p2,v2,fun j hj => ?_⟩
   rcases hj with hj|rfl
   ·rcases hI with hI|hI
    ·exact absurd hj (hI.2 j)
    ·obtain⟨b0,hb⟩:=hI
     have hm:=hb.min j hj
     obtain⟨c1,c2⟩:=qlg p2 hb.prp
     rcases hc with hc|hc|hc
     ·omega
     ·have:=c1.1 hc
      rcases hm with hm|hm
      ·exact Or.inl (by grind)
      ·exact Or.inl (by rw [←hm.1];exact this)
     ·have:=c2.1 hc.1
      rcases hm with hm|hm
      ·exact Or.inl (by rw [this];exact hm)
      ·exact Or.inr ⟨by rw [this];exact hm.1,by omega⟩
   ·exact Or.inr ⟨v2,Int.le_refl _⟩
  ·rename_i hc
   have hb0:¬best<0:=fun hh=>hc (Or.inl hh)
   rcases hI with hI|hI
   ·exact absurd hI.1 hb0
   refine qfj (P:=fun j=>P j∨j=i) (Or.inr ⟨hI.1,Or.inl hI.2.inn,hI.2.prp,hI.2.eq,fun j hj => ?_⟩) hQ' h
   rcases hj with hj|rfl
   ·exact hI.2.min j hj
   ·obtain⟨c1,c2⟩:=qlg p2 hI.2.prp
    have n1:¬valF d.2<valF least:=fun hh=>hc (Or.inr (Or.inl (c1.2 hh)))
    rw [←v2]
    rcases Rat.le_total (a:=valF least) (b:=valF d.2) with hle|hle
    ·by_cases he:valF least=valF d.2
     ·refine Or.inr ⟨he,?_⟩
      have:¬S.basic.getD j 0<S.basic.getD best.toNat 0:=fun hh=>hc (Or.inr (Or.inr ⟨c2.2 he.symm,hh⟩))
      omega
     ·exact Or.inl (by grind)
    ·have he:valF least=valF d.2:=by grind
     refine Or.inr ⟨he,?_⟩
     have:¬S.basic.getD j 0<S.basic.getD best.toNat 0:=fun hh=>hc (Or.inr (Or.inr ⟨c2.2 he.symm,hh⟩))
     omega
theorem qjG {N m:Nat}{S:SimS}{k:Nat}{r:Int}(hS:SimOk N m S) (hk:k<N) (h:leavS S k m=(0,r)) (hr:0≤r):r.toNat<m∧0<(tabS S).A r.toNat k∧∀ i,i<m→0<(tabS S).A i k→(tabS S).b r.toNat / (tabS S).A r.toNat k<(tabS S).b i / (tabS S).A i k∨((tabS S).b r.toNat / (tabS S).A r.toNat k=(tabS S).b i / (tabS S).A i k∧(tabS S).B r.toNat≤(tabS S).B i):=by
 have hA:∀ i,i<m→(0<((S.rows.getD i []).getD k dF).num↔0<(tabS S).A i k):=fun i hi=>qfi (hS.rp i k hi hk)
 unfold leavS at h
 split at h
 ·have:r = -1:=(congrArg Prod.snd h).symm
  omega
 ·rename_i i0 he
  have e:r=(i0:Int):=(congrArg Prod.snd h).symm
  subst e
  rw [Int.toNat_natCast]
  have h1:=(qcU (S:=S) (k:=k) (m:=m) (i:=i0)).1 (by rw [he];exact List.mem_singleton.2 rfl)
  refine⟨h1.1,(hA i0 h1.1).1 h1.2,fun i hi hp => ?_⟩
  have h2:=(qcU (S:=S) (k:=k) (m:=m) (i:=i)).2 ⟨hi,(hA i hi).2 hp⟩
  rw [he] at h2
  have e2:=List.mem_singleton.1 h2
  subst e2
  exact Or.inr ⟨rfl,Nat.le_refl _⟩
 ·rcases qfj (P:=fun _=>False) (Q:=fun i=>i∈candS S k m) (Or.inl ⟨by decide,fun i hi=>hi⟩) (fun i=>by simp) h with h1|⟨_,f,hI⟩
  ·omega
  ·have h1:=qcU.1 hI.inn
   refine⟨h1.1,(hA _ h1.1).1 h1.2,fun i hi hp => ?_⟩
   have:=hI.min i (qcU.2 ⟨hi,(hA i hi).2 hp⟩)
   rw [hI.eq] at this
   rcases this with hh|hh
   ·exact Or.inl hh
   ·refine Or.inr ⟨hh.1,?_⟩
    show (S.basic.getD r.toNat 0).toNat≤(S.basic.getD i 0).toNat
    omega
end Go.Proofs.YtdadmnlenbdfbaaGreat
/-
  A list whose first part is done, and what is left of it.
-/
namespace Go.Proofs.YtdadmnlenbdfbaaGreat
open Go.Sl
theorem qe5 {α:Type}{P xs:List α}{k:Nat}{d:α}(hP:P.length=k) (hk:k<xs.length):(P++xs.drop k).getD k d=xs.getD k d:=by
 simp only [List.getD]
 rw [List.getElem?_append_right (by omega),List.getElem?_drop,show k+(k-P.length)=k by omega]
theorem qcd {α:Type}{P xs:List α}{k:Nat}{y:α}(hP:P.length=k) (hk:k<xs.length):(P++xs.drop k).set k y=(P++[y])++xs.drop (k+1):=by
 rw [List.set_append_right _ _ (by omega),hP,Nat.sub_self,List.drop_eq_getElem_cons hk,List.set_cons_zero,List.append_assoc];rfl
theorem qdG {α:Type}{P xs:List α}{k:Nat}(hP:P.length=k) (hk:k≤xs.length):(P++xs.drop k).length=xs.length:=by
 rw [List.length_append,List.length_drop];omega
theorem qaR {α:Type}{xs:List α}{k:Nat}(d:α) (hk:k<xs.length):xs.drop k=xs.getD k d::xs.drop (k+1):=by
 rw [qak hk];exact List.drop_eq_getElem_cons hk
end Go.Proofs.YtdadmnlenbdfbaaGreat
/-
  Fractions as elements of slices.
-/
namespace Go.Proofs.YtdadmnlenbdfbaaGreat
open Go.Sl Go
def tFrc:Ty Frc:=⟨2,fun f=>[.int .i64 f.num,.int .i64 f.den],fun _=>rfl,⟨0,0⟩⟩
instance inFrc1:OneT tFrc:=⟨fun x v hv=>by simp only [tFrc,List.mem_cons,List.not_mem_nil,or_false] at hv;rcases hv with rfl|rfl <;> rfl⟩
end Go.Proofs.YtdadmnlenbdfbaaGreat
