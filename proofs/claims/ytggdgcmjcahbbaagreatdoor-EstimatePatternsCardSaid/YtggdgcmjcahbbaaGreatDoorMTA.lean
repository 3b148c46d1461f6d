/-
  Several texts as one: TTask, TDefs, TBron, TLex, TExt, TNear, TState, TDist, THeap, TDijk, TCheck, TProj, TProj2, TSys, TWhole, TGrow, TFind, TLimit, TFill, TIda, TVis, TSucc, TSucc2, TNode, TPln, TAst, TIda2, TAstF, TLink, TBy, TRef50, TVis2, TRelax, THMax, TUn, TRelax2, THM2.
-/
import Derived.Test.YtggdgcmjcahbbaaGreatDoorMSlA
import Derived.Test.YtggdgcmjcahbbaaGreatDoorMSlB
set_option linter.unusedSimpArgs false
set_option linter.unusedVariables false
/-
  Finite-domain tasks, in plain Lean, and how they lie in memory.
-/
namespace Go.Proofs.YtggdgcmjcahbbaaGreatDoor
open Go.Sl
structure Fact where
 var:Int
 val:Int
 deriving DecidableEq
def tFact:Ty Fact:=⟨2,fun f=>[.int .i64 f.var,.int .i64 f.val],fun _=>rfl,⟨0,0⟩⟩
instance inTTask1:OneT tFact:=⟨fun x v hv=>by simp only [tFact,List.mem_cons,List.not_mem_nil,or_false] at hv;rcases hv with rfl|rfl <;> rfl⟩
structure Eff where
 when:List Fact
 var:Int
 val:Int
structure TOp where
 name:ByteArray
 cost:Int
 pre:List Fact
 effs:List Eff
structure TTask where
 vars:List Int
 init:List Int
 goal:List Fact
 ops:List TOp
structure EffV where
 when:Value
 var:Int
 val:Int
def tEff:Ty EffV:=⟨3,fun e=>[e.when,.int .i64 e.var,.int .i64 e.val],fun _=>rfl,⟨.slice none 0 0,0,0⟩⟩
structure OpV where
 name:ByteArray
 cost:Int
 pre:Value
 effs:Value
def tOp:Ty OpV:=⟨4,fun o=>[.string o.name,.int .i64 o.cost,o.pre,o.effs],fun _=>rfl,⟨ByteArray.empty,0,.slice none 0 0,.slice none 0 0⟩⟩
instance inTTask2:ShutT tEff:=⟨trivial⟩
instance inTTask3:ShutT tOp:=⟨trivial⟩
def dEff:Eff:=⟨[],0,0⟩
def dOp:TOp:=⟨ByteArray.empty,0,[],[]⟩
structure REff (w:World) (v:EffV) (e:Eff):Prop where
 var:v.var=e.var
 val:v.val=e.val
 when:RS tFact w v.when e.when
structure REffs (w:World) (s:Value) (vs:List EffV) (es:List Eff):Prop where
 rs:RS tEff w s vs
 len:vs.length=es.length
 at_:∀ i,i<es.length→REff w (eget tEff vs i) (es.getD i dEff)
structure ROp (w:World) (v:OpV) (o:TOp):Prop where
 name:v.name=o.name
 size:o.name.size≤9223372036854775807
 cost:v.cost=o.cost
 pre:RS tFact w v.pre o.pre
 effs:∃ vs,REffs w v.effs vs o.effs
structure ROps (w:World) (s:Value) (vs:List OpV) (os:List TOp):Prop where
 rs:RS tOp w s vs
 len:vs.length=os.length
 at_:∀ i,i<os.length→ROp w (eget tOp vs i) (os.getD i dOp)
structure RTask (w:World) (a b c d:Value) (vs:List OpV) (t:TTask):Prop where
 vars:RS tInt w a t.vars
 init:RS tInt w b t.init
 goal:RS tFact w c t.goal
 ops:ROps w d vs t.ops
theorem REff.one {w:World}{v:EffV}{e:Eff}(h:REff w v e):(tEff.enc v).all Value.oneCell'=true:=by
 simp only [tEff,List.all_cons,List.all_nil,Bool.and_true,h.when.one];rfl
theorem ROp.one {w:World}{v:OpV}{o:TOp}(h:ROp w v o):(tOp.enc v).all Value.oneCell'=true:=by
 obtain⟨vs,he⟩:=h.effs
 simp only [tOp,List.all_cons,List.all_nil,Bool.and_true,h.pre.one,he.rs.one];rfl
theorem REffs.at {w0 w:World}{Γ:List HP}{s:Value}{vs:List EffV}{es:List Eff}(h:REffs w0 s vs es) (hw:Sat w0 w Γ):REffs w s vs es :=
 ⟨h.rs.at hw,h.len,fun i hi=>⟨(h.at_ i hi).var,(h.at_ i hi).val,(h.at_ i hi).when.at hw⟩⟩
theorem ROp.at {w0 w:World}{Γ:List HP}{v:OpV}{o:TOp}(h:ROp w0 v o) (hw:Sat w0 w Γ):ROp w v o :=
 ⟨h.name,h.size,h.cost,h.pre.at hw,let ⟨vs,he⟩:=h.effs;⟨vs,he.at hw⟩⟩
theorem ROps.at {w0 w:World}{Γ:List HP}{s:Value}{vs:List OpV}{os:List TOp}(h:ROps w0 s vs os) (hw:Sat w0 w Γ):ROps w s vs os :=
 ⟨h.rs.at hw,h.len,fun i hi=>(h.at_ i hi).at hw⟩
theorem RTask.at {w0 w:World}{Γ:List HP}{a b c d:Value}{vs:List OpV}{t:TTask}(h:RTask w0 a b c d vs t) (hw:Sat w0 w Γ):RTask w a b c d vs t :=
 ⟨h.vars.at hw,h.init.at hw,h.goal.at hw,h.ops.at hw⟩
end Go.Proofs.YtggdgcmjcahbbaaGreatDoor
/-
  When a task is right, in plain Lean.
-/
namespace Go.Proofs.YtggdgcmjcahbbaaGreatDoor
open Go.Sl
theorem qah {α:Type}{xs:List α}{i:Nat}(d:α) (h:i<xs.length):xs.getD i d∈xs:=by simp [List.getD,h]
theorem qak {α:Type}{l:List α}{d:α}{i:Nat}(h:i<l.length):l.getD i d=l[i]:=by simp [List.getD,h]
theorem iffF {p:Prop}(h:¬p):(false=true)↔p:=⟨(fun e=>by cases e),fun e=>absurd e h⟩
theorem iffT {p:Prop}(h:p):(true=true)↔p:=⟨fun _=>h,fun _=>rfl⟩
def StateOk (vars s:List Int):Prop:=s.length=vars.length∧∀ i,i<s.length→0≤s.getD i tInt.dflt∧s.getD i tInt.dflt<vars.getD i tInt.dflt
def FactOk (vars:List Int) (x:Fact):Prop:=0≤x.var∧x.var<vars.length∧0≤x.val∧x.val<vars.getD x.var.toNat tInt.dflt
def FactsOk (vars:List Int) (f:List Fact):Prop:=∀ i,i<f.length→FactOk vars (f.getD i tFact.dflt)∧(0<i→(f.getD (i-1) tFact.dflt).var<(f.getD i tFact.dflt).var)
def NameOk (b:ByteArray):Prop:=b.size≤256∧∀ i,i<b.size→32≤bat b i∧bat b i≤126
def EffOk (vars:List Int) (e:Eff):Prop:=FactsOk vars e.when∧FactsOk vars [⟨e.var,e.val⟩]
structure OpOk (vars:List Int) (o:TOp):Prop where
 cost0:0≤o.cost
 cost1:o.cost≤1048576
 effs:o.effs.length≤64
 name:NameOk o.name
 pre:FactsOk vars o.pre
 eff:∀ i,i<o.effs.length→EffOk vars (o.effs.getD i dEff)
structure GoodT (t:TTask):Prop where
 vars:t.vars.length≤64
 ops:t.ops.length≤4096
 dom:∀ i,i<t.vars.length→1≤t.vars.getD i tInt.dflt∧t.vars.getD i tInt.dflt≤64
 init:StateOk t.vars t.init
 goal:FactsOk t.vars t.goal
 op:∀ i,i<t.ops.length→OpOk t.vars (t.ops.getD i dOp)
def prodL (vars:List Int):Int:=vars.foldl (·*·) 1
structure SmallT (t:TTask):Prop where
 good:GoodT t
 vars:t.vars.length≤12
 ops:t.ops.length≤20
 effs:∀ i,i<t.ops.length→(t.ops.getD i dOp).effs.length≤8
 many:prodL t.vars≤512
def HoldF (s:List Int) (x:Fact):Prop:=0≤x.var∧x.var<s.length∧s.getD x.var.toNat tInt.dflt=x.val
def HoldFs (s:List Int) (f:List Fact):Prop:=∀ i,i<f.length→HoldF s (f.getD i tFact.dflt)
theorem qa3 (l:List Int) (x:Int):prodL (l++[x])=prodL l*x:=by simp [prodL]
theorem qal {α:Type}{l:List α}{k:Nat}(d:α) (h:k<l.length):l.take (k+1)=l.take k++[l.getD k d]:=by
 rw [List.take_succ_eq_append_getElem h];simp [List.getD,h]
theorem qbB {l:List Int}(h:∀ x∈l,1≤x):1≤prodL l:=by
 have key:∀ (l:List Int) (a:Int),1≤a→(∀ x∈l,1≤x)→1≤l.foldl (·*·) a:=by
  intro l
  induction l with
  | nil=>intro a ha _;exact ha
  | cons x l ih =>
   intro a ha hl
   refine ih (a*x) ?_ fun y hy=>hl y (List.mem_cons_of_mem _ hy)
   have hx:=hl x List.mem_cons_self
   have:=Int.mul_le_mul ha hx (by omega) (by omega)
   simpa using this
 exact key l 1 (Int.le_refl _) h
theorem qfP {l m:List Int}(hm:∀ x∈m,1≤x) (hl:∀ x∈l,1≤x):prodL l≤prodL (l++m):=by
 induction m generalizing l with
 | nil=>simp
 | cons x m ih =>
  have h1:=ih (l:=l++[x]) (fun y hy=>hm y (List.mem_cons_of_mem _ hy)) (fun y hy=>by
   rcases List.mem_append.1 hy with h|h
   ·exact hl y h
   ·rw [List.mem_singleton.1 h];exact hm x List.mem_cons_self)
  rw [qa3] at h1
  have h2:=qbB hl
  have h3:=hm x List.mem_cons_self
  have h4:prodL l*1≤prodL l*x:=Int.mul_le_mul_of_nonneg_left h3 (by omega)
  have e:l++[x]++m=l++x::m:=by simp
  rw [e] at h1
  omega
end Go.Proofs.YtggdgcmjcahbbaaGreatDoor
/-
  Maximal cliques by sets of bits, in plain Lean: what the search with a pivot finds.
-/
namespace Go.Proofs.YtggdgcmjcahbbaaGreatDoor
open Go.Sl
abbrev ib (x v:Nat):Prop:=x.testBit v=true
structure Gr (n:Nat) (N:Nat→Nat):Prop where
 sym:∀ u v,ib (N u) v→ib (N v) u
 irr:∀ u,¬ib (N u) u
 bd:∀ u v,ib (N u) v→v<n
structure MaxC (n:Nat) (N:Nat→Nat) (C:Nat):Prop where
 bd:∀ v,ib C v→v<n
 clq:∀ u v,ib C u→ib C v→u≠v→ib (N u) v
 max:∀ u,u<n→¬ib C u→∃ v,ib C v∧¬ib (N u) v
structure Cand (n:Nat) (N:Nat→Nat) (R P C:Nat):Prop where
 mx:MaxC n N C
 lo:∀ v,ib R v→ib C v
 hi:∀ v,ib C v→ib R v∨ib P v
structure BI (n:Nat) (N:Nat→Nat) (R P X:Nat):Prop where
 rb:∀ v,ib R v→v<n
 pb:∀ v,ib P v→v<n
 xb:∀ v,ib X v→v<n
 clq:∀ u v,ib R u→ib R v→u≠v→ib (N u) v
 adj:∀ u,ib P u∨ib X u→∀ r,ib R r→ib (N u) r
 all:∀ u,u<n→(∀ r,ib R r→ib (N u) r)→ib P u∨ib X u
section
variable {n:Nat}{N:Nat→Nat}{R P X C:Nat}
theorem BI.base (h:BI n N R P X) (hP:∀ v,¬ib P v) (hX:∀ v,¬ib X v):Cand n N R P C↔C=R:=by
 constructor
 ·intro hc
  apply Nat.eq_of_testBit_eq
  intro i
  by_cases hi:ib C i
  ·rcases hc.hi i hi with h1|h1
   ·exact hi.trans h1.symm
   ·exact absurd h1 (hP i)
  ·have hr:¬ib R i:=fun hr=>hi (hc.lo i hr)
   rw [Bool.eq_false_iff.2 hi,Bool.eq_false_iff.2 hr]
 ·rintro rfl
  refine⟨⟨h.rb,h.clq,fun u hu hn => ?_⟩,fun _ hv=>hv,fun _ hv=>.inl hv⟩
  refine Classical.byContradiction fun hno => ?_
  have hall:∀ r,ib C r→ib (N u) r:=fun r hr=>Classical.byContradiction fun hh=>hno ⟨r,hr,hh⟩
  rcases h.all u hu hall with h1|h1
  ·exact hP u h1
  ·exact hX u h1
theorem BI.notR (hG:Gr n N) (h:BI n N R P X) {v:Nat}(hv:ib P v∨ib X v):¬ib R v:=fun hr=>hG.irr v (h.adj v hv v hr)
theorem BI.child (hG:Gr n N) (h:BI n N R P X) {v R1 P1 X1:Nat}(hv:ib P v) (h1:∀ u,ib R1 u↔ib R u∨u=v) (h2:∀ u,ib P1 u↔ib P u∧ib (N v) u) (h3:∀ u,ib X1 u↔ib X u∧ib (N v) u):BI n N R1 P1 X1 where
 rb u hu:=by
  rcases (h1 u).1 hu with h0|rfl
  ·exact h.rb u h0
  ·exact h.pb _ hv
 pb u hu:=h.pb u ((h2 u).1 hu).1
 xb u hu:=h.xb u ((h3 u).1 hu).1
 clq a b ha hb hab:=by
  rcases (h1 a).1 ha with ha|rfl
  ·rcases (h1 b).1 hb with hb|rfl
   ·exact h.clq a b ha hb hab
   ·exact hG.sym _ _ (h.adj _ (.inl hv) a ha)
  ·rcases (h1 b).1 hb with hb|rfl
   ·exact h.adj _ (.inl hv) b hb
   ·exact absurd rfl hab
 adj u hu r hr:=by
  have hu2:(ib P u∨ib X u)∧ib (N v) u:=by
   rcases hu with hu|hu
   ·exact⟨.inl ((h2 u).1 hu).1,((h2 u).1 hu).2⟩
   ·exact⟨.inr ((h3 u).1 hu).1,((h3 u).1 hu).2⟩
  rcases (h1 r).1 hr with hr|rfl
  ·exact h.adj u hu2.1 r hr
  ·exact hG.sym _ _ hu2.2
 all u hu ha:=by
  have hv2:ib (N v) u:=hG.sym _ _ (ha v ((h1 v).2 (.inr rfl)))
  rcases h.all u hu (fun r hr=>ha r ((h1 r).2 (.inl hr))) with h0|h0
  ·exact .inl ((h2 u).2 ⟨h0,hv2⟩)
  ·exact .inr ((h3 u).2 ⟨h0,hv2⟩)
theorem BI.next (h:BI n N R P X) {v P1 X1:Nat}(hv:ib P v) (h2:∀ u,ib P1 u↔ib P u∧u≠v) (h3:∀ u,ib X1 u↔ib X u∨u=v):BI n N R P1 X1 where
 rb:=h.rb
 pb u hu:=h.pb u ((h2 u).1 hu).1
 xb u hu:=by
  rcases (h3 u).1 hu with h0|rfl
  ·exact h.xb u h0
  ·exact h.pb _ hv
 clq:=h.clq
 adj u hu r hr:=by
  rcases hu with hu|hu
  ·exact h.adj u (.inl ((h2 u).1 hu).1) r hr
  ·rcases (h3 u).1 hu with h0|rfl
   ·exact h.adj u (.inr h0) r hr
   ·exact h.adj _ (.inl hv) r hr
 all u hu ha:=by
  rcases h.all u hu ha with h0|h0
  ·by_cases e:u=v
   ·exact .inr ((h3 u).2 (.inr e))
   ·exact .inl ((h2 u).2 ⟨h0,e⟩)
  ·exact .inr ((h3 u).2 (.inl h0))
theorem BI.split (hG:Gr n N) (h:BI n N R P X) {v R1 P1 P2:Nat}(hv:ib P v) (h1:∀ u,ib R1 u↔ib R u∨u=v) (h2:∀ u,ib P1 u↔ib P u∧ib (N v) u) (h3:∀ u,ib P2 u↔ib P u∧u≠v) :
  (Cand n N R P C↔Cand n N R1 P1 C∨Cand n N R P2 C)∧(Cand n N R1 P1 C→ib C v)∧(Cand n N R P2 C→¬ib C v):=by
 have hnr:=h.notR hG (.inl hv)
 refine⟨⟨fun hc => ?_,fun hc => ?_⟩,fun hc=>hc.lo v ((h1 v).2 (.inr rfl)),fun hc hcv => ?_⟩
 ·by_cases hcv:ib C v
  ·refine .inl ⟨hc.mx,fun u hu => ?_,fun u hu => ?_⟩
   ·rcases (h1 u).1 hu with h0|rfl
    ·exact hc.lo u h0
    ·exact hcv
   ·by_cases e:u=v
    ·exact .inl ((h1 u).2 (.inr e))
    ·rcases hc.hi u hu with h0|h0
     ·exact .inl ((h1 u).2 (.inl h0))
     ·exact .inr ((h2 u).2 ⟨h0,hc.mx.clq v u hcv hu (fun hh=>e hh.symm)⟩)
  ·refine .inr ⟨hc.mx,hc.lo,fun u hu => ?_⟩
   rcases hc.hi u hu with h0|h0
   ·exact .inl h0
   ·exact .inr ((h3 u).2 ⟨h0,fun e=>hcv (e ▸ hu)⟩)
 ·rcases hc with hc|hc
  ·refine⟨hc.mx,fun u hu=>hc.lo u ((h1 u).2 (.inl hu)),fun u hu => ?_⟩
   rcases hc.hi u hu with h0|h0
   ·rcases (h1 u).1 h0 with h0|rfl
    ·exact .inl h0
    ·exact .inr hv
   ·exact .inr ((h2 u).1 h0).1
  ·refine⟨hc.mx,hc.lo,fun u hu => ?_⟩
   rcases hc.hi u hu with h0|h0
   ·exact .inl h0
   ·exact .inr ((h3 u).1 h0).1
 ·rcases hc.hi v hcv with h0|h0
  ·exact hnr h0
  ·exact ((h3 v).1 h0).2 rfl
theorem BI.pivot (hG:Gr n N) (h:BI n N R P X) {u:Nat}(hu:ib P u∨ib X u) (hc:Cand n N R P C):∃ q,ib C q∧ib P q∧¬ib (N u) q:=by
 refine Classical.byContradiction fun hno => ?_
 have hall:∀ c,ib C c→ib (N u) c:=fun c hcc=>by
  rcases hc.hi c hcc with h0|h0
  ·exact h.adj u hu c h0
  ·exact Classical.byContradiction fun hh=>hno ⟨c,hcc,h0,hh⟩
 by_cases hcu:ib C u
 ·exact hG.irr u (hall u hcu)
 ·have hun:u<n:=by
   rcases hu with h0|h0
   ·exact h.pb u h0
   ·exact h.xb u h0
  obtain⟨v,hv,hn⟩:=hc.mx.max u hun hcu
  exact hn (hall v hv)
end
def Low (x v:Nat):Prop:=ib x v∧∀ u,u<v→¬ib x u
theorem qfC {x:Nat}(h:x≠0):∃ v,Low x v:=by
 have:∃ v,ib x v:=by
  refine Classical.byContradiction fun hno=>h (Nat.eq_of_testBit_eq fun i => ?_)
  rw [Nat.zero_testBit]
  exact Bool.eq_false_iff.2 fun hh=>hno ⟨i,hh⟩
 obtain⟨v,hv⟩:=this
 induction v using Nat.strongRecOn with
 | _ v ih =>
  by_cases hh:∃ u,u<v∧ib x u
  ·obtain⟨u,h1,h2⟩:=hh
   exact ih u h1 h2
  ·exact⟨v,hv,fun u hu hb=>hh ⟨u,hu,hb⟩⟩
theorem qnl {x v:Nat}(h:Low x v):x=2 ^ (v+1)*(x / 2 ^ (v+1))+2 ^ v:=by
 apply Nat.eq_of_testBit_eq
 intro i
 rw [Nat.testBit_two_pow_mul_add _ (by rw [Nat.pow_succ];have:=Nat.two_pow_pos v;omega)]
 split
 ·rename_i hi
  rw [Nat.testBit_two_pow]
  by_cases e:v=i
  ·subst e;rw [decide_eq_true rfl];exact h.1
  ·rw [decide_eq_false e]
   exact Bool.eq_false_iff.2 (h.2 i (by omega))
 ·rename_i hi
  rw [Nat.testBit_div_two_pow]
  congr 1;omega
theorem qjm {x v:Nat}(h:Low x v) (i:Nat):(x-1).testBit i=if i<v then true else if i=v then false else x.testBit i:=by
 have hp:=Nat.two_pow_pos v
 have e:x-1=2 ^ (v+1)*(x / 2 ^ (v+1))+(2 ^ v-1):=by
  have:=qnl h;omega
 rw [e,Nat.testBit_two_pow_mul_add _ (by rw [Nat.pow_succ];omega)]
 split
 ·rename_i hi
  rw [Nat.testBit_two_pow_sub_one]
  by_cases e1:i<v
  ·rw [if_pos e1,decide_eq_true e1]
  ·rw [if_neg e1,if_pos (by omega),decide_eq_false e1]
 ·rename_i hi
  rw [if_neg (by omega),if_neg (by omega),Nat.testBit_div_two_pow]
  congr 1;omega
theorem qhj {x v:Nat}(h:Low x v) (i:Nat):ib (x &&& (x-1)) i↔ib x i∧i≠v:=by
 unfold ib
 rw [Nat.testBit_and,qjm h,Bool.and_eq_true]
 by_cases e1:i<v
 ·have:=h.2 i e1
  rw [if_pos e1]
  exact⟨fun hh=>absurd hh.1 this,fun hh=>absurd hh.1 this⟩
 ·rw [if_neg e1]
  by_cases e2:i=v
  ·rw [if_pos e2]
   exact⟨fun hh=>(by cases hh.2),fun hh=>absurd e2 hh.2⟩
  ·rw [if_neg e2]
   exact⟨fun hh=>⟨hh.1,e2⟩,fun hh=>⟨hh.1,hh.1⟩⟩
theorem qjn {x:Nat}(h:x≠0):x &&& (x-1)<x:=by
 have:=Nat.and_le_right (n:=x) (m:=x-1)
 omega
theorem qo6 {x v:Nat}(h:Low x v) (hx:x<2 ^ 64):x &&& (2 ^ 64-x)=2 ^ v:=by
 have hx0:x≠0:=fun e=>by have:=h.1;subst e;simp [ib] at this
 have hv:v<64:=Nat.lt_of_not_le fun hle=>by
  have h1:=h.1
  unfold ib at h1
  rw [Nat.testBit_lt_two_pow (Nat.lt_of_lt_of_le hx (Nat.pow_le_pow_right (by decide) hle))] at h1
  cases h1
 apply Nat.eq_of_testBit_eq
 intro i
 rw [Nat.testBit_and,show 2 ^ 64-x=2 ^ 64-((x-1)+1) by omega,Nat.testBit_two_pow_sub_succ (by omega),qjm h,Nat.testBit_two_pow]
 by_cases e1:i<v
 ·rw [if_pos e1,Bool.eq_false_iff.2 (h.2 i e1),Bool.false_and,decide_eq_false (by omega)]
 ·rw [if_neg e1]
  by_cases e2:i=v
  ·subst e2
   rw [if_pos rfl,show x.testBit i=true from h.1,decide_eq_true hv,decide_eq_true rfl];rfl
  ·rw [if_neg e2,show decide (v=i)=false from decide_eq_false fun hh=>e2 hh.symm]
   cases x.testBit i <;> simp
theorem qpN {x v k:Nat}(h:Low x v) (hx:x<2 ^ k):v<k:=Nat.lt_of_not_le fun hle=>by
 have h1:=h.1
 unfold ib at h1
 rw [Nat.testBit_lt_two_pow (Nat.lt_of_lt_of_le hx (Nat.pow_le_pow_right (by decide) hle))] at h1
 cases h1
end Go.Proofs.YtggdgcmjcahbbaaGreatDoor
/-
  Lists of nodes: sets of bits as ascending lists, the lexicographic order, and that a sorted list is settled by its members.
-/
namespace Go.Proofs.YtggdgcmjcahbbaaGreatDoor
open Go.Sl
def bitsK (C:Nat) (k:Nat):List Int:=((List.range k).filter fun v=>C.testBit v).map fun (v:Nat)=>(v:Int)
theorem qdz (C k:Nat):bitsK C (k+1)=bitsK C k++if C.testBit k then [(k:Int)] else []:=by
 unfold bitsK
 rw [List.range_succ,List.filter_append,List.map_append]
 congr 1
 simp only [List.filter_cons,List.filter_nil]
 split <;> rfl
theorem qhf (C:Nat):∀ k,(bitsK C k).length≤k
 | 0=>Nat.le_refl _
 | k+1=>by
  rw [qdz,List.length_append]
  have:=qhf C k
  split <;> simp <;> omega
theorem qb6 {C k:Nat}{x:Int}:x∈bitsK C k↔∃ v:Nat,v<k∧ib C v∧x=v:=by
 simp only [bitsK,List.mem_map,List.mem_filter,List.mem_range]
 constructor
 ·rintro⟨v,⟨h1,h2⟩,rfl⟩;exact⟨v,h1,h2,rfl⟩
 ·rintro⟨v,h1,h2,rfl⟩;exact⟨v,⟨h1,h2⟩,rfl⟩
theorem qlh {C C' n:Nat}(h:∀ v,ib C v→v<n) (h':∀ v,ib C' v→v<n) (he:bitsK C n=bitsK C' n):C=C':=by
 apply Nat.eq_of_testBit_eq
 intro i
 have key:ib C i↔ib C' i:=by
  constructor
  ·intro hi
   have:(i:Int)∈bitsK C n:=qb6.2 ⟨i,h i hi,hi,rfl⟩
   rw [he] at this
   obtain⟨v,_,hv,e⟩:=qb6.1 this
   have:i=v:=by omega
   rw [this];exact hv
  ·intro hi
   have:(i:Int)∈bitsK C' n:=qb6.2 ⟨i,h' i hi,hi,rfl⟩
   rw [←he] at this
   obtain⟨v,_,hv,e⟩:=qb6.1 this
   have:i=v:=by omega
   rw [this];exact hv
 exact Bool.eq_iff_iff.2 key
def lexC:List Int→List Int→Int
 | [],[]=>0
 | [],_::_ => -1
 | _::_,[]=>1
 | x::xs,y::ys=>if x<y then -1 else if y<x then 1 else lexC xs ys
theorem qhg:∀ xs,lexC xs xs=0
 | []=>rfl
 | x::xs=>by simp [lexC,qhg xs]
theorem qnf:∀ xs ys,lexC xs ys = -1∨lexC xs ys=0∨lexC xs ys=1
 | [],[]=>.inr (.inl rfl)
 | [],_::_=>.inl rfl
 | _::_,[]=>.inr (.inr rfl)
 | x::xs,y::ys=>by
  simp only [lexC]
  split
  ·exact .inl rfl
  ·split
   ·exact .inr (.inr rfl)
   ·exact qnf xs ys
theorem qeq:∀ xs ys,lexC ys xs =-lexC xs ys
 | [],[]=>rfl
 | [],_::_=>rfl
 | _::_,[]=>rfl
 | x::xs,y::ys=>by
  simp only [lexC]
  by_cases h1:x<y
  ·rw [if_pos h1,if_neg (by omega),if_pos h1];rfl
  ·by_cases h2:y<x
   ·rw [if_pos h2,if_neg h1,if_pos h2]
   ·rw [if_neg h1,if_neg h2,if_neg h2,if_neg h1];exact qeq xs ys
theorem qer:∀ {xs ys},lexC xs ys=0→xs=ys
 | [],[],_=>rfl
 | [],_::_,h=>by simp [lexC] at h
 | _::_,[],h=>by simp [lexC] at h
 | x::xs,y::ys,h=>by
  simp only [lexC] at h
  split at h
  ·cases h
  ·split at h
   ·cases h
   ·rw [qer h];congr 1;omega
theorem qdA:∀ {xs ys zs},lexC xs ys<0→lexC ys zs<0→lexC xs zs<0
 | [],[],_,h,_=>by simp [lexC] at h
 | [],_::_,[],_,h=>by simp [lexC] at h
 | [],_::_,_::_,_,_=>by simp [lexC]
 | _::_,[],_,h,_=>by simp [lexC] at h
 | _::_,_::_,[],_,h=>by simp [lexC] at h
 | x::xs,y::ys,z::zs,h1,h2=>by
  simp only [lexC] at h1 h2 ⊢
  by_cases a:x<y
  ·by_cases b:y<z
   ·rw [if_pos (by omega)];decide
   ·rw [if_neg b] at h2
    split at h2
    ·cases h2
    ·rw [if_pos (by omega)];decide
  ·rw [if_neg a] at h1
   split at h1
   ·cases h1
   ·by_cases b:y<z
    ·rw [if_pos (by omega)];decide
    ·rw [if_neg b] at h2
     split at h2
     ·cases h2
     ·rw [if_neg (by omega),if_neg (by omega)]
      exact qdA h1 h2
def LexS (L:List (List Int)):Prop:=L.Pairwise fun a b=>lexC a b<0
end Go.Proofs.YtggdgcmjcahbbaaGreatDoor
/-
  The reference's enumeration of maximal cliques, in plain Lean: sorted, and just these.
-/
namespace Go.Proofs.YtggdgcmjcahbbaaGreatDoor
open Go.Sl
section
variable {n:Nat}{N:Nat→Nat}{l:List Int}{v:Nat}{E E1 E2:List (List Int)}
theorem qja {C k:Nat}(hv:ib C k):bitsK C (k+1)=bitsK C k++[(k:Int)]:=by rw [qdz,if_pos hv]
theorem qg8 {C k:Nat}(hv:¬ib C k):bitsK C (k+1)=bitsK C k:=by rw [qdz,if_neg hv,List.append_nil]
end
end Go.Proofs.YtggdgcmjcahbbaaGreatDoor
/-
  Graphs, in plain Lean: the check of a graph, and the neighbours of each node as sets of bits.
-/
namespace Go.Proofs.YtggdgcmjcahbbaaGreatDoor
open Go.Sl
structure Arc where
 src:Int
 dst:Int
 wt:Int
 deriving DecidableEq
def tArc:Ty Arc:=⟨3,fun a=>[.int .i64 a.src,.int .i64 a.dst,.int .i64 a.wt],fun _=>rfl,⟨0,0,0⟩⟩
def arcOk (n:Int) (a:Arc):Prop:=0≤a.src∧a.src<n∧0≤a.dst∧a.dst<n ∧ -1099511627776≤a.wt∧a.wt≤1099511627776
instance (n:Int) (a:Arc):Decidable (arcOk n a):=by unfold arcOk;infer_instance
def checkCode (n:Int) (arcs:List Arc):Int :=
 if n<0 then 1 else if 4096<n∨65536<(arcs.length:Int) then 5 else if ∀ a∈arcs,arcOk n a then 0 else 1
theorem qgy {n:Int}{arcs:List Arc}(h:n<0):checkCode n arcs=1:=by simp [checkCode,h]
theorem qeP {n:Int}{arcs:List Arc}(h:0≤n) (h1:4096<n∨65536<(arcs.length:Int)):checkCode n arcs=5:=by simp only [checkCode,if_neg (Int.not_lt.2 h),h1,if_true]
theorem qgz {n:Int}{arcs:List Arc}(h:0≤n) (h1:¬(4096<n∨65536<(arcs.length:Int))) {k:Nat}(hk:k<arcs.length) (hb:¬arcOk n (arcs.getD k tArc.dflt)):checkCode n arcs=1:=by
 have:¬∀ a∈arcs,arcOk n a:=fun hh=>hb (hh _ (qah _ hk))
 simp only [checkCode,if_neg (Int.not_lt.2 h),h1,this,if_false]
theorem qdX {n:Int}{arcs:List Arc}(h:0≤n) (h1:¬(4096<n∨65536<(arcs.length:Int))) (hb:∀ i,i<arcs.length→arcOk n (arcs.getD i tArc.dflt)):checkCode n arcs=0:=by
 have:∀ a∈arcs,arcOk n a:=fun a ha=>by
  obtain⟨i,hi,rfl⟩:=List.getElem_of_mem ha
  have:=hb i hi
  simpa [List.getD,hi] using this
 simp only [checkCode,if_neg (Int.not_lt.2 h),h1,if_false,if_pos this]
theorem qhG {n:Int}{arcs:List Arc}(h:checkCode n arcs=0):0≤n∧n≤4096∧arcs.length≤65536∧∀ a∈arcs,arcOk n a:=by
 unfold checkCode at h
 split at h
 ·cases h
 ·split at h
  ·cases h
  ·split at h
   ·rename_i h1 h2 h3;exact⟨by omega,by omega,by omega,h3⟩
   ·cases h
def AdjA (arcs:List Arc) (u v:Nat):Prop:=u≠v∧∃ a∈arcs,(a.src=u∧a.dst=v)∨(a.src=v∧a.dst=u)
theorem AdjA.symm {arcs:List Arc}{u v:Nat}(h:AdjA arcs u v):AdjA arcs v u:=⟨fun e=>h.1 e.symm,let ⟨a,ha,hh⟩:=h.2;⟨a,ha,hh.symm⟩⟩
def setN (L:List Nat) (u v:Nat):List Nat:=L.set u (L.getD u tU64.dflt ||| 2 ^ v)
theorem qjz (L:List Nat) (u v:Nat):(setN L u v).length=L.length:=by simp [setN]
theorem qgA {L:List Nat}{u v x y:Nat}(hu:u<L.length):ib ((setN L u v).getD x tU64.dflt) y↔ib (L.getD x tU64.dflt) y∨(x=u∧y=v):=by
 unfold setN
 by_cases e:x=u
 ·subst e
  have e2:(L.set x (L.getD x tU64.dflt ||| 2 ^ v)).getD x tU64.dflt=L.getD x tU64.dflt ||| 2 ^ v:=by simp [List.getD,hu]
  rw [e2]
  unfold ib
  rw [Nat.testBit_or,Nat.testBit_two_pow,Bool.or_eq_true,decide_eq_true_eq]
  constructor
  ·rintro (h|h)
   ·exact .inl h
   ·exact .inr ⟨rfl,h.symm⟩
  ·rintro (h|h)
   ·exact .inl h
   ·exact .inr h.2.symm
 ·have e2:(L.set u (L.getD u tU64.dflt ||| 2 ^ v)).getD x tU64.dflt=L.getD x tU64.dflt:=by
   simp only [List.getD,List.getElem?_set,if_neg (fun h=>e h.symm:¬u=x)]
  rw [e2]
  exact⟨.inl,fun h=>h.elim id fun hh=>absurd hh.1 e⟩
def stepN (L:List Nat) (a:Arc):List Nat:=if a.src=a.dst then L else setN (setN L a.src.toNat a.dst.toNat) a.dst.toNat a.src.toNat
def nearK (n:Nat) (arcs:List Arc) (k:Nat):List Nat:=(arcs.take k).foldl stepN (List.replicate n 0)
theorem qkn (n:Nat) (arcs:List Arc):nearK n arcs 0=List.replicate n 0:=rfl
theorem qcy {n:Nat}{arcs:List Arc}{k:Nat}(h:k<arcs.length):nearK n arcs (k+1)=stepN (nearK n arcs k) (arcs.getD k tArc.dflt):=by
 rw [nearK,qal tArc.dflt h,List.foldl_append];rfl
theorem qlW (L:List Nat) (a:Arc):(stepN L a).length=L.length:=by unfold stepN;split <;> simp [setN]
theorem qdn {n:Nat}{arcs:List Arc}:∀ k,k≤arcs.length→(nearK n arcs k).length=n
 | 0,_=>by simp [nearK]
 | k+1,h=>by rw [qcy (by omega),qlW,qdn k (by omega)]
theorem qdo {n:Nat}{arcs:List Arc}(hok:∀ a∈arcs,arcOk n a) {x y:Nat}:∀ k,k≤arcs.length→(ib ((nearK n arcs k).getD x tU64.dflt) y↔AdjA (arcs.take k) x y)
 | 0,_=>by
  constructor
  ·intro h
   have e:(nearK n arcs 0).getD x tU64.dflt=0:=by
    rw [qkn]
    simp only [List.getD,List.getElem?_replicate]
    split <;> rfl
   rw [e] at h;simp [ib] at h
  ·rintro⟨_,a,ha,_⟩;simp at ha
 | k+1,h=>by
  have ih:=qdo hok (x:=x) (y:=y) k (by omega)
  have hl:=qdn (n:=n) (arcs:=arcs) k (by omega)
  have ha:=hok _ (qah tArc.dflt (show k<arcs.length by omega))
  unfold arcOk at ha
  have hadj:AdjA (arcs.take (k+1)) x y↔AdjA (arcs.take k) x y∨(x≠y∧(((arcs.getD k tArc.dflt).src=x∧(arcs.getD k tArc.dflt).dst=y)∨((arcs.getD k tArc.dflt).src=y∧(arcs.getD k tArc.dflt).dst=x))):=by
   rw [qal tArc.dflt (by omega)]
   unfold AdjA
   constructor
   ·rintro⟨hne,a,hm,hh⟩
    rcases List.mem_append.1 hm with hm|hm
    ·exact .inl ⟨hne,a,hm,hh⟩
    ·rw [List.mem_singleton.1 hm] at hh;exact .inr ⟨hne,hh⟩
   ·rintro (⟨hne,a,hm,hh⟩|⟨hne,hh⟩)
    ·exact⟨hne,a,List.mem_append_left _ hm,hh⟩
    ·exact⟨hne,_,List.mem_append_right _ (List.mem_singleton.2 rfl),hh⟩
  rw [qcy (by omega),hadj,←ih]
  unfold stepN
  split
  ·rename_i e
   refine⟨.inl,fun h=>h.elim id fun hh => ?_⟩
   omega
  ·rename_i e
   rw [qgA (by rw [qjz];omega),qgA (by omega)]
   constructor
   ·rintro ((h|h)|h)
    ·exact .inl h
    ·exact .inr ⟨by omega,by omega⟩
    ·exact .inr ⟨by omega,by omega⟩
   ·rintro (h|⟨h1,h2|h2⟩)
    ·exact .inl (.inl h)
    ·exact .inl (.inr ⟨by omega,by omega⟩)
    ·exact .inr ⟨by omega,by omega⟩
def nearA (n:Nat) (arcs:List Arc):List Nat:=nearK n arcs arcs.length
def nbA (n:Nat) (arcs:List Arc) (u:Nat):Nat:=(nearA n arcs).getD u tU64.dflt
theorem qeQ {n:Nat}{arcs:List Arc}(hok:∀ a∈arcs,arcOk n a) {x y:Nat}:ib (nbA n arcs x) y↔AdjA arcs x y:=by
 have:=qdo hok (x:=x) (y:=y) arcs.length (Nat.le_refl _)
 rwa [List.take_length] at this
theorem AdjA.lt {n:Nat}{arcs:List Arc}(hok:∀ a∈arcs,arcOk n a) {x y:Nat}(h:AdjA arcs x y):x<n∧y<n:=by
 obtain⟨_,a,ha,hh⟩:=h
 have:=hok a ha
 unfold arcOk at this
 rcases hh with hh|hh <;> constructor <;> omega
theorem qoK {n:Nat}{arcs:List Arc}(hok:∀ a∈arcs,arcOk n a):Gr n (nbA n arcs) :=
 ⟨fun _ _ h=>(qeQ hok).2 ((qeQ hok).1 h).symm,fun _ h=>((qeQ hok).1 h).1 rfl,fun _ _ h=>(((qeQ hok).1 h).lt hok).2⟩
theorem qfR {C n:Nat}(h:∀ v,ib C v→v<n):C<2 ^ n:=Nat.lt_pow_two_of_testBit C fun i hi=>Bool.eq_false_iff.2 fun hh=>by have:=h i hh;omega
theorem qnC {n:Nat}{arcs:List Arc}(hok:∀ a∈arcs,arcOk n a) {k x:Nat}(hk:k≤arcs.length):(nearK n arcs k).getD x tU64.dflt<2 ^ n:=qfR fun v hv=>by
 have:=(qdo hok k hk).1 hv
 exact (AdjA.lt (arcs:=arcs.take k) (fun a ha=>hok a (List.mem_of_mem_take ha)) this).2
end Go.Proofs.YtggdgcmjcahbbaaGreatDoor
/-
  States of a task, their ranks, the steps between them, in plain Lean.
-/
namespace Go.Proofs.YtggdgcmjcahbbaaGreatDoor
open Go.Sl
def mix (ds:List (Int × Int)):Int:=ds.foldl (fun n d=>n*d.1+d.2) 0
theorem qeh (l:List (Int × Int)) (d:Int × Int):mix (l++[d])=mix l*d.1+d.2:=by simp [mix]
def DigOk (ds:List (Int × Int)):Prop:=∀ d∈ds,0≤d.2∧d.2<d.1
theorem qaw {α:Type}{P:List α→Prop}(h0:P []) (h1:∀ l x,P l→P (l++[x])) (l:List α):P l:=by
 have:∀ n,∀ l:List α,l.length=n→P l:=by
  intro n
  induction n with
  | zero=>intro l hl;rw [List.length_eq_zero_iff.1 hl];exact h0
  | succ n ih =>
   intro l hl
   have hne:l≠[]:=fun h=>by simp [h] at hl
   rw [←List.dropLast_concat_getLast hne]
   exact h1 _ _ (ih _ (by simp [hl]))
 exact this _ l rfl
theorem qmy {ds:List (Int × Int)}:DigOk ds→0≤mix ds∧mix ds<prodL (ds.map (·.1)):=by
 refine qaw (P:=fun ds=>DigOk ds→0≤mix ds∧mix ds<prodL (ds.map (·.1))) ?_ ?_ ds
 ·intro _;decide
 ·intro l d ih h
  obtain⟨a,b⟩:=ih fun x hx=>h x (List.mem_append_left _ hx)
  obtain⟨c,e⟩:=h d (List.mem_append_right _ (List.mem_singleton.2 rfl))
  rw [qeh,List.map_append,List.map_cons,List.map_nil,qa3]
  have h1:0≤mix l*d.1:=Int.mul_nonneg a (by omega)
  have h2:(mix l+1)*d.1≤prodL (l.map (·.1))*d.1:=Int.mul_le_mul_of_nonneg_right (by omega) (by omega)
  rw [Int.add_mul] at h2
  omega
theorem qpE {ds:List (Int × Int)}:∀ {es:List (Int × Int)},DigOk ds→DigOk es→ds.map (·.1)=es.map (·.1)→mix ds=mix es→ds=es:=by
 refine qaw (P:=fun ds=>∀ {es:List (Int × Int)},DigOk ds→DigOk es→ds.map (·.1)=es.map (·.1)→mix ds=mix es→ds=es) ?_ ?_ ds
 ·intro es _ _ h _
  simpa using h.symm
 ·intro l d ih es h1 h2 hm he
  have hne:es≠[]:=fun h=>by simp [h] at hm
  obtain⟨m,f,rfl⟩:∃ m f,es=m++[f]:=⟨_,_,(List.dropLast_concat_getLast hne).symm⟩
  simp only [List.map_append,List.map_cons,List.map_nil] at hm
  obtain⟨hm1,hm2⟩:=List.append_inj' hm rfl
  have hm3:d.1=f.1:=by simpa using hm2
  rw [qeh,qeh] at he
  obtain⟨a,b⟩:=h1 d (by simp)
  obtain⟨a',b'⟩:=h2 f (by simp)
  have hq:mix l=mix m:=by
   have e1:(mix l*d.1+d.2) / d.1=mix l:=by
    rw [Int.add_comm,Int.add_mul_ediv_right _ _ (by omega),Int.ediv_eq_zero_of_lt a b];omega
   have e2:(mix m*f.1+f.2) / f.1=mix m:=by
    rw [Int.add_comm,Int.add_mul_ediv_right _ _ (by omega),Int.ediv_eq_zero_of_lt a' b'];omega
   rw [he,hm3,e2] at e1;exact e1.symm
  rw [hq,hm3] at he
  have:d.2=f.2:=by omega
  rw [ih (fun x hx=>h1 x (by simp [hx])) (fun x hx=>h2 x (by simp [hx])) hm1 hq,Prod.ext hm3 this]
def rankL (vars s:List Int):Int:=mix (vars.zip s)
theorem qf0 {vars s:List Int}(h:s.length=vars.length) (k x:Int):rankL (vars++[k]) (s++[x])=rankL vars s*k+x:=by
 unfold rankL;rw [List.zip_append h.symm,List.zip_cons_cons,List.zip_nil_right,qeh]
theorem StateOk.dig {vars s:List Int}(h:StateOk vars s):DigOk (vars.zip s):=by
 intro d hd
 obtain⟨i,hi,rfl⟩:=List.getElem_of_mem hd
 rw [List.length_zip] at hi
 have:=h.2 i (by omega)
 rw [qak (by omega),qak (by omega)] at this
 simpa using this
theorem qiQ {a b:List Int}(h:b.length=a.length):(a.zip b).map (·.1)=a:=by
 have:=List.map_fst_zip (l₁:=a) (l₂:=b) (by omega)
 exact this
theorem qcW {vars s:List Int}(h:StateOk vars s):0≤rankL vars s∧rankL vars s<prodL vars:=by
 have:=qmy h.dig
 rwa [qiQ h.1] at this
theorem zip_inj {a b c:List Int}(h1:b.length=a.length) (h2:c.length=a.length) (h:a.zip b=a.zip c):b=c:=by
 have e1:=List.map_snd_zip (l₁:=a) (l₂:=b) (by omega)
 have e2:=List.map_snd_zip (l₁:=a) (l₂:=c) (by omega)
 rw [←e1,h,e2]
theorem qmz {vars s u:List Int}(h:StateOk vars s) (k:StateOk vars u) (e:rankL vars s=rankL vars u):s=u :=
 zip_inj h.1 k.1 (qpE h.dig k.dig (by rw [qiQ h.1,qiQ k.1]) e)
def statesS (out:List (List Int)) (k:Int):List (List Int):=out.flatMap fun s=>(List.range k.toNat).map fun (x:Nat)=>s++[(x:Int)]
def statesL (vars:List Int):List (List Int):=vars.foldl statesS [[]]
theorem qck (vars:List Int) (k:Int):statesL (vars++[k])=statesS (statesL vars) k:=by simp [statesL]
theorem qmA (n k:Nat):(List.range n).flatMap (fun r=>(List.range k).map fun x=>r*k+x)=List.range (n*k):=by
 induction n with
 | zero=>simp
 | succ n ih=>rw [List.range_succ,List.flatMap_append,ih,Nat.succ_mul,List.range_add];simp
theorem qgP {α β:Type}{l:List α}{f g:α→List β}(h:∀ x∈l,f x=g x):l.flatMap f=l.flatMap g:=by
 induction l with
 | nil=>rfl
 | cons x l ih=>rw [List.flatMap_cons,List.flatMap_cons,h x List.mem_cons_self,ih fun y hy=>h y (List.mem_cons_of_mem _ hy)]
theorem qhT {vars s:List Int}{k x:Int}(h:StateOk vars s) (h0:0≤x) (h1:x<k):StateOk (vars++[k]) (s++[x]):=by
 refine⟨by simp [h.1],fun i hi => ?_⟩
 simp only [List.length_append,List.length_cons,List.length_nil] at hi
 simp only [List.getD_eq_getElem?_getD]
 by_cases e:i<s.length
 ·rw [List.getElem?_append_left e,List.getElem?_append_left (by rw [←h.1];exact e)]
  simpa only [List.getD_eq_getElem?_getD] using h.2 i e
 ·have e2:i=s.length:=by omega
  subst e2
  rw [List.getElem?_append_right (Nat.le_refl _),List.getElem?_append_right (by rw [h.1];exact Nat.le_refl _),h.1]
  simpa using ⟨h0,h1⟩
theorem qft {vars s:List Int}{k:Int}(h:StateOk (vars++[k]) s):∃ s' x,s=s'++[x]∧StateOk vars s'∧0≤x∧x<k:=by
 have hl:=h.1
 simp only [List.length_append,List.length_cons,List.length_nil] at hl
 have hne:s≠[]:=fun e=>by simp [e] at hl
 refine⟨s.dropLast,s.getLast hne,(List.dropLast_concat_getLast hne).symm,?_,?_⟩
 ·refine⟨by simp;omega,fun i hi => ?_⟩
  simp only [List.length_dropLast] at hi
  have:=h.2 i (by omega)
  simp only [List.getD_eq_getElem?_getD] at this ⊢
  rw [List.getElem?_append_left (by omega)] at this
  rw [List.getElem?_dropLast,if_pos (by omega)]
  exact this
 ·have:=h.2 (s.length-1) (by omega)
  simp only [List.getD_eq_getElem?_getD] at this
  rw [List.getElem?_append_right (by omega),show s.length-1-vars.length=0 by omega] at this
  rw [List.getLast_eq_getElem]
  rw [List.getElem?_eq_getElem (by omega)] at this
  simpa using this
theorem qb3 {vars:List Int}:∀ {s:List Int},s∈statesL vars↔StateOk vars s:=by
 refine qaw (P:=fun vars=>∀ {s:List Int},s∈statesL vars↔StateOk vars s) ?_ ?_ vars
 ·intro s
  simp only [statesL,List.foldl_nil,List.mem_singleton]
  constructor
  ·rintro rfl;exact⟨rfl,fun i hi=>absurd hi (Nat.not_lt_zero _)⟩
  ·intro h;exact List.length_eq_zero_iff.1 h.1
 ·intro l k ih s
  rw [qck,statesS,List.mem_flatMap]
  constructor
  ·rintro⟨s',hs',h⟩
   obtain⟨x,hx,rfl⟩:=List.mem_map.1 h
   have:=List.mem_range.1 hx
   exact qhT (ih.1 hs') (by omega) (by omega)
  ·intro h
   obtain⟨s',x,rfl,h1,h2,h3⟩:=qft h
   exact⟨s',ih.2 h1,List.mem_map.2 ⟨x.toNat,List.mem_range.2 (by omega),by rw [Int.toNat_of_nonneg h2]⟩⟩
theorem qd0 {vars:List Int}:(∀ x∈vars,1≤x)→(statesL vars).map (fun s=>(rankL vars s).toNat)=List.range (prodL vars).toNat:=by
 refine qaw (P:=fun vars=>(∀ x∈vars,1≤x)→(statesL vars).map (fun s=>(rankL vars s).toNat)=List.range (prodL vars).toNat) ?_ ?_ vars
 ·intro _;decide
 ·intro l k ih h
  have hk:=h k (by simp)
  have hp:=qbB fun x hx=>h x (List.mem_append_left [k] hx)
  have ih':=ih fun x hx=>h x (by simp [hx])
  rw [qck,statesS,List.map_flatMap,qa3,Int.toNat_mul (by omega) (by omega),←qmA,←ih',List.flatMap_map]
  refine qgP fun s hs => ?_
  rw [List.map_map]
  refine List.map_congr_left fun x hx => ?_
  have hs':=qb3.1 hs
  have hb:=(qcW hs').1
  simp only [Function.comp]
  rw [qf0 hs'.1]
  have:0≤rankL l s*k:=Int.mul_nonneg hb (by omega)
  rw [Int.toNat_add this (by omega),Int.toNat_mul hb (by omega)]
  omega
theorem qaZ {vars:List Int}(h:∀ x∈vars,1≤x):(statesL vars).length=(prodL vars).toNat:=by
 have:=congrArg List.length (qd0 h)
 simpa using this
theorem qkH {vars:List Int}(h:∀ x∈vars,1≤x) {i:Nat}(hi:i<(statesL vars).length):StateOk vars ((statesL vars).getD i [])∧rankL vars ((statesL vars).getD i [])=i:=by
 have hm:(statesL vars).getD i []∈statesL vars:=qah [] hi
 have hs:=qb3.1 hm
 refine⟨hs,?_⟩
 have:=congrArg (fun l=>l[i]?) (qd0 h)
 rw [qaZ h] at hi
 simp only [List.getElem?_map] at this
 rw [List.getElem?_range (by omega),List.getElem?_eq_getElem (by rw [qaZ h];omega)] at this
 simp only [Option.map_some,Option.some.injEq] at this
 rw [qak (by rw [qaZ h];omega)] at hs ⊢
 have hb:=(qcW hs).1
 omega
instance (s:List Int) (x:Fact):Decidable (HoldF s x):=by unfold HoldF;infer_instance
instance (s:List Int) (f:List Fact):Decidable (HoldFs s f):=by unfold HoldFs;infer_instance
theorem qaV {s:List Int}{f:List Fact}:HoldFs s f↔∀ x∈f,HoldF s x:=by
 constructor
 ·intro h x hx
  obtain⟨i,hi,rfl⟩:=List.getElem_of_mem hx
  have:=h i hi
  rwa [qak hi] at this
 ·intro h i hi;exact h _ (qah _ hi)
def effsL (s:List Int) (effs:List Eff):List Int:=effs.foldl (fun out e=>if HoldFs s e.when then out.set e.var.toNat e.val else out) s
theorem qdN (s:List Int) (l:List Eff) (e:Eff):effsL s (l++[e])=if HoldFs s e.when then (effsL s l).set e.var.toNat e.val else effsL s l:=by simp [effsL]
theorem qmB (s:List Int) (l:List Eff):(effsL s l).length=s.length:=by
 refine qaw (P:=fun l=>(effsL s l).length=s.length) rfl ?_ l
 intro l e ih;rw [qdN];split <;> simp [ih]
def AppT (t:TTask) (s:List Int) (op:Nat):Prop:=HoldFs s (t.ops.getD op dOp).pre
instance (t:TTask) (s:List Int) (op:Nat):Decidable (AppT t s op):=by unfold AppT;infer_instance
def succT (t:TTask) (s:List Int) (op:Nat):List Int:=effsL s (t.ops.getD op dOp).effs
theorem qaL {vars:List Int}{e:Eff}(h:EffOk vars e):0≤e.var∧e.var<vars.length∧0≤e.val∧e.val<vars.getD e.var.toNat tInt.dflt:=by
 have:=(h.2 0 (Nat.zero_lt_succ _)).1
 exact this
theorem qcX {vars s:List Int}{v x:Int}(h:StateOk vars s) (h2:0≤v) (h0:0≤x) (h1:x<vars.getD v.toNat tInt.dflt):StateOk vars (s.set v.toNat x):=by
 refine⟨by simp [h.1],fun i hi => ?_⟩
 rw [List.length_set] at hi
 simp only [List.getD_eq_getElem?_getD,List.getElem?_set] at h1 ⊢
 split
 ·rename_i e;subst e;rw [if_pos hi];exact⟨h0,h1⟩
 ·simpa only [List.getD_eq_getElem?_getD] using h.2 i hi
theorem qoh {vars s:List Int}{l:List Eff}(hs:StateOk vars s):(∀ e∈l,EffOk vars e)→StateOk vars (effsL s l):=by
 refine qaw (P:=fun l=>(∀ e∈l,EffOk vars e)→StateOk vars (effsL s l)) (fun _=>hs) ?_ l
 intro l e ih h
 have h1:=ih fun x hx=>h x (by simp [hx])
 rw [qdN]
 split
 ·obtain⟨a,b,c,d⟩:=qaL (h e (by simp))
  exact qcX h1 a c d
 ·exact h1
theorem OpOk.mem {vars:List Int}{o:TOp}(h:OpOk vars o):∀ e∈o.effs,EffOk vars e:=by
 intro e he
 obtain⟨i,hi,rfl⟩:=List.getElem_of_mem he
 have:=h.eff i hi
 rwa [qak hi] at this
theorem GoodT.pos {t:TTask}(h:GoodT t):∀ x∈t.vars,1≤x:=by
 intro x hx
 obtain⟨i,hi,rfl⟩:=List.getElem_of_mem hx
 have:=(h.dom i hi).1
 rwa [qak hi] at this
structure Edg where
 src:Int
 lab:Int
 dst:Int
 deriving DecidableEq
def tEdg:Ty Edg:=⟨3,fun e=>[.int .i64 e.src,.int .i64 e.lab,.int .i64 e.dst],fun _=>rfl,⟨0,0,0⟩⟩
instance inTState1:OneT tEdg:=⟨fun x v hv=>by simp only [tEdg,List.mem_cons,List.not_mem_nil,or_false] at hv;rcases hv with rfl|rfl|rfl <;> rfl⟩
end Go.Proofs.YtggdgcmjcahbbaaGreatDoor
/-
  Least costs to a goal in a graph of labelled edges, in plain Lean.
-/
namespace Go.Proofs.YtggdgcmjcahbbaaGreatDoor
open Go.Sl
abbrev inf:Int:=1125899906842624
abbrev dg (D:List Int) (i:Int):Int:=D.getD i.toNat tInt.dflt
abbrev cst (c:List Int) (e:Edg):Int:=c.getD e.lab.toNat tInt.dflt
inductive Walk (E:List Edg) (c:List Int) (G:Int→Prop):Int→Int→Prop
 | goal {a:Int}:G a→Walk E c G a 0
 | step {e:Edg}{k:Int}:e∈E→Walk E c G e.dst k→Walk E c G e.src (cst c e+k)
structure EOk (E:List Edg) (c:List Int) (n:Nat):Prop where
 src:∀ e∈E,0≤e.src∧e.src<n
 dst:∀ e∈E,0≤e.dst∧e.dst<n
 lab:∀ e∈E,0≤e.lab∧e.lab<c.length
 cost:∀ x∈c,0≤x∧x≤1099511627776
theorem EOk.cst {E:List Edg}{c:List Int}{n:Nat}(h:EOk E c n) {e:Edg}(he:e∈E):0≤cst c e∧cst c e≤1099511627776 :=
 h.cost _ (qah tInt.dflt (by have:=h.lab e he;omega))
theorem EOk.getD {E:List Edg}{c:List Int}{n k:Nat}(h:EOk E c n) (hk:k<E.length):(0≤(E.getD k tEdg.dflt).src∧(E.getD k tEdg.dflt).src<n)∧(0≤(E.getD k tEdg.dflt).dst∧(E.getD k tEdg.dflt).dst<n)∧(0≤(E.getD k tEdg.dflt).lab∧(E.getD k tEdg.dflt).lab<c.length)∧0≤Go.Proofs.YtggdgcmjcahbbaaGreatDoor.cst c (E.getD k tEdg.dflt)∧Go.Proofs.YtggdgcmjcahbbaaGreatDoor.cst c (E.getD k tEdg.dflt)≤1099511627776 :=
 have hm:=qah tEdg.dflt hk
 ⟨h.src _ hm,h.dst _ hm,h.lab _ hm,h.cst hm⟩
structure DInv (E:List Edg) (c:List Int) (G:Int→Prop) (n:Nat) (D:List Int):Prop where
 len:D.length=n
 rng:∀ i:Nat,i<n→0≤dg D i∧dg D i≤inf
 att:∀ i:Nat,i<n→dg D i<inf→Walk E c G i (dg D i)
 gol:∀ i:Nat,i<n→G i→dg D i=0
def Stab (c:List Int) (D:List Int) (e:Edg):Prop:=dg D e.dst<inf→dg D e.src≤dg D e.dst+cst c e
structure DistOk (E:List Edg) (c:List Int) (G:Int→Prop) (n:Nat) (D:List Int):Prop where
 len:D.length=n
 rng:∀ i:Nat,i<n→0≤dg D i∧dg D i≤inf
 att:∀ i:Nat,i<n→dg D i<inf→Walk E c G i (dg D i)
 low:∀ i:Nat,i<n→∀ k,Walk E c G i k→dg D i≤k
theorem DInv.dist {E:List Edg}{c:List Int}{G:Int→Prop}{n:Nat}{D:List Int}(hE:EOk E c n) (h:DInv E c G n D) (hs:∀ e∈E,Stab c D e):DistOk E c G n D:=by
 refine⟨h.len,h.rng,h.att,?_⟩
 have key:∀ {a k:Int},Walk E c G a k→0≤a→a<n→dg D a≤k:=by
  intro a k hw
  induction hw with
  | @goal a hg =>
   intro h0 h1
   have:=h.gol a.toNat (by omega) (by rw [Int.toNat_of_nonneg h0];exact hg)
   rw [Int.toNat_of_nonneg h0] at this
   omega
  | @step e k he _ ih =>
   intro h0 h1
   have hd:=hE.dst e he
   have hc:=hE.cst he
   have h2:=ih hd.1 hd.2
   have h3:=hs e he
   by_cases h4:dg D e.dst<inf
   ·have:=h3 h4;omega
   ·have:=(h.rng e.src.toNat (by omega)).2
    rw [Int.toNat_of_nonneg h0] at this
    omega
 intro i hi k hw
 exact key hw (by omega) (by omega)
theorem DistOk.congr {E:List Edg}{c:List Int}{G:Int→Prop}{E':List Edg}{c':List Int}{G':Int→Prop}{n:Nat}{D D':List Int}(h:DistOk E c G n D) (h':DistOk E' c' G' n D') (hw:∀ i:Nat,i<n→∀ k,Walk E c G i k↔Walk E' c' G' i k):D=D':=by
 apply List.ext_getElem (by rw [h.len,h'.len])
 intro i h1 h2
 have hi:i<n:=by rw [←h.len];exact h1
 have e1:D[i]=dg D (i:Int):=by simp [dg,List.getD,h1]
 have e2:D'[i]=dg D' (i:Int):=by simp [dg,List.getD,h2]
 rw [e1,e2]
 have r1:=h.rng i hi
 have r2:=h'.rng i hi
 by_cases a1:dg D (i:Int)<inf
 ·have:=h'.low i hi _ ((hw i hi _).1 (h.att i hi a1))
  have:=h.low i hi _ ((hw i hi _).2 (h'.att i hi (by omega)))
  omega
 ·by_cases a2:dg D' (i:Int)<inf
  ·have:=h.low i hi _ ((hw i hi _).2 (h'.att i hi a2));omega
  ·omega
theorem DistOk.unique {E:List Edg}{c:List Int}{G:Int→Prop}{n:Nat}{D D':List Int}(h:DistOk E c G n D) (h':DistOk E c G n D'):D=D':=h.congr h' fun _ _ _=>Iff.rfl
theorem DistOk.goal {E:List Edg}{c:List Int}{G:Int→Prop}{n:Nat}{D:List Int}(h:DistOk E c G n D) {i:Nat}(hi:i<n) (hg:G i):dg D i=0:=by
 have:=h.low i hi 0 (.goal hg)
 have:=h.rng i hi
 omega
theorem DistOk.stab {E:List Edg}{c:List Int}{G:Int→Prop}{n:Nat}{D:List Int}(hE:EOk E c n) (h:DistOk E c G n D) {e:Edg}(he:e∈E):Stab c D e:=by
 intro hl
 have hd:=hE.dst e he
 have hs:=hE.src e he
 have h1:=h.att e.dst.toNat (by omega) (by rw [Int.toNat_of_nonneg hd.1];exact hl)
 rw [Int.toNat_of_nonneg hd.1] at h1
 have h2:=h.low e.src.toNat (by omega) _ (by rw [Int.toNat_of_nonneg hs.1];exact .step he h1)
 rw [Int.toNat_of_nonneg hs.1] at h2
 omega
def sumD (D:List Int):Nat:=(D.map Int.toNat).sum
theorem qji {v:Int}:∀ {D:List Int}{i:Nat},i<D.length→v.toNat<(D.getD i tInt.dflt).toNat→sumD (D.set i v)<sumD D
 | [],i,h,_=>by simp at h
 | x::D,0,_,h=>by simp [sumD] at h ⊢;omega
 | x::D,i+1,h,h2=>by
  have:=qji (i:=i) (D:=D) (by simpa using h) (by simpa using h2)
  simp only [sumD,List.set_cons_succ,List.map_cons,List.sum_cons] at this ⊢
  omega
theorem qjj {D:List Int}{a b v:Int}(ha:0≤a) (hb:0≤b) (hl:b<D.length):dg (D.set b.toNat v) a=if a=b then v else dg D a:=by
 simp only [dg,List.getD_eq_getElem?_getD,List.getElem?_set]
 by_cases e:a=b
 ·subst e;rw [if_pos rfl,if_pos rfl,if_pos (by omega)];rfl
 ·rw [if_neg (by omega),if_neg e]
theorem DInv.relax {E:List Edg}{c:List Int}{G:Int→Prop}{n:Nat}{D:List Int}(hE:EOk E c n) (h:DInv E c G n D) {e:Edg}(he:e∈E) (h1:dg D e.dst<inf) (h2:dg D e.dst+cst c e<dg D e.src) :
  DInv E c G n (D.set e.src.toNat (dg D e.dst+cst c e))∧sumD (D.set e.src.toNat (dg D e.dst+cst c e))<sumD D:=by
 have hd:=hE.dst e he
 have hs:=hE.src e he
 have hc:=hE.cst he
 have hl:=h.len
 have r1:=h.rng e.dst.toNat (by omega)
 have r2:=h.rng e.src.toNat (by omega)
 rw [Int.toNat_of_nonneg hd.1] at r1
 rw [Int.toNat_of_nonneg hs.1] at r2
 have hwk:=h.att e.dst.toNat (by omega) (by rw [Int.toNat_of_nonneg hd.1];exact h1)
 rw [Int.toNat_of_nonneg hd.1] at hwk
 have hg:∀ i:Nat,dg (D.set e.src.toNat (dg D e.dst+cst c e)) i=if (i:Int)=e.src then dg D e.dst+cst c e else dg D i:=fun i=>qjj (by omega) hs.1 (by omega)
 refine⟨⟨by simp [hl],fun i hi => ?_,fun i hi hlt => ?_,fun i hi hgo => ?_⟩,qji (by omega) (by simp only [dg] at *;omega)⟩
 ·rw [hg];split
  ·omega
  ·exact h.rng i hi
 ·rw [hg] at hlt ⊢
  split
  ·rename_i ei;rw [ei,Int.add_comm];exact .step he hwk
  ·rename_i ei;rw [if_neg ei] at hlt;exact h.att i hi hlt
 ·rw [hg];split
  ·rename_i ei
   have:=h.gol i hi hgo
   rw [ei] at this
   omega
  ·exact h.gol i hi hgo
noncomputable def zi (p:Prop):Int:=@ite _ p (Classical.propDecidable _) 0 inf
theorem qdb {p:Prop}(h:p):zi p=0:=if_pos h
theorem qfA {p:Prop}(h:¬p):zi p=inf:=if_neg h
theorem qgj {p q:Prop}(h:p↔q):zi p=zi q:=by
 by_cases hp:p
 ·rw [qdb hp,qdb (h.1 hp)]
 ·rw [qfA hp,qfA (fun hq=>hp (h.2 hq))]
noncomputable def dist0 (G:Int→Prop) (n:Nat):List Int:=(List.range n).map fun (i:Nat)=>zi (G (i:Int))
theorem qcv {G:Int→Prop}{n i:Nat}(hi:i<n):dg (dist0 G n) i=zi (G (i:Int)):=by simp [dg,dist0,List.getD,hi]
theorem qlo (E:List Edg) (c:List Int) (G:Int→Prop) (n:Nat):DInv E c G n (dist0 G n):=by
 refine⟨by simp [dist0],fun i hi => ?_,fun i hi h => ?_,fun i hi h => ?_⟩
 ·rw [qcv hi]
  by_cases g:G (i:Int)
  ·rw [qdb g];exact⟨by decide,by decide⟩
  ·rw [qfA g];exact⟨by decide,by decide⟩
 ·rw [qcv hi] at h ⊢
  by_cases g:G (i:Int)
  ·rw [qdb g];exact .goal g
  ·rw [qfA g] at h;omega
 ·rw [qcv hi,qdb h]
noncomputable def dist0K (G:Int→Prop) (n k:Nat):List Int:=(List.range n).map fun (i:Nat)=>zi (i<k→G (i:Int))
theorem qkd (G:Int→Prop) (n k:Nat):(dist0K G n k).length=n:=by simp [dist0K]
theorem qij (G:Int→Prop) (n:Nat):dist0K G n 0=List.replicate n 0:=by
 apply List.ext_getElem (by simp [dist0K])
 intro i h1 h2
 simp only [dist0K,List.getElem_map,List.getElem_range,List.getElem_replicate]
 exact qdb fun h=>absurd h (Nat.not_lt_zero _)
theorem qke (G:Int→Prop) (n:Nat):dist0K G n n=dist0 G n:=by
 unfold dist0K dist0
 refine List.map_congr_left fun i hi=>qgj ⟨fun h=>h (List.mem_range.1 hi),fun h _=>h⟩
theorem qlp {G:Int→Prop}{n k:Nat}(h:¬G (k:Int)):(dist0K G n k).set k inf=dist0K G n (k+1):=by
 apply List.ext_getElem (by simp [dist0K])
 intro i h1 h2
 rw [List.getElem_set]
 simp only [dist0K,List.getElem_map,List.getElem_range]
 split
 ·rename_i e;subst e;rw [qfA];intro hh;exact h (hh (Nat.lt_succ_self _))
 ·rename_i e;exact qgj ⟨fun hh hi=>hh (by omega),fun hh hi=>hh (by omega)⟩
theorem qkf {G:Int→Prop}{n k:Nat}(h:G (k:Int)):dist0K G n k=dist0K G n (k+1):=by
 unfold dist0K
 refine List.map_congr_left fun i hi=>qgj ⟨fun hh hi => ?_,fun hh hi=>hh (by omega)⟩
 by_cases e:i=k
 ·subst e;exact h
 ·exact hh (by omega)
theorem qik {G:Int→Prop}{n k:Nat}{v:Int}(h:G (k:Int)):((dist0K G n k).set k v).set k 0=dist0K G n (k+1):=by
 rw [List.set_set,←qkf h]
 apply List.ext_getElem (by simp)
 intro i h1 h2
 rw [List.getElem_set]
 split
 ·rename_i e;subst e
  simp only [dist0K,List.getElem_map,List.getElem_range]
  exact (qdb fun h=>absurd h (Nat.lt_irrefl _)).symm
 ·rfl
end Go.Proofs.YtggdgcmjcahbbaaGreatDoor
/-
  The plain law of a binary heap over any order: 'up' and 'down' restore the heap, and the first element is a least one.
-/
namespace Go.Proofs.YtggdgcmjcahbbaaGreatDoor
open Go.Sl
class HOrd {α:Type}(lt:α→α→Bool):Prop where
 asym:∀ a b,lt a b=true→lt b a=false
 trans:∀ a b c,lt b a=false→lt c b=false→lt c a=false
abbrev hle {α:Type}(lt:α→α→Bool) (a b:α):Prop:=lt b a=false
section
variable {α:Type}{d:α}{lt:α→α→Bool}
theorem qb1 [HOrd lt] (a:α):hle lt a a:=by
 show lt a a=false
 cases h:lt a a with
 | false=>rfl
 | true=>exact absurd (HOrd.asym a a h) (by rw [h];decide)
theorem qdr [HOrd lt] {a b c:α}(h1:hle lt a b) (h2:hle lt b c):hle lt a c:=HOrd.trans a b c h1 h2
theorem qjI [HOrd lt] {a b:α}(h:lt a b=true):hle lt a b:=HOrd.asym a b h
abbrev hg (d:α) (xs:List α) (i:Nat):α:=xs.getD i d
def IsHeap (d:α) (lt:α→α→Bool) (xs:List α):Prop:=∀ i,0<i→i<xs.length→hle lt (hg d xs ((i-1) / 2)) (hg d xs i)
def sw (d:α) (xs:List α) (i j:Nat):List α:=(xs.set i (hg d xs j)).set j (hg d xs i)
theorem qe7 (xs:List α) (i j:Nat):(sw d xs i j).length=xs.length:=by simp [sw]
theorem qoP {xs:List α}{i k:Nat}{x:α}(hi:i<xs.length):hg d (xs.set i x) k=if k=i then x else hg d xs k:=by
 simp only [hg,List.getD_eq_getElem?_getD,List.getElem?_set]
 by_cases h:i=k
 ·subst h;simp [hi]
 ·rw [if_neg h,if_neg (Ne.symm h)]
theorem qbb {xs:List α}{i j k:Nat}(hi:i<xs.length) (hj:j<xs.length):hg d (sw d xs i j) k=if k=j then hg d xs i else if k=i then hg d xs j else hg d xs k:=by
 unfold sw
 rw [qoP (by simpa using hj),qoP hi]
theorem qbL {xs:List α}{i j:Nat}(hi:i<xs.length) (hj:j<xs.length):(sw d xs i j).Perm xs:=by
 have h1:hg d xs i=xs[i]:=qak hi
 have h2:hg d xs j=xs[j]:=qak hj
 unfold sw
 rw [h1,h2]
 exact List.set_set_perm hi hj
structure UpI (d:α) (lt:α→α→Bool) (xs:List α) (j:Nat):Prop where
 inb:j<xs.length
 rest:∀ i,0<i→i<xs.length→i≠j→hle lt (hg d xs ((i-1) / 2)) (hg d xs i)
 over:∀ i,0<i→i<xs.length→(i-1) / 2=j→0<j→hle lt (hg d xs ((j-1) / 2)) (hg d xs i)
theorem UpI.done {xs:List α}{j:Nat}(h:UpI d lt xs j) (hd:(j-1) / 2=j∨hle lt (hg d xs ((j-1) / 2)) (hg d xs j)):IsHeap d lt xs:=by
 intro i h0 h1
 by_cases hij:i=j
 ·subst hij
  rcases hd with hd|hd
  ·omega
  ·exact hd
 ·exact h.rest i h0 h1 hij
theorem UpI.step [HOrd lt] {xs:List α}{j:Nat}(h:UpI d lt xs j) (hj:(j-1) / 2≠j) (hl:lt (hg d xs j) (hg d xs ((j-1) / 2))=true):UpI d lt (sw d xs ((j-1) / 2) j) ((j-1) / 2):=by
 have hlt:=h.inb
 have hp:(j-1) / 2<xs.length:=by omega
 have h0j:0<j:=by omega
 have hle1:=qjI hl
 refine⟨by rw [qe7];exact hp,fun i h0 h1 hne => ?_,fun i h0 h1 he hpos => ?_⟩
 ·rw [qe7] at h1
  rw [qbb hp hlt,qbb hp hlt]
  by_cases hij:i=j
  ·subst hij
   have e1:¬(i-1) / 2=i:=by omega
   rw [if_neg e1,if_pos rfl,if_pos rfl]
   exact hle1
  ·rw [if_neg hij,if_neg hne]
   by_cases hpj:(i-1) / 2=j
   ·rw [if_pos hpj]
    exact h.over i h0 h1 hpj h0j
   ·rw [if_neg hpj]
    by_cases hpp:(i-1) / 2=(j-1) / 2
    ·rw [if_pos hpp]
     have:=h.rest i h0 h1 hij
     rw [hpp] at this
     exact qdr hle1 this
    ·rw [if_neg hpp]
     exact h.rest i h0 h1 hij
 ·rw [qe7] at h1
  rw [qbb hp hlt,qbb hp hlt]
  have hr:=h.rest ((j-1) / 2) hpos hp (by omega)
  have e1:¬((j-1) / 2-1) / 2=j:=by omega
  have e2:¬((j-1) / 2-1) / 2=(j-1) / 2:=by omega
  rw [if_neg e1,if_neg e2]
  by_cases hij:i=j
  ·rw [if_pos hij];exact hr
  ·rw [if_neg hij]
   by_cases hip:i=(j-1) / 2
   ·omega
   ·rw [if_neg hip]
    have:=h.rest i h0 h1 hij
    rw [he] at this
    exact qdr hr this
theorem qjJ {xs:List α}{x:α}(h:IsHeap d lt xs):UpI d lt (xs++[x]) xs.length:=by
 have hg':∀ k,k<xs.length→hg d (xs++[x]) k=hg d xs k:=fun k hk=>by simp [hg,List.getD_eq_getElem?_getD,List.getElem?_append_left hk]
 refine⟨by simp,fun i h0 h1 hne => ?_,fun i h0 h1 he hp => ?_⟩
 ·simp only [List.length_append,List.length_cons,List.length_nil] at h1
  rw [hg' _ (by omega),hg' _ (by omega)]
  exact h i h0 (by omega)
 ·simp only [List.length_append,List.length_cons,List.length_nil] at h1
  omega
structure DnI (d:α) (lt:α→α→Bool) (xs:List α) (n i:Nat):Prop where
 le:n≤xs.length
 rest:∀ c,0<c→c<n→(c-1) / 2≠i→hle lt (hg d xs ((c-1) / 2)) (hg d xs c)
 over:∀ c,0<c→c<n→(c-1) / 2=i→0<i→hle lt (hg d xs ((i-1) / 2)) (hg d xs c)
def HeapN (d:α) (lt:α→α→Bool) (xs:List α) (n:Nat):Prop:=∀ c,0<c→c<n→hle lt (hg d xs ((c-1) / 2)) (hg d xs c)
theorem DnI.leaf {xs:List α}{n i:Nat}(h:DnI d lt xs n i) (hl:n≤2*i+1):HeapN d lt xs n:=fun c h0 h1=>h.rest c h0 h1 (by omega)
theorem DnI.done [HOrd lt] {xs:List α}{n i j:Nat}(h:DnI d lt xs n i) (hmin:∀ c,0<c→c<n→(c-1) / 2=i→hle lt (hg d xs j) (hg d xs c)) (hle1:hle lt (hg d xs i) (hg d xs j)):HeapN d lt xs n:=by
 intro c h0 h1
 by_cases hc:(c-1) / 2=i
 ·have:=hmin c h0 h1 hc
  rw [hc];exact qdr hle1 this
 ·exact h.rest c h0 h1 hc
theorem DnI.step [HOrd lt] {xs:List α}{n i j:Nat}(h:DnI d lt xs n i) (hj:j=2*i+1∨j=2*i+2) (hjn:j<n) (hmin:∀ c,0<c→c<n→(c-1) / 2=i→hle lt (hg d xs j) (hg d xs c)) (hlt:lt (hg d xs j) (hg d xs i)=true):DnI d lt (sw d xs i j) n j:=by
 have hle1:=h.le
 have hi:i<xs.length:=by omega
 have hjl:j<xs.length:=by omega
 refine⟨by rw [qe7];exact hle1,fun c h0 h1 hne => ?_,fun c h0 h1 he hp => ?_⟩
 ·rw [qbb hi hjl,qbb hi hjl,if_neg hne]
  by_cases hci:(c-1) / 2=i
  ·rw [if_pos hci]
   by_cases hcj:c=j
   ·rw [if_pos hcj];exact qjI hlt
   ·rw [if_neg hcj,if_neg (by omega)]
    exact hmin c h0 h1 hci
  ·rw [if_neg hci]
   by_cases hcj:c=j
   ·omega
   ·rw [if_neg hcj]
    by_cases hc:c=i
    ·subst hc
     rw [if_pos rfl]
     exact h.over j (by omega) hjn (by omega) h0
    ·rw [if_neg hc]
     exact h.rest c h0 h1 hci
 ·rw [qbb hi hjl,qbb hi hjl]
  have e1:(j-1) / 2=i:=by omega
  rw [e1,if_neg (show ¬i=j by omega),if_pos rfl,if_neg (show ¬c=j by omega),if_neg (show ¬c=i by omega)]
  have:=h.rest c h0 h1 (by omega)
  rw [he] at this
  exact this
theorem qmh {xs:List α}(h:IsHeap d lt xs) (hl:0<xs.length):DnI d lt (sw d xs 0 (xs.length-1)) (xs.length-1) 0:=by
 refine⟨by rw [qe7];omega,fun c h0 h1 hne => ?_,fun c _ _ _ h0=>absurd h0 (by omega)⟩
 rw [qbb hl (by omega),qbb hl (by omega),if_neg (by omega),if_neg (by omega),if_neg (by omega),if_neg (by omega)]
 exact h c h0 (by omega)
theorem qn1 [HOrd lt] {xs:List α}(h:IsHeap d lt xs):∀ i,i<xs.length→hle lt (hg d xs 0) (hg d xs i):=by
 intro i
 induction i using Nat.strongRecOn with
 | _ i ih =>
  intro hi
  rcases Nat.eq_zero_or_pos i with h0|h0
  ·subst h0;exact qb1 _
  ·exact qdr (ih ((i-1) / 2) (by omega) (by omega)) (h i h0 hi)
theorem qjK [HOrd lt] {xs:List α}(h:IsHeap d lt xs) {x:α}(hx:x∈xs):hle lt (hg d xs 0) x:=by
 obtain⟨i,hi,rfl⟩:=List.getElem_of_mem hx
 have:=qn1 h i hi
 rwa [show hg d xs i=xs[i] from qak hi] at this
theorem qjL {xs ys:List α}(hl:0<xs.length) (hp:ys.Perm xs) (hh:HeapN d lt ys (xs.length-1)) (hlast:hg d ys (xs.length-1)=hg d xs 0) :
  IsHeap d lt (ys.take (xs.length-1))∧xs.Perm (hg d xs 0::ys.take (xs.length-1)):=by
 have hyl:=hp.length_eq
 refine⟨fun i h0 h1 => ?_,?_⟩
 ·simp only [List.length_take] at h1
  have hg':∀ k,k<xs.length-1→hg d (ys.take (xs.length-1)) k=hg d ys k:=fun k hk=>by simp [hg,hk]
  rw [hg' _ (by omega),hg' _ (by omega)]
  exact hh i h0 (by omega)
 ·have e:ys=ys.take (xs.length-1)++[hg d xs 0]:=by
   have h1:ys.drop (xs.length-1)=[hg d xs 0]:=by
    rw [List.drop_eq_getElem_cons (by omega),List.drop_eq_nil_of_le (by omega),←hlast]
    rw [show hg d ys (xs.length-1)=ys[xs.length-1] from qak (by omega)]
   rw [←h1,List.take_append_drop]
  refine hp.symm.trans ?_
  have:=List.perm_append_comm (l₁:=ys.take (xs.length-1)) (l₂:=[hg d xs 0])
  rw [←e] at this
  exact this
theorem qkx:IsHeap d lt []:=fun _ _ h=>absurd h (Nat.not_lt_zero _)
end
theorem qhM (j:Nat):Int.tdiv ((j:Int)-1) 2=(((j-1) / 2:Nat):Int):=by
 rcases Nat.eq_zero_or_pos j with h|h
 ·subst h;rfl
 ·rw [Int.tdiv_eq_ediv_of_nonneg (by omega)];omega
end Go.Proofs.YtggdgcmjcahbbaaGreatDoor
/-
  Dijkstra's algorithm with a heap of items, in plain Lean.
-/
namespace Go.Proofs.YtggdgcmjcahbbaaGreatDoor
open Go.Sl
structure Item where
 dist:Int
 state:Int
 deriving DecidableEq
def tItem:Ty Item:=⟨2,fun x=>[.int .i64 x.dist,.int .i64 x.state],fun _=>rfl,⟨0,0⟩⟩
instance inTDijk1:OneT tItem:=⟨fun x v hv=>by simp only [tItem,List.mem_cons,List.not_mem_nil,or_false] at hv;rcases hv with rfl|rfl <;> rfl⟩
def ilt (a b:Item):Bool:=decide (a.dist<b.dist)
instance inTDijk2:HOrd ilt:=⟨fun a b h=>by simp only [ilt,decide_eq_true_eq,decide_eq_false_iff_not] at *;omega,fun a b c h1 h2=>by simp only [ilt,decide_eq_false_iff_not] at *;omega⟩
def bucket (E:List Edg) (u:Int):List Edg:=E.filter fun e=>decide (e.dst=u)
def restE (E:List Edg) (S:List Int):Nat:=(E.filter fun e=>decide (e.dst∉S)).length
theorem qfY {S:List Int}{u:Int}(hu:u∉S):∀ E:List Edg,restE E S=restE E (u::S)+(bucket E u).length
 | []=>rfl
 | e::E=>by
  have ih:=qfY hu E
  simp only [restE,bucket,List.filter_cons] at ih ⊢
  by_cases h1:e.dst=u
  ·rw [if_pos (by simp [h1,hu]),if_neg (by simp [h1]),if_pos (by simp [h1])]
   simp only [List.length_cons];omega
  ·by_cases h2:e.dst∈S
   ·rw [if_neg (by simp [h2]),if_neg (by simp [h2]),if_neg (by simp [h1])];exact ih
   ·rw [if_pos (by simp [h2]),if_pos (by simp [h1,h2]),if_neg (by simp [h1])]
    simp only [List.length_cons];omega
theorem qog (E:List Edg) (S:List Int):restE E S≤E.length:=List.length_filter_le _ _
theorem qfZ {E:List Edg}{u:Int}{e:Edg}:e∈bucket E u↔e∈E∧e.dst=u:=by simp [bucket]
structure DJ (E:List Edg) (c:List Int) (G:Int→Prop) (n:Nat) (D:List Int) (Q:List Item) (S:List Int) (m:Int) (done:Edg→Prop):Prop where
 inv:DInv E c G n D
 ent:∀ x∈Q,(0≤x.state∧x.state<n)∧dg D x.state≤x.dist∧m≤x.dist∧x.dist<inf∧(x.state∈S→dg D x.state<x.dist)
 nd:Q.Nodup
 set:∀ u∈S,(0≤u∧u<n)∧dg D u≤m
 act:∀ u:Int,0≤u→u<n→dg D u<inf→u∉S→∃ x∈Q,x.state=u∧x.dist=dg D u
 stb:∀ e∈E,e.dst∈S→done e→Stab c D e
 m0:0≤m
abbrev DJ0 (E:List Edg) (c:List Int) (G:Int→Prop) (n:Nat) (D:List Int) (Q:List Item) (S:List Int) (m:Int):Prop:=DJ E c G n D Q S m fun _=>True
section
variable {E:List Edg}{c:List Int}{G:Int→Prop}{n:Nat}{D:List Int}{Q:List Item}{S:List Int}{m:Int}{done:Edg→Prop}
theorem DJ.perm (h:DJ E c G n D Q S m done) {Q':List Item}(hp:Q'.Perm Q):DJ E c G n D Q' S m done :=
 ⟨h.inv,fun x hx=>h.ent x (hp.mem_iff.1 hx),hp.nodup_iff.2 h.nd,h.set,fun u a b e f=>let ⟨x,hx,hh⟩:=h.act u a b e f;⟨x,hp.mem_iff.2 hx,hh⟩,h.stb,h.m0⟩
theorem DJ.fin (hE:EOk E c n) (h:DJ0 E c G n D [] S m):DistOk E c G n D:=by
 refine h.inv.dist hE fun e he hl => ?_
 have hd:=hE.dst e he
 have hm:e.dst∈S:=by
  apply Classical.byContradiction
  intro hn
  obtain⟨x,hx,_⟩:=h.act e.dst hd.1 hd.2 hl hn
  simp at hx
 exact h.stb e he hm trivial hl
theorem DJ.skip {x:Item}(h:DJ0 E c G n D (x::Q) S m) (hx:dg D x.state<x.dist):DJ0 E c G n D Q S m:=by
 refine⟨h.inv,fun y hy=>h.ent y (by simp [hy]),(List.nodup_cons.1 h.nd).2,h.set,fun u a b e f => ?_,h.stb,h.m0⟩
 obtain⟨y,hy,h1,h2⟩:=h.act u a b e f
 rcases List.mem_cons.1 hy with rfl|hy
 ·subst h1;omega
 ·exact⟨y,hy,h1,h2⟩
theorem DJ.take {x:Item}(h:DJ0 E c G n D (x::Q) S m) (hx:¬dg D x.state<x.dist) (hmin:∀ y∈Q,x.dist≤y.dist) :
  DJ E c G n D Q (x.state::S) x.dist (fun e=>e.dst∈S)∧x.state∉S∧dg D x.state=x.dist∧(0≤x.state∧x.state<n)∧x.dist<inf:=by
 obtain⟨e1,e2,e3,e4,e5⟩:=h.ent x (by simp)
 have hS:x.state∉S:=fun hm=>hx (e5 hm)
 have hd:dg D x.state=x.dist:=by omega
 have hnd:=List.nodup_cons.1 h.nd
 refine⟨⟨h.inv,fun y hy => ?_,hnd.2,fun u hu => ?_,fun u a b e f => ?_,fun e he _ hm=>h.stb e he hm trivial,by have:=h.m0;omega⟩,hS,hd,e1,e4⟩
 ·obtain⟨f1,f2,f3,f4,f5⟩:=h.ent y (by simp [hy])
  refine⟨f1,f2,hmin y hy,f4,fun hm => ?_⟩
  rcases List.mem_cons.1 hm with hm2|hm2
  ·have hne:y.dist≠x.dist:=fun he=>hnd.1 (by
    have:y=x:=by
     clear hm
     obtain⟨a,b⟩:=y
     obtain⟨a',b'⟩:=x
     simp only at he hm2
     subst he hm2
     rfl
    rw [←this];exact hy)
   have:=hmin y hy
   rw [hm2,hd];omega
  ·exact f5 hm2
 ·rcases List.mem_cons.1 hu with rfl|hu
  ·exact⟨e1,by omega⟩
  ·have:=h.set u hu;exact⟨this.1,by omega⟩
 ·simp only [List.mem_cons,not_or] at f
  obtain⟨y,hy,h1,h2⟩:=h.act u a b e f.2
  rcases List.mem_cons.1 hy with rfl|hy
  ·exact absurd h1.symm f.1
  ·exact⟨y,hy,h1,h2⟩
theorem DJ.keep (h:DJ E c G n D Q S m done) {e:Edg}(hs:Stab c D e):DJ E c G n D Q S m (fun e'=>done e'∨e'=e) :=
 ⟨h.inv,h.ent,h.nd,h.set,h.act,fun e' he' hm hd=>hd.elim (h.stb e' he' hm) fun hh=>hh ▸ hs,h.m0⟩
theorem DJ.relax (hE:EOk E c n) (h:DJ E c G n D Q S m done) {e:Edg}(he:e∈E) (hu:e.dst∈S) (hm:dg D e.dst=m) (hmi:m<inf) (hl:m+cst c e<dg D e.src) :
  DJ E c G n (D.set e.src.toNat (m+cst c e)) (⟨m+cst c e,e.src⟩::Q) S m (fun e'=>done e'∨e'=e):=by
 have hs:=hE.src e he
 have hd:=hE.dst e he
 have hc:=hE.cst he
 have hlen:=h.inv.len
 have hr:=(h.inv.rng e.src.toNat (by omega)).2
 rw [Int.toNat_of_nonneg hs.1] at hr
 have hvS:e.src∉S:=fun hv=>by have:=(h.set _ hv).2;omega
 have hg:∀ i:Int,0≤i→dg (D.set e.src.toNat (m+cst c e)) i=if i=e.src then m+cst c e else dg D i:=fun i hi=>qjj hi hs.1 (by omega)
 have hin:=h.inv.relax hE he (by omega) (by omega)
 rw [hm] at hin
 have hS:∀ i∈S,dg (D.set e.src.toNat (m+cst c e)) i=dg D i:=fun i hi=>by
  rw [hg i (h.set i hi).1.1,if_neg (fun (e':i=e.src)=>hvS (by rw [←e'];exact hi))]
 refine⟨hin.1,fun y hy => ?_,List.nodup_cons.2 ⟨fun hq => ?_,h.nd⟩,fun u hu => ?_,fun u a b f hu => ?_,fun e' he' hm' hd' => ?_,h.m0⟩
 ·rcases List.mem_cons.1 hy with rfl|hy
  ·exact⟨hs,by simp only;rw [hg _ hs.1,if_pos rfl];exact Int.le_refl _,by simp only;omega,by simp only;omega,fun hv=>absurd hv hvS⟩
  ·obtain⟨f1,f2,f3,f4,f5⟩:=h.ent y hy
   refine⟨f1,?_,f3,f4,fun hv=>by rw [hS _ hv];exact f5 hv⟩
   rw [hg _ f1.1]
   split
   ·rename_i hh;rw [hh] at f2;omega
   ·exact f2
 ·have:=(h.ent _ hq).2.1
  simp only at this
  omega
 ·rw [hS u hu];exact h.set u hu
 ·rw [hg u a] at f ⊢
  by_cases ev:u=e.src
  ·rw [if_pos ev];exact⟨⟨m+cst c e,e.src⟩,by simp,ev.symm,rfl⟩
  ·rw [if_neg ev] at f ⊢
   obtain⟨y,hy,hh⟩:=h.act u a b f hu
   exact⟨y,by simp [hy],hh⟩
 ·intro hlt
  have hs':=hE.src e' he'
  rw [hS _ hm'] at hlt ⊢
  rw [hg _ hs'.1]
  rcases hd' with hd'|rfl
  ·have:=h.stb e' he' hm' hd' hlt
   split
   ·rename_i hh;rw [hh] at this;omega
   ·exact this
  ·rw [if_pos rfl,hm];exact Int.le_refl _
theorem DJ.close {u:Int}(h:DJ E c G n D Q (u::S) m done) (hd:∀ e∈E,e.dst∈u::S→done e):DJ0 E c G n D Q (u::S) m :=
 ⟨h.inv,h.ent,h.nd,h.set,h.act,fun e he hm _=>h.stb e he hm (hd e he hm),h.m0⟩
end
theorem DJ.start (E:List Edg) (c:List Int) (G:Int→Prop) (n:Nat) {Q:List Item}(hQ:∀ x,x∈Q↔∃ i:Nat,i<n∧G i∧x=⟨0,i⟩) (hn:Q.Nodup):DJ0 E c G n (dist0 G n) Q [] 0:=by
 refine⟨qlo _ _ _ _,fun x hx => ?_,hn,fun u hu=>(by simp at hu),fun u a b f _ => ?_,fun e _ hm=>(by simp at hm),Int.le_refl _⟩
 ·obtain⟨i,hi,hg,rfl⟩:=(hQ x).1 hx
  refine⟨⟨by simp only;omega,by simp only;omega⟩,?_,Int.le_refl _,by simp only;decide,fun h=>by simp at h⟩
  rw [qcv hi,qdb hg];exact Int.le_refl _
 ·have hu:u=((u.toNat:Nat):Int):=by omega
  rw [hu,qcv (by omega)] at f
  by_cases hg:G ((u.toNat:Nat):Int)
  ·refine⟨⟨0,u⟩,(hQ _).2 ⟨u.toNat,by omega,hg,by rw [←hu]⟩,rfl,?_⟩
   rw [hu,qcv (by omega),qdb hg]
  ·rw [qfA hg] at f;omega
end Go.Proofs.YtggdgcmjcahbbaaGreatDoor
/-
  The error code of a task, in plain Lean.
-/
namespace Go.Proofs.YtggdgcmjcahbbaaGreatDoor
open Go.Sl
def opConds (o:TOp):List (List Fact):=o.pre::o.effs.map (·.when)
def condsK (t:TTask) (k:Nat):List (List Fact):=t.goal::(t.ops.take k).flatMap opConds
def conds (t:TTask):List (List Fact):=condsK t t.ops.length
def LargeT (t:TTask):Prop:=64<t.vars.length∨4096<t.ops.length∨(∃ i,i<t.ops.length∧64<(t.ops.getD i dOp).effs.length)∨∃ i,i<(conds t).length∧64<((conds t).getD i []).length
def DomT (t:TTask):Prop:=∀ i,i<t.vars.length→1≤t.vars.getD i tInt.dflt∧t.vars.getD i tInt.dflt≤64
def CostT (t:TTask):Prop:=∀ i,i<t.ops.length→0≤(t.ops.getD i dOp).cost∧(t.ops.getD i dOp).cost≤1048576
def CondT (t:TTask):Prop:=∀ i,i<(conds t).length→FactsOk t.vars ((conds t).getD i [])
def EffT (t:TTask):Prop:=∀ i,i<t.ops.length→∀ j,j<(t.ops.getD i dOp).effs.length→FactsOk t.vars [⟨((t.ops.getD i dOp).effs.getD j dEff).var,((t.ops.getD i dOp).effs.getD j dEff).val⟩]
def NamesT (t:TTask):Prop:=∀ i,i<t.ops.length→NameOk (t.ops.getD i dOp).name
open Classical in
noncomputable def checkT (t:TTask):Int :=
 if LargeT t then 5 else if ¬DomT t then 1 else if ¬CostT t then 1 else if ¬StateOk t.vars t.init then 2 else if ¬CondT t then 2 else if ¬EffT t then 2 else if ¬NamesT t then 8 else 0
theorem qiw (t:TTask):condsK t 0=[t.goal]:=by simp [condsK]
theorem qeN (t:TTask) {k:Nat}(hk:k<t.ops.length):condsK t (k+1)=condsK t k++opConds (t.ops.getD k dOp):=by
 simp [condsK,qal dOp hk]
theorem qdI (t:TTask):∀ k,k≤t.ops.length→(∀ i,i<t.ops.length→(t.ops.getD i dOp).effs.length≤64)→(condsK t k).length≤1+65*k
 | 0,_,_=>by simp [condsK]
 | k+1,hk,h=>by
  have:=qdI t k (by omega) h
  have h2:=h k (by omega)
  rw [qeN t (by omega),List.length_append]
  simp only [opConds,List.length_cons,List.length_map]
  omega
theorem qdm {t:TTask}{f:List Fact}:f∈conds t↔(f=t.goal∨∃ i,i<t.ops.length∧(f=(t.ops.getD i dOp).pre∨∃ j,j<(t.ops.getD i dOp).effs.length∧f=((t.ops.getD i dOp).effs.getD j dEff).when)):=by
 simp only [conds,condsK,List.take_length,List.mem_cons,List.mem_flatMap,opConds,List.mem_map]
 constructor
 ·rintro (h|⟨o,ho,h⟩)
  ·exact .inl h
  ·obtain⟨i,hi,rfl⟩:=List.getElem_of_mem ho
   refine .inr ⟨i,hi,?_⟩
   rw [qak hi]
   rcases h with h|⟨e,he,rfl⟩
   ·exact .inl h
   ·obtain⟨j,hj,rfl⟩:=List.getElem_of_mem he
    exact .inr ⟨j,hj,by rw [qak hj]⟩
 ·rintro (h|⟨i,hi,h⟩)
  ·exact .inl h
  ·refine .inr ⟨t.ops.getD i dOp,qah _ hi,?_⟩
   rcases h with h|⟨j,hj,rfl⟩
   ·exact .inl h
   ·exact .inr ⟨_,qah _ hj,rfl⟩
theorem qhD {vars:List Int}{f:List Fact}(h:FactsOk vars f):∀ i,i<f.length→(i:Int)≤(f.getD i tFact.dflt).var
 | 0,h0=>(h 0 h0).1.1
 | i+1,hi=>by
  have h1:=qhD h i (by omega)
  have h2:=(h (i+1) hi).2 (by omega)
  simp only [Nat.add_sub_cancel] at h2
  omega
theorem qaO {vars:List Int}{f:List Fact}(h:FactsOk vars f):f.length≤vars.length:=by
 rcases Nat.eq_zero_or_pos f.length with h0|h0
 ·omega
 ·have h1:=qhD h (f.length-1) (by omega)
  have h2:=(h (f.length-1) (by omega)).1.2.1
  omega
theorem qhE {t:TTask}:CondT t↔∀ f∈conds t,FactsOk t.vars f:=by
 constructor
 ·intro h f hf
  obtain⟨i,hi,rfl⟩:=List.getElem_of_mem hf
  have:=h i hi
  rwa [qak hi] at this
 ·intro h i hi
  exact h _ (qah _ hi)
theorem qaM (t:TTask):checkT t=0↔GoodT t:=by
 unfold checkT
 constructor
 ·intro h
  split at h
  ·cases h
  rename_i h1
  split at h
  ·cases h
  rename_i h2
  split at h
  ·cases h
  rename_i h3
  split at h
  ·cases h
  rename_i h4
  split at h
  ·cases h
  rename_i h5
  split at h
  ·cases h
  rename_i h6
  split at h
  ·cases h
  rename_i h7
  rw [Classical.not_not] at h2 h3 h4 h5 h6 h7
  simp only [LargeT,not_or,not_exists,not_and,Nat.not_lt] at h1
  have h5':=qhE.1 h5
  refine⟨h1.1,h1.2.1,h2,h4,h5' _ (qdm.2 (.inl rfl)),fun i hi=>⟨(h3 i hi).1,(h3 i hi).2,h1.2.2.1 i hi,h7 i hi,h5' _ (qdm.2 (.inr ⟨i,hi,.inl rfl⟩)),fun j hj=>⟨h5' _ (qdm.2 (.inr ⟨i,hi,.inr ⟨j,hj,rfl⟩⟩)),h6 i hi j hj⟩⟩⟩
 ·intro h
  have hc:∀ f∈conds t,FactsOk t.vars f:=fun f hf=>by
   rcases qdm.1 hf with rfl|⟨i,hi,rfl|⟨j,hj,rfl⟩⟩
   ·exact h.goal
   ·exact (h.op i hi).pre
   ·exact ((h.op i hi).eff j hj).1
  have h1:¬LargeT t:=by
   rintro (h1|h1|⟨i,hi,h1⟩|⟨i,hi,h1⟩)
   ·have:=h.vars;omega
   ·have:=h.ops;omega
   ·have:=(h.op i hi).effs;omega
   ·have:=qaO (hc _ (qah [] hi))
    have:=h.vars
    omega
  have a2:DomT t:=h.dom
  have a3:CostT t:=fun i hi=>⟨(h.op i hi).cost0,(h.op i hi).cost1⟩
  have a5:CondT t:=qhE.2 hc
  have a6:EffT t:=fun i hi j hj=>((h.op i hi).eff j hj).2
  have a7:NamesT t:=fun i hi=>(h.op i hi).name
  rw [if_neg h1,if_neg (Classical.not_not.2 a2),if_neg (Classical.not_not.2 a3),if_neg (Classical.not_not.2 h.init),if_neg (Classical.not_not.2 a5),if_neg (Classical.not_not.2 a6),if_neg (Classical.not_not.2 a7)]
end Go.Proofs.YtggdgcmjcahbbaaGreatDoor
/-
  Projections of tasks to patterns, in plain Lean.
-/
namespace Go.Proofs.YtggdgcmjcahbbaaGreatDoor
open Go.Sl
abbrev sg (s:List Int) (v:Int):Int:=s.getD v.toNat tInt.dflt
def valsL (s p:List Int):List Int:=p.map (sg s)
def cntL (vars p:List Int):Int:=prodL (valsL vars p)
def idxL (vars p s:List Int):Int:=rankL (valsL vars p) (valsL s p)
def PatOk (vars p:List Int):Prop:=∀ i,i<p.length→(0≤p.getD i tInt.dflt∧p.getD i tInt.dflt<vars.length)∧(0<i→p.getD (i-1) tInt.dflt<p.getD i tInt.dflt)
structure InV (vars p:List Int):Prop where
 mem:∀ v∈p,0≤v∧v<vars.length
 asc:p.Pairwise (·<·)
theorem qbe {s:List Int}{v x:Int}(h0:0≤v) (h:v<s.length):sg (s.set v.toNat x) v=x:=by
 simp [sg,List.getD,List.getElem?_set,show v.toNat<s.length by omega]
theorem qbm {s:List Int}{v u x:Int}(h0:0≤v) (h1:0≤u) (h:v≠u):sg (s.set v.toNat x) u=sg s u:=by
 simp [sg,List.getD,List.getElem?_set,show v.toNat≠u.toNat by omega]
theorem sg_of {s:List Int}{i:Nat}:sg s (i:Int)=s.getD i tInt.dflt:=by simp [sg]
theorem PatOk.inV {vars p:List Int}(h:PatOk vars p):InV vars p:=by
 refine⟨fun v hv => ?_,?_⟩
 ·obtain⟨i,hi,rfl⟩:=List.getElem_of_mem hv
  have:=(h i hi).1
  rwa [qak hi] at this
 ·rw [List.pairwise_iff_getElem]
  intro i j hi hj hij
  have key:∀ k,(hk:i+k+1<p.length)→p[i]<p[i+k+1]:=by
   intro k
   induction k with
   | zero=>intro hk;have:=(h (i+1) (by omega)).2 (by omega);rw [qak (by omega),qak (by omega)] at this;simpa using this
   | succ k ih =>
    intro hk
    have h1:=ih (by omega)
    have:=(h (i+k+1+1) (by omega)).2 (by omega)
    rw [qak (by omega),qak (by omega)] at this
    simp only [Nat.add_sub_cancel] at this
    exact Int.lt_trans h1 this
  have:=key (j-i-1) (by omega)
  simpa [show i+(j-i-1)+1=j by omega] using this
theorem InV.pat {vars p:List Int}(h:InV vars p):PatOk vars p:=fun i hi =>
 ⟨h.mem _ (qah _ hi),fun h0=>by
  rw [qak hi,qak (by omega)]
  exact List.pairwise_iff_getElem.1 h.asc _ _ _ _ (by omega)⟩
theorem InV.init {vars l:List Int}{v:Int}(h:InV vars (l++[v])):InV vars l∧(0≤v∧v<vars.length)∧v∉l:=by
 refine⟨⟨fun u hu=>h.mem u (by simp [hu]),(List.pairwise_append.1 h.asc).1⟩,h.mem v (by simp),fun hv => ?_⟩
 have:=(List.pairwise_append.1 h.asc).2.2 v hv v (by simp)
 omega
theorem InV.le {vars p:List Int}(h:InV vars p):∀ i,i<p.length→(i:Int)≤p.getD i tInt.dflt
 | 0,hi=>(h.mem _ (qah _ hi)).1
 | i+1,hi=>by
  have h1:=InV.le h i (by omega)
  have h2:=(h.pat (i+1) hi).2 (by omega)
  simp only [Nat.add_sub_cancel] at h2
  omega
theorem InV.len {vars p:List Int}(h:InV vars p):p.length≤vars.length:=by
 rcases Nat.eq_zero_or_pos p.length with h0|h0
 ·omega
 ·have h1:=h.le (p.length-1) (by omega)
  have h2:=h.mem _ (qah tInt.dflt (show p.length-1<p.length by omega))
  omega
theorem qdE (s l:List Int) (v:Int):valsL s (l++[v])=valsL s l++[sg s v]:=by simp [valsL]
theorem qdh (s p:List Int):(valsL s p).length=p.length:=by simp [valsL]
theorem qfG {s p:List Int}{i:Nat}(hi:i<p.length):(valsL s p).getD i tInt.dflt=sg s (p.getD i tInt.dflt):=by
 rw [qak (by rw [qdh];exact hi),qak hi];simp [valsL]
theorem qgl {vars s p:List Int}(hs:StateOk vars s) (hp:∀ v∈p,0≤v∧v<vars.length):StateOk (valsL vars p) (valsL s p):=by
 refine⟨by simp [qdh],fun i hi => ?_⟩
 rw [qdh] at hi
 rw [qfG hi,qfG hi]
 have:=hp _ (qah tInt.dflt hi)
 exact hs.2 _ (by rw [hs.1];omega)
theorem qho {vars p:List Int}(h:∀ x∈vars,1≤x) (hp:∀ v∈p,0≤v∧v<vars.length):∀ x∈valsL vars p,1≤x:=by
 intro x hx
 obtain⟨v,hv,rfl⟩:=List.mem_map.1 hx
 have:=hp v hv
 exact h _ (qah tInt.dflt (by omega))
theorem qaK {vars s p:List Int}(hs:StateOk vars s) (hp:∀ v∈p,0≤v∧v<vars.length):0≤idxL vars p s∧idxL vars p s<cntL vars p:=qcW (qgl hs hp)
theorem qez (vars l:List Int) (v:Int):cntL vars (l++[v])=cntL vars l*sg vars v:=by simp [cntL,qdE,qa3]
theorem qhp (vars l s:List Int) (v:Int):idxL vars (l++[v]) s=idxL vars l s*sg vars v+sg s v:=by
 rw [idxL,qdE,qdE,qf0 (by simp [qdh])];rfl
theorem qbP {vars p s s':List Int}(h:∀ v∈p,sg s v=sg s' v):idxL vars p s=idxL vars p s':=by
 unfold idxL valsL
 rw [List.map_congr_left h]
theorem qea {vars p s s':List Int}(hs:StateOk vars s) (hs':StateOk vars s') (hp:∀ v∈p,0≤v∧v<vars.length) (h:idxL vars p s=idxL vars p s'):∀ v∈p,sg s v=sg s' v:=by
 have:=qmz (qgl hs hp) (qgl hs' hp) h
 intro v hv
 exact List.map_inj_left.1 this v hv
theorem qeb {vars p:List Int}(h:∀ x∈vars,1≤x) (hp:∀ v∈p,0≤v∧v<vars.length):1≤cntL vars p:=qbB (qho h hp)
def putF (dom:List Int) (p:List Int × Int) (v:Int):List Int × Int:=(p.1.set v.toNat (p.2.tmod (dom.getD v.toNat tInt.dflt)),p.2.tdiv (dom.getD v.toNat tInt.dflt))
def putR (dom vs:List Int) (s:List Int) (n:Int):List Int × Int:=vs.foldl (putF dom) (s,n)
theorem qdi (dom vs:List Int) (s:List Int) (n v:Int):putR dom (vs++[v]) s n=putF dom (putR dom vs s n) v:=by simp [putR]
theorem qjo (dom vs:List Int) (s:List Int) (n:Int):(putR dom vs s n).1.length=s.length:=by
 refine qaw (P:=fun vs=>(putR dom vs s n).1.length=s.length) rfl ?_ vs
 intro l v ih;rw [qdi,putF];simp [ih]
theorem qo9 {dom vs:List Int}{s:List Int}{n:Int}(hd:∀ x∈dom,1≤x) (hn:0≤n):(∀ v∈vs,0≤v∧v<dom.length)→0≤(putR dom vs s n).2∧(putR dom vs s n).2≤n:=by
 refine qaw (P:=fun (vs:List Int)=>(∀ v∈vs,0≤v∧v<dom.length)→0≤(putR dom vs s n).2∧(putR dom vs s n).2≤n) (fun _=>⟨hn,Int.le_refl _⟩) ?_ vs
 intro l v ih h
 obtain⟨h1,h2⟩:=ih fun x hx=>h x (by simp [hx])
 obtain⟨h3,h4⟩:=h v (by simp)
 have h5:=hd _ (qah tInt.dflt (show v.toNat<dom.length by omega))
 rw [qdi,putF]
 simp only
 rw [Int.tdiv_eq_ediv_of_nonneg h1]
 exact⟨Int.ediv_nonneg h1 (by omega),Int.le_trans (Int.ediv_le_self _ h1) h2⟩
def putS (vars p s:List Int) (n:Int):List Int:=(putR vars p.reverse s n).1
theorem qlF (vars l s:List Int) (v n:Int):putS vars (l++[v]) s n=putS vars l (s.set v.toNat (n.tmod (sg vars v))) (n.tdiv (sg vars v)):=by
 simp [putS,putR,putF,List.reverse_append]
theorem qjp (vars p s:List Int) (n:Int):(putS vars p s n).length=s.length:=qjo _ _ _ _
theorem qco {vars p:List Int}(hd:∀ x∈vars,1≤x):∀ {s:List Int}{n:Int},InV vars p→s.length=vars.length→0≤n→n<cntL vars p →
  idxL vars p (putS vars p s n)=n∧(∀ v∈p,0≤sg (putS vars p s n) v∧sg (putS vars p s n) v<sg vars v)∧∀ v,0≤v→v∉p→sg (putS vars p s n) v=sg s v:=by
 refine qaw (P:=fun p=>∀ {s:List Int}{n:Int},InV vars p→s.length=vars.length→0≤n→n<cntL vars p →
  idxL vars p (putS vars p s n)=n∧(∀ v∈p,0≤sg (putS vars p s n) v∧sg (putS vars p s n) v<sg vars v)∧∀ v,0≤v→v∉p→sg (putS vars p s n) v=sg s v) ?_ ?_ p
 ·intro s n _ _ h0 h1
  refine⟨?_,fun v hv=>by simp at hv,fun v _ _=>rfl⟩
  have:cntL vars []=1:=rfl
  have:idxL vars [] (putS vars [] s n)=0:=rfl
  omega
 ·intro l v ih s n hV hl h0 h1
  obtain⟨hV',⟨hv0,hv1⟩,hvl⟩:=hV.init
  have hdv:1≤sg vars v:=hd _ (qah tInt.dflt (by omega))
  rw [qlF,Int.tmod_eq_emod_of_nonneg h0,Int.tdiv_eq_ediv_of_nonneg h0]
  rw [qez] at h1
  have hq0:0≤n / sg vars v:=Int.ediv_nonneg h0 (by omega)
  have hq1:n / sg vars v<cntL vars l:=Int.ediv_lt_of_lt_mul (by omega) h1
  obtain⟨i1,i2,i3⟩:=ih (s:=s.set v.toNat (n % sg vars v)) hV' (by simp [hl]) hq0 hq1
  have hsv:sg (putS vars l (s.set v.toNat (n % sg vars v)) (n / sg vars v)) v=n % sg vars v:=by
   rw [i3 v hv0 hvl,qbe hv0 (by omega)]
  have hm0:=Int.emod_nonneg n (show sg vars v≠0 by omega)
  have hm1:=Int.emod_lt_of_pos n (show 0<sg vars v by omega)
  refine⟨?_,fun u hu => ?_,fun u hu0 hu => ?_⟩
  ·rw [qhp,i1,hsv]
   have:=Int.mul_ediv_add_emod n (sg vars v)
   rw [Int.mul_comm];exact this
  ·rcases List.mem_append.1 hu with h|h
   ·exact i2 u h
   ·rw [List.mem_singleton.1 h,hsv];exact⟨hm0,hm1⟩
  ·have hne:v≠u:=fun e=>hu (by simp [e])
   rw [i3 u hu0 (fun h=>hu (by simp [h])),qbm hv0 hu0 hne]
theorem qgm {vars p s:List Int}{n:Int}(hd:∀ x∈vars,1≤x) (hV:InV vars p) (h0:0≤n) (h1:n<cntL vars p) (hl:s.length=vars.length) (hs:∀ v:Int,0≤v→v<vars.length→v∉p→0≤sg s v∧sg s v<sg vars v):StateOk vars (putS vars p s n):=by
 obtain⟨_,i2,i3⟩:=qco (s:=s) hd hV hl h0 h1
 refine⟨by rw [qjp,hl],fun i hi => ?_⟩
 rw [qjp,hl] at hi
 rw [←sg_of,←sg_of]
 by_cases hm:(i:Int)∈p
 ·exact i2 _ hm
 ·rw [i3 _ (by omega) hm];exact hs _ (by omega) (by omega) hm
theorem StateOk.rng {vars s:List Int}(h:StateOk vars s) {v:Int}(h0:0≤v) (h1:v<vars.length):0≤sg s v∧sg s v<sg vars v:=h.2 _ (by rw [h.1];omega)
theorem qpa {l:List Int}:∀ {m:List Int},l.Pairwise (·<·)→m.Pairwise (·<·)→(∀ x,x∈l↔x∈m)→l=m:=by
 induction l with
 | nil =>
  intro m _ _ h
  cases m with
  | nil=>rfl
  | cons y m=>exact absurd ((h y).2 (by simp)) (by simp)
 | cons x l ih =>
  intro m hl hm h
  cases m with
  | nil=>exact absurd ((h x).1 (by simp)) (by simp)
  | cons y m =>
   rw [List.pairwise_cons] at hl hm
   have hxy:x=y:=by
    rcases List.mem_cons.1 ((h x).1 (by simp)) with e|e
    ·exact e
    ·rcases List.mem_cons.1 ((h y).2 (by simp)) with e'|e'
     ·exact e'.symm
     ·have:=hl.1 y e';have:=hm.1 x e;omega
   subst hxy
   refine congrArg _ (ih hl.2 hm.2 fun z => ?_)
   constructor
   ·intro hz
    rcases List.mem_cons.1 ((h z).1 (by simp [hz])) with e|e
    ·have:=hl.1 z hz;omega
    ·exact e
   ·intro hz
    rcases List.mem_cons.1 ((h z).2 (by simp [hz])) with e|e
    ·have:=hm.1 z hz;omega
    ·exact e
def upTo (n:Int):List Int:=(List.range n.toNat).map fun (i:Nat)=>(i:Int)
theorem qnt {n x:Int}:x∈upTo n↔0≤x∧x<n:=by
 simp only [upTo,List.mem_map,List.mem_range]
 constructor
 ·rintro⟨i,hi,rfl⟩;omega
 ·intro h;exact⟨x.toNat,by omega,by omega⟩
theorem qnu (n:Int):(upTo n).Pairwise (·<·):=by
 rw [upTo,List.pairwise_map]
 exact List.pairwise_lt_range.imp fun h=>by omega
theorem qnv (n:Int):(upTo n).length=n.toNat:=by simp [upTo]
open Classical in
noncomputable def pickL (n:Int) (p:Int→Prop):List Int:=(upTo n).filter fun x=>decide (p x)
theorem qbn {n x:Int}{p:Int→Prop}:x∈pickL n p↔(0≤x∧x<n)∧p x:=by simp [pickL,qnt]
theorem qeA (n:Int) (p:Int→Prop):(pickL n p).Pairwise (·<·):=(qnu n).filter _
theorem qlG (n:Int) (p:Int→Prop):(pickL n p).length≤n.toNat:=by
 have:=List.length_filter_le (fun x=>@decide (p x) (Classical.propDecidable _)) (upTo n)
 rw [qnv] at this
 exact this
theorem qgn {l:List Int}{n:Int}{p:Int→Prop}(hl:l.Pairwise (·<·)) (h:∀ x,x∈l↔(0≤x∧x<n)∧p x):l=pickL n p :=
 qpa hl (qeA n p) fun x=>(h x).trans qbn.symm
def TGp (t:TTask) (p:List Int) (a:Int) (op:Nat) (b:Int):Prop:=∃ s,StateOk t.vars s∧idxL t.vars p s=a∧AppT t s op∧idxL t.vars p (succT t s op)=b
noncomputable def tgtL (t:TTask) (p:List Int) (a:Int) (op:Nat):List Int:=pickL (cntL t.vars p) (TGp t p a op)
def partL (p:List Int) (f:List Fact):List Fact:=f.filter fun x=>decide (x.var∈p)
def GoalP (t:TTask) (p:List Int) (a:Int):Prop:=∃ s,StateOk t.vars s∧idxL t.vars p s=a∧HoldFs s (partL p t.goal)
def FreeOf (o:TOp) (p:List Int) (v:Int):Prop:=(∃ e∈o.effs,e.var∈p∧∃ f∈e.when,f.var=v)∧v∉p∧∀ f∈o.pre,f.var≠v
noncomputable def freeL (vars:List Int) (o:TOp) (p:List Int):List Int:=pickL vars.length (FreeOf o p)
theorem qcb (vars:List Int) (o:TOp) (p:List Int):InV vars (freeL vars o p):=⟨fun v hv=>(qbn.1 hv).1,qeA _ _⟩
def effsP (p s:List Int) (effs:List Eff):List Int:=effs.foldl (fun out e=>if e.var∈p∧HoldFs s e.when then out.set e.var.toNat e.val else out) s
theorem qbu (p s:List Int) (l:List Eff) (e:Eff):effsP p s (l++[e])=if e.var∈p∧HoldFs s e.when then (effsP p s l).set e.var.toNat e.val else effsP p s l:=by simp [effsP]
theorem qdj (p s:List Int) (l:List Eff):(effsP p s l).length=s.length:=by
 refine qaw (P:=fun l=>(effsP p s l).length=s.length) rfl ?_ l
 intro l e ih;rw [qbu];split <;> simp [ih]
theorem qgo {vars p s:List Int}{l:List Eff}(hs:s.length=vars.length) (hp:∀ v∈p,0≤v∧v<vars.length):(∀ e∈l,EffOk vars e)→∀ v∈p,sg (effsP p s l) v=sg (effsL s l) v:=by
 refine qaw (P:=fun l=>(∀ e∈l,EffOk vars e)→∀ v∈p,sg (effsP p s l) v=sg (effsL s l) v) (fun _ _ _=>rfl) ?_ l
 intro l e ih h v hv
 have h1:=ih (fun x hx=>h x (by simp [hx])) v hv
 obtain⟨a,b,c,d⟩:=qaL (h e (by simp))
 obtain⟨hv0,hv1⟩:=hp v hv
 rw [qbu,qdN]
 by_cases hh:HoldFs s e.when
 ·by_cases hm:e.var∈p
  ·rw [if_pos ⟨hm,hh⟩,if_pos hh]
   by_cases hev:e.var=v
   ·rw [←hev,qbe a (by rw [qdj];omega),qbe a (by rw [qmB];omega)]
   ·rw [qbm a hv0 hev,qbm a hv0 hev,h1]
  ·rw [if_neg (fun h=>hm h.1),if_pos hh,qbm a hv0 (fun e'=>hm (e' ▸ hv)),h1]
 ·rw [if_neg (fun h=>hh h.2),if_neg hh,h1]
theorem qeB {s s':List Int}{x:Fact}(hl:s.length=s'.length) (h:sg s x.var=sg s' x.var):HoldF s x↔HoldF s' x:=by
 unfold HoldF
 rw [hl,show s.getD x.var.toNat tInt.dflt=s'.getD x.var.toNat tInt.dflt from h]
theorem qhq {s s':List Int}{f:List Fact}(hl:s.length=s'.length) (h:∀ x∈f,sg s x.var=sg s' x.var):HoldFs s f↔HoldFs s' f:=by
 rw [qaV,qaV]
 constructor
 ·intro hh x hx;exact (qeB hl (h x hx)).1 (hh x hx)
 ·intro hh x hx;exact (qeB hl (h x hx)).2 (hh x hx)
theorem qeC {vars p s s':List Int}{l:List Eff}(hl:s.length=vars.length) (hl':s'.length=vars.length) (hp:∀ v∈p,0≤v∧v<vars.length) (hpp:∀ v∈p,sg s v=sg s' v) :
  (∀ e∈l,EffOk vars e)→(∀ e∈l,e.var∈p→∀ f∈e.when,sg s f.var=sg s' f.var)→∀ v∈p,sg (effsP p s l) v=sg (effsP p s' l) v:=by
 refine qaw (P:=fun l=>(∀ e∈l,EffOk vars e)→(∀ e∈l,e.var∈p→∀ f∈e.when,sg s f.var=sg s' f.var)→∀ v∈p,sg (effsP p s l) v=sg (effsP p s' l) v) (fun _ _=>hpp) ?_ l
 intro l e ih h hw v hv
 have h1:=ih (fun x hx=>h x (by simp [hx])) (fun x hx=>hw x (by simp [hx])) v hv
 obtain⟨a,b,c,d⟩:=qaL (h e (by simp))
 obtain⟨hv0,hv1⟩:=hp v hv
 rw [qbu,qbu]
 by_cases hm:e.var∈p
 ·have hc:=qhq (hl.trans hl'.symm) (hw e (by simp) hm)
  by_cases hh:HoldFs s e.when
  ·rw [if_pos ⟨hm,hh⟩,if_pos ⟨hm,hc.1 hh⟩]
   by_cases hev:e.var=v
   ·rw [←hev,qbe a (by rw [qdj];omega),qbe a (by rw [qdj];omega)]
   ·rw [qbm a hv0 hev,qbm a hv0 hev,h1]
  ·rw [if_neg (fun h=>hh h.2),if_neg (fun h=>hh (hc.2 h.2)),h1]
 ·rw [if_neg (fun h=>hm h.1),if_neg (fun h=>hm h.1),h1]
end Go.Proofs.YtggdgcmjcahbbaaGreatDoor
/-
  What 'targets' computes: the abstract steps, in plain Lean.
-/
namespace Go.Proofs.YtggdgcmjcahbbaaGreatDoor
open Go.Sl
def zerosL (n:Nat):List Int:=List.replicate n 0
theorem qbQ (n:Nat):(zerosL n).length=n:=by simp [zerosL]
theorem qlK (n:Nat) (v:Int):sg (zerosL n) v=0:=by
 simp only [sg,zerosL,List.getD_eq_getElem?_getD,List.getElem?_replicate]
 split <;> rfl
def preS (p s:List Int) (f:List Fact):List Int:=f.foldl (fun s x=>if x.var∈p then s else s.set x.var.toNat x.val) s
theorem qcc (p s:List Int) (f:List Fact) (x:Fact):preS p s (f++[x])=if x.var∈p then preS p s f else (preS p s f).set x.var.toNat x.val:=by simp [preS]
theorem qjq (p s:List Int) (f:List Fact):(preS p s f).length=s.length:=by
 refine qaw (P:=fun f=>(preS p s f).length=s.length) rfl ?_ f
 intro l e ih;rw [qcc];split <;> simp [ih]
def PreIn (p s:List Int) (f:List Fact):Prop:=∀ x∈f,x.var∈p→sg s x.var=x.val
theorem qa9 {vars:List Int}{f:List Fact}(h:FactsOk vars f):∀ x∈f,FactOk vars x:=by
 intro x hx
 obtain⟨i,hi,rfl⟩:=List.getElem_of_mem hx
 have:=(h i hi).1
 rwa [qak hi] at this
theorem qnw {vars:List Int}{f:List Fact}(h:FactsOk vars f):f.Pairwise fun x y=>x.var<y.var:=by
 rw [List.pairwise_iff_getElem]
 intro i j hi hj hij
 have key:∀ k,(hk:i+k+1<f.length)→f[i].var<f[i+k+1].var:=by
  intro k
  induction k with
  | zero=>intro hk;have:=(h (i+1) (by omega)).2 (by omega);rw [qak (by omega),qak (by omega)] at this;simpa using this
  | succ k ih =>
   intro hk
   have h1:=ih (by omega)
   have:=(h (i+k+1+1) (by omega)).2 (by omega)
   rw [qak (by omega),qak (by omega)] at this
   simp only [Nat.add_sub_cancel] at this
   exact Int.lt_trans h1 this
 have:=key (j-i-1) (by omega)
 simpa [show i+(j-i-1)+1=j by omega] using this
theorem qfI {vars p s:List Int}{f:List Fact}{v:Int}(hv:0≤v):(∀ x∈f,FactOk vars x)→(∀ x∈f,x.var∉p→x.var≠v)→sg (preS p s f) v=sg s v:=by
 refine qaw (P:=fun f=>(∀ x∈f,FactOk vars x)→(∀ x∈f,x.var∉p→x.var≠v)→sg (preS p s f) v=sg s v) (fun _ _=>rfl) ?_ f
 intro l x ih h hn
 have h1:=ih (fun y hy=>h y (by simp [hy])) (fun y hy=>hn y (by simp [hy]))
 have hx:=h x (by simp)
 rw [qcc]
 split
 ·exact h1
 ·rename_i hm
  rw [qbm hx.1 hv (hn x (by simp) hm),h1]
theorem qjr {vars p s:List Int}{f:List Fact}(hs:s.length=vars.length):(∀ x∈f,FactOk vars x)→(f.Pairwise fun x y=>x.var<y.var)→∀ x∈f,x.var∉p→sg (preS p s f) x.var=x.val:=by
 refine qaw (P:=fun f=>(∀ x∈f,FactOk vars x)→(f.Pairwise fun x y=>x.var<y.var)→∀ x∈f,x.var∉p→sg (preS p s f) x.var=x.val) (fun _ _ x hx=>by simp at hx) ?_ f
 intro l y ih h hp x hx hxp
 have hy:=h y (by simp)
 have hfx:=h x hx
 rw [qcc]
 rcases List.mem_append.1 hx with hx'|hx'
 ·have h1:=ih (fun z hz=>h z (by simp [hz])) (List.pairwise_append.1 hp).1 x hx' hxp
  have hlt:=(List.pairwise_append.1 hp).2.2 x hx' y (by simp)
  split
  ·exact h1
  ·rw [qbm hy.1 hfx.1 (by omega),h1]
 ·rw [List.mem_singleton.1 hx'] at hxp ⊢
  rw [if_neg hxp,qbe hy.1 (by rw [qjq,hs];exact hy.2.1)]
theorem qpb {vars p s:List Int}{f:List Fact}(hs:StateOk vars s):(∀ x∈f,FactOk vars x)→StateOk vars (preS p s f):=by
 refine qaw (P:=fun f=>(∀ x∈f,FactOk vars x)→StateOk vars (preS p s f)) (fun _=>hs) ?_ f
 intro l x ih h
 have h1:=ih fun y hy=>h y (by simp [hy])
 have hx:=h x (by simp)
 rw [qcc]
 split
 ·exact h1
 ·exact qcX h1 hx.1 hx.2.2.1 hx.2.2.2
section
variable {t:TTask}{p:List Int}{op:Nat}{a:Int}
def opT (t:TTask) (op:Nat):TOp:=t.ops.getD op dOp
def st1 (t:TTask) (p:List Int) (a:Int):List Int:=putS t.vars p (zerosL t.vars.length) a
def st2 (t:TTask) (p:List Int) (op:Nat) (a:Int):List Int:=preS p (st1 t p a) (opT t op).pre
noncomputable def frL (t:TTask) (p:List Int) (op:Nat):List Int:=freeL t.vars (opT t op) p
def OutOf (t:TTask) (p:List Int) (op:Nat) (a k b:Int):Prop:=∃ S,StateOk t.vars S∧(∀ v,0≤v→v∉frL t p op→sg S v=sg (st2 t p op a) v)∧idxL t.vars (frL t p op) S<k∧idxL t.vars p (effsP p S (opT t op).effs)=b
theorem qjs (hd:∀ x∈t.vars,1≤x):StateOk t.vars (zerosL t.vars.length):=by
 refine⟨qbQ _,fun i hi => ?_⟩
 rw [qbQ] at hi
 have:=hd _ (qah tInt.dflt hi)
 rw [←sg_of,qlK]
 omega
theorem qhr (hg:GoodT t) (hp:InV t.vars p) (h0:0≤a) (h1:a<cntL t.vars p):StateOk t.vars (st1 t p a)∧idxL t.vars p (st1 t p a)=a:=by
 have hz:=qjs (t:=t) hg.pos
 exact⟨qgm hg.pos hp h0 h1 (qbQ _) fun v hv hv' _=>hz.rng hv hv',(qco hg.pos hp (qbQ _) h0 h1).1⟩
theorem st1_p (hg:GoodT t) (hp:InV t.vars p) (h0:0≤a) (h1:a<cntL t.vars p) {s:List Int}(hs:StateOk t.vars s) (ha:idxL t.vars p s=a):∀ v∈p,sg s v=sg (st1 t p a) v :=
 qea hs (qhr hg hp h0 h1).1 hp.mem (ha.trans (qhr hg hp h0 h1).2.symm)
theorem opFacts (hg:GoodT t) (ho:op<t.ops.length):(∀ x∈(opT t op).pre,FactOk t.vars x)∧((opT t op).pre.Pairwise fun x y=>x.var<y.var) :=
 ⟨qa9 (hg.op op ho).pre,qnw (hg.op op ho).pre⟩
theorem qov (hg:GoodT t) (hp:InV t.vars p) (ho:op<t.ops.length) (h0:0≤a) (h1:a<cntL t.vars p):StateOk t.vars (st2 t p op a):=qpb (qhr hg hp h0 h1).1 (opFacts hg ho).1
theorem st2_p (hg:GoodT t) (hp:InV t.vars p) (ho:op<t.ops.length):∀ v∈p,sg (st2 t p op a) v=sg (st1 t p a) v:=fun v hv =>
 qfI (hp.mem v hv).1 (opFacts hg ho).1 fun x _ hx e=>hx (e ▸ hv)
theorem frL_p {v:Int}(hv:v∈frL t p op):v∉p:=(qbn.1 hv).2.2.1
theorem qlL {x:Fact}(hx:x∈(opT t op).pre):x.var∉frL t p op:=fun h=>(qbn.1 h).2.2.2 x hx rfl
theorem qnx (hg:GoodT t) (hp:InV t.vars p) (h0:0≤a) (h1:a<cntL t.vars p) (hn:¬PreIn p (st1 t p a) (opT t op).pre):tgtL t p a op=[]:=by
 refine (qgn List.Pairwise.nil fun b=>⟨fun h=>by simp at h,?_⟩).symm
 rintro⟨_,s,hs,ha,happ,_⟩
 exact absurd (fun x hx hxp=>by
  rw [←st1_p hg hp h0 h1 hs ha _ hxp]
  exact (qaV.1 happ x hx).2.2) hn
theorem qpS (hg:GoodT t) (hp:InV t.vars p) (ho:op<t.ops.length) (h0:0≤a) (h1:a<cntL t.vars p) (hpre:PreIn p (st1 t p a) (opT t op).pre) {b:Int} :
  OutOf t p op a (cntL t.vars (frL t p op)) b↔TGp t p a op b:=by
 obtain⟨hs1,hi1⟩:=qhr hg hp h0 h1
 have hs2:=qov hg hp ho h0 h1
 have hfv:InV t.vars (frL t p op):=qcb t.vars (opT t op) p
 have heff:∀ e∈(opT t op).effs,EffOk t.vars e:=(hg.op op ho).mem
 constructor
 ·rintro⟨S,hS,hag,_,rfl⟩
  have hSp:∀ v∈p,sg S v=sg (st1 t p a) v:=fun v hv=>by
   rw [hag v (hp.mem v hv).1 (fun h=>frL_p h hv),st2_p hg hp ho v hv]
  refine⟨S,hS,(qbP hSp).trans hi1,?_,qbP fun v hv=>(qgo hS.1 hp.mem heff v hv).symm⟩
  refine qaV.2 fun x hx => ?_
  have hxf:=(opFacts hg ho).1 x hx
  refine⟨hxf.1,by rw [hS.1];exact hxf.2.1,?_⟩
  show sg S x.var=x.val
  rw [hag x.var hxf.1 (qlL hx)]
  by_cases hxp:x.var∈p
  ·rw [st2_p hg hp ho _ hxp];exact hpre x hx hxp
  ·exact qjr hs1.1 (opFacts hg ho).1 (opFacts hg ho).2 x hx hxp
 ·rintro⟨s,hs,ha,happ,rfl⟩
  have hsp:=st1_p hg hp h0 h1 hs ha
  have hb:=qaK hs hfv.mem
  have hq:=qco (s:=st2 t p op a) hg.pos hfv hs2.1 hb.1 hb.2
  have hSo:=qgm (s:=st2 t p op a) hg.pos hfv hb.1 hb.2 hs2.1 fun v hv hv' _=>hs2.rng hv hv'
  have hfr:=qea hSo hs hfv.mem hq.1
  refine⟨putS t.vars (frL t p op) (st2 t p op a) (idxL t.vars (frL t p op) s),hSo,hq.2.2,by rw [hq.1];exact hb.2,qbP fun v hv => ?_⟩
  rw [show sg (succT t s op) v=sg (effsP p s (opT t op).effs) v from (qgo hs.1 hp.mem heff v hv).symm]
  have hSp:∀ v∈p,sg (putS t.vars (frL t p op) (st2 t p op a) (idxL t.vars (frL t p op) s)) v=sg s v:=fun v hv=>by
   rw [show sg (putS t.vars (frL t p op) (st2 t p op a) (idxL t.vars (frL t p op) s)) v=_ from hq.2.2 v (hp.mem v hv).1 (fun h=>frL_p (op:=op) h hv),st2_p hg hp ho v hv,hsp v hv]
  refine qeC hSo.1 hs.1 hp.mem hSp heff (fun e he hep f hf => ?_) v hv
  have hff:=qa9 (heff e he).1 f hf
  by_cases hfp:f.var∈p
  ·exact hSp _ hfp
  ·by_cases hfx:∃ x∈(opT t op).pre,x.var=f.var
   ·obtain⟨x,hx,hxe⟩:=hfx
    rw [show sg (putS t.vars (frL t p op) (st2 t p op a) (idxL t.vars (frL t p op) s)) f.var=_ from hq.2.2 f.var hff.1 (by rw [←hxe];exact qlL hx)]
    rw [←hxe,show sg (st2 t p op a) x.var=x.val from qjr hs1.1 (opFacts hg ho).1 (opFacts hg ho).2 x hx (by rw [hxe];exact hfp)]
    exact (qaV.1 happ x hx).2.2.symm
   ·refine hfr f.var (qbn.2 ⟨⟨hff.1,hff.2.1⟩,⟨e,he,hep,f,hf,rfl⟩,hfp,fun x hx hxe=>hfx ⟨x,hx,hxe⟩⟩)
theorem qny (hg:GoodT t) (hp:InV t.vars p) (ho:op<t.ops.length) {k:Int}{S:List Int}(hS:StateOk t.vars S) (hag:∀ v,0≤v→v∉frL t p op→sg S v=sg (st2 t p op a) v) (hk:idxL t.vars (frL t p op) S=k) {b:Int} :
  OutOf t p op a (k+1) b↔OutOf t p op a k b∨b=idxL t.vars p (effsP p S (opT t op).effs):=by
 have hfv:InV t.vars (frL t p op):=qcb t.vars (opT t op) p
 have heff:∀ e∈(opT t op).effs,EffOk t.vars e:=(hg.op op ho).mem
 constructor
 ·rintro⟨S',hS',hag',hlt,hb⟩
  by_cases h:idxL t.vars (frL t p op) S'<k
  ·exact .inl ⟨S',hS',hag',h,hb⟩
  ·right
   have hfr:=qea hS' hS hfv.mem (show idxL t.vars (frL t p op) S'=idxL t.vars (frL t p op) S by omega)
   have hall:∀ v,0≤v→sg S' v=sg S v:=fun v hv=>by
    by_cases hm:v∈frL t p op
    ·exact hfr v hm
    ·rw [hag' v hv hm,hag v hv hm]
   rw [←hb]
   exact qbP (qeC hS'.1 hS.1 hp.mem (fun v hv=>hall v (hp.mem v hv).1) heff fun e he _ f hf=>hall _ (qa9 (heff e he).1 f hf).1)
 ·rintro (⟨S',hS',hag',hlt,hb⟩|rfl)
  ·exact⟨S',hS',hag',by omega,hb⟩
  ·exact⟨S,hS,hag,by omega,rfl⟩
theorem qpT (hg:GoodT t) (hp:InV t.vars p) (ho:op<t.ops.length) {k b:Int}(h:OutOf t p op a k b):0≤b∧b<cntL t.vars p:=by
 obtain⟨S,hS,_,_,rfl⟩:=h
 have heff:∀ e∈(opT t op).effs,EffOk t.vars e:=(hg.op op ho).mem
 rw [qbP (qgo hS.1 hp.mem heff)]
 exact qaK (qoh hS heff) hp.mem
end
end Go.Proofs.YtggdgcmjcahbbaaGreatDoor
/-
  The transition system of a projection, in plain Lean.
-/
namespace Go.Proofs.YtggdgcmjcahbbaaGreatDoor
open Go.Sl
def edgB (a:Int) (op:Nat) (l:List Int):List Edg:=l.map fun b=>⟨a,op,b⟩
noncomputable def edgO (t:TTask) (p:List Int) (a:Int) (j:Nat):List Edg:=(List.range j).flatMap fun op=>edgB a op (tgtL t p a op)
noncomputable def edgA (t:TTask) (p:List Int) (k:Nat):List Edg:=(List.range k).flatMap fun (a:Nat)=>edgO t p (a:Int) t.ops.length
noncomputable def pEdges (t:TTask) (p:List Int):List Edg:=edgA t p (cntL t.vars p).toNat
theorem qhl (t:TTask) (p:List Int) (a:Int):edgO t p a 0=[]:=rfl
theorem qdf (t:TTask) (p:List Int) (a:Int) (j:Nat):edgO t p a (j+1)=edgO t p a j++edgB a j (tgtL t p a j):=by simp [edgO,List.range_succ]
theorem qlx (t:TTask) (p:List Int):edgA t p 0=[]:=rfl
theorem qdg (t:TTask) (p:List Int) (k:Nat):edgA t p (k+1)=edgA t p k++edgO t p (k:Int) t.ops.length:=by simp [edgA,List.range_succ]
theorem qgk (a:Int) (op:Nat) (l:List Int):(edgB a op l).length=l.length:=by simp [edgB]
theorem qly {a:Int}{op:Nat}{l:List Int}{m:Nat}(hm:m<l.length):edgB a op (l.take (m+1))=edgB a op (l.take m)++[⟨a,op,l.getD m tInt.dflt⟩]:=by
 rw [qal tInt.dflt hm];simp [edgB]
theorem qlz (t:TTask) (p:List Int) (a:Int) {i j:Nat}(h:i≤j):(edgO t p a i).length≤(edgO t p a j).length:=by
 induction j with
 | zero =>
   have:i=0:=by omega
   subst this;exact Nat.le_refl _
 | succ j ih =>
  by_cases e:i=j+1
  ·subst e;exact Nat.le_refl _
  ·have:=ih (by omega);rw [qdf,List.length_append];omega
theorem qlA (t:TTask) (p:List Int) {i j:Nat}(h:i≤j):(edgA t p i).length≤(edgA t p j).length:=by
 induction j with
 | zero =>
   have:i=0:=by omega
   subst this;exact Nat.le_refl _
 | succ j ih =>
  by_cases e:i=j+1
  ·subst e;exact Nat.le_refl _
  ·have:=ih (by omega);rw [qdg,List.length_append];omega
theorem qlB {t:TTask}{p:List Int}{k j:Nat}(hk:(k:Int)<cntL t.vars p) (hj:j<t.ops.length):(edgA t p k).length+(edgO t p (k:Int) j).length+(tgtL t p (k:Int) j).length≤(pEdges t p).length:=by
 have h1:=qlA t p (show k+1≤(cntL t.vars p).toNat by omega)
 have h2:=qlz t p (k:Int) (show j+1≤t.ops.length by omega)
 rw [qdg,List.length_append] at h1
 rw [qdf,List.length_append,qgk] at h2
 unfold pEdges
 omega
theorem qfD {t:TTask}{p:List Int}{e:Edg}:e∈pEdges t p↔∃ (a:Int) (op:Nat) (b:Int),(0≤a∧a<cntL t.vars p)∧op<t.ops.length∧(0≤b∧b<cntL t.vars p)∧TGp t p a op b∧e=⟨a,op,b⟩:=by
 simp only [pEdges,edgA,edgO,edgB,List.mem_flatMap,List.mem_range,List.mem_map]
 constructor
 ·rintro⟨a,ha,op,ho,b,hb,rfl⟩
  have:=qbn.1 hb
  exact⟨a,op,b,by omega,ho,this.1,this.2,rfl⟩
 ·rintro⟨a,op,b,ha,ho,hb,hT,rfl⟩
  refine⟨a.toNat,by omega,op,ho,b,?_,?_⟩
  ·rw [Int.toNat_of_nonneg ha.1];exact qbn.2 ⟨hb,hT⟩
  ·rw [Int.toNat_of_nonneg ha.1]
open Classical in
noncomputable def goalB (t:TTask) (p:List Int) (a:Int):Bool:=decide (GoalP t p a)
noncomputable def goalsK (t:TTask) (p:List Int) (k:Nat):List Bool:=(List.range k).map fun (a:Nat)=>goalB t p (a:Int)
theorem qin (t:TTask) (p:List Int) (k:Nat):goalsK t p (k+1)=goalsK t p k++[goalB t p (k:Int)]:=by simp [goalsK,List.range_succ]
theorem qfE (t:TTask) (p:List Int) (k:Nat):(goalsK t p k).length=k:=by simp [goalsK]
theorem qlC {t:TTask}{p:List Int}{k a:Nat}(h:a<k):(goalsK t p k).getD a false=goalB t p (a:Int):=by simp [goalsK,List.getD,h]
theorem qhm {t:TTask}{p:List Int}{a:Int}:goalB t p a=true↔GoalP t p a:=by simp [goalB]
def GoalF (p S:List Int) (f:List Fact):Prop:=∀ x∈f,x.var∈p→sg S x.var=x.val
theorem qnm {t:TTask}{p S:List Int}{a:Int}(hg:GoodT t) (hp:InV t.vars p) (hS:StateOk t.vars S) (ha:idxL t.vars p S=a):GoalF p S t.goal↔GoalP t p a:=by
 constructor
 ·intro h
  refine⟨S,hS,ha,qaV.2 fun x hx => ?_⟩
  simp only [partL,List.mem_filter,decide_eq_true_eq] at hx
  have hf:=qa9 hg.goal x hx.1
  exact⟨hf.1,by rw [hS.1];exact hf.2.1,h x hx.1 hx.2⟩
 ·rintro⟨s,hs,hi,hh⟩ x hx hxp
  rw [qea hS hs hp.mem (ha.trans hi.symm) _ hxp]
  exact (qaV.1 hh x (by simp [partL,hx,hxp])).2.2
def costsT (t:TTask):List Int:=t.ops.map (·.cost)
theorem qhn {t:TTask}{i:Nat}(h:i<t.ops.length):(costsT t).getD i tInt.dflt=(t.ops.getD i dOp).cost:=by
 rw [qak h];simp [costsT,List.getD,h]
def BigFree (t:TTask) (p:List Int):Prop:=∃ op,op<t.ops.length∧4096<cntL t.vars (frL t p op)
open Classical in
noncomputable def pErr0 (t:TTask) (p:List Int):Int:=if 4096<cntL t.vars p then 5 else if BigFree t p then 5 else if 65536<(pEdges t p).length then 5 else 0
structure SysV where
 st:Int
 ini:Int
 costs:List Int
 edges:List Edg
 goals:List Bool
noncomputable def sysOk (t:TTask) (p:List Int):SysV:=⟨cntL t.vars p,idxL t.vars p t.init,costsT t,pEdges t p,goalsK t p (cntL t.vars p).toNat⟩
def sysNo:SysV:=⟨0,0,[],[],[]⟩
noncomputable def sysE (t:TTask) (p:List Int) (c:Int):SysV:=if c=0 then sysOk t p else sysNo
end Go.Proofs.YtggdgcmjcahbbaaGreatDoor
/-
  The projection to all variables has the steps of the task.
-/
namespace Go.Proofs.YtggdgcmjcahbbaaGreatDoor
open Go.Sl
end Go.Proofs.YtggdgcmjcahbbaaGreatDoor
/-
  Every clique lies in a maximal one.
-/
namespace Go.Proofs.YtggdgcmjcahbbaaGreatDoor
open Go.Sl
structure CliqM (n:Nat) (N:Nat→Nat) (C:Nat):Prop where
 bd:∀ v,ib C v→v<n
 clq:∀ u v,ib C u→ib C v→u≠v→ib (N u) v
theorem ib_or {x v u:Nat}:ib (x ||| 2 ^ v) u↔ib x u∨u=v:=by
 unfold ib
 rw [Nat.testBit_or,Nat.testBit_two_pow,Bool.or_eq_true,decide_eq_true_eq]
 constructor
 ·rintro (h|h)
  ·exact .inl h
  ·exact .inr h.symm
 ·rintro (h|h)
  ·exact .inl h
  ·exact .inr h.symm
theorem qjR {n:Nat}{N:Nat→Nat}(hG:Gr n N):∀ (m:Nat) (C:Nat),CliqM n N C→2 ^ n-C≤m→∃ C',MaxC n N C'∧∀ v,ib C v→ib C' v:=by
 intro m
 induction m with
 | zero =>
  intro C hC hm
  exfalso
  have:C<2 ^ n:=Nat.lt_pow_two_of_testBit C fun i hi=>Bool.eq_false_iff.2 fun h=>by have:=hC.bd i h;omega
  omega
 | succ m ih =>
  intro C hC hm
  by_cases hx:∃ u,u<n∧¬ib C u∧∀ v,ib C v→ib (N u) v
  ·obtain⟨u,hu,hnu,hall⟩:=hx
   have hgt:C<C ||| 2 ^ u:=by
    have h1:C≤C ||| 2 ^ u:=Nat.left_le_or
    have h2:C≠C ||| 2 ^ u:=fun e=>hnu (by rw [e];exact ib_or.2 (.inr rfl))
    omega
   have hC2:CliqM n N (C ||| 2 ^ u):=⟨fun v hv=>by
     rcases ib_or.1 hv with hv|rfl
     ·exact hC.bd v hv
     ·exact hu,fun a b ha hb hab=>by
     rcases ib_or.1 ha with ha'|ea
     ·rcases ib_or.1 hb with hb'|eb
      ·exact hC.clq a b ha' hb' hab
      ·rw [eb];exact hG.sym _ _ (hall a ha')
     ·rcases ib_or.1 hb with hb'|eb
      ·rw [ea];exact hall b hb'
      ·exact absurd (ea.trans eb.symm) hab⟩
   have hlt:C<2 ^ n:=Nat.lt_pow_two_of_testBit C fun i hi=>Bool.eq_false_iff.2 fun h=>by have:=hC.bd i h;omega
   obtain⟨C',h1,h2⟩:=ih _ hC2 (by omega)
   exact⟨C',h1,fun v hv=>h2 v (ib_or.2 (.inl hv))⟩
  ·exact⟨C,⟨hC.bd,hC.clq,fun u hu hnu=>Classical.byContradiction fun hno=>hx ⟨u,hu,hnu,fun v hv=>Classical.byContradiction fun hh=>hno ⟨v,hv,hh⟩⟩⟩,fun v hv=>hv⟩
def CliqL (n:Nat) (N:Nat→Nat) (Cs:List (List Int)):Prop:=∀ l,l∈Cs↔∃ C,MaxC n N C∧l=bitsK C n
end Go.Proofs.YtggdgcmjcahbbaaGreatDoor
/-
  What the search for maximal cliques has found, round after round, in plain Lean.
-/
namespace Go.Proofs.YtggdgcmjcahbbaaGreatDoor
open Go.Sl
theorem qje {a b v:Nat}:ib (a &&& b) v↔ib a v∧ib b v:=by
 unfold ib;rw [Nat.testBit_and,Bool.and_eq_true]
theorem qha {a b v:Nat}:ib (a ||| b) v↔ib a v∨ib b v:=by
 unfold ib;rw [Nat.testBit_or,Bool.or_eq_true]
theorem qjf {k v:Nat}:ib (2 ^ k) v↔v=k:=by
 unfold ib;rw [Nat.testBit_two_pow,decide_eq_true_eq];exact⟨fun h=>h.symm,fun h=>h.symm⟩
theorem qo0 {a v:Nat}(ha:a<18446744073709551616) (h:ib a v):v<64:=Nat.lt_of_not_le fun hle=>by
 unfold ib at h
 rw [Nat.testBit_lt_two_pow (Nat.lt_of_lt_of_le (show a<2 ^ 64 from ha) (Nat.pow_le_pow_right (by decide) hle))] at h
 cases h
theorem qos {a b v:Nat}(ha:a<18446744073709551616) (hb:b<18446744073709551616):ib (a &&& nb64 b) v↔ib a v∧¬ib b v:=by
 rw [qje]
 constructor
 ·rintro⟨h1,h2⟩
  refine⟨h1,fun h3 => ?_⟩
  unfold ib at h2 h3
  rw [qjA hb,h3] at h2
  simp at h2
 ·rintro⟨h1,h2⟩
  refine⟨h1,?_⟩
  unfold ib at h2 ⊢
  rw [qjA hb,decide_eq_true (qo0 ha h1),Bool.eq_false_iff.2 h2];rfl
theorem qpL {a b v:Nat}(h1:ib a v) (h2:¬ib b v):a &&& b<a:=by
 have h:=Nat.and_le_left (n:=a) (m:=b)
 have hne:a &&& b≠a:=fun e=>by
  rw [←e] at h1
  exact h2 (qje.1 h1).2
 omega
theorem qaF {x:Nat}(h:x=0) (v:Nat):¬ib x v:=by subst h;simp [ib]
theorem qhb {x:Nat}(h:∀ v,¬ib x v):x=0:=Nat.eq_of_testBit_eq fun i=>by rw [Nat.zero_testBit];exact Bool.eq_false_iff.2 (h i)
structure FindOk (n:Nat) (N:Nat→Nat) (R P l:Nat) (r:Bool) (M:List Nat):Prop where
 nd:M.Nodup
 mem:∀ C∈M,Cand n N R P C
 all:r=true→∀ C,Cand n N R P C→C∈M
 le:r=true→l+M.length≤4096
 gt:r=false→l+M.length=4097
structure FI (n:Nat) (N:Nat→Nat) (R P l q p x:Nat) (M:List Nat):Prop where
 bi:BI n N R p x
 ple:p≤P
 qp:∀ v,ib q v→ib p v
 meet:∀ C,Cand n N R p C→∃ u,ib C u∧ib q u
 nd:M.Nodup
 mem:∀ C∈M,Cand n N R P C∧¬Cand n N R p C
 all:∀ C,Cand n N R P C→C∈M∨Cand n N R p C
 sub:∀ C,Cand n N R p C→Cand n N R P C
 le:l+M.length≤4096
section
variable {n:Nat}{N:Nat→Nat}{R P X l q p x:Nat}{M:List Nat}
theorem FindOk.base (h:BI n N R P X) (hP:P=0) (hX:X=0) (hl:l≤4096):FindOk n N R P l (decide (l+1≤4096)) [R] where
 nd:=by simp
 mem C hC:=by rw [List.mem_singleton.1 hC];exact (h.base (qaF hP) (qaF hX)).2 rfl
 all _ C hC:=List.mem_singleton.2 ((h.base (qaF hP) (qaF hX)).1 hC)
 le hr:=by simpa using hr
 gt hr:=by simp at hr;simp;omega
theorem FI.start (hG:Gr n N) (h:BI n N R P X) {u:Nat}(hu:ib P u∨ib X u) (hq:∀ v,ib q v↔ib P v∧¬ib (N u) v) (hl:l≤4096):FI n N R P l q P X [] where
 bi:=h
 ple:=Nat.le_refl _
 qp v hv:=((hq v).1 hv).1
 meet C hC:=by
  obtain⟨w,h1,h2,h3⟩:=h.pivot hG hu hC
  exact⟨w,h1,(hq w).2 ⟨h2,h3⟩⟩
 nd:=List.nodup_nil
 mem C hC:=by simp at hC
 all C hC:=.inr hC
 sub _ hC:=hC
 le:=by simpa using hl
theorem FI.step (hG:Gr n N) (h:FI n N R P l q p x M) {v R1 P1 p' x' q':Nat}{M1:List Nat}(hv:ib q v) (h1:∀ u,ib R1 u↔ib R u∨u=v) (h2:∀ u,ib P1 u↔ib p u∧ib (N v) u) (hf:FindOk n N R1 P1 (l+M.length) true M1)
  (hp:∀ u,ib p' u↔ib p u∧u≠v) (hx:∀ u,ib x' u↔ib x u∨u=v) (hq:∀ u,ib q' u↔ib q u∧u≠v) (hple:p'≤p):FI n N R P l q' p' x' (M++M1):=by
 have hs:=fun C=>h.bi.split (C:=C) hG (h.qp v hv) h1 h2 hp
 refine⟨h.bi.next (h.qp v hv) hp hx,Nat.le_trans hple h.ple,fun u hu => ?_,fun C hC => ?_,?_,fun C hC => ?_,fun C hC => ?_,fun C hC=>h.sub C ((hs C).1.2 (.inr hC)),?_⟩
 ·have:=(hq u).1 hu
  exact (hp u).2 ⟨h.qp u this.1,this.2⟩
 ·obtain⟨u,a,b⟩:=h.meet C ((hs C).1.2 (.inr hC))
  have hn:=(hs C).2.2 hC
  exact⟨u,a,(hq u).2 ⟨b,fun e=>hn (e ▸ a)⟩⟩
 ·refine List.nodup_append.2 ⟨h.nd,hf.nd,fun a ha b hb e => ?_⟩
  subst e
  exact (h.mem a ha).2 ((hs a).1.2 (.inl (hf.mem a hb)))
 ·rcases List.mem_append.1 hC with hC|hC
  ·exact⟨(h.mem C hC).1,fun hh=>(h.mem C hC).2 ((hs C).1.2 (.inr hh))⟩
  ·have hc:=hf.mem C hC
   exact⟨h.sub C ((hs C).1.2 (.inl hc)),fun hh=>(hs C).2.2 hh ((hs C).2.1 hc)⟩
 ·rcases h.all C hC with hh|hh
  ·exact .inl (List.mem_append_left _ hh)
  ·rcases (hs C).1.1 hh with hh|hh
   ·exact .inl (List.mem_append_right _ (hf.all rfl C hh))
   ·exact .inr hh
 ·have:=hf.le rfl
  rw [List.length_append];omega
theorem FI.fail (hG:Gr n N) (h:FI n N R P l q p x M) {v R1 P1:Nat}{M1:List Nat}(hv:ib q v) (h1:∀ u,ib R1 u↔ib R u∨u=v) (h2:∀ u,ib P1 u↔ib p u∧ib (N v) u) (hf:FindOk n N R1 P1 (l+M.length) false M1) :
  FindOk n N R P l false (M++M1):=by
 have hs:=fun C=>(h.bi.split (C:=C) (P2:=p &&& (p ^^^ 2 ^ v)) hG (h.qp v hv) h1 h2 (fun u=>by
  unfold ib
  rw [Nat.testBit_and,Nat.testBit_xor,Nat.testBit_two_pow]
  by_cases e:u=v
  ·subst e
   have hp:p.testBit u=true:=h.qp u hv
   simp [hp]
  ·have e2:¬v=u:=fun hh=>e hh.symm
   simp [e,e2])).1.2
 refine⟨List.nodup_append.2 ⟨h.nd,hf.nd,fun a ha b hb e => ?_⟩,fun C hC => ?_,fun hr=>(by cases hr),fun hr=>(by cases hr),fun _ => ?_⟩
 ·subst e
  exact (h.mem a ha).2 (hs a (.inl (hf.mem a hb)))
 ·rcases List.mem_append.1 hC with hC|hC
  ·exact (h.mem C hC).1
  ·exact h.sub C (hs C (.inl (hf.mem C hC)))
 ·have:=hf.gt rfl
  rw [List.length_append];omega
theorem FI.done (h:FI n N R P l q p x M) (hq:q=0):FindOk n N R P l true M:=by
 have hno:∀ C,¬Cand n N R p C:=fun C hC=>by
  obtain⟨u,_,hu⟩:=h.meet C hC
  exact qaF hq u hu
 exact⟨h.nd,fun C hC=>(h.mem C hC).1,fun _ C hC=>(h.all C hC).elim id fun hh=>absurd hh (hno C),fun _=>h.le,fun hr=>(by cases hr)⟩
end
end Go.Proofs.YtggdgcmjcahbbaaGreatDoor
/-
  Groups of three nodes, in plain Lean: the graph, and its 3^g maximal cliques.
-/
namespace Go.Proofs.YtggdgcmjcahbbaaGreatDoor
open Go.Sl
theorem qlM {α:Type} [DecidableEq α]:∀ {L M:List α},L.Nodup→(∀ x∈L,x∈M)→L.length≤M.length
 | [],_,_,_=>Nat.zero_le _
 | x::L,M,hd,h=>by
  obtain⟨h1,h2⟩:=List.nodup_cons.1 hd
  have hx:=h x List.mem_cons_self
  have h3:=qlM (L:=L) (M:=M.erase x) h2 fun y hy=>(List.mem_erase_of_ne (fun (e:y=x)=>by subst e;exact h1 hy)).2 (h y (List.mem_cons_of_mem _ hy))
  rw [List.length_erase_of_mem hx] at h3
  have:=List.length_pos_of_mem hx
  simp only [List.length_cons]
  omega
end Go.Proofs.YtggdgcmjcahbbaaGreatDoor
/-
  A table that is filled from the left.
-/
namespace Go.Proofs.YtggdgcmjcahbbaaGreatDoor
open Go.Sl
def fillL (n:Nat) (f:Nat→Int) (k:Nat):List Int:=(List.range n).map fun i=>if i<k then f i else 0
theorem qcd (n:Nat) (f:Nat→Int) (k:Nat):(fillL n f k).length=n:=by simp [fillL]
theorem qdF (n:Nat) (f:Nat→Int):fillL n f 0=List.replicate n 0:=by
 apply List.ext_getElem (by simp [fillL])
 intro i h1 h2;simp [fillL]
theorem qeE {n:Nat}{f:Nat→Int}{k:Nat}:(fillL n f k).set k (f k)=fillL n f (k+1):=by
 apply List.ext_getElem (by simp [fillL])
 intro i h1 h2
 rw [List.getElem_set]
 simp only [fillL,List.getElem_map,List.getElem_range]
 split
 ·rename_i e;subst e;rw [if_pos (by omega)]
 ·by_cases h:i<k
  ·rw [if_pos h,if_pos (by omega)]
  ·rw [if_neg h,if_neg (by omega)]
theorem qjt {n:Nat}{f:Nat→Int}{k i:Nat}(h:i<n) (hk:i<k):(fillL n f k).getD i tInt.dflt=f i:=by simp [fillL,List.getD,h,hk]
end Go.Proofs.YtggdgcmjcahbbaaGreatDoor
/-
  IDA*, in plain Lean: one round as a recursion with fuel, and what it leaves.
-/
namespace Go.Proofs.YtggdgcmjcahbbaaGreatDoor
open Go.Sl
inductive IR|goOn|solved|unknown
 deriving DecidableEq
structure ISt where
 exp:Nat
 next:Int
 vis:List Int→Option Int
 path:List Int
structure IPar where
 t:TTask
 H:List Int→Int
 lim:Nat
 bound:Int
section
variable {I:IPar}{rec:List Int→Int→ISt→IR × ISt}{s:List Int}{g:Int}{op:Nat}{l:List Nat}{S:ISt}
end
end Go.Proofs.YtggdgcmjcahbbaaGreatDoor
/-
  The visited states of IDA*, kept under texts of bytes.
-/
namespace Go.Proofs.YtggdgcmjcahbbaaGreatDoor
open Go.Sl Go
end Go.Proofs.YtggdgcmjcahbbaaGreatDoor
/-
  The decision tree of the applicable operators, in plain Lean: what is collected in a state.
-/
namespace Go.Proofs.YtggdgcmjcahbbaaGreatDoor
open Go.Sl
end Go.Proofs.YtggdgcmjcahbbaaGreatDoor
/-
  The operators that the decision tree collects are the applicable ones.
-/
namespace Go.Proofs.YtggdgcmjcahbbaaGreatDoor
open Go.Sl
end Go.Proofs.YtggdgcmjcahbbaaGreatDoor
/-
  How a decision tree lies in memory: a node for a list of operators and a variable.
-/
namespace Go.Proofs.YtggdgcmjcahbbaaGreatDoor
open Go.Sl Go
def Qp7 (w0:World) (Γ:List HP) (φ:World→Prop):Prop:=∀ (w:World) (Δ:List HP),Sat w0 w (Δ++Γ)→φ w
end Go.Proofs.YtggdgcmjcahbbaaGreatDoor
/-
  Plans, operator by operator: the states along them and their costs.
-/
namespace Go.Proofs.YtggdgcmjcahbbaaGreatDoor
open Go.Sl
section
variable {t:TTask}
end
end Go.Proofs.YtggdgcmjcahbbaaGreatDoor
/-
  A* with reopening, in plain Lean: what holds of the states that were reached; where nothing waits there is no plan, and a goal state of least f ends a plan of least cost.
-/
namespace Go.Proofs.YtggdgcmjcahbbaaGreatDoor
open Go.Sl
structure AS where
 st:List (List Int)
 g:List Int
 wt:List Bool
section
variable {t:TTask}{H:List Int→Int}{B:Option Int}{S:AS}
end
end Go.Proofs.YtggdgcmjcahbbaaGreatDoor
/-
  IDA*, in plain Lean: all rounds; plans are of least cost with an admissible table; without a plan none is found.
-/
namespace Go.Proofs.YtggdgcmjcahbbaaGreatDoor
open Go.Sl
section
variable {t:TTask}{H:List Int→Int}{lim f:Nat}{next:Int}{e:Nat}{bs:List Int}
end
end Go.Proofs.YtggdgcmjcahbbaaGreatDoor
/-
  A* as a function, in plain Lean: the open list in order, reaching a state, the next state, expanding, the run.
-/
namespace Go.Proofs.YtggdgcmjcahbbaaGreatDoor
open Go.Sl
structure APar where
 t:TTask
 H:List Int→Int
 B:Option Int
end Go.Proofs.YtggdgcmjcahbbaaGreatDoor
/-
  The operators along links, in plain Lean.
-/
namespace Go.Proofs.YtggdgcmjcahbbaaGreatDoor
open Go.Sl
end Go.Proofs.YtggdgcmjcahbbaaGreatDoor
/-
  The lists of operators by the values of a variable, step by step.
-/
namespace Go.Proofs.YtggdgcmjcahbbaaGreatDoor
open Go.Sl Go
section
variable {t:TTask}{ops:List Int}{u n k:Nat}
end
end Go.Proofs.YtggdgcmjcahbbaaGreatDoor
/-
  The successors from an operator on; what the reference's round says of the program's.
-/
namespace Go.Proofs.YtggdgcmjcahbbaaGreatDoor
open Go.Sl Go
end Go.Proofs.YtggdgcmjcahbbaaGreatDoor
/-
  What a visit changes in any case: the number of states, the path.
-/
namespace Go.Proofs.YtggdgcmjcahbbaaGreatDoor
open Go.Sl Go
end Go.Proofs.YtggdgcmjcahbbaaGreatDoor
/-
  The delete relaxation, in plain Lean: unary operators, derived values, and the algorithm that finds the least ones.
-/
namespace Go.Proofs.YtggdgcmjcahbbaaGreatDoor
open Go.Sl
structure Un where
 op:Int
 eff:Int
 cost:Int
 makes:Int
 needs:List Int
def dUn:Un:=⟨0,0,0,0,[]⟩
def un (U:List Un) (i:Int):Un:=U.getD i.toNat dUn
inductive Der (U:List Un) (S:Int→Prop):Int→Int→Prop
 | start {f:Int}:S f→Der U S f 0
 | fire {i:Nat}{v:Int→Int}{m:Int}:i<U.length→0≤m→(∀ n∈(un U i).needs,Der U S n (v n))→(∀ n∈(un U i).needs,v n≤m)→Der U S (un U i).makes ((un U i).cost+m)
structure UnOk (U:List Un) (N:Nat):Prop where
 cost:∀ i:Nat,i<U.length→0≤(un U i).cost∧(un U i).cost≤1048576
 makes:∀ i:Nat,i<U.length→0≤(un U i).makes∧(un U i).makes<N
 needs:∀ i:Nat,i<U.length→∀ n∈(un U i).needs,0≤n∧n<N
 nd:∀ i:Nat,i<U.length→(un U i).needs.Nodup
def lft (dn:List Int) (l:List Int):Nat:=(l.filter fun n=>decide (n∉dn)).length
theorem qi8 {dn l:List Int}:lft dn l=0↔∀ n∈l,n∈dn:=by
 unfold lft
 rw [List.length_eq_zero_iff,List.filter_eq_nil_iff]
 simp
theorem qoU (l:List Int):lft [] l=l.length:=by
 unfold lft
 rw [List.filter_eq_self.2 (by simp)]
theorem qk3 {f:Int}{dn:List Int}(hf:f∉dn):∀ {l:List Int},l.Nodup→f∈l→lft dn l=lft (f::dn) l+1
 | [],_,h=>by simp at h
 | x::l,hn,h=>by
  obtain⟨h1,h2⟩:=List.nodup_cons.1 hn
  unfold lft
  by_cases e:x=f
  ·subst e
   rw [List.filter_cons,if_pos (by simp [hf]),List.filter_cons,if_neg (by simp)]
   have hc:(l.filter fun n=>decide (n∉dn))=l.filter fun n=>decide (n∉x::dn):=List.filter_congr fun y hy=>by
    have:y≠x:=fun e=>h1 (by rw [←e];exact hy)
    simp [this]
   rw [hc];rfl
  ·have ih:=qk3 hf h2 (by rcases List.mem_cons.1 h with h|h;exact absurd h.symm e;exact h)
   unfold lft at ih
   by_cases hx:x∈dn
   ·rw [List.filter_cons,if_neg (by simp [hx]),List.filter_cons,if_neg (by simp [hx])];exact ih
   ·rw [List.filter_cons,if_pos (by simp [hx]),List.filter_cons,if_pos (by simp [hx,e])]
    simp only [List.length_cons];omega
theorem qoV {f:Int}{dn l:List Int}(h:f∉l):lft dn l=lft (f::dn) l:=by
 unfold lft
 rw [List.filter_congr fun y hy=>by
  have:y≠f:=fun e=>h (by rw [←e];exact hy)
  show decide (y∉dn)=decide (y∉f::dn)
  simp [this]]
def nedL (U:List Un) (f:Int):List Int:=((List.range U.length).filter fun (i:Nat)=>decide (f∈(un U i).needs)).map fun (i:Nat)=>(i:Int)
theorem qi9 {U:List Un}{f i:Int}:i∈nedL U f↔∃ k:Nat,i=k∧k<U.length∧f∈(un U k).needs:=by
 unfold nedL
 simp only [List.mem_map,List.mem_filter,List.mem_range,decide_eq_true_eq]
 constructor
 ·rintro⟨k,⟨h1,h2⟩,rfl⟩;exact⟨k,rfl,h1,h2⟩
 ·rintro⟨k,rfl,h1,h2⟩;exact⟨k,⟨h1,h2⟩,rfl⟩
theorem qj4 (U:List Un) (f:Int):(nedL U f).Nodup:=by
 unfold nedL
 refine List.Pairwise.map _ (fun a b h => ?_) (List.nodup_range.filter _)
 intro e;exact h (by omega)
structure RI (U:List Un) (S:Int→Prop) (N:Nat) (D lf:List Int) (dn:List Int) (Q:List Item) (m:Int) (f:Int) (ok:Nat→Prop):Prop where
 dl:D.length=N
 ll:lf.length=U.length
 rng:∀ g:Int,0≤g→g<N→0≤dg D g∧dg D g≤inf
 der:∀ g:Int,0≤g→g<N→dg D g<inf→Der U S g (dg D g)
 lft1:∀ i:Nat,i<U.length→ok i→dg lf i=lft dn (un U i).needs
 lft2:∀ i:Nat,i<U.length→¬ok i→f∈(un U i).needs∧dg lf i=lft dn (un U i).needs+1
 low:∀ i:Nat,i<U.length→ok i→(∀ n∈(un U i).needs,n∈dn)→∀ k,0≤k→(∀ n∈(un U i).needs,dg D n≤k)→dg D (un U i).makes≤(un U i).cost+k
 act:∀ g:Int,0≤g→g<N→dg D g<inf→g∉dn→∃ x∈Q,x.state=g∧x.dist=dg D g
 ent:∀ x∈Q,(0≤x.state∧x.state<N)∧dg D x.state≤x.dist∧m≤x.dist∧x.dist<inf
 set:∀ g∈dn,(0≤g∧g<N)∧dg D g≤m
 m0:0≤m
 m1:m<inf
section
variable {U:List Un}{S:Int→Prop}{N:Nat}{D lf dn:List Int}{Q:List Item}{m f:Int}{ok:Nat→Prop}
theorem RI.perm (h:RI U S N D lf dn Q m f ok) {Q':List Item}(hp:Q'.Perm Q):RI U S N D lf dn Q' m f ok :=
 { h with
  act:=fun g a b c d=>let ⟨x,hx,hh⟩:=h.act g a b c d;⟨x,hp.mem_iff.2 hx,hh⟩
  ent:=fun x hx=>h.ent x (hp.mem_iff.1 hx) }
theorem RI.reach (h:RI U S N D lf dn Q m f ok) {g v:Int}(hg:0≤g∧g<N) (hv:v<dg D g) (hm:m≤v) (hd:Der U S g v):RI U S N (D.set g.toNat v) lf dn (⟨v,g⟩::Q) m f ok:=by
 have hr:=h.rng g hg.1 hg.2
 have hm0:=h.m0
 have hgd:g∉dn:=fun hh=>by have:=(h.set g hh).2;omega
 have hlt:g.toNat<D.length:=by rw [h.dl];omega
 have hget:∀ x:Int,0≤x→dg (D.set g.toNat v) x=if x=g then v else dg D x:=fun x hx=>by
  unfold dg
  by_cases e:x=g
  ·rw [if_pos e,e]
   simp [List.getD,hlt]
  ·rw [if_neg e]
   simp only [List.getD]
   rw [List.getElem?_set_ne (by omega)]
 have hle:∀ x:Int,0≤x→dg (D.set g.toNat v) x≤dg D x:=fun x hx=>by
  rw [hget x hx];split
  ·rename_i e;rw [e];omega
  ·exact Int.le_refl _
 refine⟨by simp [h.dl],h.ll,fun x h0 h1 => ?_,fun x h0 h1 h2 => ?_,h.lft1,h.lft2,fun i hi ho hn k hk hk2 => ?_,fun x h0 h1 h2 h3 => ?_,fun x hx => ?_,fun x hx => ?_,h.m0,h.m1⟩
 ·rw [hget x h0];split
  ·exact⟨by omega,by omega⟩
  ·exact h.rng x h0 h1
 ·rw [hget x h0] at h2 ⊢
  split
  ·rename_i e;rw [e];exact hd
  ·rename_i e;rw [if_neg e] at h2;exact h.der x h0 h1 h2
 ·have hmk:(0:Int)≤(un U i).makes∨(un U i).makes<0:=by omega
  have hb:=h.low i hi ho hn k hk fun n hn'=>by
   have:=hk2 n hn'
   have h0:=((h.set n (hn n hn')).1).1
   rw [hget n h0,if_neg (fun e=>hgd (by rw [←e];exact hn n hn'))] at this
   exact this
  rcases hmk with h0|h0
  ·have:=hle _ h0;omega
  ·unfold dg at hb ⊢
   rw [show (un U i).makes.toNat=(0:Int).toNat by omega] at hb ⊢
   have:=hle 0 (Int.le_refl _)
   unfold dg at this
   omega
 ·rw [hget x h0] at h2 ⊢
  by_cases e:x=g
  ·exact⟨⟨v,g⟩,List.mem_cons_self,e.symm,by rw [if_pos e]⟩
  ·rw [if_neg e] at h2 ⊢
   obtain⟨y,hy,h4⟩:=h.act x h0 h1 h2 h3
   exact⟨y,List.mem_cons_of_mem _ hy,h4⟩
 ·rcases List.mem_cons.1 hx with rfl|hx
  ·refine⟨hg,?_,hm,by have:=hr.2;show v<inf;omega⟩
   rw [hget _ hg.1,if_pos rfl];exact Int.le_refl _
  ·obtain⟨e1,e2,e3,e4⟩:=h.ent x hx
   exact⟨e1,by have:=hle x.state e1.1;omega,e3,e4⟩
 ·obtain⟨e1,e2⟩:=h.set x hx
  exact⟨e1,by have:=hle x e1.1;omega⟩
theorem RI.skip {x:Item}(h:RI U S N D lf dn (x::Q) m f ok) (hx:x.state∈dn):RI U S N D lf dn Q m f ok :=
 { h with
  act:=fun g a b c d=>by
   obtain⟨y,hy,h1,h2⟩:=h.act g a b c d
   rcases List.mem_cons.1 hy with rfl|hy
   ·exact absurd (h1 ▸ hx) d
   ·exact⟨y,hy,h1,h2⟩
  ent:=fun y hy=>h.ent y (List.mem_cons_of_mem _ hy) }
theorem RI.take (hU:UnOk U N) {x:Item}(h:RI U S N D lf dn (x::Q) m f fun _=>True) (hx:x.state∉dn) (hmin:∀ y∈Q,x.dist≤y.dist) :
  RI U S N D lf (x.state::dn) Q x.dist x.state (fun i=>x.state∉(un U i).needs)∧dg D x.state=x.dist∧(0≤x.state∧x.state<N)∧0≤x.dist∧x.dist<inf:=by
 obtain⟨e1,e2,e3,e4⟩:=h.ent x List.mem_cons_self
 have hm0:=h.m0
 have hd:dg D x.state=x.dist:=by
  obtain⟨y,hy,h1,h2⟩:=h.act x.state e1.1 e1.2 (by omega) hx
  rcases List.mem_cons.1 hy with rfl|hy
  ·exact h2.symm
  ·have:=hmin y hy;omega
 refine⟨⟨h.dl,h.ll,h.rng,h.der,fun i hi ho => ?_,fun i hi ho => ?_,fun i hi ho hn k hk hk2 => ?_,fun g h0 h1 h2 h3 => ?_,fun y hy => ?_,fun g hg => ?_,by omega,e4⟩,hd,e1,by omega,e4⟩
 ·rw [h.lft1 i hi trivial,qoV ho]
 ·have ho:x.state∈(un U i).needs:=Classical.byContradiction ho
  refine⟨ho,?_⟩
  rw [h.lft1 i hi trivial,qk3 hx (hU.nd i hi) ho]
  rfl
 ·refine h.low i hi trivial (fun n hn' => ?_) k hk hk2
  rcases List.mem_cons.1 (hn n hn') with e|e
  ·exact absurd (e ▸ hn') ho
  ·exact e
 ·obtain⟨y,hy,h4,h5⟩:=h.act g h0 h1 h2 (fun hh=>h3 (List.mem_cons_of_mem _ hh))
  rcases List.mem_cons.1 hy with rfl|hy
  ·exact absurd (by rw [h4];exact List.mem_cons_self) h3
  ·exact⟨y,hy,h4,h5⟩
 ·obtain⟨f1,f2,f3,f4⟩:=h.ent y (List.mem_cons_of_mem _ hy)
  exact⟨f1,f2,hmin y hy,f4⟩
 ·rcases List.mem_cons.1 hg with rfl|hg
  ·exact⟨e1,by omega⟩
  ·obtain⟨f1,f2⟩:=h.set g hg
   exact⟨f1,by omega⟩
theorem RI.count {i:Nat}(hi:i<U.length) (h:RI U S N D lf dn Q m f ok) (hno:¬ok i) (hz:dg lf i-1≠0∨dg D (un U i).makes≤m+(un U i).cost) (hf:dg D f=m):RI U S N D (lf.set i (dg lf i-1)) dn Q m f (fun k=>ok k∨k=i):=by
 obtain⟨hfi,hl⟩:=h.lft2 i hi hno
 have hget:∀ k:Nat,dg (lf.set i (dg lf i-1)) k=if k=i then dg lf i-1 else dg lf k:=fun k=>by
  unfold dg
  by_cases e:k=i
  ·subst e
   rw [if_pos rfl]
   have:k<lf.length:=by rw [h.ll];exact hi
   simp [List.getD,this]
  ·rw [if_neg e]
   simp only [List.getD]
   rw [List.getElem?_set_ne (by omega)]
 refine { h with ll:=by simp [h.ll],lft1:=fun k hk ho => ?_,lft2:=fun k hk ho => ?_,low:=fun k hk ho hn c hc hc2 => ?_ }
 ·rw [hget]
  by_cases e:k=i
  ·subst e;rw [if_pos rfl,hl];omega
  ·rw [if_neg e];exact h.lft1 k hk (ho.resolve_right e)
 ·have e:k≠i:=fun e=>ho (.inr e)
  rw [hget,if_neg e]
  exact h.lft2 k hk fun hh=>ho (.inl hh)
 ·by_cases e:ok k
  ·exact h.low k hk e hn c hc hc2
  ·have e2:k=i:=ho.resolve_left e
   subst e2
   have hz0:=qi8.2 hn
   have:=hc2 f hfi
   rcases hz with hz|hz
   ·omega
   ·omega
theorem RI.fin (hU:UnOk U N) (h:RI U S N D lf dn [] m f fun _=>True) (hS:∀ g,S g→0≤g∧g<N∧dg D g≤0):∀ g v,Der U S g v→0≤g→g<N→dg D g≤v:=by
 have hdn:∀ g:Int,0≤g→g<N→dg D g<inf→g∈dn:=fun g h0 h1 h2=>by
  apply Classical.byContradiction
  intro hn
  obtain⟨x,hx,_⟩:=h.act g h0 h1 h2 hn
  simp at hx
 intro g v hd
 induction hd with
 | start hs=>intro _ _;exact (hS _ hs).2.2
 | @fire i v m hi hm hn hle ih =>
  intro h0 h1
  have hr:=h.rng _ h0 h1
  have hc:=(hU.cost i hi).1
  by_cases hall:∀ n∈(un U i).needs,dg D n<inf
  ·refine h.low i hi trivial (fun n hn' => ?_) m hm fun n hn' => ?_
   ·have hb:=hU.needs i hi n hn'
    exact hdn n hb.1 hb.2 (hall n hn')
   ·have hb:=hU.needs i hi n hn'
    have:=ih n hn' hb.1 hb.2
    have:=hle n hn'
    omega
  ·have:∃ n,n∈(un U i).needs∧¬dg D n<inf:=by
    apply Classical.byContradiction
    intro hh
    exact hall fun n hn'=>Classical.byContradiction fun h3=>hh ⟨n,hn',h3⟩
   obtain⟨n,hn',h3⟩:=this
   have hb:=hU.needs i hi n hn'
   have:=ih n hn' hb.1 hb.2
   have:=hle n hn'
   omega
theorem RI.fired {i:Nat}(hi:i<U.length) (h:RI U S N D lf dn Q m f ok) (hno:¬ok i) (hz:dg lf i-1=0) (hb:∀ n∈(un U i).needs,0≤n∧n<N):Der U S (un U i).makes (m+(un U i).cost):=by
 obtain⟨hfi,hl⟩:=h.lft2 i hi hno
 have hz0:lft dn (un U i).needs=0:=by omega
 have hall:=qi8.1 hz0
 rw [Int.add_comm]
 have hm1:=h.m1
 refine .fire (v:=dg D) hi h.m0 (fun n hn => ?_) fun n hn => ?_
 ·obtain⟨e1,e2⟩:=h.set n (hall n hn)
  exact h.der n e1.1 e1.2 (by omega)
 ·exact (h.set n (hall n hn)).2
end
end Go.Proofs.YtggdgcmjcahbbaaGreatDoor
/-
  The heuristic hmax, in plain Lean: the unary operators of a task, their values; consistent, 0 in goal states.
-/
namespace Go.Proofs.YtggdgcmjcahbbaaGreatDoor
open Go.Sl
def firstV (vars:List Int) (v:Nat):Int:=(vars.take v).foldl (·+·) 0
def numF (vars:List Int) (f:Fact):Int:=firstV vars f.var.toNat+f.val
def addN (acc:List Int) (n:Int):List Int:=if n∈acc then acc else acc++[n]
def needsL (vars:List Int) (l:List Fact) (acc:List Int):List Int:=l.foldl (fun acc f=>addN acc (numF vars f)) acc
theorem qiA (vars:List Int):firstV vars 0=0:=rfl
theorem qbC {vars:List Int}{v:Nat}(h:v<vars.length):firstV vars (v+1)=firstV vars v+vars.getD v tInt.dflt:=by
 unfold firstV
 rw [qal tInt.dflt h,List.foldl_append];rfl
theorem qb0 {vars:List Int}(hp:∀ x∈vars,1≤x) {a:Nat}:∀ {b:Nat},a≤b→b≤vars.length→firstV vars a≤firstV vars b
 | 0,h,_=>by rw [show a=0 by omega];exact Int.le_refl _
 | b+1,h,hb=>by
  by_cases e:a=b+1
  ·rw [e];exact Int.le_refl _
  ·have:=qb0 hp (a:=a) (b:=b) (by omega) (by omega)
   have h2:=hp _ (qah tInt.dflt (show b<vars.length by omega))
   rw [qbC (by omega)];omega
theorem qcj {vars:List Int}(hp:∀ x∈vars,1≤x) {b:Nat}(hb:b≤vars.length):0≤firstV vars b:=qb0 hp (a:=0) (Nat.zero_le _) hb
theorem qdp {vars:List Int}(hp:∀ i,i<vars.length→vars.getD i tInt.dflt≤64):∀ {b:Nat},b≤vars.length→firstV vars b≤64*(b:Int)
 | 0,_=>by rw [qiA];omega
 | b+1,hb=>by
  have:=qdp hp (b:=b) (by omega)
  have:=hp b (by omega)
  rw [qbC (by omega)];omega
theorem qcA {vars:List Int}(hp:∀ x∈vars,1≤x) {f:Fact}(h:FactOk vars f):0≤numF vars f∧numF vars f<firstV vars vars.length:=by
 obtain⟨h0,h1,h2,h3⟩:=h
 have hv:f.var.toNat<vars.length:=by omega
 have a:=qcj hp (b:=f.var.toNat) (by omega)
 have b:=qb0 hp (a:=f.var.toNat+1) (b:=vars.length) (by omega) (Nat.le_refl _)
 rw [qbC hv] at b
 unfold numF
 omega
theorem qiB {vars:List Int}(hp:∀ x∈vars,1≤x) {v:Nat}(hv:v<vars.length) {x:Int}(h0:0≤x) (h1:x<vars.getD v tInt.dflt):0≤firstV vars v+x∧firstV vars v+x<firstV vars vars.length:=by
 have a:=qcj hp (b:=v) (by omega)
 have b:=qb0 hp (a:=v+1) (b:=vars.length) (by omega) (Nat.le_refl _)
 rw [qbC hv] at b
 omega
theorem qnM {acc:List Int}{n x:Int}:x∈addN acc n↔x∈acc∨x=n:=by
 unfold addN
 split
 ·rename_i h
  exact⟨.inl,fun h2=>h2.elim id fun e=>by rw [e];exact h⟩
 ·simp
theorem qkp {acc:List Int}{n:Int}(h:acc.Nodup):(addN acc n).Nodup:=by
 unfold addN
 split
 ·exact h
 ·rename_i hn
  exact List.nodup_append.2 ⟨h,by simp,fun a ha b hb e=>hn (by rw [List.mem_singleton.1 hb] at e;rw [←e];exact ha)⟩
theorem qnN (acc:List Int) (n:Int):(addN acc n).length≤acc.length+1:=by
 unfold addN;split <;> simp
theorem qcQ (vars:List Int) (l:List Fact) (f:Fact) (acc:List Int):needsL vars (l++[f]) acc=addN (needsL vars l acc) (numF vars f):=by simp [needsL]
theorem qcB {vars:List Int}{acc:List Int}{x:Int}:∀ {l:List Fact},x∈needsL vars l acc↔x∈acc∨∃ f∈l,numF vars f=x:=by
 intro l
 refine qaw (P:=fun l=>x∈needsL vars l acc↔x∈acc∨∃ f∈l,numF vars f=x) (by simp [needsL]) ?_ l
 intro l f ih
 rw [qcQ,qnM,ih]
 simp only [List.mem_append,List.mem_singleton]
 constructor
 ·rintro ((h|⟨g,h1,h2⟩)|h)
  ·exact .inl h
  ·exact .inr ⟨g,.inl h1,h2⟩
  ·exact .inr ⟨f,.inr rfl,h.symm⟩
 ·rintro (h|⟨g,h1|h1,h2⟩)
  ·exact .inl (.inl h)
  ·exact .inl (.inr ⟨g,h1,h2⟩)
  ·exact .inr (by rw [←h2,h1])
theorem qbH {vars:List Int}{acc:List Int}(h:acc.Nodup) (l:List Fact):(needsL vars l acc).Nodup:=by
 refine qaw (P:=fun l=>(needsL vars l acc).Nodup) h ?_ l
 intro l f ih
 rw [qcQ];exact qkp ih
def unE (vars:List Int) (i:Nat) (o:TOp) (k:Nat):Un:=⟨i,k,o.cost,numF vars ⟨(o.effs.getD k dEff).var,(o.effs.getD k dEff).val⟩,needsL vars (o.effs.getD k dEff).when (needsL vars o.pre [])⟩
def unO (vars:List Int) (i:Nat) (o:TOp) (m:Nat):List Un:=(List.range m).map (unE vars i o)
def unK (t:TTask) (k:Nat):List Un:=(List.range k).flatMap fun i=>unO t.vars i (t.ops.getD i dOp) (t.ops.getD i dOp).effs.length
def unT (t:TTask):List Un:=unK t t.ops.length
theorem qnO (vars:List Int) (i:Nat) (o:TOp) (m:Nat):unO vars i o (m+1)=unO vars i o m++[unE vars i o m]:=by simp [unO,List.range_succ]
theorem qjC (t:TTask) (k:Nat):unK t (k+1)=unK t k++unO t.vars k (t.ops.getD k dOp) (t.ops.getD k dOp).effs.length:=by simp [unK,List.range_succ]
theorem qpl {t:TTask}{k:Nat}{u:Un}:u∈unK t k↔∃ i j,i<k∧j<(t.ops.getD i dOp).effs.length∧u=unE t.vars i (t.ops.getD i dOp) j:=by
 simp only [unK,unO,List.mem_flatMap,List.mem_range,List.mem_map]
 constructor
 ·rintro⟨i,h1,j,h2,rfl⟩;exact⟨i,j,h1,h2,rfl⟩
 ·rintro⟨i,j,h1,h2,rfl⟩;exact⟨i,h1,j,h2,rfl⟩
theorem ql1 (vars:List Int) (i:Nat) (o:TOp) (m:Nat):(unO vars i o m).length=m:=by simp [unO]
theorem qiC {t:TTask}(hg:GoodT t):∀ {k:Nat},k≤t.ops.length→(unK t k).length≤64*k
 | 0,_=>by simp [unK]
 | k+1,h=>by
  have:=qiC hg (k:=k) (by omega)
  have:=(hg.op k (by omega)).effs
  rw [qjC,List.length_append,ql1];omega
def factN (t:TTask):Nat:=(firstV t.vars t.vars.length).toNat
theorem qdq {t:TTask}(hg:GoodT t):(factN t:Int)=firstV t.vars t.vars.length:=by
 have:=qcj hg.pos (b:=t.vars.length) (Nat.le_refl _)
 unfold factN;omega
theorem qjD {t:TTask}(hg:GoodT t):factN t≤4096:=by
 have h1:=qdp (fun i hi=>(hg.dom i hi).2) (Nat.le_refl t.vars.length)
 have h2:=hg.vars
 unfold factN;omega
theorem qjE {U:List Un}{i:Nat}(h:i<U.length):un U i∈U:=qah dUn h
theorem qoN {t:TTask}(hg:GoodT t):UnOk (unT t) (factN t):=by
 have key:∀ u∈unT t,(0≤u.cost∧u.cost≤1048576)∧(0≤u.makes∧u.makes<factN t)∧(∀ n∈u.needs,0≤n∧n<factN t)∧u.needs.Nodup:=by
  intro u hu
  obtain⟨i,j,hi,hj,rfl⟩:=qpl.1 hu
  have ho:=hg.op i hi
  have he:=qaL (ho.eff j hj)
  rw [qdq hg]
  refine⟨⟨ho.cost0,ho.cost1⟩,qcA hg.pos he,fun n hn => ?_,qbH (qbH List.nodup_nil _) _⟩
  have hw:=(ho.eff j hj).1
  rcases qcB.1 hn with h|⟨f,hf,rfl⟩
  ·rcases qcB.1 h with h|⟨f,hf,rfl⟩
   ·simp at h
   ·obtain⟨k,hk,rfl⟩:=List.getElem_of_mem hf
    have:=(ho.pre k hk).1
    rw [qak hk] at this
    exact qcA hg.pos this
  ·obtain⟨k,hk,rfl⟩:=List.getElem_of_mem hf
   have:=(hw k hk).1
   rw [qak hk] at this
   exact qcA hg.pos this
 exact⟨fun i hi=>(key _ (qjE hi)).1,fun i hi=>(key _ (qjE hi)).2.1,fun i hi=>(key _ (qjE hi)).2.2.1,fun i hi=>(key _ (qjE hi)).2.2.2⟩
def StF (vars s:List Int) (f:Int):Prop:=∃ v:Nat,v<vars.length∧f=firstV vars v+s.getD v tInt.dflt
structure IsHM (t:TTask) (s out:List Int):Prop where
 len:out.length=factN t
 rng:∀ g:Int,0≤g→g<factN t→0≤dg out g∧dg out g≤inf
 der:∀ g:Int,0≤g→g<factN t→dg out g<inf→Der (unT t) (StF t.vars s) g (dg out g)
 low:∀ g v,Der (unT t) (StF t.vars s) g v→0≤g→g<factN t→dg out g≤v
def maxG (vars:List Int) (goal:List Fact) (out:List Int):Int:=goal.foldl (fun m f=>max m (dg out (numF vars f))) 0
theorem ql2 (vars:List Int) (l:List Fact) (f:Fact) (out:List Int):maxG vars (l++[f]) out=max (maxG vars l out) (dg out (numF vars f)):=by simp [maxG]
theorem qpm {t:TTask}{s out out':List Int}(h:IsHM t s out) (h':IsHM t s out'):out=out':=by
 apply List.ext_getElem (by rw [h.len,h'.len])
 intro i h1 h2
 have hi:i<factN t:=by rw [←h.len];exact h1
 have a:=h.rng i (by omega) (by omega)
 have a':=h'.rng i (by omega) (by omega)
 have b:=h.der i (by omega) (by omega)
 have b':=h'.der i (by omega) (by omega)
 have c:=fun v hd=>h.low i v hd (by omega) (by omega)
 have c':=fun v hd=>h'.low i v hd (by omega) (by omega)
 have e:dg out (i:Int)=dg out' (i:Int):=by
  by_cases hx:dg out (i:Int)<inf
  ·have:=c' _ (b hx)
   have:=c _ (b' (by omega))
   omega
  ·by_cases hy:dg out' (i:Int)<inf
   ·have:=c _ (b' hy);omega
   ·omega
 unfold dg at e
 rw [Int.toNat_natCast,qak h1,qak h2] at e
 exact e
end Go.Proofs.YtggdgcmjcahbbaaGreatDoor
/-
  What relax.New lays out: numbers of first facts, the operators that need a fact, those that need nothing; how unary operators lie in memory.
-/
namespace Go.Proofs.YtggdgcmjcahbbaaGreatDoor
open Go.Sl
structure UnV where
 op:Int
 eff:Int
 cost:Int
 makes:Int
 needs:Value
def tUn:Ty UnV:=⟨5,fun u=>[.int .i64 u.op,.int .i64 u.eff,.int .i64 u.cost,.int .i64 u.makes,u.needs],fun _=>rfl,⟨0,0,0,0,.slice none 0 0⟩⟩
instance inTUn1:ShutT tUn:=⟨trivial⟩
structure RUn (w:World) (v:UnV) (u:Un):Prop where
 op:v.op=u.op
 eff:v.eff=u.eff
 cost:v.cost=u.cost
 makes:v.makes=u.makes
 needs:RS tInt w v.needs u.needs
def UnF (vs:List UnV) (us:List Un) (w:World):Prop:=∀ i:Nat,i<us.length→RUn w (eget tUn vs i) (un us i)
def fstL (vars:List Int) (k:Nat):List Int:=(List.range k).map (firstV vars)
theorem qgM (vars:List Int) (k:Nat):(fstL vars k).length=k:=by simp [fstL]
theorem qpA {vars:List Int}{k i:Nat}(h:i<k):(fstL vars k).getD i tInt.dflt=firstV vars i:=by simp [fstL,List.getD,h]
theorem qms (vars:List Int) (k:Nat):fstL vars (k+1)=fstL vars k++[firstV vars k]:=by simp [fstL,List.range_succ]
def nedI (U:List Un) (u:Un) (i N:Nat):List (List Int):=(List.range N).map fun (f:Nat)=>nedL U f++(if (f:Int)∈u.needs.take i then [(U.length:Int)] else [])
def nedR (U:List Un) (N:Nat):List (List Int):=(List.range N).map fun (f:Nat)=>nedL U f
theorem qjS (U:List Un) (u:Un) (i N:Nat):(nedI U u i N).length=N:=by simp [nedI]
theorem qgN (U:List Un) (N:Nat):(nedR U N).length=N:=by simp [nedR]
theorem qpB {U:List Un}{N f:Nat}(h:f<N):(nedR U N).getD f []=nedL U f:=by simp [nedR,List.getD,h]
theorem qoa (N:Nat):nedR [] N=List.replicate N []:=by
 apply List.ext_getElem (by simp [nedR])
 intro i h1 h2
 simp [nedR,nedL]
theorem qmt (U:List Un) (u:Un) (N:Nat):nedI U u 0 N=nedR U N:=by simp [nedI,nedR]
theorem qmu (U:List Un) (u:Un) (f:Int):nedL (U++[u]) f=nedL U f++(if f∈u.needs then [(U.length:Int)] else []):=by
 unfold nedL
 rw [List.length_append,List.length_singleton,List.range_succ,List.filter_append,List.map_append]
 have h1:(List.range U.length).filter (fun (i:Nat)=>decide (f∈(un (U++[u]) i).needs))=(List.range U.length).filter fun (i:Nat)=>decide (f∈(un U i).needs):=List.filter_congr fun i hi=>by
  have hi:=List.mem_range.1 hi
  have:un (U++[u]) i=un U i:=by unfold un;simp [List.getD,List.getElem?_append_left hi]
  rw [this]
 have h2:un (U++[u]) (U.length:Nat)=u:=by unfold un;simp [List.getD]
 rw [h1]
 congr 1
 simp only [List.filter_cons,List.filter_nil]
 rw [h2]
 by_cases h:f∈u.needs
 ·simp [h]
 ·simp [h]
theorem qob (U:List Un) (u:Un) (N:Nat):nedI U u u.needs.length N=nedR (U++[u]) N:=by
 unfold nedI nedR
 refine List.map_congr_left fun f _ => ?_
 rw [qmu,List.take_length]
theorem qmv {U:List Un}{u:Un}{i N f:Nat}(h:f<N):(nedI U u i N).getD f []=nedL U f++(if (f:Int)∈u.needs.take i then [(U.length:Int)] else []):=by simp [nedI,List.getD,h]
theorem qoc {U:List Un}{u:Un}{i N:Nat}(hi:i<u.needs.length) (hn:u.needs.Nodup) (hr:∀ n∈u.needs,0≤n∧n<N):(nedI U u i N).set (u.needs.getD i tInt.dflt).toNat ((nedI U u i N).getD (u.needs.getD i tInt.dflt).toNat []++[(U.length:Int)])=nedI U u (i+1) N:=by
 have hm:=hr _ (qah tInt.dflt hi)
 have hni:u.needs.getD i tInt.dflt∉u.needs.take i:=by
  rw [qak hi]
  intro h
  obtain⟨j,hj,he⟩:=List.getElem_of_mem h
  rw [List.length_take] at hj
  rw [List.getElem_take] at he
  exact absurd he (by
   have:=List.pairwise_iff_getElem.1 hn j i (by omega) hi (by omega)
   exact this)
 have hts:u.needs.take (i+1)=u.needs.take i++[u.needs.getD i tInt.dflt]:=qal tInt.dflt hi
 rw [qmv (by omega),if_neg (by rw [Int.toNat_of_nonneg hm.1];exact hni),List.append_nil]
 apply List.ext_getElem (by simp [nedI])
 intro j h1 h2
 rw [List.getElem_set]
 have hj:j<N:=by simpa [nedI] using h2
 simp only [nedI,List.getElem_map,List.getElem_range]
 rw [hts]
 split
 ·rename_i e
  subst e
  rw [Int.toNat_of_nonneg hm.1,if_pos (by simp)]
 ·rename_i e
  have e2:(j:Int)≠u.needs.getD i tInt.dflt:=fun h=>e (by rw [←h];rfl)
  by_cases h:(j:Int)∈u.needs.take i
  ·rw [if_pos h,if_pos (List.mem_append_left _ h)]
  ·rw [if_neg h,if_neg (by simp only [List.mem_append,List.mem_singleton];exact fun hh=>hh.elim h e2)]
theorem qjT (U:List Un) (f:Int):(nedL U f).length≤U.length:=by
 unfold nedL
 rw [List.length_map]
 exact Nat.le_trans (List.length_filter_le _ _) (by simp)
theorem qiM (U:List Un) (u:Un) (i N f:Nat):((nedI U u i N).getD f []).length≤U.length+1:=by
 by_cases h:f<N
 ·rw [qmv h]
  have:=qjT U f
  split <;> simp <;> omega
 ·simp [nedI,List.getD,h]
def freL (U:List Un):List Int:=((List.range U.length).filter fun (i:Nat)=>decide ((un U i).needs=[])).map fun (i:Nat)=>(i:Int)
theorem qod:freL []=[]:=by simp [freL]
theorem qjU {U:List Un}{i:Int}:i∈freL U↔∃ k:Nat,i=k∧k<U.length∧(un U k).needs=[]:=by
 unfold freL
 simp only [List.mem_map,List.mem_filter,List.mem_range,decide_eq_true_eq]
 constructor
 ·rintro⟨k,⟨h1,h2⟩,rfl⟩;exact⟨k,rfl,h1,h2⟩
 ·rintro⟨k,rfl,h1,h2⟩;exact⟨k,⟨h1,h2⟩,rfl⟩
theorem qjV (U:List Un):(freL U).length≤U.length:=by
 unfold freL
 rw [List.length_map]
 exact Nat.le_trans (List.length_filter_le _ _) (by simp)
theorem qhS (U:List Un) (u:Un):freL (U++[u])=freL U++(if u.needs=[] then [(U.length:Int)] else []):=by
 unfold freL
 rw [List.length_append,List.length_singleton,List.range_succ,List.filter_append,List.map_append]
 have h1:(List.range U.length).filter (fun (i:Nat)=>decide ((un (U++[u]) i).needs=[]))=(List.range U.length).filter fun (i:Nat)=>decide ((un U i).needs=[]):=List.filter_congr fun i hi=>by
  have hi:=List.mem_range.1 hi
  have:un (U++[u]) i=un U i:=by unfold un;simp [List.getD,List.getElem?_append_left hi]
  rw [this]
 have h2:un (U++[u]) (U.length:Nat)=u:=by unfold un;simp [List.getD]
 rw [h1]
 congr 1
 simp only [List.filter_cons,List.filter_nil]
 rw [h2]
 by_cases h:u.needs=[]
 ·simp [h]
 ·simp [h]
theorem qiN {U:List Un}{u:Un}{i:Nat}(h:i<U.length):un (U++[u]) i=un U i:=by unfold un;simp [List.getD,List.getElem?_append_left h]
theorem qiO {U:List Un}{u:Un}:un (U++[u]) (U.length:Nat)=u:=by unfold un;simp [List.getD]
end Go.Proofs.YtggdgcmjcahbbaaGreatDoor
/-
  The start of the relaxation's algorithm; reaching a fact; the end gives the least values.
-/
namespace Go.Proofs.YtggdgcmjcahbbaaGreatDoor
open Go.Sl
def rchD (D:List Int) (g v:Int):List Int:=if v<dg D g then D.set g.toNat v else D
def rchQ (D:List Int) (Q:List Item) (g v:Int):List Item:=if v<dg D g then ⟨v,g⟩::Q else Q
theorem qgK (D:List Int) (Q:List Item) (g v:Int):(rchQ D Q g v).length≤Q.length+1:=by unfold rchQ;split <;> simp
theorem qgL {D:List Int}{N:Nat}(hl:D.length=N) {g v:Int}(hg:0≤g∧g<N) {x:Int}(hx:0≤x):dg (D.set g.toNat v) x=if x=g then v else dg D x:=by
 unfold dg
 by_cases e:x=g
 ·rw [if_pos e,e]
  have hlt:g.toNat<D.length:=by omega
  simp [List.getD,hlt]
 ·rw [if_neg e]
  simp only [List.getD]
  rw [List.getElem?_set_ne (by omega)]
theorem qjQ {D:List Int}{N:Nat}(hl:D.length=N) {g v:Int}(hg:0≤g∧g<N) {x:Int}(hx:0≤x):dg (rchD D g v) x≤dg D x:=by
 unfold rchD
 split
 ·rw [qgL hl hg hx]
  split
  ·rename_i h e;rw [e];omega
  ·exact Int.le_refl _
 ·exact Int.le_refl _
theorem qmp {D:List Int}{N:Nat}(hl:D.length=N) {g v:Int}(hg:0≤g∧g<N):dg (rchD D g v) g≤v:=by
 unfold rchD
 split
 ·rw [qgL hl hg hg.1,if_pos rfl];exact Int.le_refl _
 ·omega
theorem qn9 {D:List Int}{N:Nat}(hl:D.length=N) {g v:Int}(hg:0≤g∧g<N) {x m:Int}(hx:0≤x) (hm:dg D x=m) (hv:m≤v):dg (rchD D g v) x=m:=by
 unfold rchD
 split
 ·rw [qgL hl hg hx]
  split
  ·rename_i h e;rw [←e] at h;omega
  ·exact hm
 ·exact hm
structure RI0 (U:List Un) (S:Int→Prop) (N:Nat) (D:List Int) (Q:List Item):Prop where
 dl:D.length=N
 rng:∀ g:Int,0≤g→g<N→0≤dg D g∧dg D g≤inf
 der:∀ g:Int,0≤g→g<N→dg D g<inf→Der U S g (dg D g)
 act:∀ g:Int,0≤g→g<N→dg D g<inf→∃ x∈Q,x.state=g∧x.dist=dg D g
 ent:∀ x∈Q,(0≤x.state∧x.state<N)∧dg D x.state≤x.dist∧0≤x.dist∧x.dist<inf
section
variable {U:List Un}{S:Int→Prop}{N:Nat}{D lf dn:List Int}{Q:List Item}{m f:Int}{ok:Nat→Prop}
theorem RI0.init (U:List Un) (S:Int→Prop) (N:Nat):RI0 U S N (List.replicate N inf) []:=by
 have h:∀ g:Int,0≤g→g<N→dg (List.replicate N inf) g=inf:=fun g h0 h1=>by
  unfold dg
  have:g.toNat<N:=by omega
  simp [List.getD,List.getElem?_replicate,this]
 exact⟨by simp,fun g h0 h1=>by rw [h g h0 h1];exact⟨by decide,Int.le_refl _⟩,fun g h0 h1 h2=>by rw [h g h0 h1] at h2;exact absurd h2 (Int.lt_irrefl _),fun g h0 h1 h2=>by rw [h g h0 h1] at h2;exact absurd h2 (Int.lt_irrefl _),fun x hx=>by simp at hx⟩
theorem RI0.perm (h:RI0 U S N D Q) {Q':List Item}(hp:Q'.Perm Q):RI0 U S N D Q' :=
 { h with
  act:=fun g a b c=>let ⟨x,hx,hh⟩:=h.act g a b c;⟨x,hp.mem_iff.2 hx,hh⟩
  ent:=fun x hx=>h.ent x (hp.mem_iff.1 hx) }
theorem RI0.rch (h:RI0 U S N D Q) {g v:Int}(hg:0≤g∧g<N) (hv:0≤v) (hd:Der U S g v):RI0 U S N (rchD D g v) (rchQ D Q g v):=by
 unfold rchD rchQ
 by_cases hlt:v<dg D g
 ·rw [if_pos hlt,if_pos hlt]
  have hr:=h.rng g hg.1 hg.2
  have hget:∀ x:Int,0≤x→dg (D.set g.toNat v) x=if x=g then v else dg D x:=fun x hx=>qgL h.dl hg hx
  refine⟨by simp [h.dl],fun x h0 h1 => ?_,fun x h0 h1 h2 => ?_,fun x h0 h1 h2 => ?_,fun x hx => ?_⟩
  ·rw [hget x h0];split
   ·exact⟨by omega,by omega⟩
   ·exact h.rng x h0 h1
  ·rw [hget x h0] at h2 ⊢
   split
   ·rename_i e;rw [e];exact hd
   ·rename_i e;rw [if_neg e] at h2;exact h.der x h0 h1 h2
  ·rw [hget x h0] at h2 ⊢
   by_cases e:x=g
   ·exact⟨⟨v,g⟩,List.mem_cons_self,e.symm,by rw [if_pos e]⟩
   ·rw [if_neg e] at h2 ⊢
    obtain⟨y,hy,h4⟩:=h.act x h0 h1 h2
    exact⟨y,List.mem_cons_of_mem _ hy,h4⟩
  ·rcases List.mem_cons.1 hx with rfl|hx
   ·refine⟨hg,?_,hv,by have:=hr.2;show v<inf;omega⟩
    rw [hget _ hg.1,if_pos rfl];exact Int.le_refl _
   ·obtain⟨e1,e2,e3,e4⟩:=h.ent x hx
    have h5:=hget x.state e1.1
    refine⟨e1,?_,e3,e4⟩
    rw [h5]
    split
    ·rename_i e;rw [e] at e2;omega
    ·exact e2
 ·rw [if_neg hlt,if_neg hlt];exact h
theorem RI0.start (h:RI0 U S N D Q) (hl:lf.length=U.length) (hlf:∀ i:Nat,i<U.length→dg lf i=(un U i).needs.length) (hc:∀ i:Nat,i<U.length→0≤(un U i).cost) (hfree:∀ i:Nat,i<U.length→(un U i).needs=[]→dg D (un U i).makes≤(un U i).cost):RI U S N D lf [] Q 0 0 (fun _=>True):=by
 refine⟨h.dl,hl,h.rng,h.der,fun i hi _=>by rw [hlf i hi,qoU],fun i hi ho=>absurd trivial ho,fun i hi _ hn k hk hk2 => ?_,fun g a b c _=>h.act g a b c,h.ent,fun g hg=>by simp at hg,Int.le_refl _,by decide⟩
 have hnil:(un U i).needs=[]:=by
  cases hx:(un U i).needs with
  | nil=>rfl
  | cons a l=>have:=hn a (by rw [hx];exact List.mem_cons_self);simp at this
 have:=hfree i hi hnil
 omega
theorem RI.okc (h:RI U S N D lf dn Q m f ok) {ok':Nat→Prop}(hk:∀ i,ok i↔ok' i):RI U S N D lf dn Q m f ok':=by
 have:ok=ok':=funext fun i=>propext (hk i)
 rw [←this];exact h
theorem RI.rch (h:RI U S N D lf dn Q m f ok) {g v:Int}(hg:0≤g∧g<N) (hm:m≤v) (hd:Der U S g v):RI U S N (rchD D g v) lf dn (rchQ D Q g v) m f ok:=by
 unfold rchD rchQ
 by_cases hlt:v<dg D g
 ·rw [if_pos hlt,if_pos hlt];exact h.reach hg hlt hm hd
 ·rw [if_neg hlt,if_neg hlt];exact h
end
def dnL (dn:List Int) (N:Nat):List Bool:=(List.range N).map fun (g:Nat)=>decide ((g:Int)∈dn)
theorem qpx (dn:List Int) (N:Nat):(dnL dn N).length=N:=by simp [dnL]
theorem qpy (N:Nat):dnL [] N=List.replicate N false:=by
 apply List.ext_getElem (by simp [dnL])
 intro i h1 h2
 simp [dnL]
theorem qp4 {dn:List Int}{N:Nat}{g:Int}(h0:0≤g) (h1:g<N) {d:Bool}:(dnL dn N).getD g.toNat d=decide (g∈dn):=by
 have:g.toNat<N:=by omega
 simp [dnL,List.getD,this,Int.toNat_of_nonneg h0]
theorem qpz {dn:List Int}{N:Nat}{g:Int}(h0:0≤g) (h1:g<N):(dnL dn N).set g.toNat true=dnL (g::dn) N:=by
 apply List.ext_getElem (by simp [dnL])
 intro i h2 h3
 have hi:i<N:=by simpa [dnL] using h3
 rw [List.getElem_set]
 simp only [dnL,List.getElem_map,List.getElem_range]
 split
 ·rename_i e
  have:(i:Int)=g:=by omega
  simp [this]
 ·rename_i e
  have:(i:Int)≠g:=by omega
  simp [this]
theorem qb2:∀ {N:Nat}{l:List Int},l.Nodup→(∀ v∈l,0≤v∧v<(N:Int))→l.length≤N
 | 0,l,_,h=>by
  cases l with
  | nil=>exact Nat.le_refl _
  | cons a l=>have:=h a List.mem_cons_self;omega
 | n+1,l,hn,h=>by
  by_cases hm:(n:Int)∈l
  ·have h1:=qb2 (N:=n) (hn.erase (n:Int)) fun v hv=>by
    have hv':=(hn.mem_erase_iff).1 hv
    have:=h v hv'.2
    have:=hv'.1
    omega
   rw [List.length_erase_of_mem hm] at h1
   omega
  ·have:=qb2 (N:=n) hn fun v hv=>by
    have:=h v hv
    have:v≠(n:Int):=fun e=>hm (e ▸ hv)
    omega
   omega
end Go.Proofs.YtggdgcmjcahbbaaGreatDoor
/-
  The heuristic hmax as a function, in plain Lean: it exists for each state, is consistent, and 0 in goal states.
-/
namespace Go.Proofs.YtggdgcmjcahbbaaGreatDoor
open Go.Sl
open Classical in
noncomputable def hmaxH (t:TTask) (s:List Int):Int:=if h:StateOk t.vars s∧∃ out,IsHM t s out then maxG t.vars t.goal (Classical.choose h.2) else 0
theorem qlw {t:TTask}{s out:List Int}(hs:StateOk t.vars s) (h:IsHM t s out):hmaxH t s=maxG t.vars t.goal out:=by
 have hx:StateOk t.vars s∧∃ out,IsHM t s out:=⟨hs,out,h⟩
 unfold hmaxH
 rw [dif_pos hx,qpm (Classical.choose_spec hx.2) h]
theorem qo8 {t:TTask}{s out:List Int}(hl:out.length=factN t) (hr:∀ g:Int,0≤g→g<factN t→0≤dg out g∧dg out g≤inf) (hU:UnOk (unT t) (factN t)) (hs:∀ g,StF t.vars s g→dg out g≤0)
  (hlow:∀ i:Nat,i<(unT t).length→dg out (un (unT t) i).makes≤(un (unT t) i).cost+(un (unT t) i).needs.foldl (fun m n=>max m (dg out n)) 0)
  (hder:∀ g:Int,0≤g→g<factN t→dg out g<inf→Der (unT t) (StF t.vars s) g (dg out g)):IsHM t s out:=by
 have hfm:∀ (l:List Int) (a k:Int),a≤k→(∀ n∈l,dg out n≤k)→l.foldl (fun m n=>max m (dg out n)) a≤k:=by
  intro l
  induction l with
  | nil=>intro a k h _;exact h
  | cons x l ih =>
   intro a k h h2
   exact ih _ _ (Int.max_le.2 ⟨h,h2 x List.mem_cons_self⟩) fun n hn=>h2 n (List.mem_cons_of_mem _ hn)
 refine⟨hl,hr,hder,fun g v hd => ?_⟩
 induction hd with
 | start h=>intro _ _;exact hs _ h
 | @fire i v m hi hm hn hle ih =>
  intro h0 h1
  have h2:=hlow i hi
  have h3:=hfm (un (unT t) i).needs 0 m hm fun n hn'=>by
   have hb:=hU.needs i hi n hn'
   have:=ih n hn' hb.1 hb.2
   have:=hle n hn'
   omega
  omega
end Go.Proofs.YtggdgcmjcahbbaaGreatDoor
