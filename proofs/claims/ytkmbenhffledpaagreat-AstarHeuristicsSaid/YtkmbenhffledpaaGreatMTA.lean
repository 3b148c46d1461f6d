/-
  Several texts as one: TTask, TDefs, TState, TDist, TIda, TPln, TAst, TIda2, THeap, TAstF, TPack, TCheck, TVis, TFill, TReg, TLink, TSucc, TProj, TSucc2, TNode, TProj2, TSys, TWhole, TBy, TRef50, TVis2, TDijk, TRelax, THMax, TUn, TRelax2, THM2, TBron, TLex, TExt, TGrow, TNear, TFind.
-/
import Derived.Test.YtkmbenhffledpaaGreatMSlA
import Derived.Test.YtkmbenhffledpaaGreatMSlB
set_option linter.unusedSimpArgs false
set_option linter.unusedVariables false
/-
  Finite-domain tasks, in plain Lean, and how they lie in memory.
-/
namespace Go.Proofs.YtkmbenhffledpaaGreat
open Go.Sl
structure Fact where
 var:Int
 val:Int
 deriving DecidableEq
def tFact:Ty Fact:=⟨2,fun f=>[.int .i64 f.var,.int .i64 f.val],fun _=>rfl,⟨0,0⟩⟩
instance inTTask1:OneT tFact:=⟨fun x v hv=>by simp only [tFact,List.mem_cons,List.not_mem_nil,or_false] at hv;rcases hv with rfl|rfl <;> rfl⟩
structure Eff where
 when:List Fact
 var:Int
 val:Int
structure TOp where
 name:ByteArray
 cost:Int
 pre:List Fact
 effs:List Eff
structure TTask where
 vars:List Int
 init:List Int
 goal:List Fact
 ops:List TOp
structure EffV where
 when:Value
 var:Int
 val:Int
def tEff:Ty EffV:=⟨3,fun e=>[e.when,.int .i64 e.var,.int .i64 e.val],fun _=>rfl,⟨.slice none 0 0,0,0⟩⟩
structure OpV where
 name:ByteArray
 cost:Int
 pre:Value
 effs:Value
def tOp:Ty OpV:=⟨4,fun o=>[.string o.name,.int .i64 o.cost,o.pre,o.effs],fun _=>rfl,⟨ByteArray.empty,0,.slice none 0 0,.slice none 0 0⟩⟩
instance inTTask2:ShutT tEff:=⟨trivial⟩
instance inTTask3:ShutT tOp:=⟨trivial⟩
def dEff:Eff:=⟨[],0,0⟩
def dOp:TOp:=⟨ByteArray.empty,0,[],[]⟩
structure REff (w:World) (v:EffV) (e:Eff):Prop where
 var:v.var=e.var
 val:v.val=e.val
 when:RS tFact w v.when e.when
structure REffs (w:World) (s:Value) (vs:List EffV) (es:List Eff):Prop where
 rs:RS tEff w s vs
 len:vs.length=es.length
 at_:∀ i,i<es.length→REff w (eget tEff vs i) (es.getD i dEff)
structure ROp (w:World) (v:OpV) (o:TOp):Prop where
 name:v.name=o.name
 size:o.name.size≤9223372036854775807
 cost:v.cost=o.cost
 pre:RS tFact w v.pre o.pre
 effs:∃ vs,REffs w v.effs vs o.effs
structure ROps (w:World) (s:Value) (vs:List OpV) (os:List TOp):Prop where
 rs:RS tOp w s vs
 len:vs.length=os.length
 at_:∀ i,i<os.length→ROp w (eget tOp vs i) (os.getD i dOp)
structure RTask (w:World) (a b c d:Value) (vs:List OpV) (t:TTask):Prop where
 vars:RS tInt w a t.vars
 init:RS tInt w b t.init
 goal:RS tFact w c t.goal
 ops:ROps w d vs t.ops
theorem REff.one {w:World}{v:EffV}{e:Eff}(h:REff w v e):(tEff.enc v).all Value.oneCell'=true:=by
 simp only [tEff,List.all_cons,List.all_nil,Bool.and_true,h.when.one];rfl
theorem ROp.one {w:World}{v:OpV}{o:TOp}(h:ROp w v o):(tOp.enc v).all Value.oneCell'=true:=by
 obtain⟨vs,he⟩:=h.effs
 simp only [tOp,List.all_cons,List.all_nil,Bool.and_true,h.pre.one,he.rs.one];rfl
theorem REffs.at {w0 w:World}{Γ:List HP}{s:Value}{vs:List EffV}{es:List Eff}(h:REffs w0 s vs es) (hw:Sat w0 w Γ):REffs w s vs es :=
 ⟨h.rs.at hw,h.len,fun i hi=>⟨(h.at_ i hi).var,(h.at_ i hi).val,(h.at_ i hi).when.at hw⟩⟩
theorem ROp.at {w0 w:World}{Γ:List HP}{v:OpV}{o:TOp}(h:ROp w0 v o) (hw:Sat w0 w Γ):ROp w v o :=
 ⟨h.name,h.size,h.cost,h.pre.at hw,let ⟨vs,he⟩:=h.effs;⟨vs,he.at hw⟩⟩
theorem ROps.at {w0 w:World}{Γ:List HP}{s:Value}{vs:List OpV}{os:List TOp}(h:ROps w0 s vs os) (hw:Sat w0 w Γ):ROps w s vs os :=
 ⟨h.rs.at hw,h.len,fun i hi=>(h.at_ i hi).at hw⟩
theorem RTask.at {w0 w:World}{Γ:List HP}{a b c d:Value}{vs:List OpV}{t:TTask}(h:RTask w0 a b c d vs t) (hw:Sat w0 w Γ):RTask w a b c d vs t :=
 ⟨h.vars.at hw,h.init.at hw,h.goal.at hw,h.ops.at hw⟩
end Go.Proofs.YtkmbenhffledpaaGreat
/-
  When a task is right, in plain Lean.
-/
namespace Go.Proofs.YtkmbenhffledpaaGreat
open Go.Sl
theorem qak {α:Type}{xs:List α}{i:Nat}(d:α) (h:i<xs.length):xs.getD i d∈xs:=by simp [List.getD,h]
theorem qaj {α:Type}{l:List α}{d:α}{i:Nat}(h:i<l.length):l.getD i d=l[i]:=by simp [List.getD,h]
theorem iffF {p:Prop}(h:¬p):(false=true)↔p:=⟨(fun e=>by cases e),fun e=>absurd e h⟩
theorem iffT {p:Prop}(h:p):(true=true)↔p:=⟨fun _=>h,fun _=>rfl⟩
def StateOk (vars s:List Int):Prop:=s.length=vars.length∧∀ i,i<s.length→0≤s.getD i tInt.dflt∧s.getD i tInt.dflt<vars.getD i tInt.dflt
def FactOk (vars:List Int) (x:Fact):Prop:=0≤x.var∧x.var<vars.length∧0≤x.val∧x.val<vars.getD x.var.toNat tInt.dflt
def FactsOk (vars:List Int) (f:List Fact):Prop:=∀ i,i<f.length→FactOk vars (f.getD i tFact.dflt)∧(0<i→(f.getD (i-1) tFact.dflt).var<(f.getD i tFact.dflt).var)
def NameOk (b:ByteArray):Prop:=b.size≤256∧∀ i,i<b.size→32≤bat b i∧bat b i≤126
def EffOk (vars:List Int) (e:Eff):Prop:=FactsOk vars e.when∧FactsOk vars [⟨e.var,e.val⟩]
structure OpOk (vars:List Int) (o:TOp):Prop where
 cost0:0≤o.cost
 cost1:o.cost≤1048576
 effs:o.effs.length≤64
 name:NameOk o.name
 pre:FactsOk vars o.pre
 eff:∀ i,i<o.effs.length→EffOk vars (o.effs.getD i dEff)
structure GoodT (t:TTask):Prop where
 vars:t.vars.length≤64
 ops:t.ops.length≤4096
 dom:∀ i,i<t.vars.length→1≤t.vars.getD i tInt.dflt∧t.vars.getD i tInt.dflt≤64
 init:StateOk t.vars t.init
 goal:FactsOk t.vars t.goal
 op:∀ i,i<t.ops.length→OpOk t.vars (t.ops.getD i dOp)
def prodL (vars:List Int):Int:=vars.foldl (·*·) 1
structure SmallT (t:TTask):Prop where
 good:GoodT t
 vars:t.vars.length≤12
 ops:t.ops.length≤20
 effs:∀ i,i<t.ops.length→(t.ops.getD i dOp).effs.length≤8
 many:prodL t.vars≤512
def HoldF (s:List Int) (x:Fact):Prop:=0≤x.var∧x.var<s.length∧s.getD x.var.toNat tInt.dflt=x.val
def HoldFs (s:List Int) (f:List Fact):Prop:=∀ i,i<f.length→HoldF s (f.getD i tFact.dflt)
theorem qbq (l:List Int) (x:Int):prodL (l++[x])=prodL l*x:=by simp [prodL]
theorem qan {α:Type}{l:List α}{k:Nat}(d:α) (h:k<l.length):l.take (k+1)=l.take k++[l.getD k d]:=by
 rw [List.take_succ_eq_append_getElem h];simp [List.getD,h]
theorem qbW {l:List Int}(h:∀ x∈l,1≤x):1≤prodL l:=by
 have key:∀ (l:List Int) (a:Int),1≤a→(∀ x∈l,1≤x)→1≤l.foldl (·*·) a:=by
  intro l
  induction l with
  | nil=>intro a ha _;exact ha
  | cons x l ih =>
   intro a ha hl
   refine ih (a*x) ?_ fun y hy=>hl y (List.mem_cons_of_mem _ hy)
   have hx:=hl x List.mem_cons_self
   have:=Int.mul_le_mul ha hx (by omega) (by omega)
   simpa using this
 exact key l 1 (Int.le_refl _) h
theorem qhA {l m:List Int}(hm:∀ x∈m,1≤x) (hl:∀ x∈l,1≤x):prodL l≤prodL (l++m):=by
 induction m generalizing l with
 | nil=>simp
 | cons x m ih =>
  have h1:=ih (l:=l++[x]) (fun y hy=>hm y (List.mem_cons_of_mem _ hy)) (fun y hy=>by
   rcases List.mem_append.1 hy with h|h
   ·exact hl y h
   ·rw [List.mem_singleton.1 h];exact hm x List.mem_cons_self)
  rw [qbq] at h1
  have h2:=qbW hl
  have h3:=hm x List.mem_cons_self
  have h4:prodL l*1≤prodL l*x:=Int.mul_le_mul_of_nonneg_left h3 (by omega)
  have e:l++[x]++m=l++x::m:=by simp
  rw [e] at h1
  omega
end Go.Proofs.YtkmbenhffledpaaGreat
/-
  States of a task, their ranks, the steps between them, in plain Lean.
-/
namespace Go.Proofs.YtkmbenhffledpaaGreat
open Go.Sl
def mix (ds:List (Int × Int)):Int:=ds.foldl (fun n d=>n*d.1+d.2) 0
theorem qfg (l:List (Int × Int)) (d:Int × Int):mix (l++[d])=mix l*d.1+d.2:=by simp [mix]
def DigOk (ds:List (Int × Int)):Prop:=∀ d∈ds,0≤d.2∧d.2<d.1
theorem qaC {α:Type}{P:List α→Prop}(h0:P []) (h1:∀ l x,P l→P (l++[x])) (l:List α):P l:=by
 have:∀ n,∀ l:List α,l.length=n→P l:=by
  intro n
  induction n with
  | zero=>intro l hl;rw [List.length_eq_zero_iff.1 hl];exact h0
  | succ n ih =>
   intro l hl
   have hne:l≠[]:=fun h=>by simp [h] at hl
   rw [←List.dropLast_concat_getLast hne]
   exact h1 _ _ (ih _ (by simp [hl]))
 exact this _ l rfl
theorem qnJ {ds:List (Int × Int)}:DigOk ds→0≤mix ds∧mix ds<prodL (ds.map (·.1)):=by
 refine qaC (P:=fun ds=>DigOk ds→0≤mix ds∧mix ds<prodL (ds.map (·.1))) ?_ ?_ ds
 ·intro _;decide
 ·intro l d ih h
  obtain⟨a,b⟩:=ih fun x hx=>h x (List.mem_append_left _ hx)
  obtain⟨c,e⟩:=h d (List.mem_append_right _ (List.mem_singleton.2 rfl))
  rw [qfg,List.map_append,List.map_cons,List.map_nil,qbq]
  have h1:0≤mix l*d.1:=Int.mul_nonneg a (by omega)
  have h2:(mix l+1)*d.1≤prodL (l.map (·.1))*d.1:=Int.mul_le_mul_of_nonneg_right (by omega) (by omega)
  rw [Int.add_mul] at h2
  omega
theorem qsm {ds:List (Int × Int)}:∀ {es:List (Int × Int)},DigOk ds→DigOk es→ds.map (·.1)=es.map (·.1)→mix ds=mix es→ds=es:=by
 refine qaC (P:=fun ds=>∀ {es:List (Int × Int)},DigOk ds→DigOk es→ds.map (·.1)=es.map (·.1)→mix ds=mix es→ds=es) ?_ ?_ ds
 ·intro es _ _ h _
  simpa using h.symm
 ·intro l d ih es h1 h2 hm he
  have hne:es≠[]:=fun h=>by simp [h] at hm
  obtain⟨m,f,rfl⟩:∃ m f,es=m++[f]:=⟨_,_,(List.dropLast_concat_getLast hne).symm⟩
  simp only [List.map_append,List.map_cons,List.map_nil] at hm
  obtain⟨hm1,hm2⟩:=List.append_inj' hm rfl
  have hm3:d.1=f.1:=by simpa using hm2
  rw [qfg,qfg] at he
  obtain⟨a,b⟩:=h1 d (by simp)
  obtain⟨a',b'⟩:=h2 f (by simp)
  have hq:mix l=mix m:=by
   have e1:(mix l*d.1+d.2) / d.1=mix l:=by
    rw [Int.add_comm,Int.add_mul_ediv_right _ _ (by omega),Int.ediv_eq_zero_of_lt a b];omega
   have e2:(mix m*f.1+f.2) / f.1=mix m:=by
    rw [Int.add_comm,Int.add_mul_ediv_right _ _ (by omega),Int.ediv_eq_zero_of_lt a' b'];omega
   rw [he,hm3,e2] at e1;exact e1.symm
  rw [hq,hm3] at he
  have:d.2=f.2:=by omega
  rw [ih (fun x hx=>h1 x (by simp [hx])) (fun x hx=>h2 x (by simp [hx])) hm1 hq,Prod.ext hm3 this]
def rankL (vars s:List Int):Int:=mix (vars.zip s)
theorem qez {vars s:List Int}(h:s.length=vars.length) (k x:Int):rankL (vars++[k]) (s++[x])=rankL vars s*k+x:=by
 unfold rankL;rw [List.zip_append h.symm,List.zip_cons_cons,List.zip_nil_right,qfg]
theorem StateOk.dig {vars s:List Int}(h:StateOk vars s):DigOk (vars.zip s):=by
 intro d hd
 obtain⟨i,hi,rfl⟩:=List.getElem_of_mem hd
 rw [List.length_zip] at hi
 have:=h.2 i (by omega)
 rw [qaj (by omega),qaj (by omega)] at this
 simpa using this
theorem qkq {a b:List Int}(h:b.length=a.length):(a.zip b).map (·.1)=a:=by
 have:=List.map_fst_zip (l₁:=a) (l₂:=b) (by omega)
 exact this
theorem qaQ {vars s:List Int}(h:StateOk vars s):0≤rankL vars s∧rankL vars s<prodL vars:=by
 have:=qnJ h.dig
 rwa [qkq h.1] at this
theorem zip_inj {a b c:List Int}(h1:b.length=a.length) (h2:c.length=a.length) (h:a.zip b=a.zip c):b=c:=by
 have e1:=List.map_snd_zip (l₁:=a) (l₂:=b) (by omega)
 have e2:=List.map_snd_zip (l₁:=a) (l₂:=c) (by omega)
 rw [←e1,h,e2]
theorem qjb {vars s u:List Int}(h:StateOk vars s) (k:StateOk vars u) (e:rankL vars s=rankL vars u):s=u :=
 zip_inj h.1 k.1 (qsm h.dig k.dig (by rw [qkq h.1,qkq k.1]) e)
def statesS (out:List (List Int)) (k:Int):List (List Int):=out.flatMap fun s=>(List.range k.toNat).map fun (x:Nat)=>s++[(x:Int)]
def statesL (vars:List Int):List (List Int):=vars.foldl statesS [[]]
theorem qcX (vars:List Int) (k:Int):statesL (vars++[k])=statesS (statesL vars) k:=by simp [statesL]
theorem qnK (n k:Nat):(List.range n).flatMap (fun r=>(List.range k).map fun x=>r*k+x)=List.range (n*k):=by
 induction n with
 | zero=>simp
 | succ n ih=>rw [List.range_succ,List.flatMap_append,ih,Nat.succ_mul,List.range_add];simp
theorem qhY {α β:Type}{l:List α}{f g:α→List β}(h:∀ x∈l,f x=g x):l.flatMap f=l.flatMap g:=by
 induction l with
 | nil=>rfl
 | cons x l ih=>rw [List.flatMap_cons,List.flatMap_cons,h x List.mem_cons_self,ih fun y hy=>h y (List.mem_cons_of_mem _ hy)]
theorem qjc {vars s:List Int}{k x:Int}(h:StateOk vars s) (h0:0≤x) (h1:x<k):StateOk (vars++[k]) (s++[x]):=by
 refine⟨by simp [h.1],fun i hi => ?_⟩
 simp only [List.length_append,List.length_cons,List.length_nil] at hi
 simp only [List.getD_eq_getElem?_getD]
 by_cases e:i<s.length
 ·rw [List.getElem?_append_left e,List.getElem?_append_left (by rw [←h.1];exact e)]
  simpa only [List.getD_eq_getElem?_getD] using h.2 i e
 ·have e2:i=s.length:=by omega
  subst e2
  rw [List.getElem?_append_right (Nat.le_refl _),List.getElem?_append_right (by rw [h.1];exact Nat.le_refl _),h.1]
  simpa using ⟨h0,h1⟩
theorem qgX {vars s:List Int}{k:Int}(h:StateOk (vars++[k]) s):∃ s' x,s=s'++[x]∧StateOk vars s'∧0≤x∧x<k:=by
 have hl:=h.1
 simp only [List.length_append,List.length_cons,List.length_nil] at hl
 have hne:s≠[]:=fun e=>by simp [e] at hl
 refine⟨s.dropLast,s.getLast hne,(List.dropLast_concat_getLast hne).symm,?_,?_⟩
 ·refine⟨by simp;omega,fun i hi => ?_⟩
  simp only [List.length_dropLast] at hi
  have:=h.2 i (by omega)
  simp only [List.getD_eq_getElem?_getD] at this ⊢
  rw [List.getElem?_append_left (by omega)] at this
  rw [List.getElem?_dropLast,if_pos (by omega)]
  exact this
 ·have:=h.2 (s.length-1) (by omega)
  simp only [List.getD_eq_getElem?_getD] at this
  rw [List.getElem?_append_right (by omega),show s.length-1-vars.length=0 by omega] at this
  rw [List.getLast_eq_getElem]
  rw [List.getElem?_eq_getElem (by omega)] at this
  simpa using this
theorem qca {vars:List Int}:∀ {s:List Int},s∈statesL vars↔StateOk vars s:=by
 refine qaC (P:=fun vars=>∀ {s:List Int},s∈statesL vars↔StateOk vars s) ?_ ?_ vars
 ·intro s
  simp only [statesL,List.foldl_nil,List.mem_singleton]
  constructor
  ·rintro rfl;exact⟨rfl,fun i hi=>absurd hi (Nat.not_lt_zero _)⟩
  ·intro h;exact List.length_eq_zero_iff.1 h.1
 ·intro l k ih s
  rw [qcX,statesS,List.mem_flatMap]
  constructor
  ·rintro⟨s',hs',h⟩
   obtain⟨x,hx,rfl⟩:=List.mem_map.1 h
   have:=List.mem_range.1 hx
   exact qjc (ih.1 hs') (by omega) (by omega)
  ·intro h
   obtain⟨s',x,rfl,h1,h2,h3⟩:=qgX h
   exact⟨s',ih.2 h1,List.mem_map.2 ⟨x.toNat,List.mem_range.2 (by omega),by rw [Int.toNat_of_nonneg h2]⟩⟩
theorem qeZ {vars:List Int}:(∀ x∈vars,1≤x)→(statesL vars).map (fun s=>(rankL vars s).toNat)=List.range (prodL vars).toNat:=by
 refine qaC (P:=fun vars=>(∀ x∈vars,1≤x)→(statesL vars).map (fun s=>(rankL vars s).toNat)=List.range (prodL vars).toNat) ?_ ?_ vars
 ·intro _;decide
 ·intro l k ih h
  have hk:=h k (by simp)
  have hp:=qbW fun x hx=>h x (List.mem_append_left [k] hx)
  have ih':=ih fun x hx=>h x (by simp [hx])
  rw [qcX,statesS,List.map_flatMap,qbq,Int.toNat_mul (by omega) (by omega),←qnK,←ih',List.flatMap_map]
  refine qhY fun s hs => ?_
  rw [List.map_map]
  refine List.map_congr_left fun x hx => ?_
  have hs':=qca.1 hs
  have hb:=(qaQ hs').1
  simp only [Function.comp]
  rw [qez hs'.1]
  have:0≤rankL l s*k:=Int.mul_nonneg hb (by omega)
  rw [Int.toNat_add this (by omega),Int.toNat_mul hb (by omega)]
  omega
theorem qaK {vars:List Int}(h:∀ x∈vars,1≤x):(statesL vars).length=(prodL vars).toNat:=by
 have:=congrArg List.length (qeZ h)
 simpa using this
theorem qdm {vars:List Int}(h:∀ x∈vars,1≤x) {i:Nat}(hi:i<(statesL vars).length):StateOk vars ((statesL vars).getD i [])∧rankL vars ((statesL vars).getD i [])=i:=by
 have hm:(statesL vars).getD i []∈statesL vars:=qak [] hi
 have hs:=qca.1 hm
 refine⟨hs,?_⟩
 have:=congrArg (fun l=>l[i]?) (qeZ h)
 rw [qaK h] at hi
 simp only [List.getElem?_map] at this
 rw [List.getElem?_range (by omega),List.getElem?_eq_getElem (by rw [qaK h];omega)] at this
 simp only [Option.map_some,Option.some.injEq] at this
 rw [qaj (by rw [qaK h];omega)] at hs ⊢
 have hb:=(qaQ hs).1
 omega
theorem qcs {vars:List Int}(h:∀ x∈vars,1≤x) {s:List Int}(hs:StateOk vars s):(rankL vars s).toNat<(statesL vars).length∧(statesL vars).getD (rankL vars s).toNat []=s:=by
 have hb:=qaQ hs
 have hl:(rankL vars s).toNat<(statesL vars).length:=by rw [qaK h];omega
 refine⟨hl,?_⟩
 obtain⟨h1,h2⟩:=qdm h hl
 exact qjb h1 hs (by omega)
instance (s:List Int) (x:Fact):Decidable (HoldF s x):=by unfold HoldF;infer_instance
instance (s:List Int) (f:List Fact):Decidable (HoldFs s f):=by unfold HoldFs;infer_instance
theorem qa3 {s:List Int}{f:List Fact}:HoldFs s f↔∀ x∈f,HoldF s x:=by
 constructor
 ·intro h x hx
  obtain⟨i,hi,rfl⟩:=List.getElem_of_mem hx
  have:=h i hi
  rwa [qaj hi] at this
 ·intro h i hi;exact h _ (qak _ hi)
def effsL (s:List Int) (effs:List Eff):List Int:=effs.foldl (fun out e=>if HoldFs s e.when then out.set e.var.toNat e.val else out) s
theorem qbC (s:List Int) (l:List Eff) (e:Eff):effsL s (l++[e])=if HoldFs s e.when then (effsL s l).set e.var.toNat e.val else effsL s l:=by simp [effsL]
theorem qdZ (s:List Int) (l:List Eff):(effsL s l).length=s.length:=by
 refine qaC (P:=fun l=>(effsL s l).length=s.length) rfl ?_ l
 intro l e ih;rw [qbC];split <;> simp [ih]
def AppT (t:TTask) (s:List Int) (op:Nat):Prop:=HoldFs s (t.ops.getD op dOp).pre
instance (t:TTask) (s:List Int) (op:Nat):Decidable (AppT t s op):=by unfold AppT;infer_instance
def succT (t:TTask) (s:List Int) (op:Nat):List Int:=effsL s (t.ops.getD op dOp).effs
theorem qaD {vars:List Int}{e:Eff}(h:EffOk vars e):0≤e.var∧e.var<vars.length∧0≤e.val∧e.val<vars.getD e.var.toNat tInt.dflt:=by
 have:=(h.2 0 (Nat.zero_lt_succ _)).1
 exact this
theorem qdK {vars s:List Int}{v x:Int}(h:StateOk vars s) (h2:0≤v) (h0:0≤x) (h1:x<vars.getD v.toNat tInt.dflt):StateOk vars (s.set v.toNat x):=by
 refine⟨by simp [h.1],fun i hi => ?_⟩
 rw [List.length_set] at hi
 simp only [List.getD_eq_getElem?_getD,List.getElem?_set] at h1 ⊢
 split
 ·rename_i e;subst e;rw [if_pos hi];exact⟨h0,h1⟩
 ·simpa only [List.getD_eq_getElem?_getD] using h.2 i hi
theorem qlt {vars s:List Int}{l:List Eff}(hs:StateOk vars s):(∀ e∈l,EffOk vars e)→StateOk vars (effsL s l):=by
 refine qaC (P:=fun l=>(∀ e∈l,EffOk vars e)→StateOk vars (effsL s l)) (fun _=>hs) ?_ l
 intro l e ih h
 have h1:=ih fun x hx=>h x (by simp [hx])
 rw [qbC]
 split
 ·obtain⟨a,b,c,d⟩:=qaD (h e (by simp))
  exact qdK h1 a c d
 ·exact h1
theorem OpOk.mem {vars:List Int}{o:TOp}(h:OpOk vars o):∀ e∈o.effs,EffOk vars e:=by
 intro e he
 obtain⟨i,hi,rfl⟩:=List.getElem_of_mem he
 have:=h.eff i hi
 rwa [qaj hi] at this
theorem GoodT.pos {t:TTask}(h:GoodT t):∀ x∈t.vars,1≤x:=by
 intro x hx
 obtain⟨i,hi,rfl⟩:=List.getElem_of_mem hx
 have:=(h.dom i hi).1
 rwa [qaj hi] at this
theorem qaZ {t:TTask}{s:List Int}{op:Nat}(h:GoodT t) (hs:StateOk t.vars s) (ho:op<t.ops.length):StateOk t.vars (succT t s op):=qlt hs (h.op op ho).mem
structure Edg where
 src:Int
 lab:Int
 dst:Int
 deriving DecidableEq
def tEdg:Ty Edg:=⟨3,fun e=>[.int .i64 e.src,.int .i64 e.lab,.int .i64 e.dst],fun _=>rfl,⟨0,0,0⟩⟩
instance inTState1:OneT tEdg:=⟨fun x v hv=>by simp only [tEdg,List.mem_cons,List.not_mem_nil,or_false] at hv;rcases hv with rfl|rfl|rfl <;> rfl⟩
def stepL (t:TTask) (s:List Int) (i:Nat) (op:Nat):List Edg:=if AppT t s op then [⟨i,op,rankL t.vars (succT t s op)⟩] else []
def edgesJ (t:TTask) (s:List Int) (i j:Nat):List Edg:=(List.range j).flatMap (stepL t s i)
def edgesK (t:TTask) (i:Nat):List Edg:=(List.range i).flatMap fun i=>edgesJ t ((statesL t.vars).getD i []) i t.ops.length
def edgesT (t:TTask):List Edg:=edgesK t (statesL t.vars).length
theorem qkr (t:TTask) (s:List Int) (i:Nat):edgesJ t s i 0=[]:=rfl
theorem qdL (t:TTask) (s:List Int) (i j:Nat):edgesJ t s i (j+1)=edgesJ t s i j++stepL t s i j:=by simp [edgesJ,List.range_succ]
theorem qfE (t:TTask) (i:Nat):edgesK t (i+1)=edgesK t i++edgesJ t ((statesL t.vars).getD i []) i t.ops.length:=by simp [edgesK,List.range_succ]
theorem qg8 (t:TTask) (s:List Int) (i j:Nat):(edgesJ t s i j).length≤j:=by
 induction j with
 | zero=>simp [edgesJ]
 | succ j ih =>
  rw [qdL,List.length_append]
  have:(stepL t s i j).length≤1:=by unfold stepL;split <;> simp
  omega
theorem qg9 (t:TTask) (i:Nat):(edgesK t i).length≤i*t.ops.length:=by
 induction i with
 | zero=>simp [edgesK]
 | succ i ih =>
  rw [qfE,List.length_append,Nat.succ_mul]
  have:=qg8 t ((statesL t.vars).getD i []) i t.ops.length
  omega
theorem qeA {t:TTask}{e:Edg}:e∈edgesT t↔∃ i op,i<(statesL t.vars).length∧op<t.ops.length∧AppT t ((statesL t.vars).getD i []) op∧e=⟨i,op,rankL t.vars (succT t ((statesL t.vars).getD i []) op)⟩:=by
 simp only [edgesT,edgesK,edgesJ,stepL,List.mem_flatMap,List.mem_range]
 constructor
 ·rintro⟨i,hi,op,ho,h⟩
  split at h
  ·rename_i ha;exact⟨i,op,hi,ho,ha,List.mem_singleton.1 h⟩
  ·cases h
 ·rintro⟨i,op,hi,ho,ha,rfl⟩
  exact⟨i,hi,op,ho,by rw [if_pos ha];exact List.mem_singleton.2 rfl⟩
end Go.Proofs.YtkmbenhffledpaaGreat
/-
  Least costs to a goal in a graph of labelled edges, in plain Lean.
-/
namespace Go.Proofs.YtkmbenhffledpaaGreat
open Go.Sl
abbrev inf:Int:=1125899906842624
abbrev dg (D:List Int) (i:Int):Int:=D.getD i.toNat tInt.dflt
abbrev cst (c:List Int) (e:Edg):Int:=c.getD e.lab.toNat tInt.dflt
inductive Walk (E:List Edg) (c:List Int) (G:Int→Prop):Int→Int→Prop
 | goal {a:Int}:G a→Walk E c G a 0
 | step {e:Edg}{k:Int}:e∈E→Walk E c G e.dst k→Walk E c G e.src (cst c e+k)
structure EOk (E:List Edg) (c:List Int) (n:Nat):Prop where
 src:∀ e∈E,0≤e.src∧e.src<n
 dst:∀ e∈E,0≤e.dst∧e.dst<n
 lab:∀ e∈E,0≤e.lab∧e.lab<c.length
 cost:∀ x∈c,0≤x∧x≤1099511627776
theorem EOk.cst {E:List Edg}{c:List Int}{n:Nat}(h:EOk E c n) {e:Edg}(he:e∈E):0≤cst c e∧cst c e≤1099511627776 :=
 h.cost _ (qak tInt.dflt (by have:=h.lab e he;omega))
theorem EOk.getD {E:List Edg}{c:List Int}{n k:Nat}(h:EOk E c n) (hk:k<E.length):(0≤(E.getD k tEdg.dflt).src∧(E.getD k tEdg.dflt).src<n)∧(0≤(E.getD k tEdg.dflt).dst∧(E.getD k tEdg.dflt).dst<n)∧(0≤(E.getD k tEdg.dflt).lab∧(E.getD k tEdg.dflt).lab<c.length)∧0≤Go.Proofs.YtkmbenhffledpaaGreat.cst c (E.getD k tEdg.dflt)∧Go.Proofs.YtkmbenhffledpaaGreat.cst c (E.getD k tEdg.dflt)≤1099511627776 :=
 have hm:=qak tEdg.dflt hk
 ⟨h.src _ hm,h.dst _ hm,h.lab _ hm,h.cst hm⟩
structure DInv (E:List Edg) (c:List Int) (G:Int→Prop) (n:Nat) (D:List Int):Prop where
 len:D.length=n
 rng:∀ i:Nat,i<n→0≤dg D i∧dg D i≤inf
 att:∀ i:Nat,i<n→dg D i<inf→Walk E c G i (dg D i)
 gol:∀ i:Nat,i<n→G i→dg D i=0
def Stab (c:List Int) (D:List Int) (e:Edg):Prop:=dg D e.dst<inf→dg D e.src≤dg D e.dst+cst c e
structure DistOk (E:List Edg) (c:List Int) (G:Int→Prop) (n:Nat) (D:List Int):Prop where
 len:D.length=n
 rng:∀ i:Nat,i<n→0≤dg D i∧dg D i≤inf
 att:∀ i:Nat,i<n→dg D i<inf→Walk E c G i (dg D i)
 low:∀ i:Nat,i<n→∀ k,Walk E c G i k→dg D i≤k
theorem Walk.nonneg {E:List Edg}{c:List Int}{G:Int→Prop}{n:Nat}(h:EOk E c n) {a k:Int}(hw:Walk E c G a k):0≤k:=by
 induction hw with
 | goal _=>omega
 | step he _ ih=>have:=h.cst he;omega
theorem DInv.dist {E:List Edg}{c:List Int}{G:Int→Prop}{n:Nat}{D:List Int}(hE:EOk E c n) (h:DInv E c G n D) (hs:∀ e∈E,Stab c D e):DistOk E c G n D:=by
 refine⟨h.len,h.rng,h.att,?_⟩
 have key:∀ {a k:Int},Walk E c G a k→0≤a→a<n→dg D a≤k:=by
  intro a k hw
  induction hw with
  | @goal a hg =>
   intro h0 h1
   have:=h.gol a.toNat (by omega) (by rw [Int.toNat_of_nonneg h0];exact hg)
   rw [Int.toNat_of_nonneg h0] at this
   omega
  | @step e k he _ ih =>
   intro h0 h1
   have hd:=hE.dst e he
   have hc:=hE.cst he
   have h2:=ih hd.1 hd.2
   have h3:=hs e he
   by_cases h4:dg D e.dst<inf
   ·have:=h3 h4;omega
   ·have:=(h.rng e.src.toNat (by omega)).2
    rw [Int.toNat_of_nonneg h0] at this
    omega
 intro i hi k hw
 exact key hw (by omega) (by omega)
theorem DistOk.goal {E:List Edg}{c:List Int}{G:Int→Prop}{n:Nat}{D:List Int}(h:DistOk E c G n D) {i:Nat}(hi:i<n) (hg:G i):dg D i=0:=by
 have:=h.low i hi 0 (.goal hg)
 have:=h.rng i hi
 omega
theorem DistOk.stab {E:List Edg}{c:List Int}{G:Int→Prop}{n:Nat}{D:List Int}(hE:EOk E c n) (h:DistOk E c G n D) {e:Edg}(he:e∈E):Stab c D e:=by
 intro hl
 have hd:=hE.dst e he
 have hs:=hE.src e he
 have h1:=h.att e.dst.toNat (by omega) (by rw [Int.toNat_of_nonneg hd.1];exact hl)
 rw [Int.toNat_of_nonneg hd.1] at h1
 have h2:=h.low e.src.toNat (by omega) _ (by rw [Int.toNat_of_nonneg hs.1];exact .step he h1)
 rw [Int.toNat_of_nonneg hs.1] at h2
 omega
def sumD (D:List Int):Nat:=(D.map Int.toNat).sum
theorem qiU {v:Int}:∀ {D:List Int}{i:Nat},i<D.length→v.toNat<(D.getD i tInt.dflt).toNat→sumD (D.set i v)<sumD D
 | [],i,h,_=>by simp at h
 | x::D,0,_,h=>by simp [sumD] at h ⊢;omega
 | x::D,i+1,h,h2=>by
  have:=qiU (i:=i) (D:=D) (by simpa using h) (by simpa using h2)
  simp only [sumD,List.set_cons_succ,List.map_cons,List.sum_cons] at this ⊢
  omega
theorem qhM {D:List Int}{a b v:Int}(ha:0≤a) (hb:0≤b) (hl:b<D.length):dg (D.set b.toNat v) a=if a=b then v else dg D a:=by
 simp only [dg,List.getD_eq_getElem?_getD,List.getElem?_set]
 by_cases e:a=b
 ·subst e;rw [if_pos rfl,if_pos rfl,if_pos (by omega)];rfl
 ·rw [if_neg (by omega),if_neg e]
theorem DInv.relax {E:List Edg}{c:List Int}{G:Int→Prop}{n:Nat}{D:List Int}(hE:EOk E c n) (h:DInv E c G n D) {e:Edg}(he:e∈E) (h1:dg D e.dst<inf) (h2:dg D e.dst+cst c e<dg D e.src) :
  DInv E c G n (D.set e.src.toNat (dg D e.dst+cst c e))∧sumD (D.set e.src.toNat (dg D e.dst+cst c e))<sumD D:=by
 have hd:=hE.dst e he
 have hs:=hE.src e he
 have hc:=hE.cst he
 have hl:=h.len
 have r1:=h.rng e.dst.toNat (by omega)
 have r2:=h.rng e.src.toNat (by omega)
 rw [Int.toNat_of_nonneg hd.1] at r1
 rw [Int.toNat_of_nonneg hs.1] at r2
 have hwk:=h.att e.dst.toNat (by omega) (by rw [Int.toNat_of_nonneg hd.1];exact h1)
 rw [Int.toNat_of_nonneg hd.1] at hwk
 have hg:∀ i:Nat,dg (D.set e.src.toNat (dg D e.dst+cst c e)) i=if (i:Int)=e.src then dg D e.dst+cst c e else dg D i:=fun i=>qhM (by omega) hs.1 (by omega)
 refine⟨⟨by simp [hl],fun i hi => ?_,fun i hi hlt => ?_,fun i hi hgo => ?_⟩,qiU (by omega) (by simp only [dg] at *;omega)⟩
 ·rw [hg];split
  ·omega
  ·exact h.rng i hi
 ·rw [hg] at hlt ⊢
  split
  ·rename_i ei;rw [ei,Int.add_comm];exact .step he hwk
  ·rename_i ei;rw [if_neg ei] at hlt;exact h.att i hi hlt
 ·rw [hg];split
  ·rename_i ei
   have:=h.gol i hi hgo
   rw [ei] at this
   omega
  ·exact h.gol i hi hgo
noncomputable def zi (p:Prop):Int:=@ite _ p (Classical.propDecidable _) 0 inf
theorem qex {p:Prop}(h:p):zi p=0:=if_pos h
theorem qhN {p:Prop}(h:¬p):zi p=inf:=if_neg h
theorem qiV {p q:Prop}(h:p↔q):zi p=zi q:=by
 by_cases hp:p
 ·rw [qex hp,qex (h.1 hp)]
 ·rw [qhN hp,qhN (fun hq=>hp (h.2 hq))]
noncomputable def dist0 (G:Int→Prop) (n:Nat):List Int:=(List.range n).map fun (i:Nat)=>zi (G (i:Int))
theorem qdA {G:Int→Prop}{n i:Nat}(hi:i<n):dg (dist0 G n) i=zi (G (i:Int)):=by simp [dg,dist0,List.getD,hi]
theorem qj4 (E:List Edg) (c:List Int) (G:Int→Prop) (n:Nat):DInv E c G n (dist0 G n):=by
 refine⟨by simp [dist0],fun i hi => ?_,fun i hi h => ?_,fun i hi h => ?_⟩
 ·rw [qdA hi]
  by_cases g:G (i:Int)
  ·rw [qex g];exact⟨by decide,by decide⟩
  ·rw [qhN g];exact⟨by decide,by decide⟩
 ·rw [qdA hi] at h ⊢
  by_cases g:G (i:Int)
  ·rw [qex g];exact .goal g
  ·rw [qhN g] at h;omega
 ·rw [qdA hi,qex h]
noncomputable def dist0K (G:Int→Prop) (n k:Nat):List Int:=(List.range n).map fun (i:Nat)=>zi (i<k→G (i:Int))
theorem qhO (G:Int→Prop) (n k:Nat):(dist0K G n k).length=n:=by simp [dist0K]
theorem qgB (G:Int→Prop) (n:Nat):dist0K G n 0=List.replicate n 0:=by
 apply List.ext_getElem (by simp [dist0K])
 intro i h1 h2
 simp only [dist0K,List.getElem_map,List.getElem_range,List.getElem_replicate]
 exact qex fun h=>absurd h (Nat.not_lt_zero _)
theorem qhP (G:Int→Prop) (n:Nat):dist0K G n n=dist0 G n:=by
 unfold dist0K dist0
 refine List.map_congr_left fun i hi=>qiV ⟨fun h=>h (List.mem_range.1 hi),fun h _=>h⟩
theorem qj5 {G:Int→Prop}{n k:Nat}(h:¬G (k:Int)):(dist0K G n k).set k inf=dist0K G n (k+1):=by
 apply List.ext_getElem (by simp [dist0K])
 intro i h1 h2
 rw [List.getElem_set]
 simp only [dist0K,List.getElem_map,List.getElem_range]
 split
 ·rename_i e;subst e;rw [qhN];intro hh;exact h (hh (Nat.lt_succ_self _))
 ·rename_i e;exact qiV ⟨fun hh hi=>hh (by omega),fun hh hi=>hh (by omega)⟩
theorem qnc {G:Int→Prop}{n k:Nat}(h:G (k:Int)):dist0K G n k=dist0K G n (k+1):=by
 unfold dist0K
 refine List.map_congr_left fun i hi=>qiV ⟨fun hh hi => ?_,fun hh hi=>hh (by omega)⟩
 by_cases e:i=k
 ·subst e;exact h
 ·exact hh (by omega)
theorem qgC {G:Int→Prop}{n k:Nat}{v:Int}(h:G (k:Int)):((dist0K G n k).set k v).set k 0=dist0K G n (k+1):=by
 rw [List.set_set,←qnc h]
 apply List.ext_getElem (by simp)
 intro i h1 h2
 rw [List.getElem_set]
 split
 ·rename_i e;subst e
  simp only [dist0K,List.getElem_map,List.getElem_range]
  exact (qex fun h=>absurd h (Nat.lt_irrefl _)).symm
 ·rfl
end Go.Proofs.YtkmbenhffledpaaGreat
/-
  IDA*, in plain Lean: one round as a recursion with fuel, and what it leaves.
-/
namespace Go.Proofs.YtkmbenhffledpaaGreat
open Go.Sl
inductive IR|goOn|solved|unknown
 deriving DecidableEq
structure ISt where
 exp:Nat
 next:Int
 vis:List Int→Option Int
 path:List Int
structure IPar where
 t:TTask
 H:List Int→Int
 lim:Nat
 bound:Int
def opC (t:TTask) (op:Nat):Int:=(t.ops.getD op dOp).cost
def succsL (t:TTask) (s:List Int):List Nat:=(List.range t.ops.length).filter fun op=>decide (AppT t s op)
section
variable {I:IPar}{rec:List Int→Int→ISt→IR × ISt}{s:List Int}{g:Int}{op:Nat}{l:List Nat}{S:ISt}
end
inductive Pln (t:TTask):List Int→List Int→Int→Prop
 | goal {s:List Int}:HoldFs s t.goal→Pln t s [] 0
 | step {s:List Int}{op:Nat}{p:List Int}{c:Int}:op<t.ops.length→AppT t s op→Pln t (succT t s op) p c→Pln t s ((op:Int)::p) (opC t op+c)
theorem qb8 {t:TTask}{s:List Int}{op:Nat}:op∈succsL t s↔op<t.ops.length∧AppT t s op:=by simp [succsL]
theorem qa9 {t:TTask}(hg:GoodT t) {op:Nat}(ho:op<t.ops.length):0≤opC t op∧opC t op≤1048576:=⟨(hg.op op ho).cost0,(hg.op op ho).cost1⟩
theorem Pln.nn {t:TTask}(hg:GoodT t) {s p:List Int}{c:Int}(h:Pln t s p c):0≤c:=by
 induction h with
 | goal _=>exact Int.le_refl _
 | step ho _ _ ih=>have:=qa9 hg ho;omega
end Go.Proofs.YtkmbenhffledpaaGreat
/-
  Plans, operator by operator: the states along them and their costs.
-/
namespace Go.Proofs.YtkmbenhffledpaaGreat
open Go.Sl
def stL (t:TTask) (s:List Int) (p:List Int):List Int:=p.foldl (fun s op=>succT t s op.toNat) s
def coL (t:TTask) (p:List Int):Int:=p.foldl (fun c op=>c+opC t op.toNat) 0
theorem qsS (t:TTask) (s:List Int):stL t s []=s:=rfl
theorem qmc (t:TTask) (s:List Int) (op:Int) (p:List Int):stL t s (op::p)=stL t (succT t s op.toNat) p:=rfl
theorem qmd (t:TTask) (s p:List Int) (op:Int):stL t s (p++[op])=succT t (stL t s p) op.toNat:=by simp [stL]
theorem qeT (t:TTask):coL t []=0:=rfl
theorem qfu (t:TTask) (p:List Int) (op:Int):coL t (p++[op])=coL t p+opC t op.toNat:=by simp [coL]
theorem qgp (t:TTask):∀ (p:List Int) (a b:Int),p.foldl (fun c op=>c+opC t op.toNat) (a+b)=a+p.foldl (fun c op=>c+opC t op.toNat) b
 | [],_,_=>rfl
 | op::p,a,b=>by rw [List.foldl_cons,List.foldl_cons,Int.add_assoc,qgp t p]
theorem qq6 (t:TTask) (op:Int) (p:List Int):coL t (op::p)=opC t op.toNat+coL t p:=by
 unfold coL
 rw [List.foldl_cons,Int.zero_add,←qgp,Int.add_zero]
section
variable {t:TTask}
theorem Pln.fin {s p:List Int}{c:Int}(h:Pln t s p c):HoldFs (stL t s p) t.goal∧c=coL t p:=by
 induction h with
 | goal hh=>exact⟨hh,rfl⟩
 | step _ _ _ ih=>rw [qmc,qq6,Int.toNat_natCast];exact⟨ih.1,by rw [ih.2]⟩
theorem Pln.at_ {s p:List Int}{c:Int}(h:Pln t s p c):∀ {k:Nat},k<p.length→0≤p.getD k tInt.dflt∧(p.getD k tInt.dflt).toNat<t.ops.length∧AppT t (stL t s (p.take k)) (p.getD k tInt.dflt).toNat:=by
 induction h with
 | goal hh=>exact fun h=>absurd h (Nat.not_lt_zero _)
 | @step s op p c ho ha _ ih =>
  intro k hk
  cases k with
  | zero =>
   simp only [List.getD_cons_zero,List.take_zero,qsS,Int.toNat_natCast]
   exact⟨Int.natCast_nonneg _,ho,ha⟩
  | succ k =>
   simp only [List.getD_cons_succ,List.take_succ_cons,qmc,Int.toNat_natCast]
   exact ih (by simpa using hk)
theorem qsf (hg:GoodT t) {s p:List Int}{c:Int}(h:Pln t s p c) (hs:StateOk t.vars s):∀ {k:Nat},k≤p.length→StateOk t.vars (stL t s (p.take k))
 | 0,_=>hs
 | k+1,hk=>by
  rw [qan tInt.dflt (show k<p.length by omega),qmd]
  exact qaZ hg (qsf hg h hs (by omega)) (h.at_ (by omega)).2.1
theorem qiH (hg:GoodT t) {s p:List Int}{c:Int}(h:Pln t s p c):∀ {k:Nat},k≤p.length→0≤coL t (p.take k)∧coL t (p.take k)≤(k:Int)*1048576
 | 0,_=>⟨Int.le_refl _,by simp [coL]⟩
 | k+1,hk=>by
  have ih:=qiH hg h (k:=k) (by omega)
  have h1:=qa9 hg (h.at_ (k:=k) (by omega)).2.1
  rw [qan tInt.dflt (show k<p.length by omega),qfu]
  omega
end
end Go.Proofs.YtkmbenhffledpaaGreat
/-
  A* with reopening, in plain Lean: what holds of the states that were reached; where nothing waits there is no plan, and a goal state of least f ends a plan of least cost.
-/
namespace Go.Proofs.YtkmbenhffledpaaGreat
open Go.Sl
inductive Pth (t:TTask):List Int→List Int→Int→Prop
 | nil:Pth t [] t.init 0
 | snoc {p s:List Int}{c:Int}{op:Nat}:Pth t p s c→op<t.ops.length→AppT t s op→Pth t (p++[(op:Int)]) (succT t s op) (c+opC t op)
theorem Pth.plan {t:TTask}{p s:List Int}{c:Int}(h:Pth t p s c):∀ {q:List Int}{d:Int},Pln t s q d→Pln t t.init (p++q) (c+d):=by
 induction h with
 | nil=>intro q d hq;rw [List.nil_append,Int.zero_add];exact hq
 | @snoc p s c op _ ho ha ih =>
  intro q d hq
  have:=ih (.step ho ha hq)
  rw [List.append_assoc,List.singleton_append,Int.add_assoc]
  exact this
structure AS where
 st:List (List Int)
 g:List Int
 wt:List Bool
def AS.si (S:AS) (i:Nat):List Int:=S.st.getD i []
def AS.gi (S:AS) (i:Nat):Int:=S.g.getD i tInt.dflt
def AS.wi (S:AS) (i:Nat):Bool:=S.wt.getD i false
def CutA (H:List Int→Int) (B:Option Int) (s:List Int) (g:Int):Prop:=inf≤H s∨∃ b,B=some b∧b<g+H s
open Classical in
noncomputable def waitA (H:List Int→Int) (B:Option Int) (s:List Int) (g:Int):Bool:=if CutA H B s g then false else true
theorem qft {H:List Int→Int}{B:Option Int}{s:List Int}{g:Int}:waitA H B s g=false↔CutA H B s g:=by
 unfold waitA;split
 ·rename_i h;exact⟨fun _=>h,fun _=>rfl⟩
 ·rename_i h;exact⟨(fun e=>by cases e),fun e=>absurd e h⟩
def DoneA (t:TTask) (H:List Int→Int) (B:Option Int) (S:AS) (i:Nat):Prop :=
 CutA H B (S.si i) (S.gi i)∨(¬HoldFs (S.si i) t.goal∧∀ op,op<t.ops.length→AppT t (S.si i) op→∃ j,j<S.st.length∧S.si j=succT t (S.si i) op∧S.gi j≤S.gi i+opC t op)
structure AInv (t:TTask) (H:List Int→Int) (B:Option Int) (S:AS) (ex:Nat→Prop):Prop where
 lg:S.g.length=S.st.length
 lw:S.wt.length=S.st.length
 nd:S.st.Nodup
 ok:∀ i,i<S.st.length→StateOk t.vars (S.si i)
 nn:∀ i,i<S.st.length→0≤S.gi i
 init:∃ i,i<S.st.length∧S.si i=t.init∧S.gi i≤0
 path:∀ i,i<S.st.length→∃ p c,Pth t p (S.si i) c∧c≤S.gi i
 done:∀ i,i<S.st.length→S.wi i=false→¬ex i→DoneA t H B S i
section
variable {t:TTask}{H:List Int→Int}{B:Option Int}{S:AS}
theorem front (h:AInv t H B S fun _=>False) (hH:∀ y q d,Pln t y q d→H y<inf∧(B=none∨H y≤d)) {s q:List Int}{d:Int}(hp:Pln t s q d):∀ i,i<S.st.length→S.si i=s →
  (∃ j,j<S.st.length∧S.wi j=true∧∃ q' d',Pln t (S.si j) q' d'∧S.gi j+d'≤S.gi i+d)∨∃ b,B=some b∧b<S.gi i+d:=by
 induction hp with
 | @goal s hg =>
  intro i hi hs
  cases hw:S.wi i
  ·rcases h.done i hi hw id with hc|hc
   ·have h1:=hH s [] 0 (.goal hg)
    rcases hc with hc|⟨b,hb,hc⟩
    ·rw [hs] at hc;omega
    ·rcases h1.2 with e|e
     ·rw [e] at hb;cases hb
     ·rw [hs] at hc;exact .inr ⟨b,hb,by omega⟩
   ·rw [hs] at hc;exact absurd hg hc.1
  ·exact .inl ⟨i,hi,hw,[],0,by rw [hs];exact .goal hg,Int.le_refl _⟩
 | @step s op q d ho ha hq ih =>
  intro i hi hs
  cases hw:S.wi i
  ·rcases h.done i hi hw id with hc|hc
   ·have h1:=hH s _ _ (.step ho ha hq)
    rcases hc with hc|⟨b,hb,hc⟩
    ·rw [hs] at hc;omega
    ·rcases h1.2 with e|e
     ·rw [e] at hb;cases hb
     ·rw [hs] at hc;exact .inr ⟨b,hb,by omega⟩
   ·obtain⟨j,hj,h2,h3⟩:=hc.2 op ho (by rw [hs];exact ha)
    rw [hs] at h2
    rcases ih j hj h2 with ⟨k,h4,h5,q',d',h6,h7⟩|⟨b,hb,h8⟩
    ·exact .inl ⟨k,h4,h5,q',d',h6,by omega⟩
    ·exact .inr ⟨b,hb,by omega⟩
  ·exact .inl ⟨i,hi,hw,_,_,by rw [hs];exact .step ho ha hq,Int.le_refl _⟩
theorem AInv.none (h:AInv t H B S fun _=>False) (hH:∀ y q d,Pln t y q d→H y<inf∧(B=none∨H y≤d)) (hw:∀ j,j<S.st.length→S.wi j=false) {p:List Int}{c:Int}(hp:Pln t t.init p c):∃ b,B=some b∧b<c:=by
 obtain⟨i,hi,hs,hg⟩:=h.init
 rcases front h hH hp i hi hs with ⟨j,hj,h1,_⟩|⟨b,hb,h1⟩
 ·rw [hw j hj] at h1;cases h1
 ·exact⟨b,hb,by omega⟩
theorem AInv.best (h:AInv t H B S fun _=>False) (hH:∀ y q d,Pln t y q d→H y<inf∧H y≤d) (hnn:∀ y,0≤H y) {i:Nat}(hi:i<S.st.length) (hmin:∀ j,j<S.st.length→S.wi j=true→S.gi i+H (S.si i)≤S.gi j+H (S.si j)) {p:List Int}{c:Int}(hp:Pln t t.init p c) (hb:∀ b,B=some b→c≤b):S.gi i≤c:=by
 obtain⟨k,hk,hs,hg⟩:=h.init
 rcases front h (fun y q d hq=>⟨(hH y q d hq).1,.inr (hH y q d hq).2⟩) hp k hk hs with ⟨j,hj,h1,q',d',h2,h3⟩|⟨b,hb',h1⟩
 ·have h4:=hmin j hj h1
  have h5:=(hH _ _ _ h2).2
  have h6:=hnn (S.si i)
  omega
 ·have:=hb b hb';omega
def AS.take (S:AS) (i:Nat):AS:={ S with wt:=S.wt.set i false }
theorem qo6 {l:List Bool}{i j:Nat}{b:Bool}:(l.set i b).getD j false=if i=j∧j<l.length then b else l.getD j false:=by
 simp only [List.getD,List.getElem?_set]
 by_cases h:i=j
 ·subst h
  by_cases h2:i<l.length
  ·simp [h2]
  ·simp [h2]
 ·simp [h]
theorem qsc {l:List Int}{i j:Nat}{b:Int}:(l.set i b).getD j tInt.dflt=if i=j∧j<l.length then b else l.getD j tInt.dflt:=by
 simp only [List.getD,List.getElem?_set]
 by_cases h:i=j
 ·subst h
  by_cases h2:i<l.length
  ·simp [h2]
  ·simp [h2]
 ·simp [h]
theorem AInv.take (h:AInv t H B S fun _=>False) {i:Nat}:AInv t H B (S.take i) (·=i) :=
 ⟨h.lg,by show (S.wt.set i false).length=_;rw [List.length_set];exact h.lw,h.nd,h.ok,h.nn,h.init,h.path,fun j hj hw hne=>by
  have hw':(S.wt.set i false).getD j false=false:=hw
  rw [qo6,if_neg (fun hh=>hne hh.1.symm)] at hw'
  exact h.done j hj hw' id⟩
noncomputable def AS.fresh (S:AS) (H:List Int→Int) (B:Option Int) (s:List Int) (g:Int):AS:=⟨S.st++[s],S.g++[g],S.wt++[waitA H B s g]⟩
noncomputable def AS.lower (S:AS) (H:List Int→Int) (B:Option Int) (i:Nat) (g:Int):AS:=⟨S.st,S.g.set i g,S.wt.set i (waitA H B (S.si i) g)⟩
theorem app_l {α:Type}{l:List α}{x d:α}{i:Nat}(h:i<l.length):(l++[x]).getD i d=l.getD i d:=by simp [List.getD_eq_getElem?_getD,List.getElem?_append_left h]
theorem qbB {α:Type}{l:List α}{x d:α}{i:Nat}(h:i=l.length):(l++[x]).getD i d=x:=by subst h;simp [List.getD_eq_getElem?_getD]
theorem AInv.fresh {ex:Nat→Prop}(h:AInv t H B S ex) {s:List Int}{g:Int}(hn:s∉S.st) (hs:StateOk t.vars s) (hg:0≤g) (hp:∃ p c,Pth t p s c∧c≤g):AInv t H B (S.fresh H B s g) ex:=by
 have hlg:=h.lg
 have hlw:=h.lw
 have hl:(S.fresh H B s g).st.length=S.st.length+1:=by simp [AS.fresh]
 have s1:∀ i,i<S.st.length→(S.fresh H B s g).si i=S.si i:=fun i hi=>app_l hi
 have g1:∀ i,i<S.st.length→(S.fresh H B s g).gi i=S.gi i:=fun i hi=>app_l (by omega)
 have w1:∀ i,i<S.st.length→(S.fresh H B s g).wi i=S.wi i:=fun i hi=>app_l (by omega)
 have s2:(S.fresh H B s g).si S.st.length=s:=qbB rfl
 have g2:(S.fresh H B s g).gi S.st.length=g:=qbB hlg.symm
 have w2:(S.fresh H B s g).wi S.st.length=waitA H B s g:=qbB hlw.symm
 refine⟨by simp [AS.fresh,hlg],by simp [AS.fresh,hlw],?_,fun i hi => ?_,fun i hi => ?_,?_,fun i hi => ?_,fun i hi hw hne => ?_⟩
 ·show (S.st++[s]).Nodup
  rw [List.nodup_append]
  exact⟨h.nd,by simp,fun a ha b hb e=>by rw [List.mem_singleton.1 hb] at e;subst e;exact hn ha⟩
 ·by_cases e:i<S.st.length
  ·rw [s1 i e];exact h.ok i e
  ·obtain rfl:i=S.st.length:=by omega
   rw [s2];exact hs
 ·by_cases e:i<S.st.length
  ·rw [g1 i e];exact h.nn i e
  ·obtain rfl:i=S.st.length:=by omega
   rw [g2];exact hg
 ·obtain⟨i,h1,h2,h3⟩:=h.init
  exact⟨i,by omega,by rw [s1 i h1];exact h2,by rw [g1 i h1];exact h3⟩
 ·by_cases e:i<S.st.length
  ·rw [s1 i e,g1 i e];exact h.path i e
  ·obtain rfl:i=S.st.length:=by omega
   rw [s2,g2];exact hp
 ·by_cases e:i<S.st.length
  ·rw [w1 i e] at hw
   rcases h.done i e hw hne with hc|⟨hc1,hc2⟩
   ·exact .inl (by rw [s1 i e,g1 i e];exact hc)
   ·refine .inr ⟨by rw [s1 i e];exact hc1,fun op ho ha => ?_⟩
    rw [s1 i e] at ha
    obtain⟨j,h1,h2,h3⟩:=hc2 op ho ha
    exact⟨j,by omega,by rw [s1 j h1,s1 i e];exact h2,by rw [g1 j h1,g1 i e];exact h3⟩
  ·obtain rfl:i=S.st.length:=by omega
   rw [w2] at hw
   exact .inl (by rw [s2,g2];exact qft.1 hw)
theorem AInv.lower {ex:Nat→Prop}(h:AInv t H B S ex) {i:Nat}{g:Int}(hi:i<S.st.length) (hlt:g<S.gi i) (hg:0≤g) (hp:∃ p c,Pth t p (S.si i) c∧c≤g):AInv t H B (S.lower H B i g) ex:=by
 have hlg:=h.lg
 have hlw:=h.lw
 have s1:∀ j,(S.lower H B i g).si j=S.si j:=fun j=>rfl
 have g1:∀ j,j≠i→(S.lower H B i g).gi j=S.gi j:=fun j hj=>(qsc (l:=S.g) (b:=g)).trans (if_neg fun hh=>hj hh.1.symm)
 have g2:(S.lower H B i g).gi i=g:=(qsc (l:=S.g) (b:=g)).trans (if_pos ⟨rfl,by omega⟩)
 have w1:∀ j,j≠i→(S.lower H B i g).wi j=S.wi j:=fun j hj=>(qo6 (l:=S.wt) (b:=waitA H B (S.si i) g)).trans (if_neg fun hh=>hj hh.1.symm)
 have w2:(S.lower H B i g).wi i=waitA H B (S.si i) g:=(qo6 (l:=S.wt) (b:=waitA H B (S.si i) g)).trans (if_pos ⟨rfl,by omega⟩)
 have gle:∀ j,(S.lower H B i g).gi j≤S.gi j:=fun j=>by
  by_cases e:j=i
  ·subst e;rw [g2];omega
  ·rw [g1 j e];exact Int.le_refl _
 refine⟨by show (S.g.set i g).length=_;rw [List.length_set];exact hlg,by show (S.wt.set i _).length=_;rw [List.length_set];exact hlw,h.nd,h.ok,fun j hj => ?_,?_,fun j hj => ?_,fun j hj hw hne => ?_⟩
 ·by_cases e:j=i
  ·subst e;rw [g2];exact hg
  ·rw [g1 j e];exact h.nn j hj
 ·obtain⟨k,h1,h2,h3⟩:=h.init
  exact⟨k,h1,h2,Int.le_trans (gle k) h3⟩
 ·by_cases e:j=i
  ·subst e;rw [g2];exact hp
  ·rw [g1 j e];exact h.path j hj
 ·by_cases e:j=i
  ·subst e
   rw [w2] at hw
   exact .inl (by rw [g2];exact qft.1 hw)
  ·rw [w1 j e] at hw
   rcases h.done j hj hw hne with hc|⟨hc1,hc2⟩
   ·exact .inl (by rw [g1 j e];exact hc)
   ·refine .inr ⟨hc1,fun op ho ha => ?_⟩
    obtain⟨k,h1,h2,h3⟩:=hc2 op ho ha
    exact⟨k,h1,h2,by rw [g1 j e];exact Int.le_trans (gle k) h3⟩
theorem AInv.close {i:Nat}(h:AInv t H B S (·=i)) (hd:¬HoldFs (S.si i) t.goal∧∀ op,op<t.ops.length→AppT t (S.si i) op→∃ j,j<S.st.length∧S.si j=succT t (S.si i) op∧S.gi j≤S.gi i+opC t op):AInv t H B S fun _=>False :=
 ⟨h.lg,h.lw,h.nd,h.ok,h.nn,h.init,h.path,fun j hj hw _=>by
  by_cases e:j=i
  ·subst e;exact .inr hd
  ·exact h.done j hj hw e⟩
end
end Go.Proofs.YtkmbenhffledpaaGreat
/-
  IDA*, in plain Lean: all rounds; plans are of least cost with an admissible table; without a plan none is found.
-/
namespace Go.Proofs.YtkmbenhffledpaaGreat
open Go.Sl
section
variable {t:TTask}{H:List Int→Int}{lim f:Nat}{next:Int}{e:Nat}{bs:List Int}
structure HOk (t:TTask) (H:List Int→Int):Prop where
 good:GoodT t
 nn:∀ y,0≤H y
 le:∀ y,H y≤inf
end
end Go.Proofs.YtkmbenhffledpaaGreat
/-
  The plain law of a binary heap over any order: 'up' and 'down' restore the heap, and the first element is a least one.
-/
namespace Go.Proofs.YtkmbenhffledpaaGreat
open Go.Sl
class HOrd {α:Type}(lt:α→α→Bool):Prop where
 asym:∀ a b,lt a b=true→lt b a=false
 trans:∀ a b c,lt b a=false→lt c b=false→lt c a=false
abbrev hle {α:Type}(lt:α→α→Bool) (a b:α):Prop:=lt b a=false
section
variable {α:Type}{d:α}{lt:α→α→Bool}
theorem qbK [HOrd lt] (a:α):hle lt a a:=by
 show lt a a=false
 cases h:lt a a with
 | false=>rfl
 | true=>exact absurd (HOrd.asym a a h) (by rw [h];decide)
theorem qd8 [HOrd lt] {a b c:α}(h1:hle lt a b) (h2:hle lt b c):hle lt a c:=HOrd.trans a b c h1 h2
theorem qjr [HOrd lt] {a b:α}(h:lt a b=true):hle lt a b:=HOrd.asym a b h
abbrev hg (d:α) (xs:List α) (i:Nat):α:=xs.getD i d
def IsHeap (d:α) (lt:α→α→Bool) (xs:List α):Prop:=∀ i,0<i→i<xs.length→hle lt (hg d xs ((i-1) / 2)) (hg d xs i)
def sw (d:α) (xs:List α) (i j:Nat):List α:=(xs.set i (hg d xs j)).set j (hg d xs i)
theorem qe3 (xs:List α) (i j:Nat):(sw d xs i j).length=xs.length:=by simp [sw]
theorem qrR {xs:List α}{i k:Nat}{x:α}(hi:i<xs.length):hg d (xs.set i x) k=if k=i then x else hg d xs k:=by
 simp only [hg,List.getD_eq_getElem?_getD,List.getElem?_set]
 by_cases h:i=k
 ·subst h;simp [hi]
 ·rw [if_neg h,if_neg (Ne.symm h)]
theorem qbh {xs:List α}{i j k:Nat}(hi:i<xs.length) (hj:j<xs.length):hg d (sw d xs i j) k=if k=j then hg d xs i else if k=i then hg d xs j else hg d xs k:=by
 unfold sw
 rw [qrR (by simpa using hj),qrR hi]
theorem qbm {xs:List α}{i j:Nat}(hi:i<xs.length) (hj:j<xs.length):(sw d xs i j).Perm xs:=by
 have h1:hg d xs i=xs[i]:=qaj hi
 have h2:hg d xs j=xs[j]:=qaj hj
 unfold sw
 rw [h1,h2]
 exact List.set_set_perm hi hj
structure UpI (d:α) (lt:α→α→Bool) (xs:List α) (j:Nat):Prop where
 inb:j<xs.length
 rest:∀ i,0<i→i<xs.length→i≠j→hle lt (hg d xs ((i-1) / 2)) (hg d xs i)
 over:∀ i,0<i→i<xs.length→(i-1) / 2=j→0<j→hle lt (hg d xs ((j-1) / 2)) (hg d xs i)
theorem UpI.done {xs:List α}{j:Nat}(h:UpI d lt xs j) (hd:(j-1) / 2=j∨hle lt (hg d xs ((j-1) / 2)) (hg d xs j)):IsHeap d lt xs:=by
 intro i h0 h1
 by_cases hij:i=j
 ·subst hij
  rcases hd with hd|hd
  ·omega
  ·exact hd
 ·exact h.rest i h0 h1 hij
theorem UpI.step [HOrd lt] {xs:List α}{j:Nat}(h:UpI d lt xs j) (hj:(j-1) / 2≠j) (hl:lt (hg d xs j) (hg d xs ((j-1) / 2))=true):UpI d lt (sw d xs ((j-1) / 2) j) ((j-1) / 2):=by
 have hlt:=h.inb
 have hp:(j-1) / 2<xs.length:=by omega
 have h0j:0<j:=by omega
 have hle1:=qjr hl
 refine⟨by rw [qe3];exact hp,fun i h0 h1 hne => ?_,fun i h0 h1 he hpos => ?_⟩
 ·rw [qe3] at h1
  rw [qbh hp hlt,qbh hp hlt]
  by_cases hij:i=j
  ·subst hij
   have e1:¬(i-1) / 2=i:=by omega
   rw [if_neg e1,if_pos rfl,if_pos rfl]
   exact hle1
  ·rw [if_neg hij,if_neg hne]
   by_cases hpj:(i-1) / 2=j
   ·rw [if_pos hpj]
    exact h.over i h0 h1 hpj h0j
   ·rw [if_neg hpj]
    by_cases hpp:(i-1) / 2=(j-1) / 2
    ·rw [if_pos hpp]
     have:=h.rest i h0 h1 hij
     rw [hpp] at this
     exact qd8 hle1 this
    ·rw [if_neg hpp]
     exact h.rest i h0 h1 hij
 ·rw [qe3] at h1
  rw [qbh hp hlt,qbh hp hlt]
  have hr:=h.rest ((j-1) / 2) hpos hp (by omega)
  have e1:¬((j-1) / 2-1) / 2=j:=by omega
  have e2:¬((j-1) / 2-1) / 2=(j-1) / 2:=by omega
  rw [if_neg e1,if_neg e2]
  by_cases hij:i=j
  ·rw [if_pos hij];exact hr
  ·rw [if_neg hij]
   by_cases hip:i=(j-1) / 2
   ·omega
   ·rw [if_neg hip]
    have:=h.rest i h0 h1 hij
    rw [he] at this
    exact qd8 hr this
theorem qig {xs:List α}{x:α}(h:IsHeap d lt xs):UpI d lt (xs++[x]) xs.length:=by
 have hg':∀ k,k<xs.length→hg d (xs++[x]) k=hg d xs k:=fun k hk=>by simp [hg,List.getD_eq_getElem?_getD,List.getElem?_append_left hk]
 refine⟨by simp,fun i h0 h1 hne => ?_,fun i h0 h1 he hp => ?_⟩
 ·simp only [List.length_append,List.length_cons,List.length_nil] at h1
  rw [hg' _ (by omega),hg' _ (by omega)]
  exact h i h0 (by omega)
 ·simp only [List.length_append,List.length_cons,List.length_nil] at h1
  omega
structure DnI (d:α) (lt:α→α→Bool) (xs:List α) (n i:Nat):Prop where
 le:n≤xs.length
 rest:∀ c,0<c→c<n→(c-1) / 2≠i→hle lt (hg d xs ((c-1) / 2)) (hg d xs c)
 over:∀ c,0<c→c<n→(c-1) / 2=i→0<i→hle lt (hg d xs ((i-1) / 2)) (hg d xs c)
def HeapN (d:α) (lt:α→α→Bool) (xs:List α) (n:Nat):Prop:=∀ c,0<c→c<n→hle lt (hg d xs ((c-1) / 2)) (hg d xs c)
theorem DnI.leaf {xs:List α}{n i:Nat}(h:DnI d lt xs n i) (hl:n≤2*i+1):HeapN d lt xs n:=fun c h0 h1=>h.rest c h0 h1 (by omega)
theorem DnI.done [HOrd lt] {xs:List α}{n i j:Nat}(h:DnI d lt xs n i) (hmin:∀ c,0<c→c<n→(c-1) / 2=i→hle lt (hg d xs j) (hg d xs c)) (hle1:hle lt (hg d xs i) (hg d xs j)):HeapN d lt xs n:=by
 intro c h0 h1
 by_cases hc:(c-1) / 2=i
 ·have:=hmin c h0 h1 hc
  rw [hc];exact qd8 hle1 this
 ·exact h.rest c h0 h1 hc
theorem DnI.step [HOrd lt] {xs:List α}{n i j:Nat}(h:DnI d lt xs n i) (hj:j=2*i+1∨j=2*i+2) (hjn:j<n) (hmin:∀ c,0<c→c<n→(c-1) / 2=i→hle lt (hg d xs j) (hg d xs c)) (hlt:lt (hg d xs j) (hg d xs i)=true):DnI d lt (sw d xs i j) n j:=by
 have hle1:=h.le
 have hi:i<xs.length:=by omega
 have hjl:j<xs.length:=by omega
 refine⟨by rw [qe3];exact hle1,fun c h0 h1 hne => ?_,fun c h0 h1 he hp => ?_⟩
 ·rw [qbh hi hjl,qbh hi hjl,if_neg hne]
  by_cases hci:(c-1) / 2=i
  ·rw [if_pos hci]
   by_cases hcj:c=j
   ·rw [if_pos hcj];exact qjr hlt
   ·rw [if_neg hcj,if_neg (by omega)]
    exact hmin c h0 h1 hci
  ·rw [if_neg hci]
   by_cases hcj:c=j
   ·omega
   ·rw [if_neg hcj]
    by_cases hc:c=i
    ·subst hc
     rw [if_pos rfl]
     exact h.over j (by omega) hjn (by omega) h0
    ·rw [if_neg hc]
     exact h.rest c h0 h1 hci
 ·rw [qbh hi hjl,qbh hi hjl]
  have e1:(j-1) / 2=i:=by omega
  rw [e1,if_neg (show ¬i=j by omega),if_pos rfl,if_neg (show ¬c=j by omega),if_neg (show ¬c=i by omega)]
  have:=h.rest c h0 h1 (by omega)
  rw [he] at this
  exact this
theorem qky {xs:List α}(h:IsHeap d lt xs) (hl:0<xs.length):DnI d lt (sw d xs 0 (xs.length-1)) (xs.length-1) 0:=by
 refine⟨by rw [qe3];omega,fun c h0 h1 hne => ?_,fun c _ _ _ h0=>absurd h0 (by omega)⟩
 rw [qbh hl (by omega),qbh hl (by omega),if_neg (by omega),if_neg (by omega),if_neg (by omega),if_neg (by omega)]
 exact h c h0 (by omega)
theorem qqp [HOrd lt] {xs:List α}(h:IsHeap d lt xs):∀ i,i<xs.length→hle lt (hg d xs 0) (hg d xs i):=by
 intro i
 induction i using Nat.strongRecOn with
 | _ i ih =>
  intro hi
  rcases Nat.eq_zero_or_pos i with h0|h0
  ·subst h0;exact qbK _
  ·exact qd8 (ih ((i-1) / 2) (by omega) (by omega)) (h i h0 hi)
theorem qih [HOrd lt] {xs:List α}(h:IsHeap d lt xs) {x:α}(hx:x∈xs):hle lt (hg d xs 0) x:=by
 obtain⟨i,hi,rfl⟩:=List.getElem_of_mem hx
 have:=qqp h i hi
 rwa [show hg d xs i=xs[i] from qaj hi] at this
theorem qii {xs ys:List α}(hl:0<xs.length) (hp:ys.Perm xs) (hh:HeapN d lt ys (xs.length-1)) (hlast:hg d ys (xs.length-1)=hg d xs 0) :
  IsHeap d lt (ys.take (xs.length-1))∧xs.Perm (hg d xs 0::ys.take (xs.length-1)):=by
 have hyl:=hp.length_eq
 refine⟨fun i h0 h1 => ?_,?_⟩
 ·simp only [List.length_take] at h1
  have hg':∀ k,k<xs.length-1→hg d (ys.take (xs.length-1)) k=hg d ys k:=fun k hk=>by simp [hg,hk]
  rw [hg' _ (by omega),hg' _ (by omega)]
  exact hh i h0 (by omega)
 ·have e:ys=ys.take (xs.length-1)++[hg d xs 0]:=by
   have h1:ys.drop (xs.length-1)=[hg d xs 0]:=by
    rw [List.drop_eq_getElem_cons (by omega),List.drop_eq_nil_of_le (by omega),←hlast]
    rw [show hg d ys (xs.length-1)=ys[xs.length-1] from qaj (by omega)]
   rw [←h1,List.take_append_drop]
  refine hp.symm.trans ?_
  have:=List.perm_append_comm (l₁:=ys.take (xs.length-1)) (l₂:=[hg d xs 0])
  rw [←e] at this
  exact this
theorem qhk:IsHeap d lt []:=fun _ _ h=>absurd h (Nat.not_lt_zero _)
end
theorem qfV (j:Nat):Int.tdiv ((j:Int)-1) 2=(((j-1) / 2:Nat):Int):=by
 rcases Nat.eq_zero_or_pos j with h|h
 ·subst h;rfl
 ·rw [Int.tdiv_eq_ediv_of_nonneg (by omega)];omega
end Go.Proofs.YtkmbenhffledpaaGreat
/-
  A* as a function, in plain Lean: the open list in order, reaching a state, the next state, expanding, the run.
-/
namespace Go.Proofs.YtkmbenhffledpaaGreat
open Go.Sl
structure Ent where
 f:Int
 h:Int
 ord:Int
 id:Int
 g:Int
def tEnt:Ty Ent:=⟨5,fun e=>[.int .i64 e.f,.int .i64 e.h,.int .i64 e.ord,.int .i64 e.id,.int .i64 e.g],fun _=>rfl,⟨0,0,0,0,0⟩⟩
instance inTAstF1:OneT tEnt:=⟨fun x v hv=>by simp only [tEnt,List.mem_cons,List.not_mem_nil,or_false] at hv;rcases hv with rfl|rfl|rfl|rfl|rfl <;> rfl⟩
def elt (a b:Ent):Bool:=decide (a.f<b.f∨(a.f=b.f∧(a.h<b.h∨(a.h=b.h∧a.ord<b.ord))))
theorem qir {a b:Ent}:elt a b=true↔(a.f<b.f∨(a.f=b.f∧(a.h<b.h∨(a.h=b.h∧a.ord<b.ord)))):=by unfold elt;exact decide_eq_true_iff
theorem qoC {a b:Ent}:elt a b=false↔¬(a.f<b.f∨(a.f=b.f∧(a.h<b.h∨(a.h=b.h∧a.ord<b.ord)))):=by unfold elt;exact decide_eq_false_iff_not
instance inTAstF2:HOrd elt:=⟨fun a b h=>by rw [qir] at h;rw [qoC];omega,fun a b c h1 h2=>by rw [qoC] at *;omega⟩
theorem qoD {a b c:Ent}(h1:elt a b=true) (h2:elt b c=true):elt a c=true:=by rw [qir] at *;omega
theorem qsF {a b:Ent}(h:b.ord≠a.ord) (h2:¬elt a b=true):elt b a=true:=by rw [qir] at *;omega
def insE (x:Ent):List Ent→List Ent
 | []=>[x]
 | y::q=>if elt x y=true then x::y::q else y::insE x q
theorem qcy (x:Ent):∀ q,(insE x q).Perm (x::q)
 | []=>.refl _
 | y::q=>by
  unfold insE
  split
  ·exact .refl _
  ·exact ((qcy x q).cons y).trans (.swap x y q)
abbrev SortE (q:List Ent):Prop:=q.Pairwise fun a b=>elt a b=true
theorem qga {x:Ent}:∀ {q:List Ent},SortE q→(∀ y∈q,y.ord≠x.ord)→SortE (insE x q)
 | [],_,_=>by unfold insE;exact List.pairwise_singleton _ _
 | y::q,h,hn=>by
  obtain⟨h1,h2⟩:=List.pairwise_cons.1 h
  unfold insE
  split
  ·rename_i hxy
   refine List.pairwise_cons.2 ⟨fun z hz => ?_,h⟩
   rcases List.mem_cons.1 hz with rfl|hz
   ·exact hxy
   ·exact qoD hxy (h1 z hz)
  ·rename_i hxy
   refine List.pairwise_cons.2 ⟨fun z hz => ?_,qga h2 fun z hz=>hn z (List.mem_cons_of_mem _ hz)⟩
   rcases List.mem_cons.1 ((qcy x q).mem_iff.1 hz) with rfl|hz
   ·exact qsF (hn y List.mem_cons_self) hxy
   ·exact h1 z hz
theorem qis {x y:Ent}{q:List Ent}:y∈insE x q↔y=x∨y∈q:=by rw [(qcy x q).mem_iff,List.mem_cons]
structure APar where
 t:TTask
 H:List Int→Int
 B:Option Int
structure Lnk where
 par:Int
 op:Int
 cost:Int
def dLnk:Lnk:=⟨-1,-1,0⟩
structure SA where
 st:List (List Int)
 g:List Int
 wt:List Bool
 lk:List Lnk
 q:List Ent
 ord:Nat
 ex:List Nat
 ts:List Nat
 clk:Nat
def SA.as (S:SA):AS:=⟨S.st,S.g,S.wt⟩
def SA.si (S:SA) (i:Nat):List Int:=S.as.si i
def SA.gi (S:SA) (i:Nat):Int:=S.as.gi i
def SA.wi (S:SA) (i:Nat):Bool:=S.as.wi i
def SA.li (S:SA) (i:Nat):Lnk:=S.lk.getD i dLnk
def SA.ti (S:SA) (i:Nat):Nat:=S.ts.getD i 0
def cutA (A:APar) (s:List Int) (g:Int):Bool:=decide (A.H s=inf) || (match A.B with|some b=>decide (b<g+A.H s)|none=>false)
def enqA (A:APar) (S:SA) (i:Nat) (s:List Int) (g:Int):List Ent:=if cutA A s g=true then S.q else insE ⟨g+A.H s,A.H s,S.ord,i,g⟩ S.q
def enqO (A:APar) (S:SA) (s:List Int) (g:Int):Nat:=if cutA A s g=true then S.ord else S.ord+1
def SA.new (A:APar) (S:SA) (s:List Int) (g:Int) (l:Lnk):SA:=⟨S.st++[s],S.g++[g],S.wt++[!cutA A s g],S.lk++[l],enqA A S S.st.length s g,enqO A S s g,S.ex,S.ts++[S.clk],S.clk+1⟩
def SA.low (A:APar) (S:SA) (i:Nat) (g:Int) (l:Lnk):SA:=⟨S.st,S.g.set i g,S.wt.set i (!cutA A (S.si i) g),S.lk.set i l,enqA A S i (S.si i) g,enqO A S (S.si i) g,S.ex,S.ts.set i S.clk,S.clk+1⟩
def SA.reach (A:APar) (S:SA) (s:List Int) (g:Int) (l:Lnk):SA :=
 if s∈S.st then (if S.gi (S.st.idxOf s)≤g then S else S.low A (S.st.idxOf s) g l) else S.new A s g l
def nextE (wt:List Bool) (g:List Int):List Ent→Option (Ent × List Ent)
 | []=>none
 | x::q=>if wt.getD x.id.toNat false=true∧g.getD x.id.toNat tInt.dflt=x.g then some (x,q) else nextE wt g q
def SA.pop (S:SA) (x:Ent) (q:List Ent):SA:={ S with wt:=S.wt.set x.id.toNat false,q:=q }
def SA.mark (S:SA) (i:Nat):SA:={ S with ex:=i::S.ex }
def stepA (A:APar) (i:Nat) (z:List Int) (S:SA) (op:Nat):SA:=S.reach A (succT A.t z op) (S.gi i+opC A.t op) ⟨i,op,opC A.t op⟩
def expA (A:APar) (i:Nat) (z:List Int) (l:List Nat) (S:SA):SA:=l.foldl (stepA A i z) S
inductive AR where
 | solved (i:Nat)
 | none
 | unknown
def runA (A:APar) (lim:Nat):Nat→SA→AR × SA
 | 0,S=>(.unknown,S)
 | f+1,S =>
  match nextE S.wt S.g S.q with
  | none=>(.none,S)
  | some (x,q) =>
   if HoldFs (S.si x.id.toNat) A.t.goal then (.solved x.id.toNat,S.pop x q)
   else if lim≤S.ex.length then (.unknown,S.pop x q)
   else runA A lim f (expA A x.id.toNat (S.si x.id.toNat) (succsL A.t (S.si x.id.toNat)) ((S.pop x q).mark x.id.toNat))
def SA.zero:SA:=⟨[],[],[],[],[],0,[],[],0⟩
def startA (A:APar):SA:=SA.zero.new A A.t.init 0 dLnk
def srchA (A:APar) (lim:Nat):AR × SA:=runA A lim (lim+1) (startA A)
structure EntOk (A:APar) (S:SA) (x:Ent):Prop where
 id0:0≤x.id
 id1:x.id.toNat<S.st.length
 o0:0≤x.ord
 o1:x.ord<S.ord
 f:x.f=x.g+x.h
 h:x.h=A.H (S.si x.id.toNat)
 hi:x.h<inf
 g:S.gi x.id.toNat≤x.g
 gb:x.g≤(S.ex.length:Int)*1048576
 b:∀ b,A.B=some b→x.f≤b
def LnkOk (A:APar) (S:SA) (i:Nat):Prop:=((S.li i).par = -1∧S.si i=A.t.init∧S.gi i=0)∨∃ p op:Nat,S.li i=⟨p,op,opC A.t op⟩∧p<S.st.length∧op<A.t.ops.length∧AppT A.t (S.si p) op∧S.si i=succT A.t (S.si p) op∧S.gi p+opC A.t op≤S.gi i∧(S.gi p<S.gi i∨S.ti p<S.ti i)
structure SInv (A:APar) (S:SA) (exi:Nat→Prop) (c:Nat):Prop where
 ai:AInv A.t A.H A.B S.as exi
 ll:S.lk.length=S.st.length
 lt:S.ts.length=S.st.length
 qs:SortE S.q
 qe:∀ x∈S.q,EntOk A S x
 qw:∀ i,i<S.st.length→S.wi i=true→∃ x∈S.q,x.id=(i:Int)∧x.g=S.gi i
 lnk:∀ i,i<S.st.length→LnkOk A S i
 tsl:∀ i,i<S.st.length→S.ti i<S.clk
 gb:∀ i,i<S.st.length→S.gi i≤(S.ex.length:Int)*1048576
 cn:S.st.length≤c
 co:S.ord≤c
theorem qel {A:APar}(hH:HOk A.t A.H) {s:List Int}{g:Int}:cutA A s g=true↔CutA A.H A.B s g:=by
 have:=hH.le s
 unfold cutA CutA
 rw [Bool.or_eq_true,decide_eq_true_eq]
 cases hb:A.B with
 | none=>simp;omega
 | some b=>simp;omega
theorem qlT {A:APar}(hH:HOk A.t A.H) {s:List Int}{g:Int}:waitA A.H A.B s g = !cutA A s g:=by
 cases h:cutA A s g
 ·cases h2:waitA A.H A.B s g
  ·rw [(qel hH).2 (qft.1 h2)] at h;cases h
  ·rfl
 ·rw [qft.2 ((qel hH).1 h)];rfl
theorem qbw {α:Type}{l:List α}{i j:Nat}{x d:α}(hi:i<l.length):(l.set i x).getD j d=if j=i then x else l.getD j d:=by
 simp only [List.getD,List.getElem?_set]
 by_cases h:i=j
 ·subst h;simp [hi]
 ·rw [if_neg h,if_neg (Ne.symm h)]
structure RchTo (A:APar) (S S':SA) (i:Nat) (s:List Int) (g:Int) (l:Lnk):Prop where
 n1:S.st.length≤S'.st.length
 n2:S'.st.length≤S.st.length+1
 i1:i<S'.st.length
 oth:∀ j,j<S'.st.length→j≠i→j<S.st.length
 s1:∀ j,j<S.st.length→S'.si j=S.si j
 s2:S'.si i=s
 g1:∀ j,j<S.st.length→j≠i→S'.gi j=S.gi j
 g2:S'.gi i=g
 g3:i<S.st.length→g<S.gi i
 w1:∀ j,j<S.st.length→j≠i→S'.wi j=S.wi j
 w2:S'.wi i = !cutA A s g
 l1:∀ j,j<S.st.length→j≠i→S'.li j=S.li j
 l2:S'.li i=l
 t1:∀ j,j<S.st.length→j≠i→S'.ti j=S.ti j
 t2:S'.ti i=S.clk
 q:S'.q=enqA A S i s g
 o:S'.ord=enqO A S s g
 ex:S'.ex=S.ex
 ck:S'.clk=S.clk+1
 ll:S.lk.length=S.st.length→S'.lk.length=S'.st.length
 lt:S.ts.length=S.st.length→S'.ts.length=S'.st.length
theorem qr5 {A:APar}{S:SA}{s:List Int}{g:Int}{l:Lnk}(hg:S.g.length=S.st.length) (hw:S.wt.length=S.st.length) (hl:S.lk.length=S.st.length) (ht:S.ts.length=S.st.length):RchTo A S (S.new A s g l) S.st.length s g l:=by
 have hn:(S.new A s g l).st.length=S.st.length+1:=by simp [SA.new]
 exact⟨by omega,by omega,by omega,fun j h1 h2=>by omega,fun j hj=>app_l hj,qbB rfl,fun j hj _=>app_l (by omega),qbB hg.symm,fun h=>absurd h (Nat.lt_irrefl _),fun j hj _=>app_l (by omega),qbB hw.symm,fun j hj _=>app_l (by omega),qbB hl.symm,fun j hj _=>app_l (by omega),qbB ht.symm,rfl,rfl,rfl,rfl,fun h=>by simp [SA.new,h],fun h=>by simp [SA.new,h]⟩
theorem qr6 {A:APar}{S:SA}{i:Nat}{g:Int}{l:Lnk}(hi:i<S.st.length) (hlt:g<S.gi i) (hg:S.g.length=S.st.length) (hw:S.wt.length=S.st.length) (hl:S.lk.length=S.st.length) (ht:S.ts.length=S.st.length):RchTo A S (S.low A i g l) i (S.si i) g l :=
 ⟨Nat.le_refl _,Nat.le_succ _,hi,fun j h1 _=>h1,fun j _=>rfl,rfl,fun j _ hj=>(qbw (by omega)).trans (if_neg hj),(qbw (by omega)).trans (if_pos rfl),fun _=>hlt,fun j _ hj=>(qbw (by omega)).trans (if_neg hj),(qbw (by omega)).trans (if_pos rfl),fun j _ hj=>(qbw (by omega)).trans (if_neg hj),(qbw (by omega)).trans (if_pos rfl),fun j _ hj=>(qbw (by omega)).trans (if_neg hj),(qbw (by omega)).trans (if_pos rfl),rfl,rfl,rfl,rfl,fun h=>by simp [SA.low,h],fun h=>by simp [SA.low,h]⟩
theorem RchTo.gle {A:APar}{S S':SA}{i:Nat}{s:List Int}{g:Int}{l:Lnk}(h:RchTo A S S' i s g l) {j:Nat}(hj:j<S.st.length):S'.gi j≤S.gi j:=by
 by_cases e:j=i
 ·subst e;rw [h.g2];have:=h.g3 hj;omega
 ·rw [h.g1 j hj e];exact Int.le_refl _
theorem RchTo.inv {A:APar}{S S':SA}{i:Nat}{s:List Int}{g:Int}{l:Lnk}{exi exi':Nat→Prop}{c:Nat}(r:RchTo A S S' i s g l) (h:SInv A S exi c) (hH:HOk A.t A.H) (ha:AInv A.t A.H A.B S'.as exi')
  (hgb:g≤(S.ex.length:Int)*1048576) (hl:LnkOk A S' i):SInv A S' exi' (c+1):=by
 have hn1:=r.n1
 have hn2:=r.n2
 have hoO:(S.ord:Int)≤S'.ord:=by rw [r.o];unfold enqO;split <;> omega
 have hold:∀ x,EntOk A S x→EntOk A S' x:=fun x hx=>by
  have hid:=hx.id1
  have hgl:=r.gle hid
  exact⟨hx.id0,by omega,hx.o0,by have:=hx.o1;omega,hx.f,by rw [r.s1 _ hid];exact hx.h,hx.hi,by have:=hx.g;omega,by rw [r.ex];exact hx.gb,hx.b⟩
 have hnew:cutA A s g=false→EntOk A S' ⟨g+A.H s,A.H s,S.ord,i,g⟩:=fun hc=>by
  have hnc:¬CutA A.H A.B s g:=fun hh=>by rw [(qel hH).2 hh] at hc;cases hc
  have hOr:S'.ord=S.ord+1:=by rw [r.o];unfold enqO;rw [hc];rfl
  refine⟨Int.natCast_nonneg _,by show ((i:Int)).toNat<_;rw [Int.toNat_natCast];exact r.i1,Int.natCast_nonneg _,by show (S.ord:Int)<S'.ord;omega,rfl,by show A.H s=A.H (S'.si ((i:Int)).toNat);rw [Int.toNat_natCast,r.s2],?_,by show S'.gi ((i:Int)).toNat≤g;rw [Int.toNat_natCast,r.g2];exact Int.le_refl _,by rw [r.ex];exact hgb,fun b hb => ?_⟩
  ·show A.H s<inf
   exact Int.not_le.1 fun hh=>hnc (.inl hh)
  ·show g+A.H s≤b
   exact Int.not_lt.1 fun hh=>hnc (.inr ⟨b,hb,hh⟩)
 refine⟨ha,r.ll h.ll,r.lt h.lt,?_,fun x hx => ?_,fun j hj hwj => ?_,fun j hj => ?_,fun j hj => ?_,fun j hj => ?_,by have:=h.cn;omega,by have:=h.co;rw [r.o];unfold enqO;split <;> omega⟩
 ·rw [r.q];unfold enqA
  split
  ·exact h.qs
  ·exact qga h.qs fun y hy e=>by have:=(h.qe y hy).o1;have e2:y.ord=(S.ord:Int):=e;omega
 ·rw [r.q] at hx;unfold enqA at hx
  split at hx
  ·exact hold x (h.qe x hx)
  ·rename_i hc
   rcases qis.1 hx with rfl|hx
   ·exact hnew (by simpa using hc)
   ·exact hold x (h.qe x hx)
 ·by_cases e:j=i
  ·subst e
   rw [r.w2] at hwj
   have hc:cutA A s g=false:=by simpa using hwj
   refine⟨⟨g+A.H s,A.H s,S.ord,j,g⟩,?_,rfl,r.g2.symm⟩
   rw [r.q];unfold enqA
   rw [hc,if_neg (by decide)]
   exact qis.2 (.inl rfl)
  ·have hjS:=r.oth j hj e
   rw [r.w1 j hjS e] at hwj
   obtain⟨x,hx,h1,h2⟩:=h.qw j hjS hwj
   refine⟨x,?_,h1,by rw [r.g1 j hjS e];exact h2⟩
   rw [r.q];unfold enqA
   split
   ·exact hx
   ·exact qis.2 (.inr hx)
 ·by_cases e:j=i
  ·subst e;exact hl
  ·have hjS:=r.oth j hj e
   rcases h.lnk j hjS with ⟨h1,h2,h3⟩|⟨p,op,h1,h2,h3,h4,h5,h6,h7⟩
   ·exact .inl ⟨by rw [r.l1 j hjS e];exact h1,by rw [r.s1 j hjS];exact h2,by rw [r.g1 j hjS e];exact h3⟩
   ·have hgl:=r.gle h2
    have hc:=qa9 hH.good h3
    refine .inr ⟨p,op,by rw [r.l1 j hjS e];exact h1,by omega,h3,by rw [r.s1 p h2];exact h4,by rw [r.s1 j hjS,r.s1 p h2];exact h5,by rw [r.g1 j hjS e];omega,?_⟩
    rw [r.g1 j hjS e,r.t1 j hjS e]
    by_cases ep:p=i
    ·subst ep
     have:=r.g3 h2
     rw [r.g2]
     left;omega
    ·rw [r.g1 p h2 ep,r.t1 p h2 ep];exact h7
 ·by_cases e:j=i
  ·subst e;rw [r.t2,r.ck];omega
  ·have hjS:=r.oth j hj e
   rw [r.t1 j hjS e,r.ck];have:=h.tsl j hjS;omega
 ·rw [r.ex]
  by_cases e:j=i
  ·subst e;rw [r.g2];exact hgb
  ·have hjS:=r.oth j hj e
   rw [r.g1 j hjS e];exact h.gb j hjS
theorem qlU {l:List (List Int)}{s:List Int}(h:s∈l):l.idxOf s<l.length∧l.getD (l.idxOf s) []=s:=by
 have h1:=List.idxOf_lt_length_of_mem h
 exact⟨h1,by rw [qaj h1];exact List.getElem_idxOf h1⟩
theorem qlV {l:List (List Int)}(hn:l.Nodup) {i j:Nat}(hi:i<l.length) (hj:j<l.length) (h:l.getD i []=l.getD j []):i=j:=by
 rw [qaj hi,qaj hj] at h
 rcases Nat.lt_trichotomy i j with hlt|rfl|hlt
 ·exact absurd h (List.pairwise_iff_getElem.1 hn i j hi hj hlt)
 ·rfl
 ·exact absurd h.symm (List.pairwise_iff_getElem.1 hn j i hj hi hlt)
structure Grown (S S':SA):Prop where
 n:S.st.length≤S'.st.length
 s:∀ j,j<S.st.length→S'.si j=S.si j
 g:∀ j,j<S.st.length→S'.gi j≤S.gi j
 ex:S'.ex=S.ex
theorem Grown.refl (S:SA):Grown S S:=⟨Nat.le_refl _,fun _ _=>rfl,fun _ _=>Int.le_refl _,rfl⟩
theorem Grown.trans {S T U:SA}(h:Grown S T) (k:Grown T U):Grown S U :=
 ⟨Nat.le_trans h.n k.n,fun j hj=>(k.s j (Nat.lt_of_lt_of_le hj h.n)).trans (h.s j hj),fun j hj=>Int.le_trans (k.g j (Nat.lt_of_lt_of_le hj h.n)) (h.g j hj),k.ex.trans h.ex⟩
theorem RchTo.grown {A:APar}{S S':SA}{i:Nat}{s:List Int}{g:Int}{l:Lnk}(r:RchTo A S S' i s g l):Grown S S':=⟨r.n1,r.s1,fun _ hj=>r.gle hj,r.ex⟩
theorem qqI {A:APar}(hH:HOk A.t A.H) {S:SA}{s:List Int}{g:Int}{l:Lnk}:S.as.fresh A.H A.B s g=(S.new A s g l).as:=by
 unfold AS.fresh;rw [qlT hH];rfl
theorem qqJ {A:APar}(hH:HOk A.t A.H) {S:SA}{i:Nat}{g:Int}{l:Lnk}:S.as.lower A.H A.B i g=(S.low A i g l).as:=by
 unfold AS.lower;rw [qlT hH];rfl
theorem SInv.step {A:APar}{S:SA}{exi:Nat→Prop}{c i op:Nat}(hH:HOk A.t A.H) (h:SInv A S exi c) (hi:i<S.st.length) (ho:op<A.t.ops.length) (ha:AppT A.t (S.si i) op) (hex:S.gi i+1048576≤(S.ex.length:Int)*1048576) :
  SInv A (stepA A i (S.si i) S op) exi (c+1)∧Grown S (stepA A i (S.si i) S op)∧(stepA A i (S.si i) S op).gi i=S.gi i∧∃ j,j<(stepA A i (S.si i) S op).st.length∧(stepA A i (S.si i) S op).si j=succT A.t (S.si i) op∧(stepA A i (S.si i) S op).gi j≤S.gi i+opC A.t op:=by
 have hg:=hH.good
 have hc:=qa9 hg ho
 have hnn:0≤S.gi i:=h.ai.nn i hi
 have hgb:S.gi i+opC A.t op≤(S.ex.length:Int)*1048576:=by omega
 obtain⟨p0,c0,hp0,hc0⟩:=h.ai.path i hi
 have hp:∃ p c,Pth A.t p (succT A.t (S.si i) op) c∧c≤S.gi i+opC A.t op:=⟨_,_,.snoc hp0 ho ha,by have hc1:c0≤S.gi i:=hc0;omega⟩
 have hti:=h.tsl i hi
 unfold stepA SA.reach
 split
 ·rename_i hm
  obtain⟨hk,hke⟩:=qlU hm
  obtain⟨k,hkd⟩:∃ k,k=S.st.idxOf (succT A.t (S.si i) op):=⟨_,rfl⟩
  rw [←hkd] at hk hke ⊢
  have hke2:S.si k=succT A.t (S.si i) op:=hke
  split
  ·rename_i hle
   exact⟨{ h with cn:=Nat.le_succ_of_le h.cn,co:=Nat.le_succ_of_le h.co },.refl S,rfl,k,hk,hke2,hle⟩
  ·rename_i hlt
   have hki:i≠k:=fun e=>by subst e;omega
   have r:=qr6 (A:=A) (l:=⟨i,op,opC A.t op⟩) hk (Int.not_le.1 hlt) h.ai.lg h.ai.lw h.ll h.lt
   have hgi:=r.g1 i hi hki
   refine⟨r.inv h hH ?_ hgb ?_,r.grown,hgi,k,hk,by rw [r.s1 k hk];exact hke2,by rw [r.g2];exact Int.le_refl _⟩
   ·rw [←qqJ hH]
    exact h.ai.lower hk (Int.not_le.1 hlt) (by omega) (by rw [show S.as.si k=succT A.t (S.si i) op from hke2];exact hp)
   ·refine .inr ⟨i,op,r.l2,hi,ho,by rw [r.s1 i hi];exact ha,by rw [r.s1 k hk,r.s1 i hi];exact hke2,by rw [hgi,r.g2];exact Int.le_refl _,.inr ?_⟩
    rw [r.t1 i hi hki,r.t2];exact hti
 ·rename_i hm
  have r:=qr5 (A:=A) (s:=succT A.t (S.si i) op) (g:=S.gi i+opC A.t op) (l:=⟨i,op,opC A.t op⟩) h.ai.lg h.ai.lw h.ll h.lt
  have hii:i≠S.st.length:=by omega
  have hgi:=r.g1 i hi hii
  refine⟨r.inv h hH ?_ hgb ?_,r.grown,hgi,_,r.i1,r.s2,by rw [r.g2];exact Int.le_refl _⟩
  ·rw [←qqI hH]
   exact h.ai.fresh hm (qaZ hg (h.ai.ok i hi) ho) (by omega) hp
  ·refine .inr ⟨i,op,r.l2,by have:=r.n1;omega,ho,by rw [r.s1 i hi];exact ha,by rw [r.s2,r.s1 i hi],by rw [hgi,r.g2];exact Int.le_refl _,.inr ?_⟩
   rw [r.t1 i hi hii,r.t2];exact hti
theorem SInv.steps {A:APar}{exi:Nat→Prop}{i:Nat}{z:List Int}(hH:HOk A.t A.H) (l:List Nat):∀ {S:SA}{c:Nat},SInv A S exi c→i<S.st.length→S.si i=z→(∀ op∈l,op<A.t.ops.length∧AppT A.t z op)→S.gi i+1048576≤(S.ex.length:Int)*1048576 →
  SInv A (expA A i z l S) exi (c+l.length)∧Grown S (expA A i z l S)∧(expA A i z l S).gi i=S.gi i∧∀ op∈l,∃ j,j<(expA A i z l S).st.length∧(expA A i z l S).si j=succT A.t z op∧(expA A i z l S).gi j≤S.gi i+opC A.t op:=by
 induction l with
 | nil =>
  intro S c h _ _ _ _
  have e:expA A i z [] S=S:=rfl
  rw [e,List.length_nil,Nat.add_zero]
  exact⟨h,.refl S,rfl,fun op hop=>by simp at hop⟩
 | cons op l ih =>
  intro S c h hi hz hl hex
  subst hz
  obtain⟨ho,ha⟩:=hl op List.mem_cons_self
  obtain⟨h1,h2,h3,j,h4,h5,h6⟩:=h.step hH hi ho ha hex
  have hi':i<(stepA A i (S.si i) S op).st.length:=Nat.lt_of_lt_of_le hi h2.n
  have hex':(stepA A i (S.si i) S op).gi i+1048576≤((stepA A i (S.si i) S op).ex.length:Int)*1048576:=by rw [h3,h2.ex];exact hex
  have e:expA A i (S.si i) (op::l) S=expA A i (S.si i) l (stepA A i (S.si i) S op):=rfl
  obtain⟨k1,k2,k3,k4⟩:=ih h1 hi' (h2.s i hi) (fun o ho=>hl o (List.mem_cons_of_mem _ ho)) hex'
  rw [e]
  refine⟨?_,h2.trans k2,k3.trans h3,fun o ho => ?_⟩
  ·rw [List.length_cons,show c+(l.length+1)=c+1+l.length by omega];exact k1
  ·rcases List.mem_cons.1 ho with rfl|ho
   ·exact⟨j,Nat.lt_of_lt_of_le h4 k2.n,(k2.s j h4).trans h5,Int.le_trans (k2.g j h4) h6⟩
   ·obtain⟨j',e1,e2,e3⟩:=k4 o ho
    exact⟨j',e1,e2,by rw [h3] at e3;exact e3⟩
theorem qeM {wt:List Bool}{g:List Int}{x:Ent}{q':List Ent}:∀ {q:List Ent},nextE wt g q=some (x,q')→∃ dr,q=dr++x::q'∧(wt.getD x.id.toNat false=true∧g.getD x.id.toNat tInt.dflt=x.g)∧∀ y∈dr,¬(wt.getD y.id.toNat false=true∧g.getD y.id.toNat tInt.dflt=y.g)
 | [],h=>by simp [nextE] at h
 | y::q,h=>by
  unfold nextE at h
  split at h
  ·rename_i hv
   simp only [Option.some.injEq,Prod.mk.injEq] at h
   obtain⟨rfl,rfl⟩:=h
   exact⟨[],rfl,hv,fun y hy=>by simp at hy⟩
  ·rename_i hv
   obtain⟨dr,h1,h2,h3⟩:=qeM h
   refine⟨y::dr,by rw [h1];rfl,h2,fun z hz => ?_⟩
   rcases List.mem_cons.1 hz with rfl|hz
   ·exact hv
   ·exact h3 z hz
theorem qht {wt:List Bool}{g:List Int}:∀ {q:List Ent},nextE wt g q=none→∀ y∈q,¬(wt.getD y.id.toNat false=true∧g.getD y.id.toNat tInt.dflt=y.g)
 | [],_,y,hy=>by simp at hy
 | x::q,h,y,hy=>by
  unfold nextE at h
  split at h
  ·cases h
  ·rename_i hv
   rcases List.mem_cons.1 hy with rfl|hy
   ·exact hv
   ·exact qht h y hy
structure Taken (A:APar) (S:SA) (x:Ent) (q:List Ent):Prop where
 i1:x.id.toNat<S.st.length
 id:x.id=(x.id.toNat:Int)
 w:S.wi x.id.toNat=true
 g:S.gi x.id.toNat=x.g
 ok:EntOk A S x
 min:∀ j,j<S.st.length→S.wi j=true→S.gi x.id.toNat+A.H (S.si x.id.toNat)≤S.gi j+A.H (S.si j)
 lst:∀ y∈q,elt x y=true
 inv:∀ {c},SInv A S (fun _=>False) c→SInv A (S.pop x q) (·=x.id.toNat) c
theorem SInv.next {A:APar}{S:SA}{c:Nat}(h:SInv A S (fun _=>False) c) {x:Ent}{q:List Ent}(hn:nextE S.wt S.g S.q=some (x,q)):Taken A S x q:=by
 obtain⟨dr,h1,⟨h2,h3⟩,h4⟩:=qeM hn
 have hx:x∈S.q:=by rw [h1];simp
 have hok:=h.qe x hx
 have hsq:∀ y∈q,elt x y=true:=by
  have:=h.qs
  unfold SortE at this
  rw [h1,List.pairwise_append] at this
  exact (List.pairwise_cons.1 this.2.1).1
 have hqm:∀ y∈q,y∈S.q:=fun y hy=>by rw [h1];simp [hy]
 have hst:∀ j,j<S.st.length→S.wi j=true→∃ y∈x::q,y.id=(j:Int)∧y.g=S.gi j:=fun j hj hw=>by
  obtain⟨y,hy,e1,e2⟩:=h.qw j hj hw
  rw [h1] at hy
  rcases List.mem_append.1 hy with hy|hy
  ·exact absurd (by rw [e1,Int.toNat_natCast];exact⟨hw,e2.symm⟩) (h4 y hy)
  ·exact⟨y,hy,e1,e2⟩
 have hid:=hok.id0
 refine⟨hok.id1,by omega,h2,h3,hok,fun j hj hw => ?_,hsq,fun {c'} h => ?_⟩
 ·obtain⟨y,hy,e1,e2⟩:=hst j hj hw
  have h3':S.gi x.id.toNat=x.g:=h3
  have f1:=hok.f
  have f2:=hok.h
  rcases List.mem_cons.1 hy with rfl|hy
  ·have:y.id.toNat=j:=by omega
   rw [this];exact Int.le_refl _
  ·have hyo:=h.qe y (hqm y hy)
   have f3:=hyo.f
   have f4:=hyo.h
   have he:=qir.1 (hsq y hy)
   have ej:y.id.toNat=j:=by omega
   rw [ej] at f4
   rw [h3',←f2,←f4,←e2]
   omega
 ·refine⟨h.ai.take,h.ll,h.lt,?_,fun y hy => ?_,fun j hj hw => ?_,h.lnk,h.tsl,h.gb,h.cn,h.co⟩
  ·have:=h.qs
   unfold SortE at this
   rw [h1,List.pairwise_append] at this
   exact (List.pairwise_cons.1 this.2.1).2
  ·have ho:=h.qe y (hqm y hy)
   exact⟨ho.id0,ho.id1,ho.o0,ho.o1,ho.f,ho.h,ho.hi,ho.g,ho.gb,ho.b⟩
  ·have hw':(S.wt.set x.id.toNat false).getD j false=true:=hw
   have hne:j≠x.id.toNat:=fun e=>by
    rw [qbw (by have:=h.ai.lw;have h5:S.wt.length=S.st.length:=this;have:=hok.id1;omega),if_pos e] at hw';cases hw'
   rw [qbw (by have:=h.ai.lw;have h5:S.wt.length=S.st.length:=this;have:=hok.id1;omega),if_neg hne] at hw'
   obtain⟨y,hy,e1,e2⟩:=hst j hj hw'
   rcases List.mem_cons.1 hy with rfl|hy
   ·exact absurd (by omega) hne
   ·exact⟨y,hy,e1,e2⟩
theorem SInv.ended {A:APar}{S:SA}{c:Nat}(h:SInv A S (fun _=>False) c) (hn:nextE S.wt S.g S.q=none):∀ j,j<S.st.length→S.wi j=false:=fun j hj=>by
 cases hw:S.wi j
 ·rfl
 ·obtain⟨y,hy,e1,e2⟩:=h.qw j hj hw
  exact absurd (by rw [e1,Int.toNat_natCast];exact⟨hw,e2.symm⟩) (qht hn y hy)
theorem SInv.expand {A:APar}{S:SA}{c:Nat}(hH:HOk A.t A.H) (h:SInv A S (fun _=>False) c) {x:Ent}{q:List Ent}(hn:nextE S.wt S.g S.q=some (x,q)) (hgo:¬HoldFs (S.si x.id.toNat) A.t.goal) :
  SInv A (expA A x.id.toNat (S.si x.id.toNat) (succsL A.t (S.si x.id.toNat)) ((S.pop x q).mark x.id.toNat)) (fun _=>False) (c+(succsL A.t (S.si x.id.toNat)).length)∧Grown ((S.pop x q).mark x.id.toNat) (expA A x.id.toNat (S.si x.id.toNat) (succsL A.t (S.si x.id.toNat)) ((S.pop x q).mark x.id.toNat)):=by
 have T:=h.next hn
 have h1:=T.inv h
 have hgbi:=h.gb _ T.i1
 have h2:SInv A ((S.pop x q).mark x.id.toNat) (·=x.id.toNat) c:=by
  refine⟨h1.ai,h1.ll,h1.lt,h1.qs,fun y hy => ?_,h1.qw,h1.lnk,h1.tsl,fun j hj => ?_,h1.cn,h1.co⟩
  ·have ho:=h1.qe y hy
   exact⟨ho.id0,ho.id1,ho.o0,ho.o1,ho.f,ho.h,ho.hi,ho.g,by have h3:y.g≤(S.ex.length:Int)*1048576:=ho.gb;show y.g≤((x.id.toNat::S.ex).length:Int)*1048576;rw [List.length_cons];omega,ho.b⟩
  ·have h3:S.gi j≤(S.ex.length:Int)*1048576:=h1.gb j hj
   show S.gi j≤((x.id.toNat::S.ex).length:Int)*1048576
   rw [List.length_cons];omega
 obtain⟨k1,k2,k3,k4⟩:=SInv.steps (i:=x.id.toNat) (z:=S.si x.id.toNat) hH (succsL A.t (S.si x.id.toNat)) h2 T.i1 rfl (fun op hop=>qb8.1 hop) (by show S.gi x.id.toNat+1048576≤((x.id.toNat::S.ex).length:Int)*1048576;rw [List.length_cons];omega)
 refine⟨?_,k2⟩
 have hs:(expA A x.id.toNat (S.si x.id.toNat) (succsL A.t (S.si x.id.toNat)) ((S.pop x q).mark x.id.toNat)).si x.id.toNat=S.si x.id.toNat:=k2.s _ T.i1
 exact { k1 with
  ai:=k1.ai.close (i:=x.id.toNat) ⟨fun hh=>hgo (by rw [←hs];exact hh),fun op ho ha=>by
   have hss:(expA A x.id.toNat (S.si x.id.toNat) (succsL A.t (S.si x.id.toNat)) ((S.pop x q).mark x.id.toNat)).as.si x.id.toNat=S.si x.id.toNat:=hs
   rw [hss] at ha ⊢
   obtain⟨j,e1,e2,e3⟩:=k4 op (qb8.2 ⟨ho,ha⟩)
   exact⟨j,e1,e2,by have hh:(expA A x.id.toNat (S.si x.id.toNat) (succsL A.t (S.si x.id.toNat)) ((S.pop x q).mark x.id.toNat)).as.gi x.id.toNat=S.gi x.id.toNat:=k3;rw [hh];exact e3⟩⟩ }
theorem qoE {A:APar}(hH:HOk A.t A.H):SInv A (startA A) (fun _=>False) 1:=by
 have hw:(startA A).wi 0 = !cutA A A.t.init 0:=rfl
 have hlen:(startA A).st.length=1:=rfl
 refine⟨⟨rfl,rfl,List.pairwise_singleton _ _,fun i hi => ?_,fun i hi => ?_,⟨0,Nat.zero_lt_one,rfl,Int.le_refl _⟩,fun i hi => ?_,fun i hi hwi _ => ?_⟩,rfl,rfl,?_,fun x hx => ?_,fun i hi hwi => ?_,fun i hi => ?_,fun i hi => ?_,fun i hi => ?_,Nat.le_refl _,?_⟩
 ·obtain rfl:i=0:=by have h2:i<1:=hi;omega
  exact hH.good.init
 ·obtain rfl:i=0:=by have h2:i<1:=hi;omega
  exact Int.le_refl _
 ·obtain rfl:i=0:=by have h2:i<1:=hi;omega
  exact⟨[],0,.nil,Int.le_refl _⟩
 ·obtain rfl:i=0:=by have h2:i<1:=hi;omega
  have h2:(!cutA A A.t.init 0)=false:=hwi
  have h3:cutA A A.t.init 0=true:=by simpa using h2
  exact .inl ((qel hH).1 h3)
 ·show SortE (enqA A SA.zero 0 A.t.init 0)
  unfold enqA
  split
  ·exact .nil
  ·exact List.pairwise_singleton _ _
 ·have hx':x∈enqA A SA.zero 0 A.t.init 0:=hx
  unfold enqA at hx'
  split at hx'
  ·simp [SA.zero] at hx'
  ·rename_i hc
   have hnc:¬CutA A.H A.B A.t.init 0:=fun hh=>hc ((qel hH).2 hh)
   have hxe:=List.mem_singleton.1 hx'
   subst hxe
   refine⟨Int.le_refl _,Nat.zero_lt_one,Int.le_refl _,?_,rfl,rfl,Int.not_le.1 fun hh=>hnc (.inl hh),Int.le_refl _,by show (0:Int)≤((0:Nat):Int)*1048576;decide,fun b hb=>Int.not_lt.1 fun hh=>hnc (.inr ⟨b,hb,hh⟩)⟩
   show (0:Int)<((startA A).ord:Nat)
   have:(startA A).ord=1:=by show enqO A SA.zero A.t.init 0=1;unfold enqO;rw [if_neg hc];rfl
   rw [this];decide
 ·obtain rfl:i=0:=by have h2:i<1:=hi;omega
  have h2:(!cutA A A.t.init 0)=true:=hwi
  have hc:cutA A A.t.init 0=false:=by simpa using h2
  refine⟨⟨0+A.H A.t.init,A.H A.t.init,(0:Nat),(0:Nat),0⟩,?_,rfl,rfl⟩
  show _∈enqA A SA.zero 0 A.t.init 0
  unfold enqA
  rw [hc,if_neg (by decide)]
  exact List.mem_singleton.2 rfl
 ·obtain rfl:i=0:=by have h2:i<1:=hi;omega
  exact .inl ⟨rfl,rfl,rfl⟩
 ·obtain rfl:i=0:=by have h2:i<1:=hi;omega
  exact Nat.zero_lt_one
 ·obtain rfl:i=0:=by have h2:i<1:=hi;omega
  show (0:Int)≤((0:Nat):Int)*1048576
  decide
 ·show enqO A SA.zero A.t.init 0≤1
  unfold enqO
  split <;> decide
end Go.Proofs.YtkmbenhffledpaaGreat
/-
  States packed into bit fields of words, in plain Lean.
-/
namespace Go.Proofs.YtkmbenhffledpaaGreat
open Go.Sl
structure Fld where
 word:Nat
 bit:Nat
 width:Nat
 size:Nat
def tFld:Ty Fld:=⟨4,fun f=>[.int .i64 (f.word:Int),.int .i64 (f.bit:Int),.int .i64 (f.width:Int),.int .i64 (f.size:Int)],fun _=>rfl,⟨0,0,0,0⟩⟩
instance inTPack1:OneT tFld:=⟨fun x v hv=>by simp only [tFld,List.mem_cons,List.not_mem_nil,or_false] at hv;rcases hv with rfl|rfl|rfl|rfl <;> rfl⟩
def fld (F:List Fld) (i:Nat):Fld:=F.getD i tFld.dflt
theorem qiR {F:List Fld}{x:Fld}{i:Nat}:fld (F++[x]) i=if i<F.length then fld F i else if i=F.length then x else tFld.dflt:=by
 unfold fld
 by_cases h:i<F.length
 ·rw [if_pos h];simp [List.getD_eq_getElem?_getD,List.getElem?_append_left h]
 ·rw [if_neg h]
  by_cases e:i=F.length
  ·subst e;rw [if_pos rfl];simp [List.getD_eq_getElem?_getD]
  ·rw [if_neg e];simp [List.getD_eq_getElem?_getD,List.getElem?_append_right (Nat.le_of_not_lt h),List.getElem?_cons,show ¬i-F.length=0 by omega]
structure PkOk (vars:List Int) (k:Nat) (F:List Fld) (W:Nat):Prop where
 len:F.length=k
 size:∀ i,i<k→((fld F i).size:Int)=vars.getD i tInt.dflt
 fit:∀ i,i<k→(fld F i).size≤2 ^ (fld F i).width
 wd:∀ i,i<k→(fld F i).word<W∧(fld F i).bit+(fld F i).width≤64
 dj:∀ i j,i<j→j<k→(fld F i).word=(fld F j).word→(fld F i).bit+(fld F i).width≤(fld F j).bit
 w1:1≤W
 w2:W≤k+1
structure PkI (vars:List Int) (k:Nat) (F:List Fld) (W bit:Nat):Prop extends PkOk vars k F W where
 cur:∀ i,i<k→(fld F i).word+1=W→(fld F i).bit+(fld F i).width≤bit
 b64:bit≤64
theorem PkI.zero (vars:List Int):PkI vars 0 [] 1 0 :=
 ⟨⟨rfl,fun _ h=>absurd h (Nat.not_lt_zero _),fun _ h=>absurd h (Nat.not_lt_zero _),fun _ h=>absurd h (Nat.not_lt_zero _),fun _ _ _ h=>absurd h (Nat.not_lt_zero _),Nat.le_refl _,Nat.le_refl _⟩,fun _ h=>absurd h (Nat.not_lt_zero _),Nat.zero_le _⟩
theorem PkI.next {vars:List Int}{k:Nat}{F:List Fld}{W bit W' b' wi n:Nat}(h:PkI vars k F W bit) (hn:(n:Int)=vars.getD k tInt.dflt) (hf:n≤2 ^ wi) (hb:b'+wi≤64) (hc:(W'=W∧b'=bit)∨(W'=W+1∧b'=0)) (hW:W'≤k+2):PkI vars (k+1) (F++[⟨W'-1,b',wi,n⟩]) W' (b'+wi):=by
 have hl:=h.len
 have hw1:=h.w1
 have e1:∀ i,i<k→fld (F++[⟨W'-1,b',wi,n⟩]) i=fld F i:=fun i hi=>by rw [qiR,if_pos (by omega)]
 have e2:fld (F++[⟨W'-1,b',wi,n⟩]) k=⟨W'-1,b',wi,n⟩:=by rw [qiR,if_neg (by omega),if_pos hl.symm]
 have key:∀ (Q:Nat→Fld→Prop),(∀ i,i<k→Q i (fld F i))→Q k ⟨W'-1,b',wi,n⟩→∀ i,i<k+1→Q i (fld (F++[⟨W'-1,b',wi,n⟩]) i):=fun Q h1 h2 i hi=>by
  by_cases e:i<k
  ·rw [e1 i e];exact h1 i e
  ·obtain rfl:i=k:=by omega
   rw [e2];exact h2
 refine⟨⟨by simp [hl],key (fun i f=>(f.size:Int)=vars.getD i tInt.dflt) h.size hn,key (fun _ f=>f.size≤2 ^ f.width) h.fit hf,key (fun _ f=>f.word<W'∧f.bit+f.width≤64) (fun i hi=>⟨by have:=(h.wd i hi).1;omega,(h.wd i hi).2⟩) ⟨by show W'-1<W';omega,hb⟩,fun i j hij hj he => ?_,by omega,hW⟩,fun i hi he => ?_,hb⟩
 ·by_cases e:j<k
  ·rw [e1 j e,e1 i (by omega)] at he
   rw [e1 j e,e1 i (by omega)]
   exact h.dj i j hij e he
  ·obtain rfl:j=k:=by omega
   rw [e1 i hij,e2] at he
   rw [e1 i hij,e2]
   have he2:(fld F i).word=W'-1:=he
   have:=(h.wd i hij).1
   rcases hc with ⟨rfl,rfl⟩|⟨rfl,rfl⟩
   ·exact h.cur i hij (by omega)
   ·omega
 ·revert he
  refine key (fun _ f=>f.word+1=W'→f.bit+f.width≤b'+wi) (fun i hi he => ?_) (fun _=>Nat.le_refl _) i hi
  have:=(h.wd i hi).1
  rcases hc with ⟨rfl,rfl⟩|⟨rfl,rfl⟩
  ·have:=h.cur i hi he;omega
  ·omega
structure Pkd (F:List Fld) (s:List Int) (W k:Nat) (ws:List Nat):Prop where
 len:ws.length=W
 bits:∀ x,x<W→∀ b,(ws.getD x 0).testBit b=true↔∃ i,i<k∧(fld F i).word=x∧(fld F i).bit≤b∧(s.getD i tInt.dflt).toNat.testBit (b-(fld F i).bit)=true
theorem Pkd.zero (F:List Fld) (s:List Int) (W:Nat):Pkd F s W 0 (List.replicate W 0):=⟨by simp,fun x hx b=>by
 have e:(List.replicate W 0).getD x 0=0:=by simp [List.getD,hx]
 rw [e]
 constructor
 ·intro h;simp at h
 ·rintro⟨i,hi,_⟩;exact absurd hi (Nat.not_lt_zero _)⟩
theorem qpr {l:List Nat}{i j:Nat}{x:Nat}(hi:i<l.length):(l.set i x).getD j 0=if j=i then x else l.getD j 0:=by
 by_cases e:j=i
 ·subst e;rw [if_pos rfl];simp [List.getD,hi]
 ·rw [if_neg e];simp only [List.getD];rw [List.getElem?_set_ne (fun h=>e h.symm)]
section
variable {vars:List Int}{F:List Fld}{W k:Nat}{s:List Int}{ws:List Nat}
theorem PkOk.val_lt (h:PkOk vars vars.length F W) (hs:StateOk vars s) {i:Nat}(hi:i<vars.length):(s.getD i tInt.dflt).toNat<2 ^ (fld F i).width:=by
 have h1:=h.size i hi
 have h2:=h.fit i hi
 have h3:=hs.2 i (by rw [hs.1];exact hi)
 omega
theorem PkOk.shl (h:PkOk vars vars.length F W) (hs:StateOk vars s) {i:Nat}(hi:i<vars.length):(s.getD i tInt.dflt).toNat*2 ^ (fld F i).bit<18446744073709551616:=by
 have h1:=h.val_lt hs hi
 have h2:=(h.wd i hi).2
 have h3:2 ^ (fld F i).width*2 ^ (fld F i).bit≤2 ^ 64:=by
  rw [←Nat.pow_add];exact Nat.pow_le_pow_right (by decide) (by omega)
 have h4:(s.getD i tInt.dflt).toNat*2 ^ (fld F i).bit<2 ^ (fld F i).width*2 ^ (fld F i).bit:=Nat.mul_lt_mul_of_pos_right h1 (Nat.two_pow_pos _)
 omega
theorem Pkd.lt (h:PkOk vars vars.length F W) (hs:StateOk vars s) (hk:k≤vars.length) (hp:Pkd F s W k ws) {x:Nat}(hx:x<W):ws.getD x 0<18446744073709551616:=by
 have:ws.getD x 0<2 ^ 64:=by
  refine Nat.lt_pow_two_of_testBit _ fun b hb => ?_
  cases hh:(ws.getD x 0).testBit b with
  | false=>rfl
  | true =>
   obtain⟨i,hi,h1,h2,h3⟩:=(hp.bits x hx b).1 hh
   have hv:=h.val_lt hs (i:=i) (by omega)
   have hw:=(h.wd i (by omega)).2
   rw [Nat.testBit_lt_two_pow (Nat.lt_of_lt_of_le hv (Nat.pow_le_pow_right (by decide) (by omega)))] at h3
   cases h3
 exact this
theorem Pkd.next (h:PkOk vars vars.length F W) (hk:k<vars.length) (hp:Pkd F s W k ws):Pkd F s W (k+1) (ws.set (fld F k).word (ws.getD (fld F k).word 0 ||| (s.getD k tInt.dflt).toNat*2 ^ (fld F k).bit)):=by
 have hw:=(h.wd k hk).1
 have hl:=hp.len
 refine⟨by simp [hl],fun x hx b => ?_⟩
 rw [qpr (by omega)]
 by_cases e:x=(fld F k).word
 ·subst e
  rw [if_pos rfl,Nat.testBit_or,Bool.or_eq_true,hp.bits _ hx b,←Nat.shiftLeft_eq,Nat.testBit_shiftLeft,Bool.and_eq_true,decide_eq_true_eq]
  constructor
  ·rintro (⟨i,h1,h2⟩|⟨h1,h2⟩)
   ·exact⟨i,by omega,h2⟩
   ·exact⟨k,by omega,rfl,h1,h2⟩
  ·rintro⟨i,h1,h2,h3,h4⟩
   by_cases e:i<k
   ·exact .inl ⟨i,e,h2,h3,h4⟩
   ·obtain rfl:i=k:=by omega
    exact .inr ⟨h3,h4⟩
 ·rw [if_neg e,hp.bits _ hx b]
  constructor
  ·rintro⟨i,h1,h2⟩;exact⟨i,by omega,h2⟩
  ·rintro⟨i,h1,h2,h3⟩
   by_cases e2:i<k
   ·exact⟨i,e2,h2,h3⟩
   ·obtain rfl:i=k:=by omega
    exact absurd h2.symm e
theorem Pkd.uniq {ws':List Nat}(h:Pkd F s W k ws) (h':Pkd F s W k ws'):ws=ws':=by
 refine List.ext_getElem (by rw [h.len,h'.len]) fun x h1 h2 => ?_
 have hx:x<W:=by rw [←h.len];exact h1
 have e1:ws[x]=ws.getD x 0:=by simp [List.getD,h1]
 have e2:ws'[x]=ws'.getD x 0:=by simp [List.getD,h2]
 rw [e1,e2]
 refine Nat.eq_of_testBit_eq fun b => ?_
 have a:=h.bits x hx b
 have c:=h'.bits x hx b
 rw [Bool.eq_iff_iff,a,c]
theorem Pkd.bit (h:PkOk vars vars.length F W) (hs:StateOk vars s) (hp:Pkd F s W vars.length ws) {i j:Nat}(hi:i<vars.length) (hj:j<(fld F i).width):(ws.getD (fld F i).word 0).testBit ((fld F i).bit+j)=(s.getD i tInt.dflt).toNat.testBit j:=by
 rw [Bool.eq_iff_iff,hp.bits _ (h.wd i hi).1]
 constructor
 ·rintro⟨i',h1,h2,h3,h4⟩
  have hv:=h.val_lt hs h1
  have hb:(fld F i).bit+j-(fld F i').bit<(fld F i').width:=Nat.lt_of_not_le fun hh=>by
   rw [Nat.testBit_lt_two_pow (Nat.lt_of_lt_of_le hv (Nat.pow_le_pow_right (by decide) hh))] at h4
   cases h4
  have:i'=i:=by
   rcases Nat.lt_trichotomy i i' with e|e|e
   ·have:=h.dj i i' e h1 h2.symm;omega
   ·exact e.symm
   ·have:=h.dj i' i e hi h2;omega
  subst this
  rwa [Nat.add_sub_cancel_left] at h4
 ·intro h4
  exact⟨i,hi,rfl,Nat.le_add_right _ _,by rwa [Nat.add_sub_cancel_left]⟩
def maskF (f:Fld):Nat:=(2 ^ f.width-1)*2 ^ f.bit
theorem qgy (f:Fld) (b:Nat):(maskF f).testBit b=(decide (f.bit≤b) && decide (b-f.bit<f.width)):=by
 unfold maskF
 rw [←Nat.shiftLeft_eq,Nat.testBit_shiftLeft,Nat.testBit_two_pow_sub_one]
theorem qfx {f:Fld}(h:f.bit+f.width≤64):maskF f<18446744073709551616:=by
 have:maskF f<2 ^ 64:=by
  refine Nat.lt_pow_two_of_testBit _ fun b hb => ?_
  rw [qgy]
  simp only [Bool.and_eq_false_iff,decide_eq_false_iff_not]
  omega
 exact this
theorem Pkd.get (h:PkOk vars vars.length F W) (hs:StateOk vars s) (hp:Pkd F s W vars.length ws) {i:Nat}(hi:i<vars.length):(ws.getD (fld F i).word 0 &&& maskF (fld F i)) / 2 ^ (fld F i).bit=(s.getD i tInt.dflt).toNat:=by
 refine Nat.eq_of_testBit_eq fun b => ?_
 rw [←Nat.shiftRight_eq_div_pow,Nat.testBit_shiftRight,Nat.testBit_and,qgy]
 by_cases hb:b<(fld F i).width
 ·rw [hp.bit h hs hi hb]
  simp [hb]
 ·have hv:=h.val_lt hs hi
  rw [Nat.testBit_lt_two_pow (Nat.lt_of_lt_of_le hv (Nat.pow_le_pow_right (by decide) (Nat.le_of_not_lt hb)))]
  simp [hb]
theorem Pkd.inj {s':List Int}(h:PkOk vars vars.length F W) (hs:StateOk vars s) (hs':StateOk vars s') (hp:Pkd F s W vars.length ws) (hp':Pkd F s' W vars.length ws):s=s':=by
 refine List.ext_getElem (by rw [hs.1,hs'.1]) fun i hi hj => ?_
 rw [←qaj (d:=tInt.dflt) hi,←qaj (d:=tInt.dflt) hj]
 have hi':i<vars.length:=by rw [←hs.1];exact hi
 have e1:=hp.get h hs hi'
 have e2:=hp'.get h hs' hi'
 have a:=(hs.2 i hi).1
 have b:=(hs'.2 i (by rw [hs'.1];exact hi')).1
 omega
structure RstI (F:List Fld) (ws:List Nat) (k:Nat) (rs:List Nat):Prop where
 len:rs.length=ws.length
 bits:∀ x,x<ws.length→∀ b,(rs.getD x 0).testBit b=true↔(ws.getD x 0).testBit b=true∧∀ i,i<k→(fld F i).word=x→¬((fld F i).bit≤b∧b-(fld F i).bit<(fld F i).width)
theorem RstI.zero (F:List Fld) (ws:List Nat):RstI F ws 0 ws:=⟨rfl,fun x hx b=>⟨fun h=>⟨h,fun _ h=>absurd h (Nat.not_lt_zero _)⟩,fun h=>h.1⟩⟩
theorem RstI.next {rs:List Nat}(h:RstI F ws k rs) (hw:(fld F k).word<ws.length) (h64:(fld F k).bit+(fld F k).width≤64) (hr:∀ x,x<ws.length→ws.getD x 0<18446744073709551616):RstI F ws (k+1) (rs.set (fld F k).word (rs.getD (fld F k).word 0 &&& nb64 (maskF (fld F k)))):=by
 have hl:=h.len
 refine⟨by simp [hl],fun x hx b => ?_⟩
 rw [qpr (by omega)]
 by_cases e:x=(fld F k).word
 ·subst e
  rw [if_pos rfl,Nat.testBit_and,Bool.and_eq_true,h.bits _ hx b,qrc (qfx h64),qgy]
  constructor
  ·rintro⟨⟨h1,h2⟩,h3⟩
   refine⟨h1,fun i hi hwi => ?_⟩
   by_cases e:i<k
   ·exact h2 i e hwi
   ·obtain rfl:i=k:=by omega
    simp only [Bool.and_eq_true,decide_eq_true_eq,Bool.not_eq_true',Bool.and_eq_false_iff,decide_eq_false_iff_not] at h3
    omega
  ·rintro⟨h1,h2⟩
   refine⟨⟨h1,fun i hi=>h2 i (by omega)⟩,?_⟩
   have:=h2 k (by omega) rfl
   have hb:b<64:=Nat.lt_of_not_le fun hh=>by
    have h3:=hr _ hx
    rw [Nat.testBit_lt_two_pow (Nat.lt_of_lt_of_le (show _<2 ^ 64 from h3) (Nat.pow_le_pow_right (by decide) hh))] at h1
    cases h1
   simp only [Bool.and_eq_true,decide_eq_true_eq,Bool.not_eq_true',Bool.and_eq_false_iff,decide_eq_false_iff_not]
   omega
 ·rw [if_neg e,h.bits _ hx b]
  constructor
  ·rintro⟨h1,h2⟩
   refine⟨h1,fun i hi hwi => ?_⟩
   by_cases e2:i<k
   ·exact h2 i e2 hwi
   ·obtain rfl:i=k:=by omega
    exact absurd hwi.symm e
  ·rintro⟨h1,h2⟩
   exact⟨h1,fun i hi=>h2 i (by omega)⟩
theorem RstI.lt {rs:List Nat}(h:RstI F ws k rs) (hr:∀ x,x<ws.length→ws.getD x 0<18446744073709551616) {x:Nat}(hx:x<ws.length):rs.getD x 0<18446744073709551616:=by
 have:rs.getD x 0<2 ^ 64:=by
  refine Nat.lt_pow_two_of_testBit _ fun b hb => ?_
  cases hh:(rs.getD x 0).testBit b with
  | false=>rfl
  | true =>
   have h1:=((h.bits x hx b).1 hh).1
   rw [Nat.testBit_lt_two_pow (Nat.lt_of_lt_of_le (show _<2 ^ 64 from hr x hx) (Nat.pow_le_pow_right (by decide) hb))] at h1
   cases h1
 exact this
theorem RstI.end_ {rs:List Nat}(h:PkOk vars vars.length F W) (hs:StateOk vars s) (hp:Pkd F s W vars.length ws) (hr:RstI F ws vars.length rs) {x:Nat}(hx:x<rs.length):rs.getD x 0=0:=by
 refine Nat.eq_of_testBit_eq fun b => ?_
 rw [Nat.zero_testBit]
 cases hh:(rs.getD x 0).testBit b with
 | false=>rfl
 | true =>
  have hx':x<ws.length:=by rw [←hr.len];exact hx
  obtain⟨h1,h2⟩:=(hr.bits x hx' b).1 hh
  obtain⟨i,h3,h4,h5,h6⟩:=(hp.bits x (by rw [←hp.len];exact hx') b).1 h1
  have hv:=h.val_lt hs h3
  have hb:b-(fld F i).bit<(fld F i).width:=Nat.lt_of_not_le fun hh=>by
   rw [Nat.testBit_lt_two_pow (Nat.lt_of_lt_of_le hv (Nat.pow_le_pow_right (by decide) hh))] at h6
   cases h6
  exact absurd ⟨h5,hb⟩ (h2 i h3 h4)
def hshS (h x:Nat):Nat:=((h ^^^ x)*13787848793156543929 % 18446744073709551616) ^^^ ((h ^^^ x)*13787848793156543929 % 18446744073709551616 / 2 ^ 29)
def hshK (ws:List Nat) (k:Nat):Nat:=(ws.take k).foldl hshS ((ws.length+11400714819323198485) % 18446744073709551616)
def hshL (ws:List Nat):Int:=((hshK ws ws.length / 2 ^ 2:Nat):Int)
theorem qgz {α β:Type}(f:β→α→β) (b:β) {l:List α}{k:Nat}{d:α}(h:k<l.length):(l.take (k+1)).foldl f b=f ((l.take k).foldl f b) (l.getD k d):=by
 rw [qan d h,List.foldl_append,List.foldl_cons,List.foldl_nil]
theorem qj1 {ws:List Nat}{k:Nat}(h:k<ws.length):hshK ws (k+1)=hshS (hshK ws k) (ws.getD k tU64.dflt):=by
 unfold hshK
 exact qgz hshS _ h
theorem qry {a b:Nat}(ha:a<18446744073709551616) (hb:b<18446744073709551616):a ^^^ b<18446744073709551616:=by
 have:=Nat.xor_lt_two_pow (n:=64) ha hb;omega
theorem qiS (a:Nat):a % 18446744073709551616<18446744073709551616:=by omega
theorem qtb {h x:Nat}:hshS h x<18446744073709551616:=by
 unfold hshS
 generalize (h ^^^ x)*13787848793156543929=m
 have h1:=qiS m
 generalize m % 18446744073709551616=q at *
 exact qry h1 (Nat.lt_of_le_of_lt (Nat.div_le_self _ _) h1)
theorem qj2 (ws:List Nat):hshK ws 0=(ws.length+11400714819323198485) % 18446744073709551616:=by
 unfold hshK
 rw [List.take_zero,List.foldl_nil]
theorem qps (ws:List Nat) {k:Nat}:k≤ws.length→hshK ws k<18446744073709551616:=by
 induction k with
 | zero=>intro _;rw [qj2];exact qiS _
 | succ k _=>intro h;rw [qj1 (by omega)];exact qtb
end
end Go.Proofs.YtkmbenhffledpaaGreat
/-
  The error code of a task, in plain Lean.
-/
namespace Go.Proofs.YtkmbenhffledpaaGreat
open Go.Sl
def opConds (o:TOp):List (List Fact):=o.pre::o.effs.map (·.when)
def condsK (t:TTask) (k:Nat):List (List Fact):=t.goal::(t.ops.take k).flatMap opConds
def conds (t:TTask):List (List Fact):=condsK t t.ops.length
def LargeT (t:TTask):Prop:=64<t.vars.length∨4096<t.ops.length∨(∃ i,i<t.ops.length∧64<(t.ops.getD i dOp).effs.length)∨∃ i,i<(conds t).length∧64<((conds t).getD i []).length
def DomT (t:TTask):Prop:=∀ i,i<t.vars.length→1≤t.vars.getD i tInt.dflt∧t.vars.getD i tInt.dflt≤64
def CostT (t:TTask):Prop:=∀ i,i<t.ops.length→0≤(t.ops.getD i dOp).cost∧(t.ops.getD i dOp).cost≤1048576
def CondT (t:TTask):Prop:=∀ i,i<(conds t).length→FactsOk t.vars ((conds t).getD i [])
def EffT (t:TTask):Prop:=∀ i,i<t.ops.length→∀ j,j<(t.ops.getD i dOp).effs.length→FactsOk t.vars [⟨((t.ops.getD i dOp).effs.getD j dEff).var,((t.ops.getD i dOp).effs.getD j dEff).val⟩]
def NamesT (t:TTask):Prop:=∀ i,i<t.ops.length→NameOk (t.ops.getD i dOp).name
open Classical in
noncomputable def checkT (t:TTask):Int :=
 if LargeT t then 5 else if ¬DomT t then 1 else if ¬CostT t then 1 else if ¬StateOk t.vars t.init then 2 else if ¬CondT t then 2 else if ¬EffT t then 2 else if ¬NamesT t then 8 else 0
theorem qkp (t:TTask):condsK t 0=[t.goal]:=by simp [condsK]
theorem qfD (t:TTask) {k:Nat}(hk:k<t.ops.length):condsK t (k+1)=condsK t k++opConds (t.ops.getD k dOp):=by
 simp [condsK,qan dOp hk]
theorem qey (t:TTask):∀ k,k≤t.ops.length→(∀ i,i<t.ops.length→(t.ops.getD i dOp).effs.length≤64)→(condsK t k).length≤1+65*k
 | 0,_,_=>by simp [condsK]
 | k+1,hk,h=>by
  have:=qey t k (by omega) h
  have h2:=h k (by omega)
  rw [qfD t (by omega),List.length_append]
  simp only [opConds,List.length_cons,List.length_map]
  omega
theorem qdY {t:TTask}{f:List Fact}:f∈conds t↔(f=t.goal∨∃ i,i<t.ops.length∧(f=(t.ops.getD i dOp).pre∨∃ j,j<(t.ops.getD i dOp).effs.length∧f=((t.ops.getD i dOp).effs.getD j dEff).when)):=by
 simp only [conds,condsK,List.take_length,List.mem_cons,List.mem_flatMap,opConds,List.mem_map]
 constructor
 ·rintro (h|⟨o,ho,h⟩)
  ·exact .inl h
  ·obtain⟨i,hi,rfl⟩:=List.getElem_of_mem ho
   refine .inr ⟨i,hi,?_⟩
   rw [qaj hi]
   rcases h with h|⟨e,he,rfl⟩
   ·exact .inl h
   ·obtain⟨j,hj,rfl⟩:=List.getElem_of_mem he
    exact .inr ⟨j,hj,by rw [qaj hj]⟩
 ·rintro (h|⟨i,hi,h⟩)
  ·exact .inl h
  ·refine .inr ⟨t.ops.getD i dOp,qak _ hi,?_⟩
   rcases h with h|⟨j,hj,rfl⟩
   ·exact .inl h
   ·exact .inr ⟨_,qak _ hj,rfl⟩
theorem qi9 {vars:List Int}{f:List Fact}(h:FactsOk vars f):∀ i,i<f.length→(i:Int)≤(f.getD i tFact.dflt).var
 | 0,h0=>(h 0 h0).1.1
 | i+1,hi=>by
  have h1:=qi9 h i (by omega)
  have h2:=(h (i+1) hi).2 (by omega)
  simp only [Nat.add_sub_cancel] at h2
  omega
theorem qaI {vars:List Int}{f:List Fact}(h:FactsOk vars f):f.length≤vars.length:=by
 rcases Nat.eq_zero_or_pos f.length with h0|h0
 ·omega
 ·have h1:=qi9 h (f.length-1) (by omega)
  have h2:=(h (f.length-1) (by omega)).1.2.1
  omega
theorem qja {t:TTask}:CondT t↔∀ f∈conds t,FactsOk t.vars f:=by
 constructor
 ·intro h f hf
  obtain⟨i,hi,rfl⟩:=List.getElem_of_mem hf
  have:=h i hi
  rwa [qaj hi] at this
 ·intro h i hi
  exact h _ (qak _ hi)
theorem qbk (t:TTask):checkT t=0↔GoodT t:=by
 unfold checkT
 constructor
 ·intro h
  split at h
  ·cases h
  rename_i h1
  split at h
  ·cases h
  rename_i h2
  split at h
  ·cases h
  rename_i h3
  split at h
  ·cases h
  rename_i h4
  split at h
  ·cases h
  rename_i h5
  split at h
  ·cases h
  rename_i h6
  split at h
  ·cases h
  rename_i h7
  rw [Classical.not_not] at h2 h3 h4 h5 h6 h7
  simp only [LargeT,not_or,not_exists,not_and,Nat.not_lt] at h1
  have h5':=qja.1 h5
  refine⟨h1.1,h1.2.1,h2,h4,h5' _ (qdY.2 (.inl rfl)),fun i hi=>⟨(h3 i hi).1,(h3 i hi).2,h1.2.2.1 i hi,h7 i hi,h5' _ (qdY.2 (.inr ⟨i,hi,.inl rfl⟩)),fun j hj=>⟨h5' _ (qdY.2 (.inr ⟨i,hi,.inr ⟨j,hj,rfl⟩⟩)),h6 i hi j hj⟩⟩⟩
 ·intro h
  have hc:∀ f∈conds t,FactsOk t.vars f:=fun f hf=>by
   rcases qdY.1 hf with rfl|⟨i,hi,rfl|⟨j,hj,rfl⟩⟩
   ·exact h.goal
   ·exact (h.op i hi).pre
   ·exact ((h.op i hi).eff j hj).1
  have h1:¬LargeT t:=by
   rintro (h1|h1|⟨i,hi,h1⟩|⟨i,hi,h1⟩)
   ·have:=h.vars;omega
   ·have:=h.ops;omega
   ·have:=(h.op i hi).effs;omega
   ·have:=qaI (hc _ (qak [] hi))
    have:=h.vars
    omega
  have a2:DomT t:=h.dom
  have a3:CostT t:=fun i hi=>⟨(h.op i hi).cost0,(h.op i hi).cost1⟩
  have a5:CondT t:=qja.2 hc
  have a6:EffT t:=fun i hi j hj=>((h.op i hi).eff j hj).2
  have a7:NamesT t:=fun i hi=>(h.op i hi).name
  rw [if_neg h1,if_neg (Classical.not_not.2 a2),if_neg (Classical.not_not.2 a3),if_neg (Classical.not_not.2 h.init),if_neg (Classical.not_not.2 a5),if_neg (Classical.not_not.2 a6),if_neg (Classical.not_not.2 a7)]
end Go.Proofs.YtkmbenhffledpaaGreat
/-
  The visited states of IDA*, kept under texts of bytes.
-/
namespace Go.Proofs.YtkmbenhffledpaaGreat
open Go.Sl Go
end Go.Proofs.YtkmbenhffledpaaGreat
/-
  A table that is filled from the left.
-/
namespace Go.Proofs.YtkmbenhffledpaaGreat
open Go.Sl
def fillL (n:Nat) (f:Nat→Int) (k:Nat):List Int:=(List.range n).map fun i=>if i<k then f i else 0
theorem qbt (n:Nat) (f:Nat→Int) (k:Nat):(fillL n f k).length=n:=by simp [fillL]
theorem qeF (n:Nat) (f:Nat→Int):fillL n f 0=List.replicate n 0:=by
 apply List.ext_getElem (by simp [fillL])
 intro i h1 h2;simp [fillL]
theorem qfM {n:Nat}{f:Nat→Int}{k:Nat}:(fillL n f k).set k (f k)=fillL n f (k+1):=by
 apply List.ext_getElem (by simp [fillL])
 intro i h1 h2
 rw [List.getElem_set]
 simp only [fillL,List.getElem_map,List.getElem_range]
 split
 ·rename_i e;subst e;rw [if_pos (by omega)]
 ·by_cases h:i<k
  ·rw [if_pos h,if_pos (by omega)]
  ·rw [if_neg h,if_neg (by omega)]
theorem qh7 {n:Nat}{f:Nat→Int}{k i:Nat}(h:i<n) (hk:i<k):(fillL n f k).getD i tInt.dflt=f i:=by simp [fillL,List.getD,h,hk]
end Go.Proofs.YtkmbenhffledpaaGreat
/-
  A registry of states, in plain Lean: buckets of numbers by hash.
-/
namespace Go.Proofs.YtkmbenhffledpaaGreat
open Go.Sl
structure REnt where
 words:Value
 par:Int
 op:Int
 cost:Int
def tREnt:Ty REnt:=⟨4,fun e=>[e.words,.int .i64 e.par,.int .i64 e.op,.int .i64 e.cost],fun _=>rfl,⟨.slice none 0 0,0,0,0⟩⟩
instance inTReg1:ShutT tREnt:=⟨trivial⟩
def hids (wsl:List (List Nat)) (h:Int):List Int:=((List.range wsl.length).filter fun (i:Nat)=>decide (hshL (wsl.getD i [])=h)).map fun (i:Nat)=>(i:Int)
theorem qiG {wsl:List (List Nat)}{h x:Int}:x∈hids wsl h↔∃ i:Nat,x=i∧i<wsl.length∧hshL (wsl.getD i [])=h:=by
 unfold hids
 simp only [List.mem_map,List.mem_filter,List.mem_range,decide_eq_true_eq]
 constructor
 ·rintro⟨i,⟨h1,h2⟩,rfl⟩;exact⟨i,rfl,h1,h2⟩
 ·rintro⟨i,rfl,h1,h2⟩;exact⟨i,⟨h1,h2⟩,rfl⟩
theorem qma (wsl:List (List Nat)) (h:Int):(hids wsl h).length≤wsl.length:=by
 unfold hids
 rw [List.length_map]
 exact Nat.le_trans (List.length_filter_le _ _) (by simp)
theorem qes (wsl:List (List Nat)) (ws:List Nat) (h:Int):hids (wsl++[ws]) h=hids wsl h++(if hshL ws=h then [(wsl.length:Int)] else []):=by
 unfold hids
 rw [List.length_append,List.length_singleton,List.range_succ,List.filter_append,List.map_append]
 have h1:(List.range wsl.length).filter (fun (i:Nat)=>decide (hshL ((wsl++[ws]).getD i [])=h))=(List.range wsl.length).filter fun (i:Nat)=>decide (hshL (wsl.getD i [])=h):=List.filter_congr fun i hi=>by
  have hi:=List.mem_range.1 hi
  rw [show (wsl++[ws]).getD i []=wsl.getD i [] by simp [List.getD_eq_getElem?_getD,List.getElem?_append_left hi]]
 have h2:(wsl++[ws]).getD wsl.length []=ws:=by simp [List.getD_eq_getElem?_getD]
 rw [h1]
 congr 1
 simp only [List.filter_cons,List.filter_nil]
 rw [h2]
 by_cases e:hshL ws=h
 ·simp [e]
 ·simp [e]
structure RegI (vars:List Int) (F:List Fld) (W:Nat) (st:List (List Int)) (lk:List Lnk) (es:List REnt) (wsl:List (List Nat)) (kv:List (Int × Value)) (bs:List (List Int)):Prop where
 el:es.length=st.length
 wl:wsl.length=st.length
 kl:lk.length=st.length
 pk:∀ i,i<st.length→Pkd F (st.getD i []) W vars.length (wsl.getD i [])
 ok:∀ i,i<st.length→StateOk vars (st.getD i [])
 lnk:∀ i,i<st.length→(eget tREnt es i).par=(lk.getD i dLnk).par∧(eget tREnt es i).op=(lk.getD i dLnk).op∧(eget tREnt es i).cost=(lk.getD i dLnk).cost
 nd:(kv.map (·.1)).Nodup
 bl:bs.length=kv.length
 bk:∀ (j:Nat) (x:Int) (v:Value),kv[j]? = some (x,v)→bs.getD j []=hids wsl x
 all:∀ i,i<st.length→hshL (wsl.getD i [])∈kv.map (·.1)
section
variable {vars:List Int}{F:List Fld}{W:Nat}{st:List (List Int)}{lk:List Lnk}{es:List REnt}{wsl:List (List Nat)}{kv:List (Int × Value)}{bs:List (List Int)}
theorem RegI.zero (vars:List Int) (F:List Fld) (W:Nat):RegI vars F W [] [] [] [] [] [] :=
 ⟨rfl,rfl,rfl,fun _ h=>absurd h (Nat.not_lt_zero _),fun _ h=>absurd h (Nat.not_lt_zero _),fun _ h=>absurd h (Nat.not_lt_zero _),List.nodup_nil,rfl,fun _ _ _ h=>by simp at h,fun _ h=>absurd h (Nat.not_lt_zero _)⟩
theorem RegI.none (h:RegI vars F W st lk es wsl kv bs) {x:Int}(hx:x∉kv.map (·.1)):hids wsl x=[]:=by
 refine List.eq_nil_iff_forall_not_mem.2 fun y hy => ?_
 obtain⟨i,rfl,hi,he⟩:=qiG.1 hy
 exact hx (by rw [←he];exact h.all i (by rw [←h.wl];exact hi))
theorem RegI.hit (h:RegI vars F W st lk es wsl kv bs) {s:List Int}{ws:List Nat}(hp:Pkd F s W vars.length ws) {i:Nat}(hi:i<st.length) (he:st.getD i []=s):wsl.getD i []=ws∧(i:Int)∈hids wsl (hshL ws):=by
 have h1:=h.pk i hi
 rw [he] at h1
 have h2:=h1.uniq hp
 exact⟨h2,qiG.2 ⟨i,rfl,by rw [h.wl];exact hi,by rw [h2]⟩⟩
theorem RegI.same (h:RegI vars F W st lk es wsl kv bs) (hk:PkOk vars vars.length F W) {s:List Int}{ws:List Nat}(hs:StateOk vars s) (hp:Pkd F s W vars.length ws) {i:Nat}(hi:i<st.length) (he:wsl.getD i []=ws):st.getD i []=s:=by
 have h1:=h.pk i hi
 rw [he] at h1
 exact h1.inj hk (h.ok i hi) hs hp
theorem RegI.setl (h:RegI vars F W st lk es wsl kv bs) {i:Nat}(hi:i<st.length) (l:Lnk):RegI vars F W st (lk.set i l) (es.set i ⟨(eget tREnt es i).words,l.par,l.op,l.cost⟩) wsl kv bs:=by
 have hel:=h.el
 have hkl:=h.kl
 refine { h with el:=by simp [hel],kl:=by simp [hkl],lnk:=fun j hj => ?_ }
 rw [qaB]
 by_cases e:j=i
 ·subst e
  rw [qbw (by omega),if_pos rfl,qbw (by omega),if_pos rfl]
  exact⟨rfl,rfl,rfl⟩
 ·rw [qbw (by omega),if_neg e,qbw (by omega),if_neg e,←qaB]
  exact h.lnk j hj
theorem RegI.add (h:RegI vars F W st lk es wsl kv bs) {s:List Int}{ws:List Nat}(hs:StateOk vars s) (hp:Pkd F s W vars.length ws) {wv:Value}{kv':List (Int × Value)}{bs':List (List Int)}(hnd:(kv'.map (·.1)).Nodup) (hbl:bs'.length=kv'.length)
  (hbk:∀ (j:Nat) (x:Int) (v:Value),kv'[j]? = some (x,v)→bs'.getD j []=hids (wsl++[ws]) x) (hall:∀ x,x∈kv.map (·.1)∨x=hshL ws→x∈kv'.map (·.1)) :
  RegI vars F W (st++[s]) (lk++[dLnk]) (es++[⟨wv,-1,-1,0⟩]) (wsl++[ws]) kv' bs':=by
 have hel:=h.el
 have hwl:=h.wl
 have hkl:=h.kl
 refine⟨by simp [hel],by simp [hwl],by simp [hkl],fun i hi => ?_,fun i hi => ?_,fun i hi => ?_,hnd,hbl,hbk,fun i hi => ?_⟩
 ·by_cases e:i<st.length
  ·rw [app_l e,app_l (by omega)];exact h.pk i e
  ·have e2:i=st.length:=by simp at hi;omega
   rw [qbB e2,qbB (by omega)];exact hp
 ·by_cases e:i<st.length
  ·rw [app_l e];exact h.ok i e
  ·have e2:i=st.length:=by simp at hi;omega
   rw [qbB e2];exact hs
 ·rw [qaB]
  by_cases e:i<st.length
  ·rw [app_l (by omega),app_l (by omega),←qaB];exact h.lnk i e
  ·have e2:i=st.length:=by simp at hi;omega
   rw [qbB (by omega),qbB (by omega)];exact⟨rfl,rfl,rfl⟩
 ·by_cases e:i<st.length
  ·rw [app_l (by omega)];exact hall _ (.inl (h.all i e))
  ·have e2:i=st.length:=by simp at hi;omega
   rw [qbB (by omega)];exact hall _ (.inr rfl)
theorem qo5 {kv:List (Int × Value)}{j k:Nat}{p:Int × Value}(hj:j<kv.length):(kv.set j p)[k]? = if k=j then some p else kv[k]? := by
 rw [List.getElem?_set]
 by_cases e:j=k
 ·subst e;simp [hj]
 ·rw [if_neg e,if_neg (Ne.symm e)]
theorem RegI.addA (h:RegI vars F W st lk es wsl kv bs) {s:List Int}{ws:List Nat}(hs:StateOk vars s) (hp:Pkd F s W vars.length ws) {j:Nat}{v:Value}(hj:kv[j]? = some (hshL ws,v)) (wv bv2:Value) :
  RegI vars F W (st++[s]) (lk++[dLnk]) (es++[⟨wv,-1,-1,0⟩]) (wsl++[ws]) (kv.set j (hshL ws,bv2)) (bs.set j (bs.getD j []++[(wsl.length:Int)])):=by
 have hjl:j<kv.length:=(List.getElem?_eq_some_iff.1 hj).1
 have hje:=(List.getElem?_eq_some_iff.1 hj).2
 have hbl:=h.bl
 have hkeys:(kv.set j (hshL ws,bv2)).map (·.1)=kv.map (·.1):=by
  apply List.ext_getElem (by simp)
  intro i h1 h2
  rw [List.getElem_map,List.getElem_map,List.getElem_set]
  split
  ·rename_i e;subst e;rw [hje]
  ·rfl
 refine h.add hs hp (by rw [hkeys];exact h.nd) (by simp [hbl]) (fun k x v' hk => ?_) (fun x hx => ?_)
 ·rw [qo5 hjl] at hk
  rw [qbw (by omega)]
  by_cases e:k=j
  ·rw [if_pos e] at hk ⊢
   obtain⟨rfl,rfl⟩:=Prod.mk.inj (Option.some.inj hk)
   rw [h.bk j _ v hj,qes,if_pos rfl]
  ·rw [if_neg e] at hk ⊢
   have hne:hshL ws≠x:=fun he=>by
    have hkl:k<kv.length:=(List.getElem?_eq_some_iff.1 hk).1
    have hke:=(List.getElem?_eq_some_iff.1 hk).2
    have h2:=List.pairwise_iff_getElem.1 h.nd
    have e1:(kv.map (·.1))[k]'(by simpa using hkl)=x:=by rw [List.getElem_map,hke]
    have e2:(kv.map (·.1))[j]'(by simpa using hjl)=hshL ws:=by rw [List.getElem_map,hje]
    rcases Nat.lt_trichotomy k j with hlt|heq|hlt
    ·exact h2 k j (by simpa using hkl) (by simpa using hjl) hlt (by rw [e1,e2,he])
    ·exact e heq
    ·exact h2 j k (by simpa using hjl) (by simpa using hkl) hlt (by rw [e1,e2,he])
   rw [h.bk k x v' hk,qes,if_neg hne,List.append_nil]
 ·rw [hkeys]
  rcases hx with hx|hx
  ·exact hx
  ·rw [hx]
   exact List.mem_map.2 ⟨_,List.mem_of_getElem? hj,rfl⟩
theorem RegI.addB (h:RegI vars F W st lk es wsl kv bs) {s:List Int}{ws:List Nat}(hs:StateOk vars s) (hp:Pkd F s W vars.length ws) (hx:hshL ws∉kv.map (·.1)) (wv bv2:Value) :
  RegI vars F W (st++[s]) (lk++[dLnk]) (es++[⟨wv,-1,-1,0⟩]) (wsl++[ws]) (kv++[(hshL ws,bv2)]) (bs++[[(wsl.length:Int)]]):=by
 have hbl:=h.bl
 refine h.add hs hp ?_ (by simp [hbl]) (fun k x v' hk => ?_) (fun x hx => ?_)
 ·rw [List.map_append,List.nodup_append]
  exact⟨h.nd,by simp,fun a ha b hb e=>hx (by rw [List.map_cons,List.map_nil,List.mem_singleton] at hb;have e2:a=hshL ws:=e.trans hb;rw [←e2];exact ha)⟩
 ·by_cases e:k<kv.length
  ·rw [List.getElem?_append_left e] at hk
   have hne:hshL ws≠x:=fun he=>hx (by rw [he];exact List.mem_map.2 ⟨_,List.mem_of_getElem? hk,rfl⟩)
   rw [app_l (by omega),h.bk k x v' hk,qes,if_neg hne,List.append_nil]
  ·have hkl:=(List.getElem?_eq_some_iff.1 hk).1
   have e2:k=kv.length:=by simp at hkl;omega
   rw [e2,List.getElem?_append_right (Nat.le_refl _),Nat.sub_self] at hk
   obtain⟨rfl,rfl⟩:=Prod.mk.inj (Option.some.inj hk)
   rw [qbB (by omega),qes,if_pos rfl,h.none hx];rfl
 ·rw [List.map_append,List.mem_append]
  rcases hx with hx|hx
  ·exact .inl hx
  ·exact .inr (by rw [hx];simp)
end
end Go.Proofs.YtkmbenhffledpaaGreat
/-
  The operators along links, in plain Lean.
-/
namespace Go.Proofs.YtkmbenhffledpaaGreat
open Go.Sl
inductive LPath (lk:List Lnk):Nat→List Int→Prop
 | root {i:Nat}:(lk.getD i dLnk).par<0→LPath lk i []
 | step {i p:Nat}{q:List Int}:(lk.getD i dLnk).par=(p:Int)→LPath lk p q→LPath lk i (q++[(lk.getD i dLnk).op])
def ParOk (lk:List Lnk) (n:Nat):Prop:=∀ i,i<n→(lk.getD i dLnk).par<(n:Int)
end Go.Proofs.YtkmbenhffledpaaGreat
/-
  The decision tree of the applicable operators, in plain Lean: what is collected in a state.
-/
namespace Go.Proofs.YtkmbenhffledpaaGreat
open Go.Sl
def factV (l:List Fact) (v:Nat):Option Int:=(l.find? fun f=>decide (f.var=(v:Int))).map (·.val)
def preV (t:TTask) (op:Int) (v:Nat):Option Int:=factV (t.ops.getD op.toNat dOp).pre v
def someV (t:TTask) (ops:List Int) (v:Nat):Bool:=ops.any fun op=>(preV t op v).isSome
def nextV (t:TTask) (ops:List Int):Nat→Nat→Nat
 | 0,v=>v
 | f+1,v=>if someV t ops v then v else nextV t ops f (v+1)
theorem qdn {t:TTask}{ops:List Int}:∀ {f v:Nat},v≤nextV t ops f v∧nextV t ops f v≤v+f∧(∀ u,v≤u→u<nextV t ops f v→someV t ops u=false)∧(nextV t ops f v<v+f→someV t ops (nextV t ops f v)=true)
 | 0,v=>⟨Nat.le_refl _,Nat.le_refl _,fun u h1 h2=>absurd (Nat.lt_of_le_of_lt h1 h2) (Nat.lt_irrefl _),fun h=>absurd h (Nat.lt_irrefl _)⟩
 | f+1,v=>by
  unfold nextV
  by_cases h:someV t ops v=true
  ·rw [if_pos h]
   exact⟨Nat.le_refl _,by omega,fun u h1 h2=>by omega,fun _=>h⟩
  ·rw [if_neg h]
   obtain⟨h1,h2,h3,h4⟩:=qdn (t:=t) (ops:=ops) (f:=f) (v:=v+1)
   refine⟨by omega,by omega,fun u hu1 hu2 => ?_,fun h5=>h4 (by omega)⟩
   by_cases e:u=v
   ·subst e;exact Bool.eq_false_iff.2 h
   ·exact h3 u (by omega) hu2
theorem qha {t:TTask}{ops:List Int}{f v:Nat}(h:someV t ops v=false):nextV t ops (f+1) v=nextV t ops f (v+1):=by
 rw [nextV,if_neg (by rw [h];decide)]
theorem qmv {t:TTask}{ops:List Int}{f v:Nat}(h:someV t ops v=true):nextV t ops f v=v:=by
 cases f with
 | zero=>rfl
 | succ f=>rw [nextV,if_pos h]
def byV (t:TTask) (ops:List Int) (v:Nat) (x:Int):List Int:=ops.filter fun op=>decide (preV t op v=some x)
def restV (t:TTask) (ops:List Int) (v:Nat):List Int:=ops.filter fun op=>(preV t op v).isNone
def colV (t:TTask) (s:List Int):Nat→List Int→Nat→List Int
 | 0,_,_=>[]
 | f+1,ops,v =>
  if ops=[] then [] else
  if nextV t ops (t.vars.length-v) v=t.vars.length then ops
  else colV t s f (byV t ops (nextV t ops (t.vars.length-v) v) (s.getD (nextV t ops (t.vars.length-v) v) tInt.dflt)) (nextV t ops (t.vars.length-v) v+1)++colV t s f (restV t ops (nextV t ops (t.vars.length-v) v)) (nextV t ops (t.vars.length-v) v+1)
def appV (t:TTask) (s:List Int) (op:Int) (v:Nat):Prop:=∀ u,v≤u→u<t.vars.length→∀ x,preV t op u=some x→s.getD u tInt.dflt=x
theorem qp9 {t:TTask}{ops:List Int}{u:Nat}(h:someV t ops u=false) {op:Int}(ho:op∈ops):preV t op u=none:=by
 unfold someV at h
 rw [List.any_eq_false] at h
 have:=h op ho
 cases hp:preV t op u with
 | none=>rfl
 | some x=>rw [hp] at this;simp at this
open Classical in
theorem qe0 {t:TTask}{s:List Int}{v:Nat}{x:Int}(P:Int→Prop):∀ {ops:List Int},(∀ op∈ops,P op→preV t op v=some x∨preV t op v=none) →
  ((byV t ops v x).filter (fun op=>decide (P op))++(restV t ops v).filter fun op=>decide (P op)).Perm (ops.filter fun op=>decide (P op))
 | [],_=>by simp [byV,restV]
 | op::ops,h=>by
  have ih:=qe0 (s:=s) P (ops:=ops) fun o ho=>h o (List.mem_cons_of_mem _ ho)
  have h0:=h op List.mem_cons_self
  unfold byV restV at *
  by_cases hP:P op
  ·rw [List.filter_cons_of_pos (p:=fun op=>decide (P op)) (decide_eq_true hP)]
   rcases h0 hP with e|e
   ·rw [List.filter_cons_of_pos (p:=fun op=>decide (preV t op v=some x)) (decide_eq_true e),List.filter_cons_of_neg (p:=fun op=>(preV t op v).isNone) (by rw [e];simp),List.filter_cons_of_pos (p:=fun op=>decide (P op)) (decide_eq_true hP),List.cons_append]
    exact ih.cons op
   ·rw [List.filter_cons_of_neg (p:=fun op=>decide (preV t op v=some x)) (by rw [e];simp),List.filter_cons_of_pos (p:=fun op=>(preV t op v).isNone) (by rw [e];rfl),List.filter_cons_of_pos (p:=fun op=>decide (P op)) (decide_eq_true hP)]
    exact List.perm_middle.trans (ih.cons op)
  ·rw [List.filter_cons_of_neg (p:=fun op=>decide (P op)) (by simpa using hP)]
   have key:∀ q:Int→Bool,((op::ops).filter q).filter (fun op=>decide (P op))=(ops.filter q).filter fun op=>decide (P op):=fun q=>by
    by_cases hq:q op=true
    ·rw [List.filter_cons_of_pos hq,List.filter_cons_of_neg (p:=fun op=>decide (P op)) (by simpa using hP)]
    ·rw [List.filter_cons_of_neg hq]
   rw [key,key]
   exact ih
open Classical in
theorem qd0 {t:TTask}{s:List Int}:∀ {f:Nat}{ops:List Int}{v:Nat},v≤t.vars.length→t.vars.length-v<f→(colV t s f ops v).Perm (ops.filter fun op=>decide (appV t s op v))
 | 0,_,_,_,h=>absurd h (Nat.not_lt_zero _)
 | f+1,ops,v,hv,hf=>by
  obtain⟨h1,h2,h3,h4⟩:=qdn (t:=t) (ops:=ops) (f:=t.vars.length-v) (v:=v)
  rw [colV]
  by_cases he:ops=[]
  ·rw [if_pos he,he];exact List.Perm.refl _
  rw [if_neg he]
  generalize nextV t ops (t.vars.length-v) v=m at *
  have hskip:∀ op∈ops,(appV t s op v↔appV t s op m):=fun op ho=>by
   constructor
   ·exact fun h u hu=>h u (by omega)
   ·intro h u hu hul x hx
    by_cases e:m≤u
    ·exact h u e hul x hx
    ·rw [qp9 (h3 u hu (by omega)) ho] at hx;cases hx
  by_cases hm:m=t.vars.length
  ·rw [if_pos hm]
   have:(ops.filter fun op=>decide (appV t s op v))=ops:=List.filter_eq_self.2 fun op ho=>decide_eq_true ((hskip op ho).2 fun u hu hul=>by omega)
   rw [this]
  ·rw [if_neg hm]
   have hml:m<t.vars.length:=by omega
   have i1:=qd0 (t:=t) (s:=s) (f:=f) (ops:=byV t ops m (s.getD m tInt.dflt)) (v:=m+1) (by omega) (by omega)
   have i2:=qd0 (t:=t) (s:=s) (f:=f) (ops:=restV t ops m) (v:=m+1) (by omega) (by omega)
   refine (i1.append i2).trans ?_
   have e0:(ops.filter fun op=>decide (appV t s op v))=ops.filter fun op=>decide (appV t s op m):=List.filter_congr fun op ho=>by
    rw [decide_eq_decide];exact hskip op ho
   rw [e0]
   have hp:=qe0 (t:=t) (s:=s) (v:=m) (x:=s.getD m tInt.dflt) (fun op=>appV t s op m) (ops:=ops) fun op ho h=>by
    cases hx:preV t op m with
    | none=>exact .inr rfl
    | some x=>exact .inl (by rw [h m (Nat.le_refl _) hml x hx])
   refine List.Perm.trans (List.Perm.of_eq ?_) hp
   congr 1
   ·refine List.filter_congr fun op ho => ?_
    rw [decide_eq_decide]
    have:=(List.mem_filter.1 ho).2
    rw [decide_eq_true_eq] at this
    constructor
    ·intro h u hu hul x hx
     by_cases e:u=m
     ·subst e;rw [this] at hx;cases hx;rfl
     ·exact h u (by omega) hul x hx
    ·exact fun h u hu=>h u (by omega)
   ·refine List.filter_congr fun op ho => ?_
    rw [decide_eq_decide]
    have:=(List.mem_filter.1 ho).2
    constructor
    ·intro h u hu hul x hx
     by_cases e:u=m
     ·subst e;rw [hx] at this;cases this
     ·exact h u (by omega) hul x hx
    ·exact fun h u hu=>h u (by omega)
end Go.Proofs.YtkmbenhffledpaaGreat
/-
  Projections of tasks to patterns, in plain Lean.
-/
namespace Go.Proofs.YtkmbenhffledpaaGreat
open Go.Sl
abbrev sg (s:List Int) (v:Int):Int:=s.getD v.toNat tInt.dflt
def valsL (s p:List Int):List Int:=p.map (sg s)
def cntL (vars p:List Int):Int:=prodL (valsL vars p)
def idxL (vars p s:List Int):Int:=rankL (valsL vars p) (valsL s p)
def PatOk (vars p:List Int):Prop:=∀ i,i<p.length→(0≤p.getD i tInt.dflt∧p.getD i tInt.dflt<vars.length)∧(0<i→p.getD (i-1) tInt.dflt<p.getD i tInt.dflt)
structure InV (vars p:List Int):Prop where
 mem:∀ v∈p,0≤v∧v<vars.length
 asc:p.Pairwise (·<·)
theorem qbD {s:List Int}{v x:Int}(h0:0≤v) (h:v<s.length):sg (s.set v.toNat x) v=x:=by
 simp [sg,List.getD,List.getElem?_set,show v.toNat<s.length by omega]
theorem qbN {s:List Int}{v u x:Int}(h0:0≤v) (h1:0≤u) (h:v≠u):sg (s.set v.toNat x) u=sg s u:=by
 simp [sg,List.getD,List.getElem?_set,show v.toNat≠u.toNat by omega]
theorem sg_of {s:List Int}{i:Nat}:sg s (i:Int)=s.getD i tInt.dflt:=by simp [sg]
theorem PatOk.inV {vars p:List Int}(h:PatOk vars p):InV vars p:=by
 refine⟨fun v hv => ?_,?_⟩
 ·obtain⟨i,hi,rfl⟩:=List.getElem_of_mem hv
  have:=(h i hi).1
  rwa [qaj hi] at this
 ·rw [List.pairwise_iff_getElem]
  intro i j hi hj hij
  have key:∀ k,(hk:i+k+1<p.length)→p[i]<p[i+k+1]:=by
   intro k
   induction k with
   | zero=>intro hk;have:=(h (i+1) (by omega)).2 (by omega);rw [qaj (by omega),qaj (by omega)] at this;simpa using this
   | succ k ih =>
    intro hk
    have h1:=ih (by omega)
    have:=(h (i+k+1+1) (by omega)).2 (by omega)
    rw [qaj (by omega),qaj (by omega)] at this
    simp only [Nat.add_sub_cancel] at this
    exact Int.lt_trans h1 this
  have:=key (j-i-1) (by omega)
  simpa [show i+(j-i-1)+1=j by omega] using this
theorem InV.pat {vars p:List Int}(h:InV vars p):PatOk vars p:=fun i hi =>
 ⟨h.mem _ (qak _ hi),fun h0=>by
  rw [qaj hi,qaj (by omega)]
  exact List.pairwise_iff_getElem.1 h.asc _ _ _ _ (by omega)⟩
theorem InV.init {vars l:List Int}{v:Int}(h:InV vars (l++[v])):InV vars l∧(0≤v∧v<vars.length)∧v∉l:=by
 refine⟨⟨fun u hu=>h.mem u (by simp [hu]),(List.pairwise_append.1 h.asc).1⟩,h.mem v (by simp),fun hv => ?_⟩
 have:=(List.pairwise_append.1 h.asc).2.2 v hv v (by simp)
 omega
theorem InV.le {vars p:List Int}(h:InV vars p):∀ i,i<p.length→(i:Int)≤p.getD i tInt.dflt
 | 0,hi=>(h.mem _ (qak _ hi)).1
 | i+1,hi=>by
  have h1:=InV.le h i (by omega)
  have h2:=(h.pat (i+1) hi).2 (by omega)
  simp only [Nat.add_sub_cancel] at h2
  omega
theorem InV.len {vars p:List Int}(h:InV vars p):p.length≤vars.length:=by
 rcases Nat.eq_zero_or_pos p.length with h0|h0
 ·omega
 ·have h1:=h.le (p.length-1) (by omega)
  have h2:=h.mem _ (qak tInt.dflt (show p.length-1<p.length by omega))
  omega
theorem qeG (s l:List Int) (v:Int):valsL s (l++[v])=valsL s l++[sg s v]:=by simp [valsL]
theorem qd4 (s p:List Int):(valsL s p).length=p.length:=by simp [valsL]
theorem qhj {s p:List Int}{i:Nat}(hi:i<p.length):(valsL s p).getD i tInt.dflt=sg s (p.getD i tInt.dflt):=by
 rw [qaj (by rw [qd4];exact hi),qaj hi];simp [valsL]
theorem qia {vars s p:List Int}(hs:StateOk vars s) (hp:∀ v∈p,0≤v∧v<vars.length):StateOk (valsL vars p) (valsL s p):=by
 refine⟨by simp [qd4],fun i hi => ?_⟩
 rw [qd4] at hi
 rw [qhj hi,qhj hi]
 have:=hp _ (qak tInt.dflt hi)
 exact hs.2 _ (by rw [hs.1];omega)
theorem qjo {vars p:List Int}(h:∀ x∈vars,1≤x) (hp:∀ v∈p,0≤v∧v<vars.length):∀ x∈valsL vars p,1≤x:=by
 intro x hx
 obtain⟨v,hv,rfl⟩:=List.mem_map.1 hx
 have:=hp v hv
 exact h _ (qak tInt.dflt (by omega))
theorem qaF {vars s p:List Int}(hs:StateOk vars s) (hp:∀ v∈p,0≤v∧v<vars.length):0≤idxL vars p s∧idxL vars p s<cntL vars p:=qaQ (qia hs hp)
theorem qfP (vars l:List Int) (v:Int):cntL vars (l++[v])=cntL vars l*sg vars v:=by simp [cntL,qeG,qbq]
theorem qjp (vars l s:List Int) (v:Int):idxL vars (l++[v]) s=idxL vars l s*sg vars v+sg s v:=by
 rw [idxL,qeG,qeG,qez (by simp [qd4])];rfl
theorem qct {vars p s s':List Int}(h:∀ v∈p,sg s v=sg s' v):idxL vars p s=idxL vars p s':=by
 unfold idxL valsL
 rw [List.map_congr_left h]
theorem qfi {vars p s s':List Int}(hs:StateOk vars s) (hs':StateOk vars s') (hp:∀ v∈p,0≤v∧v<vars.length) (h:idxL vars p s=idxL vars p s'):∀ v∈p,sg s v=sg s' v:=by
 have:=qjb (qia hs hp) (qia hs' hp) h
 intro v hv
 exact List.map_inj_left.1 this v hv
theorem qfj {vars p:List Int}(h:∀ x∈vars,1≤x) (hp:∀ v∈p,0≤v∧v<vars.length):1≤cntL vars p:=qbW (qjo h hp)
def putF (dom:List Int) (p:List Int × Int) (v:Int):List Int × Int:=(p.1.set v.toNat (p.2.tmod (dom.getD v.toNat tInt.dflt)),p.2.tdiv (dom.getD v.toNat tInt.dflt))
def putR (dom vs:List Int) (s:List Int) (n:Int):List Int × Int:=vs.foldl (putF dom) (s,n)
theorem qd5 (dom vs:List Int) (s:List Int) (n v:Int):putR dom (vs++[v]) s n=putF dom (putR dom vs s n) v:=by simp [putR]
theorem qlE (dom vs:List Int) (s:List Int) (n:Int):(putR dom vs s n).1.length=s.length:=by
 refine qaC (P:=fun vs=>(putR dom vs s n).1.length=s.length) rfl ?_ vs
 intro l v ih;rw [qd5,putF];simp [ih]
theorem qsr {dom vs:List Int}{s:List Int}{n:Int}(hd:∀ x∈dom,1≤x) (hn:0≤n):(∀ v∈vs,0≤v∧v<dom.length)→0≤(putR dom vs s n).2∧(putR dom vs s n).2≤n:=by
 refine qaC (P:=fun (vs:List Int)=>(∀ v∈vs,0≤v∧v<dom.length)→0≤(putR dom vs s n).2∧(putR dom vs s n).2≤n) (fun _=>⟨hn,Int.le_refl _⟩) ?_ vs
 intro l v ih h
 obtain⟨h1,h2⟩:=ih fun x hx=>h x (by simp [hx])
 obtain⟨h3,h4⟩:=h v (by simp)
 have h5:=hd _ (qak tInt.dflt (show v.toNat<dom.length by omega))
 rw [qd5,putF]
 simp only
 rw [Int.tdiv_eq_ediv_of_nonneg h1]
 exact⟨Int.ediv_nonneg h1 (by omega),Int.le_trans (Int.ediv_le_self _ h1) h2⟩
def putS (vars p s:List Int) (n:Int):List Int:=(putR vars p.reverse s n).1
theorem qoa (vars l s:List Int) (v n:Int):putS vars (l++[v]) s n=putS vars l (s.set v.toNat (n.tmod (sg vars v))) (n.tdiv (sg vars v)):=by
 simp [putS,putR,putF,List.reverse_append]
theorem qlF (vars p s:List Int) (n:Int):(putS vars p s n).length=s.length:=qlE _ _ _ _
theorem qdh {vars p:List Int}(hd:∀ x∈vars,1≤x):∀ {s:List Int}{n:Int},InV vars p→s.length=vars.length→0≤n→n<cntL vars p →
  idxL vars p (putS vars p s n)=n∧(∀ v∈p,0≤sg (putS vars p s n) v∧sg (putS vars p s n) v<sg vars v)∧∀ v,0≤v→v∉p→sg (putS vars p s n) v=sg s v:=by
 refine qaC (P:=fun p=>∀ {s:List Int}{n:Int},InV vars p→s.length=vars.length→0≤n→n<cntL vars p →
  idxL vars p (putS vars p s n)=n∧(∀ v∈p,0≤sg (putS vars p s n) v∧sg (putS vars p s n) v<sg vars v)∧∀ v,0≤v→v∉p→sg (putS vars p s n) v=sg s v) ?_ ?_ p
 ·intro s n _ _ h0 h1
  refine⟨?_,fun v hv=>by simp at hv,fun v _ _=>rfl⟩
  have:cntL vars []=1:=rfl
  have:idxL vars [] (putS vars [] s n)=0:=rfl
  omega
 ·intro l v ih s n hV hl h0 h1
  obtain⟨hV',⟨hv0,hv1⟩,hvl⟩:=hV.init
  have hdv:1≤sg vars v:=hd _ (qak tInt.dflt (by omega))
  rw [qoa,Int.tmod_eq_emod_of_nonneg h0,Int.tdiv_eq_ediv_of_nonneg h0]
  rw [qfP] at h1
  have hq0:0≤n / sg vars v:=Int.ediv_nonneg h0 (by omega)
  have hq1:n / sg vars v<cntL vars l:=Int.ediv_lt_of_lt_mul (by omega) h1
  obtain⟨i1,i2,i3⟩:=ih (s:=s.set v.toNat (n % sg vars v)) hV' (by simp [hl]) hq0 hq1
  have hsv:sg (putS vars l (s.set v.toNat (n % sg vars v)) (n / sg vars v)) v=n % sg vars v:=by
   rw [i3 v hv0 hvl,qbD hv0 (by omega)]
  have hm0:=Int.emod_nonneg n (show sg vars v≠0 by omega)
  have hm1:=Int.emod_lt_of_pos n (show 0<sg vars v by omega)
  refine⟨?_,fun u hu => ?_,fun u hu0 hu => ?_⟩
  ·rw [qjp,i1,hsv]
   have:=Int.mul_ediv_add_emod n (sg vars v)
   rw [Int.mul_comm];exact this
  ·rcases List.mem_append.1 hu with h|h
   ·exact i2 u h
   ·rw [List.mem_singleton.1 h,hsv];exact⟨hm0,hm1⟩
  ·have hne:v≠u:=fun e=>hu (by simp [e])
   rw [i3 u hu0 (fun h=>hu (by simp [h])),qbN hv0 hu0 hne]
theorem qib {vars p s:List Int}{n:Int}(hd:∀ x∈vars,1≤x) (hV:InV vars p) (h0:0≤n) (h1:n<cntL vars p) (hl:s.length=vars.length) (hs:∀ v:Int,0≤v→v<vars.length→v∉p→0≤sg s v∧sg s v<sg vars v):StateOk vars (putS vars p s n):=by
 obtain⟨_,i2,i3⟩:=qdh (s:=s) hd hV hl h0 h1
 refine⟨by rw [qlF,hl],fun i hi => ?_⟩
 rw [qlF,hl] at hi
 rw [←sg_of,←sg_of]
 by_cases hm:(i:Int)∈p
 ·exact i2 _ hm
 ·rw [i3 _ (by omega) hm];exact hs _ (by omega) (by omega) hm
theorem StateOk.rng {vars s:List Int}(h:StateOk vars s) {v:Int}(h0:0≤v) (h1:v<vars.length):0≤sg s v∧sg s v<sg vars v:=h.2 _ (by rw [h.1];omega)
theorem qss {l:List Int}:∀ {m:List Int},l.Pairwise (·<·)→m.Pairwise (·<·)→(∀ x,x∈l↔x∈m)→l=m:=by
 induction l with
 | nil =>
  intro m _ _ h
  cases m with
  | nil=>rfl
  | cons y m=>exact absurd ((h y).2 (by simp)) (by simp)
 | cons x l ih =>
  intro m hl hm h
  cases m with
  | nil=>exact absurd ((h x).1 (by simp)) (by simp)
  | cons y m =>
   rw [List.pairwise_cons] at hl hm
   have hxy:x=y:=by
    rcases List.mem_cons.1 ((h x).1 (by simp)) with e|e
    ·exact e
    ·rcases List.mem_cons.1 ((h y).2 (by simp)) with e'|e'
     ·exact e'.symm
     ·have:=hl.1 y e';have:=hm.1 x e;omega
   subst hxy
   refine congrArg _ (ih hl.2 hm.2 fun z => ?_)
   constructor
   ·intro hz
    rcases List.mem_cons.1 ((h z).1 (by simp [hz])) with e|e
    ·have:=hl.1 z hz;omega
    ·exact e
   ·intro hz
    rcases List.mem_cons.1 ((h z).2 (by simp [hz])) with e|e
    ·have:=hm.1 z hz;omega
    ·exact e
def upTo (n:Int):List Int:=(List.range n.toNat).map fun (i:Nat)=>(i:Int)
theorem qic {n x:Int}:x∈upTo n↔0≤x∧x<n:=by
 simp only [upTo,List.mem_map,List.mem_range]
 constructor
 ·rintro⟨i,hi,rfl⟩;omega
 ·intro h;exact⟨x.toNat,by omega,by omega⟩
theorem qqk (n:Int):(upTo n).Pairwise (·<·):=by
 rw [upTo,List.pairwise_map]
 exact List.pairwise_lt_range.imp fun h=>by omega
theorem qid (n:Int):(upTo n).length=n.toNat:=by simp [upTo]
open Classical in
noncomputable def pickL (n:Int) (p:Int→Prop):List Int:=(upTo n).filter fun x=>decide (p x)
theorem qbO {n x:Int}{p:Int→Prop}:x∈pickL n p↔(0≤x∧x<n)∧p x:=by simp [pickL,qic]
theorem qfQ (n:Int) (p:Int→Prop):(pickL n p).Pairwise (·<·):=(qqk n).filter _
theorem qob (n:Int) (p:Int→Prop):(pickL n p).length≤n.toNat:=by
 have:=List.length_filter_le (fun x=>@decide (p x) (Classical.propDecidable _)) (upTo n)
 rw [qid] at this
 exact this
theorem qie {l:List Int}{n:Int}{p:Int→Prop}(hl:l.Pairwise (·<·)) (h:∀ x,x∈l↔(0≤x∧x<n)∧p x):l=pickL n p :=
 qss hl (qfQ n p) fun x=>(h x).trans qbO.symm
def TGp (t:TTask) (p:List Int) (a:Int) (op:Nat) (b:Int):Prop:=∃ s,StateOk t.vars s∧idxL t.vars p s=a∧AppT t s op∧idxL t.vars p (succT t s op)=b
noncomputable def tgtL (t:TTask) (p:List Int) (a:Int) (op:Nat):List Int:=pickL (cntL t.vars p) (TGp t p a op)
def partL (p:List Int) (f:List Fact):List Fact:=f.filter fun x=>decide (x.var∈p)
def GoalP (t:TTask) (p:List Int) (a:Int):Prop:=∃ s,StateOk t.vars s∧idxL t.vars p s=a∧HoldFs s (partL p t.goal)
def FreeOf (o:TOp) (p:List Int) (v:Int):Prop:=(∃ e∈o.effs,e.var∈p∧∃ f∈e.when,f.var=v)∧v∉p∧∀ f∈o.pre,f.var≠v
noncomputable def freeL (vars:List Int) (o:TOp) (p:List Int):List Int:=pickL vars.length (FreeOf o p)
theorem qcZ (vars:List Int) (o:TOp) (p:List Int):InV vars (freeL vars o p):=⟨fun v hv=>(qbO.1 hv).1,qfQ _ _⟩
def effsP (p s:List Int) (effs:List Eff):List Int:=effs.foldl (fun out e=>if e.var∈p∧HoldFs s e.when then out.set e.var.toNat e.val else out) s
theorem qb6 (p s:List Int) (l:List Eff) (e:Eff):effsP p s (l++[e])=if e.var∈p∧HoldFs s e.when then (effsP p s l).set e.var.toNat e.val else effsP p s l:=by simp [effsP]
theorem qd6 (p s:List Int) (l:List Eff):(effsP p s l).length=s.length:=by
 refine qaC (P:=fun l=>(effsP p s l).length=s.length) rfl ?_ l
 intro l e ih;rw [qb6];split <;> simp [ih]
theorem qif {vars p s:List Int}{l:List Eff}(hs:s.length=vars.length) (hp:∀ v∈p,0≤v∧v<vars.length):(∀ e∈l,EffOk vars e)→∀ v∈p,sg (effsP p s l) v=sg (effsL s l) v:=by
 refine qaC (P:=fun l=>(∀ e∈l,EffOk vars e)→∀ v∈p,sg (effsP p s l) v=sg (effsL s l) v) (fun _ _ _=>rfl) ?_ l
 intro l e ih h v hv
 have h1:=ih (fun x hx=>h x (by simp [hx])) v hv
 obtain⟨a,b,c,d⟩:=qaD (h e (by simp))
 obtain⟨hv0,hv1⟩:=hp v hv
 rw [qb6,qbC]
 by_cases hh:HoldFs s e.when
 ·by_cases hm:e.var∈p
  ·rw [if_pos ⟨hm,hh⟩,if_pos hh]
   by_cases hev:e.var=v
   ·rw [←hev,qbD a (by rw [qd6];omega),qbD a (by rw [qdZ];omega)]
   ·rw [qbN a hv0 hev,qbN a hv0 hev,h1]
  ·rw [if_neg (fun h=>hm h.1),if_pos hh,qbN a hv0 (fun e'=>hm (e' ▸ hv)),h1]
 ·rw [if_neg (fun h=>hh h.2),if_neg hh,h1]
theorem qfR {s s':List Int}{x:Fact}(hl:s.length=s'.length) (h:sg s x.var=sg s' x.var):HoldF s x↔HoldF s' x:=by
 unfold HoldF
 rw [hl,show s.getD x.var.toNat tInt.dflt=s'.getD x.var.toNat tInt.dflt from h]
theorem qjq {s s':List Int}{f:List Fact}(hl:s.length=s'.length) (h:∀ x∈f,sg s x.var=sg s' x.var):HoldFs s f↔HoldFs s' f:=by
 rw [qa3,qa3]
 constructor
 ·intro hh x hx;exact (qfR hl (h x hx)).1 (hh x hx)
 ·intro hh x hx;exact (qfR hl (h x hx)).2 (hh x hx)
theorem qfS {vars p s s':List Int}{l:List Eff}(hl:s.length=vars.length) (hl':s'.length=vars.length) (hp:∀ v∈p,0≤v∧v<vars.length) (hpp:∀ v∈p,sg s v=sg s' v) :
  (∀ e∈l,EffOk vars e)→(∀ e∈l,e.var∈p→∀ f∈e.when,sg s f.var=sg s' f.var)→∀ v∈p,sg (effsP p s l) v=sg (effsP p s' l) v:=by
 refine qaC (P:=fun l=>(∀ e∈l,EffOk vars e)→(∀ e∈l,e.var∈p→∀ f∈e.when,sg s f.var=sg s' f.var)→∀ v∈p,sg (effsP p s l) v=sg (effsP p s' l) v) (fun _ _=>hpp) ?_ l
 intro l e ih h hw v hv
 have h1:=ih (fun x hx=>h x (by simp [hx])) (fun x hx=>hw x (by simp [hx])) v hv
 obtain⟨a,b,c,d⟩:=qaD (h e (by simp))
 obtain⟨hv0,hv1⟩:=hp v hv
 rw [qb6,qb6]
 by_cases hm:e.var∈p
 ·have hc:=qjq (hl.trans hl'.symm) (hw e (by simp) hm)
  by_cases hh:HoldFs s e.when
  ·rw [if_pos ⟨hm,hh⟩,if_pos ⟨hm,hc.1 hh⟩]
   by_cases hev:e.var=v
   ·rw [←hev,qbD a (by rw [qd6];omega),qbD a (by rw [qd6];omega)]
   ·rw [qbN a hv0 hev,qbN a hv0 hev,h1]
  ·rw [if_neg (fun h=>hh h.2),if_neg (fun h=>hh (hc.2 h.2)),h1]
 ·rw [if_neg (fun h=>hm h.1),if_neg (fun h=>hm h.1),h1]
end Go.Proofs.YtkmbenhffledpaaGreat
/-
  The operators that the decision tree collects are the applicable ones.
-/
namespace Go.Proofs.YtkmbenhffledpaaGreat
open Go.Sl
theorem qiq {vars:List Int}{f:List Fact}(h:FactsOk vars f):∀ {i j:Nat},i<j→j<f.length→(f.getD i tFact.dflt).var<(f.getD j tFact.dflt).var
 | i,0,h1,_=>absurd h1 (Nat.not_lt_zero _)
 | i,j+1,h1,h2=>by
  have h3:=(h (j+1) h2).2 (Nat.succ_pos _)
  simp only [Nat.add_sub_cancel] at h3
  by_cases e:i=j
  ·subst e;exact h3
  ·have:=qiq h (i:=i) (j:=j) (by omega) (by omega)
   omega
theorem qmQ {vars:List Int}{f:List Fact}(h:FactsOk vars f) {x y:Fact}(hx:x∈f) (hy:y∈f) (e:x.var=y.var):x=y:=by
 obtain⟨i,hi,rfl⟩:=List.getElem_of_mem hx
 obtain⟨j,hj,rfl⟩:=List.getElem_of_mem hy
 rw [←qaj (d:=tFact.dflt) hi,←qaj (d:=tFact.dflt) hj] at e ⊢
 rcases Nat.lt_trichotomy i j with h1|h1|h1
 ·have:=qiq h h1 hj;omega
 ·rw [h1]
 ·have:=qiq h h1 hi;omega
theorem qjI {l:List Fact}{v:Nat}{x:Int}(h:factV l v=some x):∃ f∈l,f.var=(v:Int)∧f.val=x:=by
 unfold factV at h
 rw [Option.map_eq_some_iff] at h
 obtain⟨f,hf,hv⟩:=h
 have h1:=List.find?_some hf
 rw [decide_eq_true_eq] at h1
 exact⟨f,List.mem_of_find?_eq_some hf,h1,hv⟩
theorem qqF {vars:List Int}{l:List Fact}(h:FactsOk vars l) {f:Fact}(hf:f∈l) {v:Nat}(hv:f.var=(v:Int)):factV l v=some f.val:=by
 unfold factV
 cases hq:l.find? fun f=>decide (f.var=(v:Int)) with
 | none =>
  rw [List.find?_eq_none] at hq
  have:=hq f hf
  simp [hv] at this
 | some q =>
  have h1:=List.find?_some hq
  rw [decide_eq_true_eq] at h1
  rw [qmQ h (List.mem_of_find?_eq_some hq) hf (h1.trans hv.symm)]
  rfl
theorem qqG {t:TTask}{s:List Int}{op:Nat}(hg:GoodT t) (ho:op<t.ops.length) (hs:StateOk t.vars s):appV t s (op:Int) 0↔AppT t s op:=by
 have hf:=(hg.op op ho).pre
 unfold AppT
 rw [qa3]
 constructor
 ·intro h x hx
  obtain⟨i,hi,e⟩:=List.getElem_of_mem hx
  have hok:=(hf i hi).1
  rw [qaj hi,e] at hok
  have hv:x.var=((x.var.toNat:Nat):Int):=by have:=hok.1;omega
  have h1:=h x.var.toNat (Nat.zero_le _) (by have:=hok.1;have:=hok.2.1;omega) x.val (by unfold preV;rw [Int.toNat_natCast];exact qqF hf hx hv)
  exact⟨hok.1,by rw [hs.1];exact hok.2.1,h1⟩
 ·intro h u _ hu x hx
  unfold preV at hx
  rw [Int.toNat_natCast] at hx
  obtain⟨f,hm,h1,h2⟩:=qjI hx
  have h3:=(h f hm).2.2
  rw [h1,Int.toNat_natCast] at h3
  rw [h3,h2]
open Classical in
theorem qqH {t:TTask}{s:List Int}(hg:GoodT t) (hs:StateOk t.vars s):((upTo (t.ops.length:Int)).filter fun op=>decide (appV t s op 0))=(succsL t s).map fun (o:Nat)=>(o:Int):=by
 have e:upTo (t.ops.length:Int)=(List.range t.ops.length).map fun (o:Nat)=>(o:Int):=by simp [upTo]
 rw [e,List.filter_map]
 unfold succsL
 congr 1
 refine List.filter_congr fun op ho => ?_
 show decide (appV t s (op:Int) 0)=decide (AppT t s op)
 rw [decide_eq_decide]
 exact qqG hg (List.mem_range.1 ho) hs
theorem qmR (t:TTask) (s:List Int):((succsL t s).map fun (o:Nat)=>(o:Int)).Pairwise (·<·):=by
 refine List.Pairwise.map _ (R:=(·<·)) (fun a b h=>by show (a:Int)<b;omega) ?_
 exact List.Pairwise.filter _ List.pairwise_lt_range
theorem qoB {L M:List Int}(h:L.Perm M) (hL:L.Pairwise (·≤·)) (hM:M.Pairwise (·<·)):L=M :=
 List.Perm.eq_of_pairwise (le:=(·≤·)) (fun a b _ _ h1 h2=>by omega) hL (hM.imp fun h=>by omega) h
end Go.Proofs.YtkmbenhffledpaaGreat
/-
  How a decision tree lies in memory: a node for a list of operators and a variable.
-/
namespace Go.Proofs.YtkmbenhffledpaaGreat
open Go.Sl Go
abbrev nilS:Value:=.slice none 0 0
def nodeC (ov:Value) (leaf:Bool) (next:Int) (vv rv:Value):List Value:=[ov,.bool leaf,.int .i64 next,vv,rv]
abbrev nxV (t:TTask) (ops:List Int) (v:Nat):Nat:=nextV t ops (t.vars.length-v) v
def RNode (t:TTask) (w:World):Nat→Option Addr→List Int→Nat→Prop
 | 0,_,_,_=>False
 | f+1,nv,ops,v =>
  (ops=[]∧nv=none) ∨
  (ops≠[]∧∃ p,nv=some p ∧
   ((nxV t ops v=t.vars.length∧∃ ov,BoxR w p (nodeC ov true 0 nilS (.pointer none))∧RS tInt w ov ops) ∨
    (nxV t ops v<t.vars.length∧∃ vv ra,∃ vl:List (Option Addr),BoxR w p (nodeC nilS false (nxV t ops v:Int) vv (.pointer ra))∧RS tVal w vv (vl.map Value.pointer)∧vl.length=(t.vars.getD (nxV t ops v) tInt.dflt).toNat ∧
     RNode t w f ra (restV t ops (nxV t ops v)) (nxV t ops v+1)∧∀ x:Nat,x<vl.length→RNode t w f (vl.getD x none) (byV t ops (nxV t ops v) x) (nxV t ops v+1))))
theorem RNode.at {t:TTask}{w0 w:World}{Γ:List HP}(hw:Sat w0 w Γ):∀ {f:Nat}{nv:Option Addr}{ops:List Int}{v:Nat},RNode t w0 f nv ops v→RNode t w f nv ops v
 | 0,_,_,_,h=>h
 | f+1,nv,ops,v,h=>by
  unfold RNode at h ⊢
  rcases h with h|⟨h0,p,h1,⟨h2,ov,h3,h4⟩|⟨h2,vv,ra,vl,h3,h4,h5,h6,h7⟩⟩
  ·exact .inl h
  ·exact .inr ⟨h0,p,h1,.inl ⟨h2,ov,h3.at hw,h4.at hw⟩⟩
  ·exact .inr ⟨h0,p,h1,.inr ⟨h2,vv,ra,vl,h3.at hw,h4.at hw,h5,RNode.at hw h6,fun x hx=>RNode.at hw (h7 x hx)⟩⟩
def Qty (w0:World) (Γ:List HP) (φ:World→Prop):Prop:=∀ (w:World) (Δ:List HP),Sat w0 w (Δ++Γ)→φ w
theorem Qty.more {w0:World}{Γ:List HP}{φ:World→Prop}(h:Qty w0 Γ φ) (A:HP):Qty w0 (A::Γ) φ:=fun w Δ hw=>h w (Δ++[A]) (by rw [List.append_assoc];exact hw)
theorem Sat.after {w0 w:World}{Γ:List HP}:∀ {Δ:List HP},Sat w0 w (Δ++Γ)→Sat w0 w Γ
 | [],h=>h
 | _::Δ,h=>Sat.after (Δ:=Δ) h.tail
theorem Qty.rd {w0:World}{Γ:List HP}{φ:World→Prop}:Qty w0 (RdH φ::Γ) φ:=fun w Δ hw=>(Sat.after hw).rdE 0 rfl
theorem Qty.of {w0:World}{Γ:List HP}{φ:World→Prop}(h:∀ w Γ',Sat w0 w Γ'→φ w):Qty w0 Γ φ:=fun w _ hw=>h w _ hw
theorem Qty.mono {w0:World}{Γ:List HP}{φ ψ:World→Prop}(h:Qty w0 Γ φ) (k:∀ w,φ w→ψ w):Qty w0 Γ ψ:=fun w Δ hw=>k w (h w Δ hw)
end Go.Proofs.YtkmbenhffledpaaGreat
/-
  What 'targets' computes: the abstract steps, in plain Lean.
-/
namespace Go.Proofs.YtkmbenhffledpaaGreat
open Go.Sl
def zerosL (n:Nat):List Int:=List.replicate n 0
theorem qcD (n:Nat):(zerosL n).length=n:=by simp [zerosL]
theorem qoT (n:Nat) (v:Int):sg (zerosL n) v=0:=by
 simp only [sg,zerosL,List.getD_eq_getElem?_getD,List.getElem?_replicate]
 split <;> rfl
def preS (p s:List Int) (f:List Fact):List Int:=f.foldl (fun s x=>if x.var∈p then s else s.set x.var.toNat x.val) s
theorem qdb (p s:List Int) (f:List Fact) (x:Fact):preS p s (f++[x])=if x.var∈p then preS p s f else (preS p s f).set x.var.toNat x.val:=by simp [preS]
theorem ql2 (p s:List Int) (f:List Fact):(preS p s f).length=s.length:=by
 refine qaC (P:=fun f=>(preS p s f).length=s.length) rfl ?_ f
 intro l e ih;rw [qdb];split <;> simp [ih]
def PreIn (p s:List Int) (f:List Fact):Prop:=∀ x∈f,x.var∈p→sg s x.var=x.val
theorem qbx {vars:List Int}{f:List Fact}(h:FactsOk vars f):∀ x∈f,FactOk vars x:=by
 intro x hx
 obtain⟨i,hi,rfl⟩:=List.getElem_of_mem hx
 have:=(h i hi).1
 rwa [qaj hi] at this
theorem qqX {vars:List Int}{f:List Fact}(h:FactsOk vars f):f.Pairwise fun x y=>x.var<y.var:=by
 rw [List.pairwise_iff_getElem]
 intro i j hi hj hij
 have key:∀ k,(hk:i+k+1<f.length)→f[i].var<f[i+k+1].var:=by
  intro k
  induction k with
  | zero=>intro hk;have:=(h (i+1) (by omega)).2 (by omega);rw [qaj (by omega),qaj (by omega)] at this;simpa using this
  | succ k ih =>
   intro hk
   have h1:=ih (by omega)
   have:=(h (i+k+1+1) (by omega)).2 (by omega)
   rw [qaj (by omega),qaj (by omega)] at this
   simp only [Nat.add_sub_cancel] at this
   exact Int.lt_trans h1 this
 have:=key (j-i-1) (by omega)
 simpa [show i+(j-i-1)+1=j by omega] using this
theorem qhz {vars p s:List Int}{f:List Fact}{v:Int}(hv:0≤v):(∀ x∈f,FactOk vars x)→(∀ x∈f,x.var∉p→x.var≠v)→sg (preS p s f) v=sg s v:=by
 refine qaC (P:=fun f=>(∀ x∈f,FactOk vars x)→(∀ x∈f,x.var∉p→x.var≠v)→sg (preS p s f) v=sg s v) (fun _ _=>rfl) ?_ f
 intro l x ih h hn
 have h1:=ih (fun y hy=>h y (by simp [hy])) (fun y hy=>hn y (by simp [hy]))
 have hx:=h x (by simp)
 rw [qdb]
 split
 ·exact h1
 ·rename_i hm
  rw [qbN hx.1 hv (hn x (by simp) hm),h1]
theorem ql3 {vars p s:List Int}{f:List Fact}(hs:s.length=vars.length):(∀ x∈f,FactOk vars x)→(f.Pairwise fun x y=>x.var<y.var)→∀ x∈f,x.var∉p→sg (preS p s f) x.var=x.val:=by
 refine qaC (P:=fun f=>(∀ x∈f,FactOk vars x)→(f.Pairwise fun x y=>x.var<y.var)→∀ x∈f,x.var∉p→sg (preS p s f) x.var=x.val) (fun _ _ x hx=>by simp at hx) ?_ f
 intro l y ih h hp x hx hxp
 have hy:=h y (by simp)
 have hfx:=h x hx
 rw [qdb]
 rcases List.mem_append.1 hx with hx'|hx'
 ·have h1:=ih (fun z hz=>h z (by simp [hz])) (List.pairwise_append.1 hp).1 x hx' hxp
  have hlt:=(List.pairwise_append.1 hp).2.2 x hx' y (by simp)
  split
  ·exact h1
  ·rw [qbN hy.1 hfx.1 (by omega),h1]
 ·rw [List.mem_singleton.1 hx'] at hxp ⊢
  rw [if_neg hxp,qbD hy.1 (by rw [ql2,hs];exact hy.2.1)]
theorem qsN {vars p s:List Int}{f:List Fact}(hs:StateOk vars s):(∀ x∈f,FactOk vars x)→StateOk vars (preS p s f):=by
 refine qaC (P:=fun f=>(∀ x∈f,FactOk vars x)→StateOk vars (preS p s f)) (fun _=>hs) ?_ f
 intro l x ih h
 have h1:=ih fun y hy=>h y (by simp [hy])
 have hx:=h x (by simp)
 rw [qdb]
 split
 ·exact h1
 ·exact qdK h1 hx.1 hx.2.2.1 hx.2.2.2
section
variable {t:TTask}{p:List Int}{op:Nat}{a:Int}
def opT (t:TTask) (op:Nat):TOp:=t.ops.getD op dOp
def st1 (t:TTask) (p:List Int) (a:Int):List Int:=putS t.vars p (zerosL t.vars.length) a
def st2 (t:TTask) (p:List Int) (op:Nat) (a:Int):List Int:=preS p (st1 t p a) (opT t op).pre
noncomputable def frL (t:TTask) (p:List Int) (op:Nat):List Int:=freeL t.vars (opT t op) p
def OutOf (t:TTask) (p:List Int) (op:Nat) (a k b:Int):Prop:=∃ S,StateOk t.vars S∧(∀ v,0≤v→v∉frL t p op→sg S v=sg (st2 t p op a) v)∧idxL t.vars (frL t p op) S<k∧idxL t.vars p (effsP p S (opT t op).effs)=b
theorem ql4 (hd:∀ x∈t.vars,1≤x):StateOk t.vars (zerosL t.vars.length):=by
 refine⟨qcD _,fun i hi => ?_⟩
 rw [qcD] at hi
 have:=hd _ (qak tInt.dflt hi)
 rw [←sg_of,qoT]
 omega
theorem qjT (hg:GoodT t) (hp:InV t.vars p) (h0:0≤a) (h1:a<cntL t.vars p):StateOk t.vars (st1 t p a)∧idxL t.vars p (st1 t p a)=a:=by
 have hz:=ql4 (t:=t) hg.pos
 exact⟨qib hg.pos hp h0 h1 (qcD _) fun v hv hv' _=>hz.rng hv hv',(qdh hg.pos hp (qcD _) h0 h1).1⟩
theorem st1_p (hg:GoodT t) (hp:InV t.vars p) (h0:0≤a) (h1:a<cntL t.vars p) {s:List Int}(hs:StateOk t.vars s) (ha:idxL t.vars p s=a):∀ v∈p,sg s v=sg (st1 t p a) v :=
 qfi hs (qjT hg hp h0 h1).1 hp.mem (ha.trans (qjT hg hp h0 h1).2.symm)
theorem opFacts (hg:GoodT t) (ho:op<t.ops.length):(∀ x∈(opT t op).pre,FactOk t.vars x)∧((opT t op).pre.Pairwise fun x y=>x.var<y.var) :=
 ⟨qbx (hg.op op ho).pre,qqX (hg.op op ho).pre⟩
theorem qsa (hg:GoodT t) (hp:InV t.vars p) (ho:op<t.ops.length) (h0:0≤a) (h1:a<cntL t.vars p):StateOk t.vars (st2 t p op a):=qsN (qjT hg hp h0 h1).1 (opFacts hg ho).1
theorem st2_p (hg:GoodT t) (hp:InV t.vars p) (ho:op<t.ops.length):∀ v∈p,sg (st2 t p op a) v=sg (st1 t p a) v:=fun v hv =>
 qhz (hp.mem v hv).1 (opFacts hg ho).1 fun x _ hx e=>hx (e ▸ hv)
theorem frL_p {v:Int}(hv:v∈frL t p op):v∉p:=(qbO.1 hv).2.2.1
theorem qoU {x:Fact}(hx:x∈(opT t op).pre):x.var∉frL t p op:=fun h=>(qbO.1 h).2.2.2 x hx rfl
theorem qqY (hg:GoodT t) (hp:InV t.vars p) (h0:0≤a) (h1:a<cntL t.vars p) (hn:¬PreIn p (st1 t p a) (opT t op).pre):tgtL t p a op=[]:=by
 refine (qie List.Pairwise.nil fun b=>⟨fun h=>by simp at h,?_⟩).symm
 rintro⟨_,s,hs,ha,happ,_⟩
 exact absurd (fun x hx hxp=>by
  rw [←st1_p hg hp h0 h1 hs ha _ hxp]
  exact (qa3.1 happ x hx).2.2) hn
theorem qtn (hg:GoodT t) (hp:InV t.vars p) (ho:op<t.ops.length) (h0:0≤a) (h1:a<cntL t.vars p) (hpre:PreIn p (st1 t p a) (opT t op).pre) {b:Int} :
  OutOf t p op a (cntL t.vars (frL t p op)) b↔TGp t p a op b:=by
 obtain⟨hs1,hi1⟩:=qjT hg hp h0 h1
 have hs2:=qsa hg hp ho h0 h1
 have hfv:InV t.vars (frL t p op):=qcZ t.vars (opT t op) p
 have heff:∀ e∈(opT t op).effs,EffOk t.vars e:=(hg.op op ho).mem
 constructor
 ·rintro⟨S,hS,hag,_,rfl⟩
  have hSp:∀ v∈p,sg S v=sg (st1 t p a) v:=fun v hv=>by
   rw [hag v (hp.mem v hv).1 (fun h=>frL_p h hv),st2_p hg hp ho v hv]
  refine⟨S,hS,(qct hSp).trans hi1,?_,qct fun v hv=>(qif hS.1 hp.mem heff v hv).symm⟩
  refine qa3.2 fun x hx => ?_
  have hxf:=(opFacts hg ho).1 x hx
  refine⟨hxf.1,by rw [hS.1];exact hxf.2.1,?_⟩
  show sg S x.var=x.val
  rw [hag x.var hxf.1 (qoU hx)]
  by_cases hxp:x.var∈p
  ·rw [st2_p hg hp ho _ hxp];exact hpre x hx hxp
  ·exact ql3 hs1.1 (opFacts hg ho).1 (opFacts hg ho).2 x hx hxp
 ·rintro⟨s,hs,ha,happ,rfl⟩
  have hsp:=st1_p hg hp h0 h1 hs ha
  have hb:=qaF hs hfv.mem
  have hq:=qdh (s:=st2 t p op a) hg.pos hfv hs2.1 hb.1 hb.2
  have hSo:=qib (s:=st2 t p op a) hg.pos hfv hb.1 hb.2 hs2.1 fun v hv hv' _=>hs2.rng hv hv'
  have hfr:=qfi hSo hs hfv.mem hq.1
  refine⟨putS t.vars (frL t p op) (st2 t p op a) (idxL t.vars (frL t p op) s),hSo,hq.2.2,by rw [hq.1];exact hb.2,qct fun v hv => ?_⟩
  rw [show sg (succT t s op) v=sg (effsP p s (opT t op).effs) v from (qif hs.1 hp.mem heff v hv).symm]
  have hSp:∀ v∈p,sg (putS t.vars (frL t p op) (st2 t p op a) (idxL t.vars (frL t p op) s)) v=sg s v:=fun v hv=>by
   rw [show sg (putS t.vars (frL t p op) (st2 t p op a) (idxL t.vars (frL t p op) s)) v=_ from hq.2.2 v (hp.mem v hv).1 (fun h=>frL_p (op:=op) h hv),st2_p hg hp ho v hv,hsp v hv]
  refine qfS hSo.1 hs.1 hp.mem hSp heff (fun e he hep f hf => ?_) v hv
  have hff:=qbx (heff e he).1 f hf
  by_cases hfp:f.var∈p
  ·exact hSp _ hfp
  ·by_cases hfx:∃ x∈(opT t op).pre,x.var=f.var
   ·obtain⟨x,hx,hxe⟩:=hfx
    rw [show sg (putS t.vars (frL t p op) (st2 t p op a) (idxL t.vars (frL t p op) s)) f.var=_ from hq.2.2 f.var hff.1 (by rw [←hxe];exact qoU hx)]
    rw [←hxe,show sg (st2 t p op a) x.var=x.val from ql3 hs1.1 (opFacts hg ho).1 (opFacts hg ho).2 x hx (by rw [hxe];exact hfp)]
    exact (qa3.1 happ x hx).2.2.symm
   ·refine hfr f.var (qbO.2 ⟨⟨hff.1,hff.2.1⟩,⟨e,he,hep,f,hf,rfl⟩,hfp,fun x hx hxe=>hfx ⟨x,hx,hxe⟩⟩)
theorem qqZ (hg:GoodT t) (hp:InV t.vars p) (ho:op<t.ops.length) {k:Int}{S:List Int}(hS:StateOk t.vars S) (hag:∀ v,0≤v→v∉frL t p op→sg S v=sg (st2 t p op a) v) (hk:idxL t.vars (frL t p op) S=k) {b:Int} :
  OutOf t p op a (k+1) b↔OutOf t p op a k b∨b=idxL t.vars p (effsP p S (opT t op).effs):=by
 have hfv:InV t.vars (frL t p op):=qcZ t.vars (opT t op) p
 have heff:∀ e∈(opT t op).effs,EffOk t.vars e:=(hg.op op ho).mem
 constructor
 ·rintro⟨S',hS',hag',hlt,hb⟩
  by_cases h:idxL t.vars (frL t p op) S'<k
  ·exact .inl ⟨S',hS',hag',h,hb⟩
  ·right
   have hfr:=qfi hS' hS hfv.mem (show idxL t.vars (frL t p op) S'=idxL t.vars (frL t p op) S by omega)
   have hall:∀ v,0≤v→sg S' v=sg S v:=fun v hv=>by
    by_cases hm:v∈frL t p op
    ·exact hfr v hm
    ·rw [hag' v hv hm,hag v hv hm]
   rw [←hb]
   exact qct (qfS hS'.1 hS.1 hp.mem (fun v hv=>hall v (hp.mem v hv).1) heff fun e he _ f hf=>hall _ (qbx (heff e he).1 f hf).1)
 ·rintro (⟨S',hS',hag',hlt,hb⟩|rfl)
  ·exact⟨S',hS',hag',by omega,hb⟩
  ·exact⟨S,hS,hag,by omega,rfl⟩
theorem qto (hg:GoodT t) (hp:InV t.vars p) (ho:op<t.ops.length) {k b:Int}(h:OutOf t p op a k b):0≤b∧b<cntL t.vars p:=by
 obtain⟨S,hS,_,_,rfl⟩:=h
 have heff:∀ e∈(opT t op).effs,EffOk t.vars e:=(hg.op op ho).mem
 rw [qct (qif hS.1 hp.mem heff)]
 exact qaF (qlt hS heff) hp.mem
end
end Go.Proofs.YtkmbenhffledpaaGreat
/-
  The transition system of a projection, in plain Lean.
-/
namespace Go.Proofs.YtkmbenhffledpaaGreat
open Go.Sl
def edgB (a:Int) (op:Nat) (l:List Int):List Edg:=l.map fun b=>⟨a,op,b⟩
noncomputable def edgO (t:TTask) (p:List Int) (a:Int) (j:Nat):List Edg:=(List.range j).flatMap fun op=>edgB a op (tgtL t p a op)
noncomputable def edgA (t:TTask) (p:List Int) (k:Nat):List Edg:=(List.range k).flatMap fun (a:Nat)=>edgO t p (a:Int) t.ops.length
noncomputable def pEdges (t:TTask) (p:List Int):List Edg:=edgA t p (cntL t.vars p).toNat
theorem qjk (t:TTask) (p:List Int) (a:Int):edgO t p a 0=[]:=rfl
theorem qd2 (t:TTask) (p:List Int) (a:Int) (j:Nat):edgO t p a (j+1)=edgO t p a j++edgB a j (tgtL t p a j):=by simp [edgO,List.range_succ]
theorem qn1 (t:TTask) (p:List Int):edgA t p 0=[]:=rfl
theorem qd3 (t:TTask) (p:List Int) (k:Nat):edgA t p (k+1)=edgA t p k++edgO t p (k:Int) t.ops.length:=by simp [edgA,List.range_succ]
theorem qh5 (a:Int) (op:Nat) (l:List Int):(edgB a op l).length=l.length:=by simp [edgB]
theorem qn2 {a:Int}{op:Nat}{l:List Int}{m:Nat}(hm:m<l.length):edgB a op (l.take (m+1))=edgB a op (l.take m)++[⟨a,op,l.getD m tInt.dflt⟩]:=by
 rw [qan tInt.dflt hm];simp [edgB]
theorem qn3 (t:TTask) (p:List Int) (a:Int) {i j:Nat}(h:i≤j):(edgO t p a i).length≤(edgO t p a j).length:=by
 induction j with
 | zero =>
   have:i=0:=by omega
   subst this;exact Nat.le_refl _
 | succ j ih =>
  by_cases e:i=j+1
  ·subst e;exact Nat.le_refl _
  ·have:=ih (by omega);rw [qd2,List.length_append];omega
theorem qn4 (t:TTask) (p:List Int) {i j:Nat}(h:i≤j):(edgA t p i).length≤(edgA t p j).length:=by
 induction j with
 | zero =>
   have:i=0:=by omega
   subst this;exact Nat.le_refl _
 | succ j ih =>
  by_cases e:i=j+1
  ·subst e;exact Nat.le_refl _
  ·have:=ih (by omega);rw [qd3,List.length_append];omega
theorem qn5 {t:TTask}{p:List Int}{k j:Nat}(hk:(k:Int)<cntL t.vars p) (hj:j<t.ops.length):(edgA t p k).length+(edgO t p (k:Int) j).length+(tgtL t p (k:Int) j).length≤(pEdges t p).length:=by
 have h1:=qn4 t p (show k+1≤(cntL t.vars p).toNat by omega)
 have h2:=qn3 t p (k:Int) (show j+1≤t.ops.length by omega)
 rw [qd3,List.length_append] at h1
 rw [qd2,List.length_append,qh5] at h2
 unfold pEdges
 omega
theorem qeD {t:TTask}{p:List Int}{e:Edg}:e∈pEdges t p↔∃ (a:Int) (op:Nat) (b:Int),(0≤a∧a<cntL t.vars p)∧op<t.ops.length∧(0≤b∧b<cntL t.vars p)∧TGp t p a op b∧e=⟨a,op,b⟩:=by
 simp only [pEdges,edgA,edgO,edgB,List.mem_flatMap,List.mem_range,List.mem_map]
 constructor
 ·rintro⟨a,ha,op,ho,b,hb,rfl⟩
  have:=qbO.1 hb
  exact⟨a,op,b,by omega,ho,this.1,this.2,rfl⟩
 ·rintro⟨a,op,b,ha,ho,hb,hT,rfl⟩
  refine⟨a.toNat,by omega,op,ho,b,?_,?_⟩
  ·rw [Int.toNat_of_nonneg ha.1];exact qbO.2 ⟨hb,hT⟩
  ·rw [Int.toNat_of_nonneg ha.1]
open Classical in
noncomputable def goalB (t:TTask) (p:List Int) (a:Int):Bool:=decide (GoalP t p a)
noncomputable def goalsK (t:TTask) (p:List Int) (k:Nat):List Bool:=(List.range k).map fun (a:Nat)=>goalB t p (a:Int)
theorem qkw (t:TTask) (p:List Int) (k:Nat):goalsK t p (k+1)=goalsK t p k++[goalB t p (k:Int)]:=by simp [goalsK,List.range_succ]
theorem qhf (t:TTask) (p:List Int) (k:Nat):(goalsK t p k).length=k:=by simp [goalsK]
theorem qn6 {t:TTask}{p:List Int}{k a:Nat}(h:a<k):(goalsK t p k).getD a false=goalB t p (a:Int):=by simp [goalsK,List.getD,h]
theorem qjl {t:TTask}{p:List Int}{a:Int}:goalB t p a=true↔GoalP t p a:=by simp [goalB]
def GoalF (p S:List Int) (f:List Fact):Prop:=∀ x∈f,x.var∈p→sg S x.var=x.val
theorem qqf {t:TTask}{p S:List Int}{a:Int}(hg:GoodT t) (hp:InV t.vars p) (hS:StateOk t.vars S) (ha:idxL t.vars p S=a):GoalF p S t.goal↔GoalP t p a:=by
 constructor
 ·intro h
  refine⟨S,hS,ha,qa3.2 fun x hx => ?_⟩
  simp only [partL,List.mem_filter,decide_eq_true_eq] at hx
  have hf:=qbx hg.goal x hx.1
  exact⟨hf.1,by rw [hS.1];exact hf.2.1,h x hx.1 hx.2⟩
 ·rintro⟨s,hs,hi,hh⟩ x hx hxp
  rw [qfi hS hs hp.mem (ha.trans hi.symm) _ hxp]
  exact (qa3.1 hh x (by simp [partL,hx,hxp])).2.2
def costsT (t:TTask):List Int:=t.ops.map (·.cost)
theorem qbi {t:TTask}{i:Nat}(h:i<t.ops.length):(costsT t).getD i tInt.dflt=(t.ops.getD i dOp).cost:=by
 rw [qaj h];simp [costsT,List.getD,h]
def BigFree (t:TTask) (p:List Int):Prop:=∃ op,op<t.ops.length∧4096<cntL t.vars (frL t p op)
open Classical in
noncomputable def pErr0 (t:TTask) (p:List Int):Int:=if 4096<cntL t.vars p then 5 else if BigFree t p then 5 else if 65536<(pEdges t p).length then 5 else 0
structure SysV where
 st:Int
 ini:Int
 costs:List Int
 edges:List Edg
 goals:List Bool
noncomputable def sysOk (t:TTask) (p:List Int):SysV:=⟨cntL t.vars p,idxL t.vars p t.init,costsT t,pEdges t p,goalsK t p (cntL t.vars p).toNat⟩
def sysNo:SysV:=⟨0,0,[],[],[]⟩
noncomputable def sysE (t:TTask) (p:List Int) (c:Int):SysV:=if c=0 then sysOk t p else sysNo
end Go.Proofs.YtkmbenhffledpaaGreat
/-
  The projection to all variables has the steps of the task.
-/
namespace Go.Proofs.YtkmbenhffledpaaGreat
open Go.Sl
end Go.Proofs.YtkmbenhffledpaaGreat
/-
  The lists of operators by the values of a variable, step by step.
-/
namespace Go.Proofs.YtkmbenhffledpaaGreat
open Go.Sl Go
def byL (t:TTask) (ops:List Int) (u n k:Nat):List (List Int):=(List.range n).map fun (x:Nat)=>byV t (ops.take k) u (x:Int)
section
variable {t:TTask}{ops:List Int}{u n k:Nat}
theorem qkV:(byL t ops u n k).length=n:=by simp [byL]
theorem qiO {x:Nat}(h:x<n):(byL t ops u n k).getD x []=byV t (ops.take k) u (x:Int):=by simp [byL,List.getD,h]
theorem qrm:byL t ops u n 0=List.replicate n []:=by
 apply List.ext_getElem (by simp [byL])
 intro i h1 h2
 simp [byL,byV]
theorem qrn (hk:k<ops.length) (h:preV t (ops.getD k tInt.dflt) u=none):byL t ops u n (k+1)=byL t ops u n k:=by
 unfold byL
 apply List.map_congr_left
 intro x _
 rw [qan tInt.dflt hk]
 unfold byV
 rw [List.filter_append,List.filter_cons,if_neg (by rw [h];simp),List.filter_nil,List.append_nil]
theorem qro {z:Int}(hk:k<ops.length) (h:preV t (ops.getD k tInt.dflt) u=some z) (h0:0≤z) (h1:z<n):byL t ops u n (k+1)=(byL t ops u n k).set z.toNat ((byL t ops u n k).getD z.toNat []++[ops.getD k tInt.dflt]):=by
 apply List.ext_getElem (by simp [byL])
 intro i h2 h3
 have hi:i<n:=by simpa [byL] using h2
 have hbg:(byL t ops u n k).getD z.toNat []=byV t (ops.take k) u (z.toNat:Int):=qiO (by omega)
 rw [List.getElem_set]
 simp only [byL,List.getElem_map,List.getElem_range]
 rw [qan tInt.dflt hk]
 unfold byV
 rw [List.filter_append,List.filter_cons,List.filter_nil]
 by_cases e:z.toNat=i
 ·subst e
  have e2:((z.toNat:Nat):Int)=z:=by omega
  rw [if_pos (by rw [h,e2];simp),if_pos rfl];exact congrArg (·++[ops.getD k tInt.dflt]) hbg.symm
 ·rw [if_neg (by rw [h];simp;omega),if_neg e,List.append_nil]
theorem qpg (hk:k<ops.length) (h:preV t (ops.getD k tInt.dflt) u=none):restV t (ops.take (k+1)) u=restV t (ops.take k) u++[ops.getD k tInt.dflt]:=by
 rw [qan tInt.dflt hk]
 unfold restV
 rw [List.filter_append,List.filter_cons,if_pos (by rw [h];rfl),List.filter_nil]
theorem qph {z:Int}(hk:k<ops.length) (h:preV t (ops.getD k tInt.dflt) u=some z):restV t (ops.take (k+1)) u=restV t (ops.take k) u:=by
 rw [qan tInt.dflt hk]
 unfold restV
 rw [List.filter_append,List.filter_cons,if_neg (by rw [h];simp),List.filter_nil,List.append_nil]
theorem qrp (hg:GoodT t) {op:Int}(ho:0≤op∧op<t.ops.length) {z:Int}(h:preV t op u=some z):0≤z∧z<t.vars.getD u tInt.dflt∧u<t.vars.length:=by
 obtain⟨f,hf,h1,h2⟩:=qjI h
 have hoo:=hg.op op.toNat (by omega)
 obtain⟨i,hi,rfl⟩:=List.getElem_of_mem hf
 have h3:=(hoo.pre i hi).1
 rw [qaj hi] at h3
 obtain⟨a,b,c,d⟩:=h3
 rw [h1,Int.toNat_natCast] at d
 omega
theorem qpi:someV t ops u=true↔∃ op∈ops,(preV t op u).isSome=true:=by
 unfold someV;rw [List.any_eq_true]
end
end Go.Proofs.YtkmbenhffledpaaGreat
/-
  The successors from an operator on; what the reference's round says of the program's.
-/
namespace Go.Proofs.YtkmbenhffledpaaGreat
open Go.Sl Go
end Go.Proofs.YtkmbenhffledpaaGreat
/-
  What a visit changes in any case: the number of states, the path.
-/
namespace Go.Proofs.YtkmbenhffledpaaGreat
open Go.Sl Go
end Go.Proofs.YtkmbenhffledpaaGreat
/-
  Dijkstra's algorithm with a heap of items, in plain Lean.
-/
namespace Go.Proofs.YtkmbenhffledpaaGreat
open Go.Sl
structure Item where
 dist:Int
 state:Int
 deriving DecidableEq
def tItem:Ty Item:=⟨2,fun x=>[.int .i64 x.dist,.int .i64 x.state],fun _=>rfl,⟨0,0⟩⟩
instance inTDijk1:OneT tItem:=⟨fun x v hv=>by simp only [tItem,List.mem_cons,List.not_mem_nil,or_false] at hv;rcases hv with rfl|rfl <;> rfl⟩
def ilt (a b:Item):Bool:=decide (a.dist<b.dist)
instance inTDijk2:HOrd ilt:=⟨fun a b h=>by simp only [ilt,decide_eq_true_eq,decide_eq_false_iff_not] at *;omega,fun a b c h1 h2=>by simp only [ilt,decide_eq_false_iff_not] at *;omega⟩
def bucket (E:List Edg) (u:Int):List Edg:=E.filter fun e=>decide (e.dst=u)
def restE (E:List Edg) (S:List Int):Nat:=(E.filter fun e=>decide (e.dst∉S)).length
theorem qhK {S:List Int}{u:Int}(hu:u∉S):∀ E:List Edg,restE E S=restE E (u::S)+(bucket E u).length
 | []=>rfl
 | e::E=>by
  have ih:=qhK hu E
  simp only [restE,bucket,List.filter_cons] at ih ⊢
  by_cases h1:e.dst=u
  ·rw [if_pos (by simp [h1,hu]),if_neg (by simp [h1]),if_pos (by simp [h1])]
   simp only [List.length_cons];omega
  ·by_cases h2:e.dst∈S
   ·rw [if_neg (by simp [h2]),if_neg (by simp [h2]),if_neg (by simp [h1])];exact ih
   ·rw [if_pos (by simp [h2]),if_pos (by simp [h1,h2]),if_neg (by simp [h1])]
    simp only [List.length_cons];omega
theorem qrA (E:List Edg) (S:List Int):restE E S≤E.length:=List.length_filter_le _ _
theorem qhL {E:List Edg}{u:Int}{e:Edg}:e∈bucket E u↔e∈E∧e.dst=u:=by simp [bucket]
structure DJ (E:List Edg) (c:List Int) (G:Int→Prop) (n:Nat) (D:List Int) (Q:List Item) (S:List Int) (m:Int) (done:Edg→Prop):Prop where
 inv:DInv E c G n D
 ent:∀ x∈Q,(0≤x.state∧x.state<n)∧dg D x.state≤x.dist∧m≤x.dist∧x.dist<inf∧(x.state∈S→dg D x.state<x.dist)
 nd:Q.Nodup
 set:∀ u∈S,(0≤u∧u<n)∧dg D u≤m
 act:∀ u:Int,0≤u→u<n→dg D u<inf→u∉S→∃ x∈Q,x.state=u∧x.dist=dg D u
 stb:∀ e∈E,e.dst∈S→done e→Stab c D e
 m0:0≤m
abbrev DJ0 (E:List Edg) (c:List Int) (G:Int→Prop) (n:Nat) (D:List Int) (Q:List Item) (S:List Int) (m:Int):Prop:=DJ E c G n D Q S m fun _=>True
section
variable {E:List Edg}{c:List Int}{G:Int→Prop}{n:Nat}{D:List Int}{Q:List Item}{S:List Int}{m:Int}{done:Edg→Prop}
theorem DJ.perm (h:DJ E c G n D Q S m done) {Q':List Item}(hp:Q'.Perm Q):DJ E c G n D Q' S m done :=
 ⟨h.inv,fun x hx=>h.ent x (hp.mem_iff.1 hx),hp.nodup_iff.2 h.nd,h.set,fun u a b e f=>let ⟨x,hx,hh⟩:=h.act u a b e f;⟨x,hp.mem_iff.2 hx,hh⟩,h.stb,h.m0⟩
theorem DJ.fin (hE:EOk E c n) (h:DJ0 E c G n D [] S m):DistOk E c G n D:=by
 refine h.inv.dist hE fun e he hl => ?_
 have hd:=hE.dst e he
 have hm:e.dst∈S:=by
  apply Classical.byContradiction
  intro hn
  obtain⟨x,hx,_⟩:=h.act e.dst hd.1 hd.2 hl hn
  simp at hx
 exact h.stb e he hm trivial hl
theorem DJ.skip {x:Item}(h:DJ0 E c G n D (x::Q) S m) (hx:dg D x.state<x.dist):DJ0 E c G n D Q S m:=by
 refine⟨h.inv,fun y hy=>h.ent y (by simp [hy]),(List.nodup_cons.1 h.nd).2,h.set,fun u a b e f => ?_,h.stb,h.m0⟩
 obtain⟨y,hy,h1,h2⟩:=h.act u a b e f
 rcases List.mem_cons.1 hy with rfl|hy
 ·subst h1;omega
 ·exact⟨y,hy,h1,h2⟩
theorem DJ.take {x:Item}(h:DJ0 E c G n D (x::Q) S m) (hx:¬dg D x.state<x.dist) (hmin:∀ y∈Q,x.dist≤y.dist) :
  DJ E c G n D Q (x.state::S) x.dist (fun e=>e.dst∈S)∧x.state∉S∧dg D x.state=x.dist∧(0≤x.state∧x.state<n)∧x.dist<inf:=by
 obtain⟨e1,e2,e3,e4,e5⟩:=h.ent x (by simp)
 have hS:x.state∉S:=fun hm=>hx (e5 hm)
 have hd:dg D x.state=x.dist:=by omega
 have hnd:=List.nodup_cons.1 h.nd
 refine⟨⟨h.inv,fun y hy => ?_,hnd.2,fun u hu => ?_,fun u a b e f => ?_,fun e he _ hm=>h.stb e he hm trivial,by have:=h.m0;omega⟩,hS,hd,e1,e4⟩
 ·obtain⟨f1,f2,f3,f4,f5⟩:=h.ent y (by simp [hy])
  refine⟨f1,f2,hmin y hy,f4,fun hm => ?_⟩
  rcases List.mem_cons.1 hm with hm2|hm2
  ·have hne:y.dist≠x.dist:=fun he=>hnd.1 (by
    have:y=x:=by
     clear hm
     obtain⟨a,b⟩:=y
     obtain⟨a',b'⟩:=x
     simp only at he hm2
     subst he hm2
     rfl
    rw [←this];exact hy)
   have:=hmin y hy
   rw [hm2,hd];omega
  ·exact f5 hm2
 ·rcases List.mem_cons.1 hu with rfl|hu
  ·exact⟨e1,by omega⟩
  ·have:=h.set u hu;exact⟨this.1,by omega⟩
 ·simp only [List.mem_cons,not_or] at f
  obtain⟨y,hy,h1,h2⟩:=h.act u a b e f.2
  rcases List.mem_cons.1 hy with rfl|hy
  ·exact absurd h1.symm f.1
  ·exact⟨y,hy,h1,h2⟩
theorem DJ.keep (h:DJ E c G n D Q S m done) {e:Edg}(hs:Stab c D e):DJ E c G n D Q S m (fun e'=>done e'∨e'=e) :=
 ⟨h.inv,h.ent,h.nd,h.set,h.act,fun e' he' hm hd=>hd.elim (h.stb e' he' hm) fun hh=>hh ▸ hs,h.m0⟩
theorem DJ.relax (hE:EOk E c n) (h:DJ E c G n D Q S m done) {e:Edg}(he:e∈E) (hu:e.dst∈S) (hm:dg D e.dst=m) (hmi:m<inf) (hl:m+cst c e<dg D e.src) :
  DJ E c G n (D.set e.src.toNat (m+cst c e)) (⟨m+cst c e,e.src⟩::Q) S m (fun e'=>done e'∨e'=e):=by
 have hs:=hE.src e he
 have hd:=hE.dst e he
 have hc:=hE.cst he
 have hlen:=h.inv.len
 have hr:=(h.inv.rng e.src.toNat (by omega)).2
 rw [Int.toNat_of_nonneg hs.1] at hr
 have hvS:e.src∉S:=fun hv=>by have:=(h.set _ hv).2;omega
 have hg:∀ i:Int,0≤i→dg (D.set e.src.toNat (m+cst c e)) i=if i=e.src then m+cst c e else dg D i:=fun i hi=>qhM hi hs.1 (by omega)
 have hin:=h.inv.relax hE he (by omega) (by omega)
 rw [hm] at hin
 have hS:∀ i∈S,dg (D.set e.src.toNat (m+cst c e)) i=dg D i:=fun i hi=>by
  rw [hg i (h.set i hi).1.1,if_neg (fun (e':i=e.src)=>hvS (by rw [←e'];exact hi))]
 refine⟨hin.1,fun y hy => ?_,List.nodup_cons.2 ⟨fun hq => ?_,h.nd⟩,fun u hu => ?_,fun u a b f hu => ?_,fun e' he' hm' hd' => ?_,h.m0⟩
 ·rcases List.mem_cons.1 hy with rfl|hy
  ·exact⟨hs,by simp only;rw [hg _ hs.1,if_pos rfl];exact Int.le_refl _,by simp only;omega,by simp only;omega,fun hv=>absurd hv hvS⟩
  ·obtain⟨f1,f2,f3,f4,f5⟩:=h.ent y hy
   refine⟨f1,?_,f3,f4,fun hv=>by rw [hS _ hv];exact f5 hv⟩
   rw [hg _ f1.1]
   split
   ·rename_i hh;rw [hh] at f2;omega
   ·exact f2
 ·have:=(h.ent _ hq).2.1
  simp only at this
  omega
 ·rw [hS u hu];exact h.set u hu
 ·rw [hg u a] at f ⊢
  by_cases ev:u=e.src
  ·rw [if_pos ev];exact⟨⟨m+cst c e,e.src⟩,by simp,ev.symm,rfl⟩
  ·rw [if_neg ev] at f ⊢
   obtain⟨y,hy,hh⟩:=h.act u a b f hu
   exact⟨y,by simp [hy],hh⟩
 ·intro hlt
  have hs':=hE.src e' he'
  rw [hS _ hm'] at hlt ⊢
  rw [hg _ hs'.1]
  rcases hd' with hd'|rfl
  ·have:=h.stb e' he' hm' hd' hlt
   split
   ·rename_i hh;rw [hh] at this;omega
   ·exact this
  ·rw [if_pos rfl,hm];exact Int.le_refl _
theorem DJ.close {u:Int}(h:DJ E c G n D Q (u::S) m done) (hd:∀ e∈E,e.dst∈u::S→done e):DJ0 E c G n D Q (u::S) m :=
 ⟨h.inv,h.ent,h.nd,h.set,h.act,fun e he hm _=>h.stb e he hm (hd e he hm),h.m0⟩
end
theorem DJ.start (E:List Edg) (c:List Int) (G:Int→Prop) (n:Nat) {Q:List Item}(hQ:∀ x,x∈Q↔∃ i:Nat,i<n∧G i∧x=⟨0,i⟩) (hn:Q.Nodup):DJ0 E c G n (dist0 G n) Q [] 0:=by
 refine⟨qj4 _ _ _ _,fun x hx => ?_,hn,fun u hu=>(by simp at hu),fun u a b f _ => ?_,fun e _ hm=>(by simp at hm),Int.le_refl _⟩
 ·obtain⟨i,hi,hg,rfl⟩:=(hQ x).1 hx
  refine⟨⟨by simp only;omega,by simp only;omega⟩,?_,Int.le_refl _,by simp only;decide,fun h=>by simp at h⟩
  rw [qdA hi,qex hg];exact Int.le_refl _
 ·have hu:u=((u.toNat:Nat):Int):=by omega
  rw [hu,qdA (by omega)] at f
  by_cases hg:G ((u.toNat:Nat):Int)
  ·refine⟨⟨0,u⟩,(hQ _).2 ⟨u.toNat,by omega,hg,by rw [←hu]⟩,rfl,?_⟩
   rw [hu,qdA (by omega),qex hg]
  ·rw [qhN hg] at f;omega
end Go.Proofs.YtkmbenhffledpaaGreat
/-
  The delete relaxation, in plain Lean: unary operators, derived values, and the algorithm that finds the least ones.
-/
namespace Go.Proofs.YtkmbenhffledpaaGreat
open Go.Sl
structure Un where
 op:Int
 eff:Int
 cost:Int
 makes:Int
 needs:List Int
def dUn:Un:=⟨0,0,0,0,[]⟩
def un (U:List Un) (i:Int):Un:=U.getD i.toNat dUn
inductive Der (U:List Un) (S:Int→Prop):Int→Int→Prop
 | start {f:Int}:S f→Der U S f 0
 | fire {i:Nat}{v:Int→Int}{m:Int}:i<U.length→0≤m→(∀ n∈(un U i).needs,Der U S n (v n))→(∀ n∈(un U i).needs,v n≤m)→Der U S (un U i).makes ((un U i).cost+m)
structure UnOk (U:List Un) (N:Nat):Prop where
 cost:∀ i:Nat,i<U.length→0≤(un U i).cost∧(un U i).cost≤1048576
 makes:∀ i:Nat,i<U.length→0≤(un U i).makes∧(un U i).makes<N
 needs:∀ i:Nat,i<U.length→∀ n∈(un U i).needs,0≤n∧n<N
 nd:∀ i:Nat,i<U.length→(un U i).needs.Nodup
def lft (dn:List Int) (l:List Int):Nat:=(l.filter fun n=>decide (n∉dn)).length
theorem qlr {dn l:List Int}:lft dn l=0↔∀ n∈l,n∈dn:=by
 unfold lft
 rw [List.length_eq_zero_iff,List.filter_eq_nil_iff]
 simp
theorem qsk (l:List Int):lft [] l=l.length:=by
 unfold lft
 rw [List.filter_eq_self.2 (by simp)]
theorem qnI {f:Int}{dn:List Int}(hf:f∉dn):∀ {l:List Int},l.Nodup→f∈l→lft dn l=lft (f::dn) l+1
 | [],_,h=>by simp at h
 | x::l,hn,h=>by
  obtain⟨h1,h2⟩:=List.nodup_cons.1 hn
  unfold lft
  by_cases e:x=f
  ·subst e
   rw [List.filter_cons,if_pos (by simp [hf]),List.filter_cons,if_neg (by simp)]
   have hc:(l.filter fun n=>decide (n∉dn))=l.filter fun n=>decide (n∉x::dn):=List.filter_congr fun y hy=>by
    have:y≠x:=fun e=>h1 (by rw [←e];exact hy)
    simp [this]
   rw [hc];rfl
  ·have ih:=qnI hf h2 (by rcases List.mem_cons.1 h with h|h;exact absurd h.symm e;exact h)
   unfold lft at ih
   by_cases hx:x∈dn
   ·rw [List.filter_cons,if_neg (by simp [hx]),List.filter_cons,if_neg (by simp [hx])];exact ih
   ·rw [List.filter_cons,if_pos (by simp [hx]),List.filter_cons,if_pos (by simp [hx,e])]
    simp only [List.length_cons];omega
theorem qsl {f:Int}{dn l:List Int}(h:f∉l):lft dn l=lft (f::dn) l:=by
 unfold lft
 rw [List.filter_congr fun y hy=>by
  have:y≠f:=fun e=>h (by rw [←e];exact hy)
  show decide (y∉dn)=decide (y∉f::dn)
  simp [this]]
def nedL (U:List Un) (f:Int):List Int:=((List.range U.length).filter fun (i:Nat)=>decide (f∈(un U i).needs)).map fun (i:Nat)=>(i:Int)
theorem qls {U:List Un}{f i:Int}:i∈nedL U f↔∃ k:Nat,i=k∧k<U.length∧f∈(un U k).needs:=by
 unfold nedL
 simp only [List.mem_map,List.mem_filter,List.mem_range,decide_eq_true_eq]
 constructor
 ·rintro⟨k,⟨h1,h2⟩,rfl⟩;exact⟨k,rfl,h1,h2⟩
 ·rintro⟨k,rfl,h1,h2⟩;exact⟨k,⟨h1,h2⟩,rfl⟩
theorem qmu (U:List Un) (f:Int):(nedL U f).Nodup:=by
 unfold nedL
 refine List.Pairwise.map _ (fun a b h => ?_) (List.nodup_range.filter _)
 intro e;exact h (by omega)
structure RI (U:List Un) (S:Int→Prop) (N:Nat) (D lf:List Int) (dn:List Int) (Q:List Item) (m:Int) (f:Int) (ok:Nat→Prop):Prop where
 dl:D.length=N
 ll:lf.length=U.length
 rng:∀ g:Int,0≤g→g<N→0≤dg D g∧dg D g≤inf
 der:∀ g:Int,0≤g→g<N→dg D g<inf→Der U S g (dg D g)
 lft1:∀ i:Nat,i<U.length→ok i→dg lf i=lft dn (un U i).needs
 lft2:∀ i:Nat,i<U.length→¬ok i→f∈(un U i).needs∧dg lf i=lft dn (un U i).needs+1
 low:∀ i:Nat,i<U.length→ok i→(∀ n∈(un U i).needs,n∈dn)→∀ k,0≤k→(∀ n∈(un U i).needs,dg D n≤k)→dg D (un U i).makes≤(un U i).cost+k
 act:∀ g:Int,0≤g→g<N→dg D g<inf→g∉dn→∃ x∈Q,x.state=g∧x.dist=dg D g
 ent:∀ x∈Q,(0≤x.state∧x.state<N)∧dg D x.state≤x.dist∧m≤x.dist∧x.dist<inf
 set:∀ g∈dn,(0≤g∧g<N)∧dg D g≤m
 m0:0≤m
 m1:m<inf
section
variable {U:List Un}{S:Int→Prop}{N:Nat}{D lf dn:List Int}{Q:List Item}{m f:Int}{ok:Nat→Prop}
theorem RI.perm (h:RI U S N D lf dn Q m f ok) {Q':List Item}(hp:Q'.Perm Q):RI U S N D lf dn Q' m f ok :=
 { h with
  act:=fun g a b c d=>let ⟨x,hx,hh⟩:=h.act g a b c d;⟨x,hp.mem_iff.2 hx,hh⟩
  ent:=fun x hx=>h.ent x (hp.mem_iff.1 hx) }
theorem RI.reach (h:RI U S N D lf dn Q m f ok) {g v:Int}(hg:0≤g∧g<N) (hv:v<dg D g) (hm:m≤v) (hd:Der U S g v):RI U S N (D.set g.toNat v) lf dn (⟨v,g⟩::Q) m f ok:=by
 have hr:=h.rng g hg.1 hg.2
 have hm0:=h.m0
 have hgd:g∉dn:=fun hh=>by have:=(h.set g hh).2;omega
 have hlt:g.toNat<D.length:=by rw [h.dl];omega
 have hget:∀ x:Int,0≤x→dg (D.set g.toNat v) x=if x=g then v else dg D x:=fun x hx=>by
  unfold dg
  by_cases e:x=g
  ·rw [if_pos e,e]
   simp [List.getD,hlt]
  ·rw [if_neg e]
   simp only [List.getD]
   rw [List.getElem?_set_ne (by omega)]
 have hle:∀ x:Int,0≤x→dg (D.set g.toNat v) x≤dg D x:=fun x hx=>by
  rw [hget x hx];split
  ·rename_i e;rw [e];omega
  ·exact Int.le_refl _
 refine⟨by simp [h.dl],h.ll,fun x h0 h1 => ?_,fun x h0 h1 h2 => ?_,h.lft1,h.lft2,fun i hi ho hn k hk hk2 => ?_,fun x h0 h1 h2 h3 => ?_,fun x hx => ?_,fun x hx => ?_,h.m0,h.m1⟩
 ·rw [hget x h0];split
  ·exact⟨by omega,by omega⟩
  ·exact h.rng x h0 h1
 ·rw [hget x h0] at h2 ⊢
  split
  ·rename_i e;rw [e];exact hd
  ·rename_i e;rw [if_neg e] at h2;exact h.der x h0 h1 h2
 ·have hmk:(0:Int)≤(un U i).makes∨(un U i).makes<0:=by omega
  have hb:=h.low i hi ho hn k hk fun n hn'=>by
   have:=hk2 n hn'
   have h0:=((h.set n (hn n hn')).1).1
   rw [hget n h0,if_neg (fun e=>hgd (by rw [←e];exact hn n hn'))] at this
   exact this
  rcases hmk with h0|h0
  ·have:=hle _ h0;omega
  ·unfold dg at hb ⊢
   rw [show (un U i).makes.toNat=(0:Int).toNat by omega] at hb ⊢
   have:=hle 0 (Int.le_refl _)
   unfold dg at this
   omega
 ·rw [hget x h0] at h2 ⊢
  by_cases e:x=g
  ·exact⟨⟨v,g⟩,List.mem_cons_self,e.symm,by rw [if_pos e]⟩
  ·rw [if_neg e] at h2 ⊢
   obtain⟨y,hy,h4⟩:=h.act x h0 h1 h2 h3
   exact⟨y,List.mem_cons_of_mem _ hy,h4⟩
 ·rcases List.mem_cons.1 hx with rfl|hx
  ·refine⟨hg,?_,hm,by have:=hr.2;show v<inf;omega⟩
   rw [hget _ hg.1,if_pos rfl];exact Int.le_refl _
  ·obtain⟨e1,e2,e3,e4⟩:=h.ent x hx
   exact⟨e1,by have:=hle x.state e1.1;omega,e3,e4⟩
 ·obtain⟨e1,e2⟩:=h.set x hx
  exact⟨e1,by have:=hle x e1.1;omega⟩
theorem RI.skip {x:Item}(h:RI U S N D lf dn (x::Q) m f ok) (hx:x.state∈dn):RI U S N D lf dn Q m f ok :=
 { h with
  act:=fun g a b c d=>by
   obtain⟨y,hy,h1,h2⟩:=h.act g a b c d
   rcases List.mem_cons.1 hy with rfl|hy
   ·exact absurd (h1 ▸ hx) d
   ·exact⟨y,hy,h1,h2⟩
  ent:=fun y hy=>h.ent y (List.mem_cons_of_mem _ hy) }
theorem RI.take (hU:UnOk U N) {x:Item}(h:RI U S N D lf dn (x::Q) m f fun _=>True) (hx:x.state∉dn) (hmin:∀ y∈Q,x.dist≤y.dist) :
  RI U S N D lf (x.state::dn) Q x.dist x.state (fun i=>x.state∉(un U i).needs)∧dg D x.state=x.dist∧(0≤x.state∧x.state<N)∧0≤x.dist∧x.dist<inf:=by
 obtain⟨e1,e2,e3,e4⟩:=h.ent x List.mem_cons_self
 have hm0:=h.m0
 have hd:dg D x.state=x.dist:=by
  obtain⟨y,hy,h1,h2⟩:=h.act x.state e1.1 e1.2 (by omega) hx
  rcases List.mem_cons.1 hy with rfl|hy
  ·exact h2.symm
  ·have:=hmin y hy;omega
 refine⟨⟨h.dl,h.ll,h.rng,h.der,fun i hi ho => ?_,fun i hi ho => ?_,fun i hi ho hn k hk hk2 => ?_,fun g h0 h1 h2 h3 => ?_,fun y hy => ?_,fun g hg => ?_,by omega,e4⟩,hd,e1,by omega,e4⟩
 ·rw [h.lft1 i hi trivial,qsl ho]
 ·have ho:x.state∈(un U i).needs:=Classical.byContradiction ho
  refine⟨ho,?_⟩
  rw [h.lft1 i hi trivial,qnI hx (hU.nd i hi) ho]
  rfl
 ·refine h.low i hi trivial (fun n hn' => ?_) k hk hk2
  rcases List.mem_cons.1 (hn n hn') with e|e
  ·exact absurd (e ▸ hn') ho
  ·exact e
 ·obtain⟨y,hy,h4,h5⟩:=h.act g h0 h1 h2 (fun hh=>h3 (List.mem_cons_of_mem _ hh))
  rcases List.mem_cons.1 hy with rfl|hy
  ·exact absurd (by rw [h4];exact List.mem_cons_self) h3
  ·exact⟨y,hy,h4,h5⟩
 ·obtain⟨f1,f2,f3,f4⟩:=h.ent y (List.mem_cons_of_mem _ hy)
  exact⟨f1,f2,hmin y hy,f4⟩
 ·rcases List.mem_cons.1 hg with rfl|hg
  ·exact⟨e1,by omega⟩
  ·obtain⟨f1,f2⟩:=h.set g hg
   exact⟨f1,by omega⟩
theorem RI.count {i:Nat}(hi:i<U.length) (h:RI U S N D lf dn Q m f ok) (hno:¬ok i) (hz:dg lf i-1≠0∨dg D (un U i).makes≤m+(un U i).cost) (hf:dg D f=m):RI U S N D (lf.set i (dg lf i-1)) dn Q m f (fun k=>ok k∨k=i):=by
 obtain⟨hfi,hl⟩:=h.lft2 i hi hno
 have hget:∀ k:Nat,dg (lf.set i (dg lf i-1)) k=if k=i then dg lf i-1 else dg lf k:=fun k=>by
  unfold dg
  by_cases e:k=i
  ·subst e
   rw [if_pos rfl]
   have:k<lf.length:=by rw [h.ll];exact hi
   simp [List.getD,this]
  ·rw [if_neg e]
   simp only [List.getD]
   rw [List.getElem?_set_ne (by omega)]
 refine { h with ll:=by simp [h.ll],lft1:=fun k hk ho => ?_,lft2:=fun k hk ho => ?_,low:=fun k hk ho hn c hc hc2 => ?_ }
 ·rw [hget]
  by_cases e:k=i
  ·subst e;rw [if_pos rfl,hl];omega
  ·rw [if_neg e];exact h.lft1 k hk (ho.resolve_right e)
 ·have e:k≠i:=fun e=>ho (.inr e)
  rw [hget,if_neg e]
  exact h.lft2 k hk fun hh=>ho (.inl hh)
 ·by_cases e:ok k
  ·exact h.low k hk e hn c hc hc2
  ·have e2:k=i:=ho.resolve_left e
   subst e2
   have hz0:=qlr.2 hn
   have:=hc2 f hfi
   rcases hz with hz|hz
   ·omega
   ·omega
theorem RI.fin (hU:UnOk U N) (h:RI U S N D lf dn [] m f fun _=>True) (hS:∀ g,S g→0≤g∧g<N∧dg D g≤0):∀ g v,Der U S g v→0≤g→g<N→dg D g≤v:=by
 have hdn:∀ g:Int,0≤g→g<N→dg D g<inf→g∈dn:=fun g h0 h1 h2=>by
  apply Classical.byContradiction
  intro hn
  obtain⟨x,hx,_⟩:=h.act g h0 h1 h2 hn
  simp at hx
 intro g v hd
 induction hd with
 | start hs=>intro _ _;exact (hS _ hs).2.2
 | @fire i v m hi hm hn hle ih =>
  intro h0 h1
  have hr:=h.rng _ h0 h1
  have hc:=(hU.cost i hi).1
  by_cases hall:∀ n∈(un U i).needs,dg D n<inf
  ·refine h.low i hi trivial (fun n hn' => ?_) m hm fun n hn' => ?_
   ·have hb:=hU.needs i hi n hn'
    exact hdn n hb.1 hb.2 (hall n hn')
   ·have hb:=hU.needs i hi n hn'
    have:=ih n hn' hb.1 hb.2
    have:=hle n hn'
    omega
  ·have:∃ n,n∈(un U i).needs∧¬dg D n<inf:=by
    apply Classical.byContradiction
    intro hh
    exact hall fun n hn'=>Classical.byContradiction fun h3=>hh ⟨n,hn',h3⟩
   obtain⟨n,hn',h3⟩:=this
   have hb:=hU.needs i hi n hn'
   have:=ih n hn' hb.1 hb.2
   have:=hle n hn'
   omega
theorem RI.fired {i:Nat}(hi:i<U.length) (h:RI U S N D lf dn Q m f ok) (hno:¬ok i) (hz:dg lf i-1=0) (hb:∀ n∈(un U i).needs,0≤n∧n<N):Der U S (un U i).makes (m+(un U i).cost):=by
 obtain⟨hfi,hl⟩:=h.lft2 i hi hno
 have hz0:lft dn (un U i).needs=0:=by omega
 have hall:=qlr.1 hz0
 rw [Int.add_comm]
 have hm1:=h.m1
 refine .fire (v:=dg D) hi h.m0 (fun n hn => ?_) fun n hn => ?_
 ·obtain⟨e1,e2⟩:=h.set n (hall n hn)
  exact h.der n e1.1 e1.2 (by omega)
 ·exact (h.set n (hall n hn)).2
end
end Go.Proofs.YtkmbenhffledpaaGreat
/-
  The heuristic hmax, in plain Lean: the unary operators of a task, their values; consistent, 0 in goal states.
-/
namespace Go.Proofs.YtkmbenhffledpaaGreat
open Go.Sl
def firstV (vars:List Int) (v:Nat):Int:=(vars.take v).foldl (·+·) 0
def numF (vars:List Int) (f:Fact):Int:=firstV vars f.var.toNat+f.val
def addN (acc:List Int) (n:Int):List Int:=if n∈acc then acc else acc++[n]
def needsL (vars:List Int) (l:List Fact) (acc:List Int):List Int:=l.foldl (fun acc f=>addN acc (numF vars f)) acc
theorem qgc (vars:List Int):firstV vars 0=0:=rfl
theorem qbG {vars:List Int}{v:Nat}(h:v<vars.length):firstV vars (v+1)=firstV vars v+vars.getD v tInt.dflt:=by
 unfold firstV
 rw [qan tInt.dflt h,List.foldl_append];rfl
theorem qcN {vars:List Int}(hp:∀ x∈vars,1≤x) {a:Nat}:∀ {b:Nat},a≤b→b≤vars.length→firstV vars a≤firstV vars b
 | 0,h,_=>by rw [show a=0 by omega];exact Int.le_refl _
 | b+1,h,hb=>by
  by_cases e:a=b+1
  ·rw [e];exact Int.le_refl _
  ·have:=qcN hp (a:=a) (b:=b) (by omega) (by omega)
   have h2:=hp _ (qak tInt.dflt (show b<vars.length by omega))
   rw [qbG (by omega)];omega
theorem qcz {vars:List Int}(hp:∀ x∈vars,1≤x) {b:Nat}(hb:b≤vars.length):0≤firstV vars b:=qcN hp (a:=0) (Nat.zero_le _) hb
theorem qc8 {vars:List Int}(hp:∀ i,i<vars.length→vars.getD i tInt.dflt≤64):∀ {b:Nat},b≤vars.length→firstV vars b≤64*(b:Int)
 | 0,_=>by rw [qgc];omega
 | b+1,hb=>by
  have:=qc8 hp (b:=b) (by omega)
  have:=hp b (by omega)
  rw [qbG (by omega)];omega
theorem qbf {vars:List Int}(hp:∀ x∈vars,1≤x) {f:Fact}(h:FactOk vars f):0≤numF vars f∧numF vars f<firstV vars vars.length:=by
 obtain⟨h0,h1,h2,h3⟩:=h
 have hv:f.var.toNat<vars.length:=by omega
 have a:=qcz hp (b:=f.var.toNat) (by omega)
 have b:=qcN hp (a:=f.var.toNat+1) (b:=vars.length) (by omega) (Nat.le_refl _)
 rw [qbG hv] at b
 unfold numF
 omega
theorem qgd {vars:List Int}(hp:∀ x∈vars,1≤x) {v:Nat}(hv:v<vars.length) {x:Int}(h0:0≤x) (h1:x<vars.getD v tInt.dflt):0≤firstV vars v+x∧firstV vars v+x<firstV vars vars.length:=by
 have a:=qcz hp (b:=v) (by omega)
 have b:=qcN hp (a:=v+1) (b:=vars.length) (by omega) (Nat.le_refl _)
 rw [qbG hv] at b
 omega
theorem qqL {acc:List Int}{n x:Int}:x∈addN acc n↔x∈acc∨x=n:=by
 unfold addN
 split
 ·rename_i h
  exact⟨.inl,fun h2=>h2.elim id fun e=>by rw [e];exact h⟩
 ·simp
theorem qmU {acc:List Int}{n:Int}(h:acc.Nodup):(addN acc n).Nodup:=by
 unfold addN
 split
 ·exact h
 ·rename_i hn
  exact List.nodup_append.2 ⟨h,by simp,fun a ha b hb e=>hn (by rw [List.mem_singleton.1 hb] at e;rw [←e];exact ha)⟩
theorem qqM (acc:List Int) (n:Int):(addN acc n).length≤acc.length+1:=by
 unfold addN;split <;> simp
theorem qdQ (vars:List Int) (l:List Fact) (f:Fact) (acc:List Int):needsL vars (l++[f]) acc=addN (needsL vars l acc) (numF vars f):=by simp [needsL]
theorem qa5 {vars:List Int}{acc:List Int}{x:Int}:∀ {l:List Fact},x∈needsL vars l acc↔x∈acc∨∃ f∈l,numF vars f=x:=by
 intro l
 refine qaC (P:=fun l=>x∈needsL vars l acc↔x∈acc∨∃ f∈l,numF vars f=x) (by simp [needsL]) ?_ l
 intro l f ih
 rw [qdQ,qqL,ih]
 simp only [List.mem_append,List.mem_singleton]
 constructor
 ·rintro ((h|⟨g,h1,h2⟩)|h)
  ·exact .inl h
  ·exact .inr ⟨g,.inl h1,h2⟩
  ·exact .inr ⟨f,.inr rfl,h.symm⟩
 ·rintro (h|⟨g,h1|h1,h2⟩)
  ·exact .inl (.inl h)
  ·exact .inl (.inr ⟨g,h1,h2⟩)
  ·exact .inr (by rw [←h2,h1])
theorem qcl {vars:List Int}{acc:List Int}(h:acc.Nodup) (l:List Fact):(needsL vars l acc).Nodup:=by
 refine qaC (P:=fun l=>(needsL vars l acc).Nodup) h ?_ l
 intro l f ih
 rw [qdQ];exact qmU ih
def unE (vars:List Int) (i:Nat) (o:TOp) (k:Nat):Un:=⟨i,k,o.cost,numF vars ⟨(o.effs.getD k dEff).var,(o.effs.getD k dEff).val⟩,needsL vars (o.effs.getD k dEff).when (needsL vars o.pre [])⟩
def unO (vars:List Int) (i:Nat) (o:TOp) (m:Nat):List Un:=(List.range m).map (unE vars i o)
def unK (t:TTask) (k:Nat):List Un:=(List.range k).flatMap fun i=>unO t.vars i (t.ops.getD i dOp) (t.ops.getD i dOp).effs.length
def unT (t:TTask):List Un:=unK t t.ops.length
theorem qit (vars:List Int) (i:Nat) (o:TOp) (m:Nat):unO vars i o (m+1)=unO vars i o m++[unE vars i o m]:=by simp [unO,List.range_succ]
theorem qb2 (t:TTask) (k:Nat):unK t (k+1)=unK t k++unO t.vars k (t.ops.getD k dOp) (t.ops.getD k dOp).effs.length:=by simp [unK,List.range_succ]
theorem qeO {t:TTask}{k:Nat}{u:Un}:u∈unK t k↔∃ i j,i<k∧j<(t.ops.getD i dOp).effs.length∧u=unE t.vars i (t.ops.getD i dOp) j:=by
 simp only [unK,unO,List.mem_flatMap,List.mem_range,List.mem_map]
 constructor
 ·rintro⟨i,h1,j,h2,rfl⟩;exact⟨i,j,h1,h2,rfl⟩
 ·rintro⟨i,j,h1,h2,rfl⟩;exact⟨i,h1,j,h2,rfl⟩
theorem qdR (vars:List Int) (i:Nat) (o:TOp) (m:Nat):(unO vars i o m).length=m:=by simp [unO]
theorem qdS {t:TTask}(hg:GoodT t):∀ {k:Nat},k≤t.ops.length→(unK t k).length≤64*k
 | 0,_=>by simp [unK]
 | k+1,h=>by
  have:=qdS hg (k:=k) (by omega)
  have:=(hg.op k (by omega)).effs
  rw [qb2,List.length_append,qdR];omega
def factN (t:TTask):Nat:=(firstV t.vars t.vars.length).toNat
theorem qaX {t:TTask}(hg:GoodT t):(factN t:Int)=firstV t.vars t.vars.length:=by
 have:=qcz hg.pos (b:=t.vars.length) (Nat.le_refl _)
 unfold factN;omega
theorem qcm {t:TTask}(hg:GoodT t):factN t≤4096:=by
 have h1:=qc8 (fun i hi=>(hg.dom i hi).2) (Nat.le_refl t.vars.length)
 have h2:=hg.vars
 unfold factN;omega
theorem qem {U:List Un}{i:Nat}(h:i<U.length):un U i∈U:=qak dUn h
theorem qbR {t:TTask}(hg:GoodT t):UnOk (unT t) (factN t):=by
 have key:∀ u∈unT t,(0≤u.cost∧u.cost≤1048576)∧(0≤u.makes∧u.makes<factN t)∧(∀ n∈u.needs,0≤n∧n<factN t)∧u.needs.Nodup:=by
  intro u hu
  obtain⟨i,j,hi,hj,rfl⟩:=qeO.1 hu
  have ho:=hg.op i hi
  have he:=qaD (ho.eff j hj)
  rw [qaX hg]
  refine⟨⟨ho.cost0,ho.cost1⟩,qbf hg.pos he,fun n hn => ?_,qcl (qcl List.nodup_nil _) _⟩
  have hw:=(ho.eff j hj).1
  rcases qa5.1 hn with h|⟨f,hf,rfl⟩
  ·rcases qa5.1 h with h|⟨f,hf,rfl⟩
   ·simp at h
   ·obtain⟨k,hk,rfl⟩:=List.getElem_of_mem hf
    have:=(ho.pre k hk).1
    rw [qaj hk] at this
    exact qbf hg.pos this
  ·obtain⟨k,hk,rfl⟩:=List.getElem_of_mem hf
   have:=(hw k hk).1
   rw [qaj hk] at this
   exact qbf hg.pos this
 exact⟨fun i hi=>(key _ (qem hi)).1,fun i hi=>(key _ (qem hi)).2.1,fun i hi=>(key _ (qem hi)).2.2.1,fun i hi=>(key _ (qem hi)).2.2.2⟩
def StF (vars s:List Int) (f:Int):Prop:=∃ v:Nat,v<vars.length∧f=firstV vars v+s.getD v tInt.dflt
structure IsHM (t:TTask) (s out:List Int):Prop where
 len:out.length=factN t
 rng:∀ g:Int,0≤g→g<factN t→0≤dg out g∧dg out g≤inf
 der:∀ g:Int,0≤g→g<factN t→dg out g<inf→Der (unT t) (StF t.vars s) g (dg out g)
 low:∀ g v,Der (unT t) (StF t.vars s) g v→0≤g→g<factN t→dg out g≤v
def maxG (vars:List Int) (goal:List Fact) (out:List Int):Int:=goal.foldl (fun m f=>max m (dg out (numF vars f))) 0
theorem qge (vars:List Int) (l:List Fact) (f:Fact) (out:List Int):maxG vars (l++[f]) out=max (maxG vars l out) (dg out (numF vars f)):=by simp [maxG]
theorem qcO {vars:List Int}{out:List Int}{b:Int}(hb:0≤b):∀ {l:List Fact},maxG vars l out≤b↔∀ f∈l,dg out (numF vars f)≤b:=by
 intro l
 refine qaC (P:=fun l=>maxG vars l out≤b↔∀ f∈l,dg out (numF vars f)≤b) (by simp [maxG,hb]) ?_ l
 intro l f ih
 rw [qge,Int.max_le,ih]
 simp only [List.mem_append,List.mem_singleton]
 exact⟨fun⟨h1,h2⟩ x hx=>hx.elim (h1 x) fun e=>by rw [e];exact h2,fun h=>⟨fun x hx=>h x (.inl hx),h f (.inr rfl)⟩⟩
theorem qc9 (vars:List Int) (l:List Fact) (out:List Int):0≤maxG vars l out:=by
 refine qaC (P:=fun l=>0≤maxG vars l out) (by simp [maxG]) ?_ l
 intro l f ih
 rw [qge];omega
open Classical in
theorem Der.shift {U:List Un}{S S':Int→Prop}{c:Int}(hc:0≤c) (h:∀ f,S' f→∃ v,v≤c∧Der U S f v) {f v:Int}(hd:Der U S' f v):∃ v',v'≤v+c∧Der U S f v':=by
 induction hd with
 | start hs=>obtain⟨v,h1,h2⟩:=h _ hs;exact⟨v,by omega,h2⟩
 | @fire i v m hi hm hn hle ih =>
  refine⟨(un U i).cost+(m+c),by omega,.fire (v:=fun n=>if hx:∃ v',v'≤v n+c∧Der U S n v' then Classical.choose hx else 0) hi (by omega) (fun n hn' => ?_) fun n hn' => ?_⟩
  ·have hx:=ih n hn'
   show Der U S n (dite _ _ _)
   rw [dif_pos hx]
   exact (Classical.choose_spec hx).2
  ·have hx:=ih n hn'
   show dite _ _ _≤_
   rw [dif_pos hx]
   have:=(Classical.choose_spec hx).1
   have:=hle n hn'
   omega
theorem qcA {vars s:List Int}(hs:StateOk vars s) {f:Fact}(h:HoldF s f):StF vars s (numF vars f) :=
 ⟨f.var.toNat,by have:=hs.1;have:=h.1;have:=h.2.1;omega,by unfold numF;rw [h.2.2]⟩
theorem qcB {s:List Int}{l:List Fact}(h:HoldFs s l) {f:Fact}(hf:f∈l):HoldF s f:=by
 obtain⟨i,hi,rfl⟩:=List.getElem_of_mem hf
 have:=h i hi
 rwa [qaj hi] at this
theorem qhu {s:List Int}{l:List Eff}(hr:∀ e∈l,0≤e.var∧e.var<s.length) {v:Nat}(hv:v<s.length):(effsL s l).getD v tInt.dflt=s.getD v tInt.dflt∨∃ k,k<l.length∧(l.getD k dEff).var=v∧(l.getD k dEff).val=(effsL s l).getD v tInt.dflt∧HoldFs s (l.getD k dEff).when:=by
 revert hr
 refine qaC (P:=fun l=>(∀ e∈l,0≤e.var∧e.var<(s.length:Int))→((effsL s l).getD v tInt.dflt=s.getD v tInt.dflt∨∃ k,k<l.length∧(l.getD k dEff).var=v∧(l.getD k dEff).val=(effsL s l).getD v tInt.dflt∧HoldFs s (l.getD k dEff).when)) (fun _=>.inl rfl) ?_ l
 intro l e ih hr
 have ih:=ih fun x hx=>hr x (by simp [hx])
 have hl:∀ k,k<l.length→(l++[e]).getD k dEff=l.getD k dEff:=fun k hk=>by simp [List.getD,List.getElem?_append_left hk]
 have hold:(∃ k,k<l.length∧(l.getD k dEff).var=v∧(l.getD k dEff).val=(effsL s l).getD v tInt.dflt∧HoldFs s (l.getD k dEff).when)→∃ k,k<(l++[e]).length∧((l++[e]).getD k dEff).var=v∧((l++[e]).getD k dEff).val=(effsL s l).getD v tInt.dflt∧HoldFs s ((l++[e]).getD k dEff).when:=fun⟨k,h1,h2,h3,h4⟩=>⟨k,by simp;omega,by rw [hl k h1];exact h2,by rw [hl k h1];exact h3,by rw [hl k h1];exact h4⟩
 rw [qbC]
 by_cases hw:HoldFs s e.when
 ·rw [if_pos hw]
  have he:=hr e (by simp)
  by_cases ev:e.var=v
  ·right
   have hg:(l++[e]).getD l.length dEff=e:=by simp [List.getD]
   refine⟨l.length,by simp,by rw [hg];exact ev,?_,by rw [hg];exact hw⟩
   rw [hg,ev,Int.toNat_natCast]
   have:v<(effsL s l).length:=by rw [qdZ];exact hv
   simp [List.getD,this]
  ·have hset:((effsL s l).set e.var.toNat e.val).getD v tInt.dflt=(effsL s l).getD v tInt.dflt:=by
    simp only [List.getD]
    rw [List.getElem?_set_ne (by omega)]
   rw [hset]
   exact ih.imp id hold
 ·rw [if_neg hw]
  exact ih.imp id hold
theorem qr7 {t:TTask}{op k:Nat}(ho:op<t.ops.length) (hk:k<(t.ops.getD op dOp).effs.length):∃ i,i<(unT t).length∧un (unT t) i=unE t.vars op (t.ops.getD op dOp) k:=by
 have hm:unE t.vars op (t.ops.getD op dOp) k∈unT t:=qeO.2 ⟨op,k,ho,hk,rfl⟩
 obtain⟨i,hi,he⟩:=List.getElem_of_mem hm
 exact⟨i,hi,by unfold un;rw [Int.toNat_natCast,qaj hi];exact he⟩
theorem qsI {t:TTask}(hg:GoodT t) {s out out':List Int}(hs:StateOk t.vars s) {op:Nat}(ho:op<t.ops.length) (ha:AppT t s op) (h:IsHM t s out) (h':IsHM t (succT t s op) out') {g:Int}(h0:0≤g) (h1:g<factN t):dg out g≤(t.ops.getD op dOp).cost+dg out' g:=by
 have hoo:=hg.op op ho
 have hc:=hoo.cost0
 have hr:=h.rng g h0 h1
 have hr':=h'.rng g h0 h1
 by_cases hi:dg out' g<inf
 ·have hd:=h'.der g h0 h1 hi
  obtain⟨v,hv,hdv⟩:=Der.shift (S:=StF t.vars s) hc (fun f hf=>by
   obtain⟨v,hv,rfl⟩:=hf
   have hvs:v<s.length:=by rw [hs.1];exact hv
   rcases qhu (s:=s) (l:=(t.ops.getD op dOp).effs) (fun e he=>by have:=qaD (hoo.mem e he);rw [hs.1];exact⟨this.1,this.2.1⟩) hvs with e|⟨k,hk,e1,e2,e3⟩
   ·exact⟨0,hc,.start ⟨v,hv,by rw [←e];rfl⟩⟩
   ·obtain⟨i,hi,hun⟩:=qr7 ho hk
    refine⟨(t.ops.getD op dOp).cost+0,by omega,?_⟩
    have hmk:(un (unT t) i).makes=firstV t.vars v+(succT t s op).getD v tInt.dflt:=by
     rw [hun]
     show firstV t.vars ((t.ops.getD op dOp).effs.getD k dEff).var.toNat+((t.ops.getD op dOp).effs.getD k dEff).val=_
     rw [e1,e2,Int.toNat_natCast];rfl
    have hcs:(un (unT t) i).cost=(t.ops.getD op dOp).cost:=by rw [hun];rfl
    rw [←hmk,←hcs]
    refine .fire (v:=fun _=>0) hi (Int.le_refl _) (fun n hn=>.start ?_) fun _ _=>Int.le_refl _
    rw [hun] at hn
    rcases qa5.1 hn with hn|⟨f,hf,rfl⟩
    ·rcases qa5.1 hn with hn|⟨f,hf,rfl⟩
     ·simp at hn
     ·exact qcA hs (qcB ha hf)
    ·exact qcA hs (qcB e3 hf)) hd
  have:=h.low g v hdv h0 h1
  omega
 ·omega
theorem qsJ {t:TTask}(hg:GoodT t) {s out out':List Int}(hs:StateOk t.vars s) {op:Nat}(ho:op<t.ops.length) (ha:AppT t s op) (h:IsHM t s out) (h':IsHM t (succT t s op) out'):maxG t.vars t.goal out≤(t.ops.getD op dOp).cost+maxG t.vars t.goal out':=by
 have hc:=(hg.op op ho).cost0
 have hnn:=qc9 t.vars t.goal out'
 refine (qcO (by omega)).2 fun f hf => ?_
 obtain⟨i,hi,rfl⟩:=List.getElem_of_mem hf
 have hfo:=(hg.goal i hi).1
 rw [qaj hi] at hfo
 have hn:=qbf hg.pos hfo
 rw [←qaX hg] at hn
 have:=qsI hg hs ho ha h h' hn.1 hn.2
 have:=(qcO hnn).1 (Int.le_refl _) _ hf
 omega
theorem qsK {t:TTask}(hg:GoodT t) {s out:List Int}(hs:StateOk t.vars s) (h:IsHM t s out) (hh:HoldFs s t.goal):maxG t.vars t.goal out=0:=by
 have h1:=qc9 t.vars t.goal out
 have h2:maxG t.vars t.goal out≤0:=(qcO (Int.le_refl _)).2 fun f hf=>by
  obtain⟨i,hi,rfl⟩:=List.getElem_of_mem hf
  have hfo:=(hg.goal i hi).1
  rw [qaj hi] at hfo
  have hn:=qbf hg.pos hfo
  rw [←qaX hg] at hn
  exact h.low _ 0 (.start (qcA hs (qcB hh hf))) hn.1 hn.2
 omega
theorem hm_le {t:TTask}(hg:GoodT t) {s out:List Int}(h:IsHM t s out):maxG t.vars t.goal out≤inf:=(qcO (by decide)).2 fun f hf=>by
 obtain⟨i,hi,rfl⟩:=List.getElem_of_mem hf
 have hfo:=(hg.goal i hi).1
 rw [qaj hi] at hfo
 have hn:=qbf hg.pos hfo
 rw [←qaX hg] at hn
 exact (h.rng _ hn.1 hn.2).2
theorem qda {t:TTask}{s out out':List Int}(h:IsHM t s out) (h':IsHM t s out'):out=out':=by
 apply List.ext_getElem (by rw [h.len,h'.len])
 intro i h1 h2
 have hi:i<factN t:=by rw [←h.len];exact h1
 have a:=h.rng i (by omega) (by omega)
 have a':=h'.rng i (by omega) (by omega)
 have b:=h.der i (by omega) (by omega)
 have b':=h'.der i (by omega) (by omega)
 have c:=fun v hd=>h.low i v hd (by omega) (by omega)
 have c':=fun v hd=>h'.low i v hd (by omega) (by omega)
 have e:dg out (i:Int)=dg out' (i:Int):=by
  by_cases hx:dg out (i:Int)<inf
  ·have:=c' _ (b hx)
   have:=c _ (b' (by omega))
   omega
  ·by_cases hy:dg out' (i:Int)<inf
   ·have:=c _ (b' hy);omega
   ·omega
 unfold dg at e
 rw [Int.toNat_natCast,qaj h1,qaj h2] at e
 exact e
end Go.Proofs.YtkmbenhffledpaaGreat
/-
  What relax.New lays out: numbers of first facts, the operators that need a fact, those that need nothing; how unary operators lie in memory.
-/
namespace Go.Proofs.YtkmbenhffledpaaGreat
open Go.Sl
structure UnV where
 op:Int
 eff:Int
 cost:Int
 makes:Int
 needs:Value
def tUn:Ty UnV:=⟨5,fun u=>[.int .i64 u.op,.int .i64 u.eff,.int .i64 u.cost,.int .i64 u.makes,u.needs],fun _=>rfl,⟨0,0,0,0,.slice none 0 0⟩⟩
instance inTUn1:ShutT tUn:=⟨trivial⟩
structure RUn (w:World) (v:UnV) (u:Un):Prop where
 op:v.op=u.op
 eff:v.eff=u.eff
 cost:v.cost=u.cost
 makes:v.makes=u.makes
 needs:RS tInt w v.needs u.needs
def UnF (vs:List UnV) (us:List Un) (w:World):Prop:=∀ i:Nat,i<us.length→RUn w (eget tUn vs i) (un us i)
def fstL (vars:List Int) (k:Nat):List Int:=(List.range k).map (firstV vars)
theorem qcq (vars:List Int) (k:Nat):(fstL vars k).length=k:=by simp [fstL]
theorem qs2 {vars:List Int}{k i:Nat}(h:i<k):(fstL vars k).getD i tInt.dflt=firstV vars i:=by simp [fstL,List.getD,h]
theorem qjZ (vars:List Int) (k:Nat):fstL vars (k+1)=fstL vars k++[firstV vars k]:=by simp [fstL,List.range_succ]
def nedI (U:List Un) (u:Un) (i N:Nat):List (List Int):=(List.range N).map fun (f:Nat)=>nedL U f++(if (f:Int)∈u.needs.take i then [(U.length:Int)] else [])
def nedR (U:List Un) (N:Nat):List (List Int):=(List.range N).map fun (f:Nat)=>nedL U f
theorem qmg (U:List Un) (u:Un) (i N:Nat):(nedI U u i N).length=N:=by simp [nedI]
theorem qiN (U:List Un) (N:Nat):(nedR U N).length=N:=by simp [nedR]
theorem qs3 {U:List Un}{N f:Nat}(h:f<N):(nedR U N).getD f []=nedL U f:=by simp [nedR,List.getD,h]
theorem qrh (N:Nat):nedR [] N=List.replicate N []:=by
 apply List.ext_getElem (by simp [nedR])
 intro i h1 h2
 simp [nedR,nedL]
theorem qpc (U:List Un) (u:Un) (N:Nat):nedI U u 0 N=nedR U N:=by simp [nedI,nedR]
theorem qpd (U:List Un) (u:Un) (f:Int):nedL (U++[u]) f=nedL U f++(if f∈u.needs then [(U.length:Int)] else []):=by
 unfold nedL
 rw [List.length_append,List.length_singleton,List.range_succ,List.filter_append,List.map_append]
 have h1:(List.range U.length).filter (fun (i:Nat)=>decide (f∈(un (U++[u]) i).needs))=(List.range U.length).filter fun (i:Nat)=>decide (f∈(un U i).needs):=List.filter_congr fun i hi=>by
  have hi:=List.mem_range.1 hi
  have:un (U++[u]) i=un U i:=by unfold un;simp [List.getD,List.getElem?_append_left hi]
  rw [this]
 have h2:un (U++[u]) (U.length:Nat)=u:=by unfold un;simp [List.getD]
 rw [h1]
 congr 1
 simp only [List.filter_cons,List.filter_nil]
 rw [h2]
 by_cases h:f∈u.needs
 ·simp [h]
 ·simp [h]
theorem qri (U:List Un) (u:Un) (N:Nat):nedI U u u.needs.length N=nedR (U++[u]) N:=by
 unfold nedI nedR
 refine List.map_congr_left fun f _ => ?_
 rw [qpd,List.take_length]
theorem qpe {U:List Un}{u:Un}{i N f:Nat}(h:f<N):(nedI U u i N).getD f []=nedL U f++(if (f:Int)∈u.needs.take i then [(U.length:Int)] else []):=by simp [nedI,List.getD,h]
theorem qrj {U:List Un}{u:Un}{i N:Nat}(hi:i<u.needs.length) (hn:u.needs.Nodup) (hr:∀ n∈u.needs,0≤n∧n<N):(nedI U u i N).set (u.needs.getD i tInt.dflt).toNat ((nedI U u i N).getD (u.needs.getD i tInt.dflt).toNat []++[(U.length:Int)])=nedI U u (i+1) N:=by
 have hm:=hr _ (qak tInt.dflt hi)
 have hni:u.needs.getD i tInt.dflt∉u.needs.take i:=by
  rw [qaj hi]
  intro h
  obtain⟨j,hj,he⟩:=List.getElem_of_mem h
  rw [List.length_take] at hj
  rw [List.getElem_take] at he
  exact absurd he (by
   have:=List.pairwise_iff_getElem.1 hn j i (by omega) hi (by omega)
   exact this)
 have hts:u.needs.take (i+1)=u.needs.take i++[u.needs.getD i tInt.dflt]:=qan tInt.dflt hi
 rw [qpe (by omega),if_neg (by rw [Int.toNat_of_nonneg hm.1];exact hni),List.append_nil]
 apply List.ext_getElem (by simp [nedI])
 intro j h1 h2
 rw [List.getElem_set]
 have hj:j<N:=by simpa [nedI] using h2
 simp only [nedI,List.getElem_map,List.getElem_range]
 rw [hts]
 split
 ·rename_i e
  subst e
  rw [Int.toNat_of_nonneg hm.1,if_pos (by simp)]
 ·rename_i e
  have e2:(j:Int)≠u.needs.getD i tInt.dflt:=fun h=>e (by rw [←h];rfl)
  by_cases h:(j:Int)∈u.needs.take i
  ·rw [if_pos h,if_pos (List.mem_append_left _ h)]
  ·rw [if_neg h,if_neg (by simp only [List.mem_append,List.mem_singleton];exact fun hh=>hh.elim h e2)]
theorem qmh (U:List Un) (f:Int):(nedL U f).length≤U.length:=by
 unfold nedL
 rw [List.length_map]
 exact Nat.le_trans (List.length_filter_le _ _) (by simp)
theorem qkT (U:List Un) (u:Un) (i N f:Nat):((nedI U u i N).getD f []).length≤U.length+1:=by
 by_cases h:f<N
 ·rw [qpe h]
  have:=qmh U f
  split <;> simp <;> omega
 ·simp [nedI,List.getD,h]
def freL (U:List Un):List Int:=((List.range U.length).filter fun (i:Nat)=>decide ((un U i).needs=[])).map fun (i:Nat)=>(i:Int)
theorem qrk:freL []=[]:=by simp [freL]
theorem qmi {U:List Un}{i:Int}:i∈freL U↔∃ k:Nat,i=k∧k<U.length∧(un U k).needs=[]:=by
 unfold freL
 simp only [List.mem_map,List.mem_filter,List.mem_range,decide_eq_true_eq]
 constructor
 ·rintro⟨k,⟨h1,h2⟩,rfl⟩;exact⟨k,rfl,h1,h2⟩
 ·rintro⟨k,rfl,h1,h2⟩;exact⟨k,⟨h1,h2⟩,rfl⟩
theorem qmj (U:List Un):(freL U).length≤U.length:=by
 unfold freL
 rw [List.length_map]
 exact Nat.le_trans (List.length_filter_le _ _) (by simp)
theorem qj0 (U:List Un) (u:Un):freL (U++[u])=freL U++(if u.needs=[] then [(U.length:Int)] else []):=by
 unfold freL
 rw [List.length_append,List.length_singleton,List.range_succ,List.filter_append,List.map_append]
 have h1:(List.range U.length).filter (fun (i:Nat)=>decide ((un (U++[u]) i).needs=[]))=(List.range U.length).filter fun (i:Nat)=>decide ((un U i).needs=[]):=List.filter_congr fun i hi=>by
  have hi:=List.mem_range.1 hi
  have:un (U++[u]) i=un U i:=by unfold un;simp [List.getD,List.getElem?_append_left hi]
  rw [this]
 have h2:un (U++[u]) (U.length:Nat)=u:=by unfold un;simp [List.getD]
 rw [h1]
 congr 1
 simp only [List.filter_cons,List.filter_nil]
 rw [h2]
 by_cases h:u.needs=[]
 ·simp [h]
 ·simp [h]
theorem qgt {U:List Un}{u:Un}{i:Nat}(h:i<U.length):un (U++[u]) i=un U i:=by unfold un;simp [List.getD,List.getElem?_append_left h]
theorem qgu {U:List Un}{u:Un}:un (U++[u]) (U.length:Nat)=u:=by unfold un;simp [List.getD]
end Go.Proofs.YtkmbenhffledpaaGreat
/-
  The start of the relaxation's algorithm; reaching a fact; the end gives the least values.
-/
namespace Go.Proofs.YtkmbenhffledpaaGreat
open Go.Sl
def rchD (D:List Int) (g v:Int):List Int:=if v<dg D g then D.set g.toNat v else D
def rchQ (D:List Int) (Q:List Item) (g v:Int):List Item:=if v<dg D g then ⟨v,g⟩::Q else Q
theorem qiP (D:List Int) (Q:List Item) (g v:Int):(rchQ D Q g v).length≤Q.length+1:=by unfold rchQ;split <;> simp
theorem qiQ {D:List Int}{N:Nat}(hl:D.length=N) {g v:Int}(hg:0≤g∧g<N) {x:Int}(hx:0≤x):dg (D.set g.toNat v) x=if x=g then v else dg D x:=by
 unfold dg
 by_cases e:x=g
 ·rw [if_pos e,e]
  have hlt:g.toNat<D.length:=by omega
  simp [List.getD,hlt]
 ·rw [if_neg e]
  simp only [List.getD]
  rw [List.getElem?_set_ne (by omega)]
theorem qmm {D:List Int}{N:Nat}(hl:D.length=N) {g v:Int}(hg:0≤g∧g<N) {x:Int}(hx:0≤x):dg (rchD D g v) x≤dg D x:=by
 unfold rchD
 split
 ·rw [qiQ hl hg hx]
  split
  ·rename_i h e;rw [e];omega
  ·exact Int.le_refl _
 ·exact Int.le_refl _
theorem qpp {D:List Int}{N:Nat}(hl:D.length=N) {g v:Int}(hg:0≤g∧g<N):dg (rchD D g v) g≤v:=by
 unfold rchD
 split
 ·rw [qiQ hl hg hg.1,if_pos rfl];exact Int.le_refl _
 ·omega
theorem qrt {D:List Int}{N:Nat}(hl:D.length=N) {g v:Int}(hg:0≤g∧g<N) {x m:Int}(hx:0≤x) (hm:dg D x=m) (hv:m≤v):dg (rchD D g v) x=m:=by
 unfold rchD
 split
 ·rw [qiQ hl hg hx]
  split
  ·rename_i h e;rw [←e] at h;omega
  ·exact hm
 ·exact hm
structure RI0 (U:List Un) (S:Int→Prop) (N:Nat) (D:List Int) (Q:List Item):Prop where
 dl:D.length=N
 rng:∀ g:Int,0≤g→g<N→0≤dg D g∧dg D g≤inf
 der:∀ g:Int,0≤g→g<N→dg D g<inf→Der U S g (dg D g)
 act:∀ g:Int,0≤g→g<N→dg D g<inf→∃ x∈Q,x.state=g∧x.dist=dg D g
 ent:∀ x∈Q,(0≤x.state∧x.state<N)∧dg D x.state≤x.dist∧0≤x.dist∧x.dist<inf
section
variable {U:List Un}{S:Int→Prop}{N:Nat}{D lf dn:List Int}{Q:List Item}{m f:Int}{ok:Nat→Prop}
theorem RI0.init (U:List Un) (S:Int→Prop) (N:Nat):RI0 U S N (List.replicate N inf) []:=by
 have h:∀ g:Int,0≤g→g<N→dg (List.replicate N inf) g=inf:=fun g h0 h1=>by
  unfold dg
  have:g.toNat<N:=by omega
  simp [List.getD,List.getElem?_replicate,this]
 exact⟨by simp,fun g h0 h1=>by rw [h g h0 h1];exact⟨by decide,Int.le_refl _⟩,fun g h0 h1 h2=>by rw [h g h0 h1] at h2;exact absurd h2 (Int.lt_irrefl _),fun g h0 h1 h2=>by rw [h g h0 h1] at h2;exact absurd h2 (Int.lt_irrefl _),fun x hx=>by simp at hx⟩
theorem RI0.perm (h:RI0 U S N D Q) {Q':List Item}(hp:Q'.Perm Q):RI0 U S N D Q' :=
 { h with
  act:=fun g a b c=>let ⟨x,hx,hh⟩:=h.act g a b c;⟨x,hp.mem_iff.2 hx,hh⟩
  ent:=fun x hx=>h.ent x (hp.mem_iff.1 hx) }
theorem RI0.rch (h:RI0 U S N D Q) {g v:Int}(hg:0≤g∧g<N) (hv:0≤v) (hd:Der U S g v):RI0 U S N (rchD D g v) (rchQ D Q g v):=by
 unfold rchD rchQ
 by_cases hlt:v<dg D g
 ·rw [if_pos hlt,if_pos hlt]
  have hr:=h.rng g hg.1 hg.2
  have hget:∀ x:Int,0≤x→dg (D.set g.toNat v) x=if x=g then v else dg D x:=fun x hx=>qiQ h.dl hg hx
  refine⟨by simp [h.dl],fun x h0 h1 => ?_,fun x h0 h1 h2 => ?_,fun x h0 h1 h2 => ?_,fun x hx => ?_⟩
  ·rw [hget x h0];split
   ·exact⟨by omega,by omega⟩
   ·exact h.rng x h0 h1
  ·rw [hget x h0] at h2 ⊢
   split
   ·rename_i e;rw [e];exact hd
   ·rename_i e;rw [if_neg e] at h2;exact h.der x h0 h1 h2
  ·rw [hget x h0] at h2 ⊢
   by_cases e:x=g
   ·exact⟨⟨v,g⟩,List.mem_cons_self,e.symm,by rw [if_pos e]⟩
   ·rw [if_neg e] at h2 ⊢
    obtain⟨y,hy,h4⟩:=h.act x h0 h1 h2
    exact⟨y,List.mem_cons_of_mem _ hy,h4⟩
  ·rcases List.mem_cons.1 hx with rfl|hx
   ·refine⟨hg,?_,hv,by have:=hr.2;show v<inf;omega⟩
    rw [hget _ hg.1,if_pos rfl];exact Int.le_refl _
   ·obtain⟨e1,e2,e3,e4⟩:=h.ent x hx
    have h5:=hget x.state e1.1
    refine⟨e1,?_,e3,e4⟩
    rw [h5]
    split
    ·rename_i e;rw [e] at e2;omega
    ·exact e2
 ·rw [if_neg hlt,if_neg hlt];exact h
theorem RI0.start (h:RI0 U S N D Q) (hl:lf.length=U.length) (hlf:∀ i:Nat,i<U.length→dg lf i=(un U i).needs.length) (hc:∀ i:Nat,i<U.length→0≤(un U i).cost) (hfree:∀ i:Nat,i<U.length→(un U i).needs=[]→dg D (un U i).makes≤(un U i).cost):RI U S N D lf [] Q 0 0 (fun _=>True):=by
 refine⟨h.dl,hl,h.rng,h.der,fun i hi _=>by rw [hlf i hi,qsk],fun i hi ho=>absurd trivial ho,fun i hi _ hn k hk hk2 => ?_,fun g a b c _=>h.act g a b c,h.ent,fun g hg=>by simp at hg,Int.le_refl _,by decide⟩
 have hnil:(un U i).needs=[]:=by
  cases hx:(un U i).needs with
  | nil=>rfl
  | cons a l=>have:=hn a (by rw [hx];exact List.mem_cons_self);simp at this
 have:=hfree i hi hnil
 omega
theorem RI.okc (h:RI U S N D lf dn Q m f ok) {ok':Nat→Prop}(hk:∀ i,ok i↔ok' i):RI U S N D lf dn Q m f ok':=by
 have:ok=ok':=funext fun i=>propext (hk i)
 rw [←this];exact h
theorem RI.rch (h:RI U S N D lf dn Q m f ok) {g v:Int}(hg:0≤g∧g<N) (hm:m≤v) (hd:Der U S g v):RI U S N (rchD D g v) lf dn (rchQ D Q g v) m f ok:=by
 unfold rchD rchQ
 by_cases hlt:v<dg D g
 ·rw [if_pos hlt,if_pos hlt];exact h.reach hg hlt hm hd
 ·rw [if_neg hlt,if_neg hlt];exact h
end
def dnL (dn:List Int) (N:Nat):List Bool:=(List.range N).map fun (g:Nat)=>decide ((g:Int)∈dn)
theorem qs6 (dn:List Int) (N:Nat):(dnL dn N).length=N:=by simp [dnL]
theorem qs7 (N:Nat):dnL [] N=List.replicate N false:=by
 apply List.ext_getElem (by simp [dnL])
 intro i h1 h2
 simp [dnL]
theorem qtv {dn:List Int}{N:Nat}{g:Int}(h0:0≤g) (h1:g<N) {d:Bool}:(dnL dn N).getD g.toNat d=decide (g∈dn):=by
 have:g.toNat<N:=by omega
 simp [dnL,List.getD,this,Int.toNat_of_nonneg h0]
theorem qs8 {dn:List Int}{N:Nat}{g:Int}(h0:0≤g) (h1:g<N):(dnL dn N).set g.toNat true=dnL (g::dn) N:=by
 apply List.ext_getElem (by simp [dnL])
 intro i h2 h3
 have hi:i<N:=by simpa [dnL] using h3
 rw [List.getElem_set]
 simp only [dnL,List.getElem_map,List.getElem_range]
 split
 ·rename_i e
  have:(i:Int)=g:=by omega
  simp [this]
 ·rename_i e
  have:(i:Int)≠g:=by omega
  simp [this]
theorem qcS:∀ {N:Nat}{l:List Int},l.Nodup→(∀ v∈l,0≤v∧v<(N:Int))→l.length≤N
 | 0,l,_,h=>by
  cases l with
  | nil=>exact Nat.le_refl _
  | cons a l=>have:=h a List.mem_cons_self;omega
 | n+1,l,hn,h=>by
  by_cases hm:(n:Int)∈l
  ·have h1:=qcS (N:=n) (hn.erase (n:Int)) fun v hv=>by
    have hv':=(hn.mem_erase_iff).1 hv
    have:=h v hv'.2
    have:=hv'.1
    omega
   rw [List.length_erase_of_mem hm] at h1
   omega
  ·have:=qcS (N:=n) hn fun v hv=>by
    have:=h v hv
    have:v≠(n:Int):=fun e=>hm (e ▸ hv)
    omega
   omega
end Go.Proofs.YtkmbenhffledpaaGreat
/-
  The heuristic hmax as a function, in plain Lean: it exists for each state, is consistent, and 0 in goal states.
-/
namespace Go.Proofs.YtkmbenhffledpaaGreat
open Go.Sl
theorem Der.nn {U:List Un}{S:Int→Prop}(hc:∀ i:Nat,i<U.length→0≤(un U i).cost) {g v:Int}(h:Der U S g v):0≤v:=by
 cases h with
 | start _=>exact Int.le_refl _
 | fire hi hm _ _=>have:=hc _ hi;omega
theorem qo3 {U:List Un}{S:Int→Prop}(hc:∀ i:Nat,i<U.length→0≤(un U i).cost) (g:Int):∃ m,0≤m∧m≤inf∧(m<inf→Der U S g m)∧∀ v,Der U S g v→m≤v:=by
 have key:∀ n:Nat,(∃ v,Der U S g v∧v<(n:Int))→∃ m,Der U S g m∧∀ v,Der U S g v→m≤v:=by
  intro n
  induction n with
  | zero=>rintro⟨v,h1,h2⟩;have:=h1.nn hc;omega
  | succ n ih =>
   rintro⟨v,h1,h2⟩
   by_cases h3:∃ v,Der U S g v∧v<(n:Int)
   ·exact ih h3
   ·refine⟨v,h1,fun v' h4 => ?_⟩
    have:¬v'<(n:Int):=fun h5=>h3 ⟨v',h4,h5⟩
    omega
 have e3:inf=1125899906842624:=rfl
 by_cases h:∃ v,Der U S g v∧v<inf
 ·obtain⟨v,h1,h2⟩:=h
  obtain⟨m,h3,h4⟩:=key inf.toNat ⟨v,h1,by omega⟩
  have:=h4 v h1
  exact⟨m,h3.nn hc,by omega,fun _=>h3,h4⟩
 ·exact⟨inf,by omega,Int.le_refl _,fun h'=>absurd h' (Int.lt_irrefl _),fun v hv=>Int.not_lt.1 fun h'=>h ⟨v,hv,h'⟩⟩
open Classical in
theorem qbX {t:TTask}(hg:GoodT t) (s:List Int):∃ out,IsHM t s out:=by
 have hok:=qbR hg
 have h:=fun g:Int=>qo3 (U:=unT t) (S:=StF t.vars s) (fun i hi=>(hok.cost i hi).1) g
 have hd:∀ g:Int,0≤g→g<factN t→dg ((List.range (factN t)).map fun (i:Nat)=>Classical.choose (h i)) g=Classical.choose (h g):=fun g h0 h1=>by
  have h2:g.toNat<factN t:=by omega
  unfold dg
  simp [List.getD,h2,Int.toNat_of_nonneg h0]
 refine⟨(List.range (factN t)).map fun (i:Nat)=>Classical.choose (h i),by simp,fun g h0 h1 => ?_,fun g h0 h1 h2 => ?_,fun g v hv h0 h1 => ?_⟩
 ·rw [hd g h0 h1];have:=Classical.choose_spec (h g);exact⟨this.1,this.2.1⟩
 ·rw [hd g h0 h1] at h2 ⊢;exact (Classical.choose_spec (h g)).2.2.1 h2
 ·rw [hd g h0 h1];exact (Classical.choose_spec (h g)).2.2.2 v hv
open Classical in
noncomputable def hmaxH (t:TTask) (s:List Int):Int:=if h:StateOk t.vars s∧∃ out,IsHM t s out then maxG t.vars t.goal (Classical.choose h.2) else 0
theorem qbZ {t:TTask}{s out:List Int}(hs:StateOk t.vars s) (h:IsHM t s out):hmaxH t s=maxG t.vars t.goal out:=by
 have hx:StateOk t.vars s∧∃ out,IsHM t s out:=⟨hs,out,h⟩
 unfold hmaxH
 rw [dif_pos hx,qda (Classical.choose_spec hx.2) h]
theorem qdc {t:TTask}{s:List Int}(hs:¬StateOk t.vars s):hmaxH t s=0:=by
 unfold hmaxH
 rw [dif_neg (fun h=>hs h.1)]
theorem qiD {t:TTask}(hg:GoodT t):HOk t (hmaxH t):=by
 have e3:(0:Int)≤inf:=by decide
 refine⟨hg,fun y => ?_,fun y => ?_⟩
 ·by_cases h:StateOk t.vars y
  ·obtain⟨out,ho⟩:=qbX hg y
   rw [qbZ h ho];exact qc9 _ _ _
  ·rw [qdc h];exact Int.le_refl _
 ·by_cases h:StateOk t.vars y
  ·obtain⟨out,ho⟩:=qbX hg y
   rw [qbZ h ho];exact hm_le hg ho
  ·rw [qdc h];exact e3
theorem qer {t:TTask}(hg:GoodT t) {s:List Int}(hs:StateOk t.vars s) {op:Nat}(ho:op<t.ops.length) (ha:AppT t s op):hmaxH t s≤opC t op+hmaxH t (succT t s op):=by
 obtain⟨out,h1⟩:=qbX hg s
 obtain⟨out',h2⟩:=qbX hg (succT t s op)
 rw [qbZ hs h1,qbZ (qaZ hg hs ho) h2]
 exact qsJ hg hs ho ha h1 h2
theorem qgn {t:TTask}(hg:GoodT t) {s:List Int}(hh:HoldFs s t.goal):hmaxH t s=0:=by
 by_cases h:StateOk t.vars s
 ·obtain⟨out,h1⟩:=qbX hg s
  rw [qbZ h h1];exact qsK hg h h1 hh
 ·exact qdc h
theorem qq4 {t:TTask}(hg:GoodT t) {s p:List Int}{c:Int}(h:Pln t s p c):hmaxH t s≤c:=by
 induction h with
 | goal hh=>rw [qgn hg hh];exact Int.le_refl _
 | @step s op p c ho ha _ ih =>
  by_cases hs:StateOk t.vars s
  ·have:=qer hg hs ho ha;omega
  ·rw [qdc hs]
   have h1:=qa9 hg ho
   have h2:=(qiD hg).nn (succT t s op)
   omega
theorem qgo {t:TTask}{s out:List Int}(hl:out.length=factN t) (hr:∀ g:Int,0≤g→g<factN t→0≤dg out g∧dg out g≤inf) (hU:UnOk (unT t) (factN t)) (hs:∀ g,StF t.vars s g→dg out g≤0)
  (hlow:∀ i:Nat,i<(unT t).length→dg out (un (unT t) i).makes≤(un (unT t) i).cost+(un (unT t) i).needs.foldl (fun m n=>max m (dg out n)) 0)
  (hder:∀ g:Int,0≤g→g<factN t→dg out g<inf→Der (unT t) (StF t.vars s) g (dg out g)):IsHM t s out:=by
 have hfm:∀ (l:List Int) (a k:Int),a≤k→(∀ n∈l,dg out n≤k)→l.foldl (fun m n=>max m (dg out n)) a≤k:=by
  intro l
  induction l with
  | nil=>intro a k h _;exact h
  | cons x l ih =>
   intro a k h h2
   exact ih _ _ (Int.max_le.2 ⟨h,h2 x List.mem_cons_self⟩) fun n hn=>h2 n (List.mem_cons_of_mem _ hn)
 refine⟨hl,hr,hder,fun g v hd => ?_⟩
 induction hd with
 | start h=>intro _ _;exact hs _ h
 | @fire i v m hi hm hn hle ih =>
  intro h0 h1
  have h2:=hlow i hi
  have h3:=hfm (un (unT t) i).needs 0 m hm fun n hn'=>by
   have hb:=hU.needs i hi n hn'
   have:=ih n hn' hb.1 hb.2
   have:=hle n hn'
   omega
  omega
end Go.Proofs.YtkmbenhffledpaaGreat
/-
  Maximal cliques by sets of bits, in plain Lean: what the search with a pivot finds.
-/
namespace Go.Proofs.YtkmbenhffledpaaGreat
open Go.Sl
section
variable {n:Nat}{N:Nat→Nat}{R P X C:Nat}
end
end Go.Proofs.YtkmbenhffledpaaGreat
/-
  Lists of nodes: sets of bits as ascending lists, the lexicographic order, and that a sorted list is settled by its members.
-/
namespace Go.Proofs.YtkmbenhffledpaaGreat
open Go.Sl
end Go.Proofs.YtkmbenhffledpaaGreat
/-
  The reference's enumeration of maximal cliques, in plain Lean: sorted, and just these.
-/
namespace Go.Proofs.YtkmbenhffledpaaGreat
open Go.Sl
section
variable {n:Nat}{N:Nat→Nat}{l:List Int}{v:Nat}{E E1 E2:List (List Int)}
end
end Go.Proofs.YtkmbenhffledpaaGreat
/-
  Every clique lies in a maximal one.
-/
namespace Go.Proofs.YtkmbenhffledpaaGreat
open Go.Sl
end Go.Proofs.YtkmbenhffledpaaGreat
/-
  Graphs, in plain Lean: the check of a graph, and the neighbours of each node as sets of bits.
-/
namespace Go.Proofs.YtkmbenhffledpaaGreat
open Go.Sl
structure Arc where
 src:Int
 dst:Int
 wt:Int
 deriving DecidableEq
def tArc:Ty Arc:=⟨3,fun a=>[.int .i64 a.src,.int .i64 a.dst,.int .i64 a.wt],fun _=>rfl,⟨0,0,0⟩⟩
def arcOk (n:Int) (a:Arc):Prop:=0≤a.src∧a.src<n∧0≤a.dst∧a.dst<n ∧ -1099511627776≤a.wt∧a.wt≤1099511627776
instance (n:Int) (a:Arc):Decidable (arcOk n a):=by unfold arcOk;infer_instance
end Go.Proofs.YtkmbenhffledpaaGreat
/-
  What the search for maximal cliques has found, round after round, in plain Lean.
-/
namespace Go.Proofs.YtkmbenhffledpaaGreat
open Go.Sl
section
variable {n:Nat}{N:Nat→Nat}{R P X l q p x:Nat}{M:List Nat}
end
end Go.Proofs.YtkmbenhffledpaaGreat
