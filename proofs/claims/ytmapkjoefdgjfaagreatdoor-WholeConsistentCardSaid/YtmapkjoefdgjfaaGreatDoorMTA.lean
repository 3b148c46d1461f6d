/- Several texts. -/
import Derived.Sort.Defs
import Derived.Lib.ItoaNum
import Derived.Test.YtmapkjoefdgjfaaGreatDoorMSlB
import Derived.Sort.AssemblyPlain
import Derived.Shelf.SlSortCmp.Insertion
import Derived.Lib.ItoaMem
set_option linter.unusedSimpArgs false
set_option linter.unusedVariables false
set_option maxRecDepth 8000
set_option maxHeartbeats 16000000
open List Nat
namespace Go.Proofs.YtmapkjoefdgjfaaGreatDoor
section
open Go.Sl
structure Fact where
 var:Int
 val:Int
 deriving DecidableEq
def aq:Ty Fact:=⟨2,fun f=>[.int .i64 f.var,.int .i64 f.val],fun _=>rfl,⟨0,0⟩⟩
instance qwH:Bn aq:=⟨fun x v hv=>by simp only[aq,mem_cons,not_mem_nil,or_false]at hv;rcases hv with rfl|rfl<;>rfl⟩
structure BD where
 when:List Fact
 var:Int
 val:Int
structure Bu where
 name:ByteArray
 cost:Int
 pre:List Fact
 aw:List BD
structure Aa where
 vars:List Int
 init:List Int
 goal:List Fact
 ops:List Bu
structure Bw where
 when:Value
 var:Int
 val:Int
def aR:Ty Bw:=⟨3,fun e=>[e.when,.int .i64 e.var,.int .i64 e.val],fun _=>rfl,⟨.slice none 0 0,0,0⟩⟩
structure AK where
 name:ByteArray
 cost:Int
 pre:Value
 aw:Value
def bJ:Ty AK:=⟨4,fun o=>[.string o.name,.int .i64 o.cost,o.pre,o.aw],fun _=>rfl,⟨ByteArray.empty,0,.slice none 0 0,.slice none 0 0⟩⟩
instance qwI:BN aR:=⟨trivial⟩
instance qwJ:BN bJ:=⟨trivial⟩
def ba:BD:=⟨[],0,0⟩
def aO:Bu:=⟨ByteArray.empty,0,[],[]⟩
structure CS (w:World) (v:Bw) (e:BD):Prop where
 var:v.var=e.var
 val:v.val=e.val
 when:RS aq w v.when e.when
structure B2 (w:World) (s:Value) (vs:List Bw) (es:List BD):Prop where
 rs:RS aR w s vs
 len:vs.length=es.length
 at_:∀ i,i<es.length->CS w (az aR vs i) (es.getD i ba)
structure Cm (w:World) (v:AK) (o:Bu):Prop where
 name:v.name=o.name
 size:o.name.size<=9223372036854775807
 cost:v.cost=o.cost
 pre:RS aq w v.pre o.pre
 aw:∃ vs,B2 w v.aw vs o.aw
structure CT (w:World) (s:Value) (vs:List AK) (os:List Bu):Prop where
 rs:RS bJ w s vs
 len:vs.length=os.length
 at_:∀ i,i<os.length->Cm w (az bJ vs i) (os.getD i aO)
structure Am (w:World) (a b c d:Value) (vs:List AK) (t:Aa):Prop where
 vars:RS aa w a t.vars
 init:RS aa w b t.init
 goal:RS aq w c t.goal
 ops:CT w d vs t.ops
theorem CS.one {w:World}{v:Bw}{e:BD}(h:CS w v e):(aR.enc v).all Value.oneCell'=true:=by
 simp only[aR,all_cons,all_nil,Bool.and_true,h.when.one];rfl
theorem Cm.one {w:World}{v:AK}{o:Bu}(h:Cm w v o):(bJ.enc v).all Value.oneCell'=true:=by
 obtain⟨vs,he⟩:=h.aw;simp only[bJ,all_cons,all_nil,Bool.and_true,h.pre.one,he.rs.one];rfl
theorem B2.at {w0 w:World}{Γ:List HP}{s:Value}{vs:List Bw}{es:List BD}(h:B2 w0 s vs es) (hw:Sat w0 w Γ):B2 w s vs es :=
 ⟨h.rs.at hw,h.len,fun i hi=>⟨(h.at_ i hi).var,(h.at_ i hi).val,(h.at_ i hi).when.at hw⟩⟩
theorem Cm.at {w0 w:World}{Γ:List HP}{v:AK}{o:Bu}(h:Cm w0 v o) (hw:Sat w0 w Γ):Cm w v o :=
 ⟨h.name,h.size,h.cost,h.pre.at hw,let ⟨vs,he⟩:=h.aw;⟨vs,he.at hw⟩⟩
theorem CT.at {w0 w:World}{Γ:List HP}{s:Value}{vs:List AK}{os:List Bu}(h:CT w0 s vs os) (hw:Sat w0 w Γ):CT w s vs os :=
 ⟨h.rs.at hw,h.len,fun i hi=>(h.at_ i hi).at hw⟩
theorem Am.at {w0 w:World}{Γ:List HP}{a b c d:Value}{vs:List AK}{t:Aa}(h:Am w0 a b c d vs t) (hw:Sat w0 w Γ):Am w a b c d vs t :=
 ⟨h.vars.at hw,h.init.at hw,h.goal.at hw,h.ops.at hw⟩
theorem bY {α:Type}{xs:List α}{i:Nat}(d:α) (h:i<xs.length):xs.getD i d∈xs:=by simp[List.getD,h]
theorem getD_at {α:Type}{l:List α}{d:α}{i:Nat}(h:i<l.length):l.getD i d=l[i]:=by simp[List.getD,h]
theorem dr {p:Prop}(h:¬p):(false=true)↔p:=⟨(fun e=>by cases e),fun e=>absurd e h⟩
theorem fU {p:Prop}(h:p):(true=true)↔p:=⟨fun _=>h,fun _=>rfl⟩
def Ac (vars s:List Int):Prop:=s.length=vars.length/\∀ i,i<s.length->0<=s.getD i aa.dflt/\s.getD i aa.dflt<vars.getD i aa.dflt
def Ao (vars:List Int) (x:Fact):Prop:=0<=x.var/\x.var<vars.length/\0<=x.val/\x.val<vars.getD x.var.toNat aa.dflt
def Ax (vars:List Int) (f:List Fact):Prop:=∀ i,i<f.length->Ao vars (f.getD i aq.dflt)/\(0<i->(f.getD (i-1) aq.dflt).var<(f.getD i aq.dflt).var)
def BM (b:ByteArray):Prop:=b.size<=256/\∀ i,i<b.size->32<=uO b i/\uO b i<=126
def AV (vars:List Int) (e:BD):Prop:=Ax vars e.when/\Ax vars [⟨e.var,e.val⟩]
structure Cz (vars:List Int) (o:Bu):Prop where
 jc:0<=o.cost
 ly:o.cost<=1048576
 aw:o.aw.length<=64
 name:BM o.name
 pre:Ax vars o.pre
 dL:∀ i,i<o.aw.length->AV vars (o.aw.getD i ba)
structure Af (t:Aa):Prop where
 vars:t.vars.length<=64
 ops:t.ops.length<=4096
 gd:∀ i,i<t.vars.length->1<=t.vars.getD i aa.dflt/\t.vars.getD i aa.dflt<=64
 init:Ac t.vars t.init
 goal:Ax t.vars t.goal
 op:∀ i,i<t.ops.length->Cz t.vars (t.ops.getD i aO)
def bK (vars:List Int):Int:=vars.foldl (·*·) 1
structure AB (t:Aa):Prop where
 cr:Af t
 vars:t.vars.length<=12
 ops:t.ops.length<=20
 aw:∀ i,i<t.ops.length->(t.ops.getD i aO).aw.length<=8
 many:bK t.vars<=512
def A4 (s:List Int) (x:Fact):Prop:=0<=x.var/\x.var<s.length/\s.getD x.var.toNat aa.dflt=x.val
def Aq (s:List Int) (f:List Fact):Prop:=∀ i,i<f.length->A4 s (f.getD i aq.dflt)
theorem wu (l:List Int) (x:Int):bK (l++[x])=bK l*x:=by simp[bK]
theorem dJ {α:Type}{l:List α}{k:Nat}(d:α) (h:k<l.length):l.take (k+1)=l.take k++[l.getD k d]:=by
 rw[take_succ_eq_append_getElem h];simp[List.getD,h]
theorem wq {l:List Int}(h:∀ x∈l,1<=x):1<=bK l:=by
 have key:∀ (l:List Int) (a:Int),1<=a->(∀ x∈l,1<=x)->1<=l.foldl (·*·) a:=by
  intro l
  induction l with
  | nil=>intro a ha _;exact ha
  | cons x l ih =>
   intro a ha hl;refine ih (a*x) ?_ fun y hy=>hl y (mem_cons_of_mem _ hy);have hx:=hl x mem_cons_self;have:=Int.mul_le_mul ha hx om om
   simpa using this
 exact key l 1 (Int.le_refl _) h
theorem qhr {l m:List Int}(hm:∀ x∈m,1<=x) (hl:∀ x∈l,1<=x):bK l<=bK (l++m):=by
 induction m generalizing l with
 | nil=>simp
 | cons x m ih =>
  have h1:=ih (l:=l++[x]) (fun y hy=>hm y (mem_cons_of_mem _ hy)) (fun y hy=>by
   rcases mem_append.1 hy with h|h
   ·exact hl y h
   ·rw[mem_singleton.1 h];exact hm x mem_cons_self)
  rw[wu]at h1;have h2:=wq hl;have h3:=hm x mem_cons_self;have h4:bK l*1<=bK l*x:=Int.mul_le_mul_of_nonneg_left h3 om;have e:l++[x]++m=l++x::m:=by simp
  rw[e]at h1;omega
def mix (ds:List (Int × Int)):Int:=ds.foldl (fun n d=>n*d.1+d.2) 0
theorem qfD (l:List (Int × Int)) (d:Int × Int):mix (l++[d])=mix l*d.1+d.2:=by simp[mix]
def BP (ds:List (Int × Int)):Prop:=∀ d∈ds,0<=d.2/\d.2<d.1
theorem kx {α:Type}{P:List α->Prop}(h0:P []) (h1:∀ l x,P l->P (l++[x])) (l:List α):P l:=by
 have:∀ n,∀ l:List α,l.length=n->P l:=by
  intro n
  induction n with
  | zero=>intro l hl;rw[length_eq_zero_iff.1 hl];exact h0
  | succ n ih =>
   intro l hl;have cY:l≠[]:=fun h=>by simp[h]at hl
   rw[<-dropLast_concat_getLast cY];exact h1 _ _ (ih _ (by simp[hl]))
 exact this _ l rfl
theorem qpf {ds:List (Int × Int)}:BP ds->0<=mix ds/\mix ds<bK (ds.map (·.1)):=by
 refine kx (P:=fun ds=>BP ds->0<=mix ds/\mix ds<bK (ds.map (·.1))) ?_ ?_ ds
 ·intro _;decide
 ·intro l d ih h
  obtain⟨a,b⟩:=ih fun x hx=>h x (mem_append_left _ hx);obtain⟨c,e⟩:=h d (mem_append_right _ (mem_singleton.2 rfl));rw[qfD,map_append,map_cons,map_nil,wu];have h1:0<=mix l*d.1:=Int.mul_nonneg a om;have h2:(mix l+1)*d.1<=bK (l.map (·.1))*d.1:=Int.mul_le_mul_of_nonneg_right om om;rw[Int.add_mul]at h2;omega
theorem quK {ds:List (Int × Int)}:∀ {es:List (Int × Int)},BP ds->BP es->ds.map (·.1)=es.map (·.1)->mix ds=mix es->ds=es:=by
 refine kx (P:=fun ds=>∀ {es:List (Int × Int)},BP ds->BP es->ds.map (·.1)=es.map (·.1)->mix ds=mix es->ds=es) ?_ ?_ ds
 ·intro es _ _ h _
  simpa using h.symm
 ·intro l d ih es h1 h2 hm he
  have cY:es≠[]:=fun h=>by simp[h]at hm
  obtain⟨m,f,rfl⟩:∃ m f,es=m++[f]:=⟨_,_,(dropLast_concat_getLast cY).symm⟩
  simp only[map_append,map_cons,map_nil]at hm;obtain⟨pD,j6⟩:=append_inj' hm rfl;have wP:d.1=f.1:=by simpa using j6
  rw[qfD,qfD]at he;obtain⟨a,b⟩:=h1 d (by simp);obtain⟨a',b'⟩:=h2 f (by simp);have hq:mix l=mix m:=by
   have e1:(mix l*d.1+d.2) / d.1=mix l:=by
    rw[Int.add_comm,Int.add_mul_ediv_right _ _ om,Int.ediv_eq_zero_of_lt a b];omega
   have e2:(mix m*f.1+f.2) / f.1=mix m:=by
    rw[Int.add_comm,Int.add_mul_ediv_right _ _ om,Int.ediv_eq_zero_of_lt a' b'];omega
   rw[he,wP,e2]at e1;exact e1.symm
  rw[hq,wP]at he;have:d.2=f.2:=by omega
  rw[ih (fun x hx=>h1 x (by simp[hx])) (fun x hx=>h2 x (by simp[hx])) pD hq,Prod.ext wP this]
def cN (vars s:List Int):Int:=mix (vars.zip s)
theorem qeN {vars s:List Int}(h:s.length=vars.length) (k x:Int):cN (vars++[k]) (s++[x])=cN vars s*k+x:=by
 unfold cN;rw[zip_append h.symm,zip_cons_cons,zip_nil_right,qfD]
theorem Ac.dig {vars s:List Int}(h:Ac vars s):BP (vars.zip s):=by
 intro d hd;obtain⟨i,hi,rfl⟩:=getElem_of_mem hd;rw[length_zip]at hi;have:=h.2 i om;rw[getD_at om,getD_at om]at this
 simpa using this
theorem zip_fst {a b:List Int}(h:b.length=a.length):(a.zip b).map (·.1)=a:=by
 have:=map_fst_zip (l₁:=a) (l₂:=b) om;exact this
theorem ya {vars s:List Int}(h:Ac vars s):0<=cN vars s/\cN vars s<bK vars:=by
 have:=qpf h.dig
 rwa[zip_fst h.1]at this
theorem zip_inj {a b c:List Int}(h1:b.length=a.length) (h2:c.length=a.length) (h:a.zip b=a.zip c):b=c:=by
 have e1:=map_snd_zip (l₁:=a) (l₂:=b) om;have e2:=map_snd_zip (l₁:=a) (l₂:=c) om;rw[<-e1,h,e2]
theorem qjG {vars s u:List Int}(h:Ac vars s) (k:Ac vars u) (e:cN vars s=cN vars u):s=u :=
 zip_inj h.1 k.1 (quK h.dig k.dig (by rw[zip_fst h.1,zip_fst k.1]) e)
def fR (out:List (List Int)) (k:Int):List (List Int):=out.flatMap fun s=>(List.range k.toNat).map fun (x:Nat)=>s++[(x:Int)]
def aB (vars:List Int):List (List Int):=vars.foldl fR [[]]
theorem qcY (vars:List Int) (k:Int):aB (vars++[k])=fR (aB vars) k:=by simp[aB]
theorem qpg (n k:Nat):(List.range n).flatMap (fun r=>(List.range k).map fun x=>r*k+x)=List.range (n*k):=by
 induction n with
 | zero=>simp
 | succ n ih=>rw[range_succ,flatMap_append,ih,succ_mul,range_add];simp
theorem qig {α β:Type}{l:List α}{f g:α->List β}(h:∀ x∈l,f x=g x):l.flatMap f=l.flatMap g:=by
 induction l with
 | nil=>rfl
 | cons x l ih=>rw[flatMap_cons,flatMap_cons,h x mem_cons_self,ih fun y hy=>h y (mem_cons_of_mem _ hy)]
theorem qjH {vars s:List Int}{k x:Int}(h:Ac vars s) (h0:0<=x) (h1:x<k):Ac (vars++[k]) (s++[x]):=by
 refine⟨by simp[h.1],fun i hi=>?_⟩;simp only[length_append,length_cons,length_nil]at hi;simp only[getD_eq_getElem?_getD];by_cases e:i<s.length
 ·rw[getElem?_append_left e,getElem?_append_left (by rw[<-h.1];exact e)]
  simpa only[getD_eq_getElem?_getD] using h.2 i e
 ·have e2:i=s.length:=by omega
  subst e2;rw[getElem?_append_right (Nat.le_refl _),getElem?_append_right (by rw[h.1];exact Nat.le_refl _),h.1]
  simpa using ⟨h0,h1⟩
theorem qhg {vars s:List Int}{k:Int}(h:Ac (vars++[k]) s):∃ s' x,s=s'++[x]/\Ac vars s'/\0<=x/\x<k:=by
 have hl:=h.1;simp only[length_append,length_cons,length_nil]at hl;have cY:s≠[]:=fun e=>by simp[e]at hl
 refine⟨s.dropLast,s.getLast cY,(dropLast_concat_getLast cY).symm,?_,?_⟩
 ·refine⟨by simp;omega,fun i hi=>?_⟩
  simp only[length_dropLast]at hi;have:=h.2 i om;simp only[getD_eq_getElem?_getD]at this ⊢;rw[getElem?_append_left om]at this;rw[getElem?_dropLast,if_pos om];exact this
 ·have:=h.2 (s.length-1) om
  simp only[getD_eq_getElem?_getD]at this;rw[getElem?_append_right om,show s.length-1-vars.length=0 by omega]at this;rw[getLast_eq_getElem];rw[getElem?_eq_getElem om]at this
  simpa using this
theorem qcC {vars:List Int}:∀ {s:List Int},s∈aB vars↔Ac vars s:=by
 refine kx (P:=fun vars=>∀ {s:List Int},s∈aB vars↔Ac vars s) ?_ ?_ vars
 ·intro s
  simp only[aB,foldl_nil,mem_singleton];constructor
  ·rintro rfl;exact⟨rfl,fun i hi=>absurd hi (not_lt_zero _)⟩
  ·intro h;exact length_eq_zero_iff.1 h.1
 ·intro l k ih s
  rw[qcY,fR,mem_flatMap];constructor
  ·rintro⟨s',ig,h⟩
   obtain⟨x,hx,rfl⟩:=mem_map.1 h;have:=mem_range.1 hx;exact qjH (ih.1 ig) om om
  ·intro h
   obtain⟨s',x,rfl,h1,h2,h3⟩:=qhg h;exact⟨s',ih.2 h1,mem_map.2 ⟨x.toNat,mem_range.2 om,by rw[Int.toNat_of_nonneg h2]⟩⟩
theorem qfk {vars:List Int}:(∀ x∈vars,1<=x)->(aB vars).map (fun s=>(cN vars s).toNat)=List.range (bK vars).toNat:=by
 refine kx (P:=fun vars=>(∀ x∈vars,1<=x)->(aB vars).map (fun s=>(cN vars s).toNat)=List.range (bK vars).toNat) ?_ ?_ vars
 ·intro _;decide
 ·intro l k ih h
  have hk:=h k (by simp);have hp:=wq fun x hx=>h x (mem_append_left [k] hx);have ih':=ih fun x hx=>h x (by simp[hx]);rw[qcY,fR,map_flatMap,wu,Int.toNat_mul om om,<-qpg,<-ih',flatMap_map];refine qig fun s hs=>?_;rw[map_map];refine map_congr_left fun x hx=>?_;have ig:=qcC.1 hs;have hb:=(ya ig).1;simp only[Function.comp];rw[qeN ig.1];have:0<=cN l s*k:=Int.mul_nonneg hb om;rw[Int.toNat_add this om,Int.toNat_mul hb om];omega
theorem uc {vars:List Int}(h:∀ x∈vars,1<=x):(aB vars).length=(bK vars).toNat:=by
 have:=congrArg List.length (qfk h)
 simpa using this
theorem qdq {vars:List Int}(h:∀ x∈vars,1<=x) {i:Nat}(hi:i<(aB vars).length):Ac vars ((aB vars).getD i [])/\cN vars ((aB vars).getD i [])=i:=by
 have hm:(aB vars).getD i []∈aB vars:=bY [] hi;have hs:=qcC.1 hm;refine⟨hs,?_⟩;have:=congrArg (fun l=>l[i]?) (qfk h);rw[uc h]at hi;simp only[getElem?_map]at this;rw[getElem?_range om,getElem?_eq_getElem (by rw[uc h];omega)]at this;simp only[Option.map_some,Option.some.injEq]at this;rw[getD_at (by rw[uc h];omega)]at hs ⊢;have hb:=(ya hs).1;omega
theorem qnL {vars:List Int}(h:∀ x∈vars,1<=x) {s:List Int}(hs:Ac vars s):(cN vars s).toNat<(aB vars).length/\(aB vars).getD (cN vars s).toNat []=s:=by
 have hb:=ya hs;have hl:(cN vars s).toNat<(aB vars).length:=by rw[uc h];omega
 refine⟨hl,?_⟩;obtain⟨h1,h2⟩:=qdq h hl;exact qjG h1 hs om
instance (s:List Int) (x:Fact):Decidable (A4 s x):=by unfold A4;infer_instance
instance (s:List Int) (f:List Fact):Decidable (Aq s f):=by unfold Aq;infer_instance
theorem sN {s:List Int}{f:List Fact}:Aq s f↔∀ x∈f,A4 s x:=by
 constructor
 ·intro h x hx
  obtain⟨i,hi,rfl⟩:=getElem_of_mem hx;have:=h i hi
  rwa[getD_at hi]at this
 ·intro h i hi;exact h _ (bY _ hi)
def dt (s:List Int) (aw:List BD):List Int:=aw.foldl (fun out e=>if Aq s e.when then out.set e.var.toNat e.val else out) s
theorem z6 (s:List Int) (l:List BD) (e:BD):dt s (l++[e])=if Aq s e.when then (dt s l).set e.var.toNat e.val else dt s l:=by simp[dt]
theorem qf0 (s:List Int) (l:List BD):(dt s l).length=s.length:=by
 refine kx (P:=fun l=>(dt s l).length=s.length) rfl ?_ l;intro l e ih;rw[z6];split<;>simp[ih]
def A6 (t:Aa) (s:List Int) (op:Nat):Prop:=Aq s (t.ops.getD op aO).pre
instance (t:Aa) (s:List Int) (op:Nat):Decidable (A6 t s op):=by unfold A6;infer_instance
def bm (t:Aa) (s:List Int) (op:Nat):List Int:=dt s (t.ops.getD op aO).aw
theorem qB {vars:List Int}{e:BD}(h:AV vars e):0<=e.var/\e.var<vars.length/\0<=e.val/\e.val<vars.getD e.var.toNat aa.dflt:=by
 have:=(h.2 0 (zero_lt_succ _)).1;exact this
theorem qdP {vars s:List Int}{v x:Int}(h:Ac vars s) (h2:0<=v) (h0:0<=x) (h1:x<vars.getD v.toNat aa.dflt):Ac vars (s.set v.toNat x):=by
 refine⟨by simp[h.1],fun i hi=>?_⟩;rw[length_set]at hi;simp only[getD_eq_getElem?_getD,getElem?_set]at h1 ⊢;split
 ·rename_i e;subst e;rw[if_pos hi];exact⟨h0,h1⟩
 ·simpa only[getD_eq_getElem?_getD] using h.2 i hi
theorem qmv {vars s:List Int}{l:List BD}(hs:Ac vars s):(∀ e∈l,AV vars e)->Ac vars (dt s l):=by
 refine kx (P:=fun l=>(∀ e∈l,AV vars e)->Ac vars (dt s l)) (fun _=>hs) ?_ l;intro l e ih h;have h1:=ih fun x hx=>h x (by simp[hx]);rw[z6];split
 ·obtain⟨a,b,c,d⟩:=qB (h e (by simp))
  exact qdP h1 a c d
 ·exact h1
theorem Cz.mem {vars:List Int}{o:Bu}(h:Cz vars o):∀ e∈o.aw,AV vars e:=by
 intro e he;obtain⟨i,hi,rfl⟩:=getElem_of_mem he;have:=h.dL i hi
 rwa[getD_at hi]at this
theorem Af.pos {t:Aa}(h:Af t):∀ x∈t.vars,1<=x:=by
 intro x hx;obtain⟨i,hi,rfl⟩:=getElem_of_mem hx;have:=(h.gd i hi).1
 rwa[getD_at hi]at this
theorem qA {t:Aa}{s:List Int}{op:Nat}(h:Af t) (hs:Ac t.vars s) (ho:op<t.ops.length):Ac t.vars (bm t s op):=qmv hs (h.op op ho).mem
structure Au where
 src:Int
 bI:Int
 dst:Int
 deriving DecidableEq
def ax:Ty Au:=⟨3,fun e=>[.int .i64 e.src,.int .i64 e.bI,.int .i64 e.dst],fun _=>rfl,⟨0,0,0⟩⟩
instance z7:Bn ax:=⟨fun x v hv=>by simp only[ax,mem_cons,not_mem_nil,or_false]at hv;rcases hv with rfl|rfl|rfl<;>rfl⟩
def lD (t:Aa) (s:List Int) (i:Nat) (op:Nat):List Au:=if A6 t s op then [⟨i,op,cN t.vars (bm t s op)⟩] else []
def fX (t:Aa) (s:List Int) (i j:Nat):List Au:=(List.range j).flatMap (lD t s i)
def gI (t:Aa) (i:Nat):List Au:=(List.range i).flatMap fun i=>fX t ((aB t.vars).getD i []) i t.ops.length
def gF (t:Aa):List Au:=gI t (aB t.vars).length
theorem qlf (t:Aa) (s:List Int) (i:Nat):fX t s i 0=[]:=rfl
theorem qdQ (t:Aa) (s:List Int) (i j:Nat):fX t s i (j+1)=fX t s i j++lD t s i j:=by simp[fX,range_succ]
theorem qf1 (t:Aa) (i:Nat):gI t (i+1)=gI t i++fX t ((aB t.vars).getD i []) i t.ops.length:=by simp[gI,range_succ]
theorem qht (t:Aa) (s:List Int) (i j:Nat):(fX t s i j).length<=j:=by
 induction j with
 | zero=>simp[fX]
 | succ j ih =>
  rw[qdQ,length_append];have:(lD t s i j).length<=1:=by unfold lD;split<;>simp
  omega
theorem qnM (t:Aa) (i:Nat):(gI t i).length<=i*t.ops.length:=by
 induction i with
 | zero=>simp[gI]
 | succ i ih =>
  rw[qf1,length_append,succ_mul];have:=qht t ((aB t.vars).getD i []) i t.ops.length;omega
theorem qnN {t:Aa}{e:Au}:e∈gF t↔∃ i op,i<(aB t.vars).length/\op<t.ops.length/\A6 t ((aB t.vars).getD i []) op/\e=⟨i,op,cN t.vars (bm t ((aB t.vars).getD i []) op)⟩:=by
 simp only[gF,gI,fX,lD,mem_flatMap,mem_range];constructor
 ·rintro⟨i,hi,op,ho,h⟩
  split at h
  ·rename_i ha;exact⟨i,op,hi,ho,ha,mem_singleton.1 h⟩
  ·cases h
 ·rintro⟨i,op,hi,ho,ha,rfl⟩
  exact⟨i,hi,op,ho,by rw[if_pos ha];exact mem_singleton.2 rfl⟩
def jW (o:Bu):List (List Fact):=o.pre::o.aw.map (·.when)
def dU (t:Aa) (k:Nat):List (List Fact):=t.goal::(t.ops.take k).flatMap jW
def conds (t:Aa):List (List Fact):=dU t t.ops.length
def AM (t:Aa):Prop:=64<t.vars.length\/4096<t.ops.length\/(∃ i,i<t.ops.length/\64<(t.ops.getD i aO).aw.length)\/∃ i,i<(conds t).length/\64<((conds t).getD i []).length
def BQ (t:Aa):Prop:=∀ i,i<t.vars.length->1<=t.vars.getD i aa.dflt/\t.vars.getD i aa.dflt<=64
def Bo (t:Aa):Prop:=∀ i,i<t.ops.length->0<=(t.ops.getD i aO).cost/\(t.ops.getD i aO).cost<=1048576
def Bz (t:Aa):Prop:=∀ i,i<(conds t).length->Ax t.vars ((conds t).getD i [])
def CA (t:Aa):Prop:=∀ i,i<t.ops.length->∀ j,j<(t.ops.getD i aO).aw.length->Ax t.vars [⟨((t.ops.getD i aO).aw.getD j ba).var,((t.ops.getD i aO).aw.getD j ba).val⟩]
def BR (t:Aa):Prop:=∀ i,i<t.ops.length->BM (t.ops.getD i aO).name
open Classical in
noncomputable def bk (t:Aa):Int :=
 if AM t then 5 else if ¬BQ t then 1 else if ¬Bo t then 1 else if ¬Ac t.vars t.init then 2 else if ¬Bz t then 2 else if ¬CA t then 2 else if ¬BR t then 8 else 0
theorem qlK (t:Aa):dU t 0=[t.goal]:=by simp[dU]
theorem qgE (t:Aa) {k:Nat}(hk:k<t.ops.length):dU t (k+1)=dU t k++jW (t.ops.getD k aO):=by
 simp[dU,dJ aO hk]
theorem qe5 (t:Aa):∀ k,k<=t.ops.length->(∀ i,i<t.ops.length->(t.ops.getD i aO).aw.length<=64)->(dU t k).length<=1+65*k
 | 0,_,_=>by simp[dU]
 | k+1,hk,h=>by
  have:=qe5 t k om h;have h2:=h k om;rw[qgE t om,length_append];simp only[jW,length_cons,length_map];omega
theorem qeC {t:Aa}{f:List Fact}:f∈conds t↔(f=t.goal\/∃ i,i<t.ops.length/\(f=(t.ops.getD i aO).pre\/∃ j,j<(t.ops.getD i aO).aw.length/\f=((t.ops.getD i aO).aw.getD j ba).when)):=by
 simp only[conds,dU,take_length,mem_cons,mem_flatMap,jW,mem_map];constructor
 ·rintro (h|⟨o,ho,h⟩)
  ·exact .inl h
  ·obtain⟨i,hi,rfl⟩:=getElem_of_mem ho
   refine .inr ⟨i,hi,?_⟩;rw[getD_at hi];rcases h with h|⟨e,he,rfl⟩
   ·exact .inl h
   ·obtain⟨j,hj,rfl⟩:=getElem_of_mem he
    exact .inr ⟨j,hj,by rw[getD_at hj]⟩
 ·rintro (h|⟨i,hi,h⟩)
  ·exact .inl h
  ·refine .inr ⟨t.ops.getD i aO,bY _ hi,?_⟩
   rcases h with h|⟨j,hj,rfl⟩
   ·exact .inl h
   ·exact .inr ⟨_,bY _ hj,rfl⟩
theorem qks {vars:List Int}{f:List Fact}(h:Ax vars f):∀ i,i<f.length->(i:Int)<=(f.getD i aq.dflt).var
 | 0,h0=>(h 0 h0).1.1
 | i+1,hi=>by
  have h1:=qks h i om;have h2:=(h (i+1) hi).2 om;simp only[Nat.add_sub_cancel]at h2;omega
theorem qI {vars:List Int}{f:List Fact}(h:Ax vars f):f.length<=vars.length:=by
 rcases eq_zero_or_pos f.length with h0|h0
 ·omega
 ·have h1:=qks h (f.length-1) om
  have h2:=(h (f.length-1) om).1.2.1;omega
theorem qkt {t:Aa}:Bz t↔∀ f∈conds t,Ax t.vars f:=by
 constructor
 ·intro h f hf
  obtain⟨i,hi,rfl⟩:=getElem_of_mem hf;have:=h i hi
  rwa[getD_at hi]at this
 ·intro h i hi
  exact h _ (bY _ hi)
theorem nZ (t:Aa):bk t=0↔Af t:=by
 unfold bk;constructor
 ·intro h
  split at h
  ·cases h
  rename_i h1;split at h
  ·cases h
  rename_i h2;split at h
  ·cases h
  rename_i h3;split at h
  ·cases h
  rename_i h4;split at h
  ·cases h
  rename_i h5;split at h
  ·cases h
  rename_i h6;split at h
  ·cases h
  rename_i h7;rw[Classical.not_not]at h2 h3 h4 h5 h6 h7;simp only[AM,not_or,not_exists,not_and,Nat.not_lt]at h1;have rn:=qkt.1 h5;refine⟨h1.1,h1.2.1,h2,h4,rn _ (qeC.2 (.inl rfl)),fun i hi=>⟨(h3 i hi).1,(h3 i hi).2,h1.2.2.1 i hi,h7 i hi,rn _ (qeC.2 (.inr ⟨i,hi,.inl rfl⟩)),fun j hj=>⟨rn _ (qeC.2 (.inr ⟨i,hi,.inr ⟨j,hj,rfl⟩⟩)),h6 i hi j hj⟩⟩⟩
 ·intro h
  have hc:∀ f∈conds t,Ax t.vars f:=fun f hf=>by
   rcases qeC.1 hf with rfl|⟨i,hi,rfl|⟨j,hj,rfl⟩⟩
   ·exact h.goal
   ·exact(h.op i hi).pre
   ·exact((h.op i hi).dL j hj).1
  have h1:¬AM t:=by
   rintro (h1|h1|⟨i,hi,h1⟩|⟨i,hi,h1⟩)
   ·have:=h.vars;omega
   ·have:=h.ops;omega
   ·have:=(h.op i hi).aw;omega
   ·have:=qI (hc _ (bY [] hi))
    have:=h.vars;omega
  have a2:BQ t:=h.gd;have a3:Bo t:=fun i hi=>⟨(h.op i hi).jc,(h.op i hi).ly⟩
  have a5:Bz t:=qkt.2 hc;have a6:CA t:=fun i hi j hj=>((h.op i hi).dL j hj).2;have a7:BR t:=fun i hi=>(h.op i hi).name;rw[if_neg h1,if_neg (Classical.not_not.2 a2),if_neg (Classical.not_not.2 a3),if_neg (Classical.not_not.2 h.init),if_neg (Classical.not_not.2 a5),if_neg (Classical.not_not.2 a6),if_neg (Classical.not_not.2 a7)]
abbrev sg (s:List Int) (v:Int):Int:=s.getD v.toNat aa.dflt
def dV (s p:List Int):List Int:=p.map (sg s)
def aL (vars p:List Int):Int:=bK (dV vars p)
def bj (vars p s:List Int):Int:=cN (dV vars p) (dV s p)
def AF (vars p:List Int):Prop:=∀ i,i<p.length->(0<=p.getD i aa.dflt/\p.getD i aa.dflt<vars.length)/\(0<i->p.getD (i-1) aa.dflt<p.getD i aa.dflt)
structure A5 (vars p:List Int):Prop where
 mem:∀ v∈p,0<=v/\v<vars.length
 asc:p.Pairwise (·<·)
theorem qbz {s:List Int}{v x:Int}(h0:0<=v) (h:v<s.length):sg (s.set v.toNat x) v=x:=by
 simp[sg,List.getD,getElem?_set,show v.toNat<s.length by omega]
theorem vH {s:List Int}{v u x:Int}(h0:0<=v) (h1:0<=u) (h:v≠u):sg (s.set v.toNat x) u=sg s u:=by
 simp[sg,List.getD,getElem?_set,show v.toNat≠u.toNat by omega]
theorem qo {s:List Int}{i:Nat}:sg s (i:Int)=s.getD i aa.dflt:=by simp[sg]
theorem AF.inV {vars p:List Int}(h:AF vars p):A5 vars p:=by
 refine⟨fun v hv=>?_,?_⟩
 ·obtain⟨i,hi,rfl⟩:=getElem_of_mem hv
  have:=(h i hi).1
  rwa[getD_at hi]at this
 ·rw[pairwise_iff_getElem]
  intro i j hi hj ie;have key:∀ k,(hk:i+k+1<p.length)->p[i]<p[i+k+1]:=by
   intro k
   induction k with
   | zero=>intro hk;have:=(h (i+1) om).2 om;rw[getD_at om,getD_at om]at this;simpa using this
   | succ k ih =>
    intro hk;have h1:=ih om;have:=(h (i+k+1+1) om).2 om;rw[getD_at om,getD_at om]at this;simp only[Nat.add_sub_cancel]at this;exact Int.lt_trans h1 this
  have:=key (j-i-1) om
  simpa [show i+(j-i-1)+1=j by omega] using this
theorem A5.pat {vars p:List Int}(h:A5 vars p):AF vars p:=fun i hi =>
 ⟨h.mem _ (bY _ hi),fun h0=>by
  rw[getD_at hi,getD_at om]
  exact pairwise_iff_getElem.1 h.asc _ _ _ _ om⟩
theorem A5.init {vars l:List Int}{v:Int}(h:A5 vars (l++[v])):A5 vars l/\(0<=v/\v<vars.length)/\v∉l:=by
 refine⟨⟨fun u hu=>h.mem u (by simp[hu]),(pairwise_append.1 h.asc).1⟩,h.mem v (by simp),fun hv=>?_⟩;have:=(pairwise_append.1 h.asc).2.2 v hv v (by simp);omega
theorem A5.le {vars p:List Int}(h:A5 vars p):∀ i,i<p.length->(i:Int)<=p.getD i aa.dflt
 | 0,hi=>(h.mem _ (bY _ hi)).1
 | i+1,hi=>by
  have h1:=A5.le h i om;have h2:=(h.pat (i+1) hi).2 om;simp only[Nat.add_sub_cancel]at h2;omega
theorem A5.len {vars p:List Int}(h:A5 vars p):p.length<=vars.length:=by
 rcases eq_zero_or_pos p.length with h0|h0
 ·omega
 ·have h1:=h.le (p.length-1) om
  have h2:=h.mem _ (bY aa.dflt (show p.length-1<p.length by omega));omega
theorem qeW (s l:List Int) (v:Int):dV s (l++[v])=dV s l++[sg s v]:=by simp[dV]
theorem qeq (s p:List Int):(dV s p).length=p.length:=by simp[dV]
theorem qhE {s p:List Int}{i:Nat}(hi:i<p.length):(dV s p).getD i aa.dflt=sg s (p.getD i aa.dflt):=by
 rw[getD_at (by rw[qeq];exact hi),getD_at hi];simp[dV]
theorem qix {vars s p:List Int}(hs:Ac vars s) (hp:∀ v∈p,0<=v/\v<vars.length):Ac (dV vars p) (dV s p):=by
 refine⟨by simp[qeq],fun i hi=>?_⟩;rw[qeq]at hi;rw[qhE hi,qhE hi];have:=hp _ (bY aa.dflt hi);exact hs.2 _ (by rw[hs.1];omega)
theorem qjY {vars p:List Int}(h:∀ x∈vars,1<=x) (hp:∀ v∈p,0<=v/\v<vars.length):∀ x∈dV vars p,1<=x:=by
 intro x hx;obtain⟨v,hv,rfl⟩:=mem_map.1 hx;have:=hp v hv;exact h _ (bY aa.dflt om)
theorem k9 {vars s p:List Int}(hs:Ac vars s) (hp:∀ v∈p,0<=v/\v<vars.length):0<=bj vars p s/\bj vars p s<aL vars p:=ya (qix hs hp)
theorem qgh (vars l:List Int) (v:Int):aL vars (l++[v])=aL vars l*sg vars v:=by simp[aL,qeW,wu]
theorem qjZ (vars l s:List Int) (v:Int):bj vars (l++[v]) s=bj vars l s*sg vars v+sg s v:=by
 rw[bj,qeW,qeW,qeN (by simp[qeq])];rfl
theorem qbS {vars p s s':List Int}(h:∀ v∈p,sg s v=sg s' v):bj vars p s=bj vars p s':=by
 unfold bj dV;rw[map_congr_left h]
theorem qfL {vars p s s':List Int}(hs:Ac vars s) (ig:Ac vars s') (hp:∀ v∈p,0<=v/\v<vars.length) (h:bj vars p s=bj vars p s'):∀ v∈p,sg s v=sg s' v:=by
 have:=qjG (qix hs hp) (qix ig hp) h;intro v hv;exact map_inj_left.1 this v hv
theorem qer {vars p:List Int}(h:∀ x∈vars,1<=x) (hp:∀ v∈p,0<=v/\v<vars.length):1<=aL vars p:=wq (qjY h hp)
def pW (gd:List Int) (p:List Int × Int) (v:Int):List Int × Int:=(p.1.set v.toNat (p.2.tmod (gd.getD v.toNat aa.dflt)),p.2.tdiv (gd.getD v.toNat aa.dflt))
def iW (gd vs:List Int) (s:List Int) (n:Int):List Int × Int:=vs.foldl (pW gd) (s,n)
theorem qes (gd vs:List Int) (s:List Int) (n v:Int):iW gd (vs++[v]) s n=pW gd (iW gd vs s n) v:=by simp[iW]
theorem qmM (gd vs:List Int) (s:List Int) (n:Int):(iW gd vs s n).1.length=s.length:=by
 refine kx (P:=fun vs=>(iW gd vs s n).1.length=s.length) rfl ?_ vs;intro l v ih;rw[qes,pW];simp[ih]
theorem qu1 {gd vs:List Int}{s:List Int}{n:Int}(hd:∀ x∈gd,1<=x) (hn:0<=n):(∀ v∈vs,0<=v/\v<gd.length)->0<=(iW gd vs s n).2/\(iW gd vs s n).2<=n:=by
 refine kx (P:=fun (vs:List Int)=>(∀ v∈vs,0<=v/\v<gd.length)->0<=(iW gd vs s n).2/\(iW gd vs s n).2<=n) (fun _=>⟨hn,Int.le_refl _⟩) ?_ vs;intro l v ih h;obtain⟨h1,h2⟩:=ih fun x hx=>h x (by simp[hx]);obtain⟨h3,h4⟩:=h v (by simp);have h5:=hd _ (bY aa.dflt (show v.toNat<gd.length by omega));rw[qes,pW];simp only;rw[Int.tdiv_eq_ediv_of_nonneg h1];exact⟨Int.ediv_nonneg h1 om,Int.le_trans (Int.ediv_le_self _ h1) h2⟩
def fm (vars p s:List Int) (n:Int):List Int:=(iW vars p.reverse s n).1
theorem qpP (vars l s:List Int) (v n:Int):fm vars (l++[v]) s n=fm vars l (s.set v.toNat (n.tmod (sg vars v))) (n.tdiv (sg vars v)):=by
 simp[fm,iW,pW,reverse_append]
theorem qmN (vars p s:List Int) (n:Int):(fm vars p s n).length=s.length:=qmM _ _ _ _
theorem qdj {vars p:List Int}(hd:∀ x∈vars,1<=x):∀ {s:List Int}{n:Int},A5 vars p->s.length=vars.length->0<=n->n<aL vars p ->
  bj vars p (fm vars p s n)=n/\(∀ v∈p,0<=sg (fm vars p s n) v/\sg (fm vars p s n) v<sg vars v)/\∀ v,0<=v->v∉p->sg (fm vars p s n) v=sg s v:=by
 refine kx (P:=fun p=>∀ {s:List Int}{n:Int},A5 vars p->s.length=vars.length->0<=n->n<aL vars p ->
  bj vars p (fm vars p s n)=n/\(∀ v∈p,0<=sg (fm vars p s n) v/\sg (fm vars p s n) v<sg vars v)/\∀ v,0<=v->v∉p->sg (fm vars p s n) v=sg s v) ?_ ?_ p
 ·intro s n _ _ h0 h1
  refine⟨?_,fun v hv=>by simp at hv,fun v _ _=>rfl⟩;have:aL vars []=1:=rfl;have:bj vars [] (fm vars [] s n)=0:=rfl;omega
 ·intro l v ih s n hV hl h0 h1
  obtain⟨vD,⟨sk,jA⟩,eW⟩:=hV.init;have hdv:1<=sg vars v:=hd _ (bY aa.dflt om);rw[qpP,Int.tmod_eq_emod_of_nonneg h0,Int.tdiv_eq_ediv_of_nonneg h0];rw[qgh]at h1;have hq0:0<=n / sg vars v:=Int.ediv_nonneg h0 om;have hq1:n / sg vars v<aL vars l:=Int.ediv_lt_of_lt_mul om h1;obtain⟨i1,i2,i3⟩:=ih (s:=s.set v.toNat (n % sg vars v)) vD (by simp[hl]) hq0 hq1;have mH:sg (fm vars l (s.set v.toNat (n % sg vars v)) (n / sg vars v)) v=n % sg vars v:=by
   rw[i3 v sk eW,qbz sk om]
  have sG:=Int.emod_nonneg n (show sg vars v≠0 by omega);have pD:=Int.emod_lt_of_pos n (show 0<sg vars v by omega);refine⟨?_,fun u hu=>?_,fun u uD hu=>?_⟩
  ·rw[qjZ,i1,mH]
   have:=Int.mul_ediv_add_emod n (sg vars v);rw[Int.mul_comm];exact this
  ·rcases mem_append.1 hu with h|h
   ·exact i2 u h
   ·rw[mem_singleton.1 h,mH];exact⟨sG,pD⟩
  ·have cY:v≠u:=fun e=>hu (by simp[e])
   rw[i3 u uD (fun h=>hu (by simp[h])),vH sk uD cY]
theorem qiy {vars p s:List Int}{n:Int}(hd:∀ x∈vars,1<=x) (hV:A5 vars p) (h0:0<=n) (h1:n<aL vars p) (hl:s.length=vars.length) (hs:∀ v:Int,0<=v->v<vars.length->v∉p->0<=sg s v/\sg s v<sg vars v):Ac vars (fm vars p s n):=by
 obtain⟨_,i2,i3⟩:=qdj (s:=s) hd hV hl h0 h1;refine⟨by rw[qmN,hl],fun i hi=>?_⟩;rw[qmN,hl]at hi;rw[<-qo,<-qo];by_cases hm:(i:Int)∈p
 ·exact i2 _ hm
 ·rw[i3 _ om hm];exact hs _ om om hm
theorem Ac.cC {vars s:List Int}(h:Ac vars s) {v:Int}(h0:0<=v) (h1:v<vars.length):0<=sg s v/\sg s v<sg vars v:=h.2 _ (by rw[h.1];omega)
theorem qu2 {l:List Int}:∀ {m:List Int},l.Pairwise (·<·)->m.Pairwise (·<·)->(∀ x,x∈l↔x∈m)->l=m:=by
 induction l with
 | nil =>
  intro m _ _ h
  cases m with
  | nil=>rfl
  | cons y m=>exact absurd ((h y).2 (by simp)) (by simp)
 | cons x l ih =>
  intro m hl hm h
  cases m with
  | nil=>exact absurd ((h x).1 (by simp)) (by simp)
  | cons y m =>
   rw[pairwise_cons]at hl hm;have tw:x=y:=by
    rcases mem_cons.1 ((h x).1 (by simp)) with e|e
    ·exact e
    ·rcases mem_cons.1 ((h y).2 (by simp)) with e'|e'
     ·exact e'.symm
     ·have:=hl.1 y e';have:=hm.1 x e;omega
   subst tw;refine congrArg _ (ih hl.2 hm.2 fun z=>?_);constructor
   ·intro hz
    rcases mem_cons.1 ((h z).1 (by simp[hz])) with e|e
    ·have:=hl.1 z hz;omega
    ·exact e
   ·intro hz
    rcases mem_cons.1 ((h z).2 (by simp[hz])) with e|e
    ·have:=hm.1 z hz;omega
    ·exact e
def lT (n:Int):List Int:=(List.range n.toNat).map fun (i:Nat)=>(i:Int)
theorem qiz {n x:Int}:x∈lT n↔0<=x/\x<n:=by
 simp only[lT,mem_map,mem_range];constructor
 ·rintro⟨i,hi,rfl⟩;omega
 ·intro h;exact⟨x.toNat,by omega,by omega⟩
theorem qsB (n:Int):(lT n).Pairwise (·<·):=by
 rw[lT,pairwise_map];exact pairwise_lt_range.imp fun h=>by omega
theorem qsC (n:Int):(lT n).length=n.toNat:=by simp[lT]
open Classical in
noncomputable def kG (n:Int) (p:Int->Prop):List Int:=(lT n).filter fun x=>decide (p x)
theorem wx {n x:Int}{p:Int->Prop}:x∈kG n p↔(0<=x/\x<n)/\p x:=by simp[kG,qiz]
theorem qet (n:Int) (p:Int->Prop):(kG n p).Pairwise (·<·):=(qsB n).filter _
theorem qpQ (n:Int) (p:Int->Prop):(kG n p).length<=n.toNat:=by
 have:=length_filter_le (fun x=>@decide (p x) (Classical.propDecidable _)) (lT n);rw[qsC]at this;exact this
theorem qiA {l:List Int}{n:Int}{p:Int->Prop}(hl:l.Pairwise (·<·)) (h:∀ x,x∈l↔(0<=x/\x<n)/\p x):l=kG n p :=
 qu2 hl (qet n p) fun x=>(h x).trans wx.symm
def Du (t:Aa) (p:List Int) (a:Int) (op:Nat) (b:Int):Prop:=∃ s,Ac t.vars s/\bj t.vars p s=a/\A6 t s op/\bj t.vars p (bm t s op)=b
noncomputable def mb (t:Aa) (p:List Int) (a:Int) (op:Nat):List Int:=kG (aL t.vars p) (Du t p a op)
def tx (p:List Int) (f:List Fact):List Fact:=f.filter fun x=>decide (x.var∈p)
def CD (t:Aa) (p:List Int) (a:Int):Prop:=∃ s,Ac t.vars s/\bj t.vars p s=a/\Aq s (tx p t.goal)
def CW (o:Bu) (p:List Int) (v:Int):Prop:=(∃ e∈o.aw,e.var∈p/\∃ f∈e.when,f.var=v)/\v∉p/\∀ f∈o.pre,f.var≠v
noncomputable def oT (vars:List Int) (o:Bu) (p:List Int):List Int:=kG vars.length (CW o p)
theorem qda (vars:List Int) (o:Bu) (p:List Int):A5 vars (oT vars o p):=⟨fun v hv=>(wx.1 hv).1,qet _ _⟩
def dX (p s:List Int) (aw:List BD):List Int:=aw.foldl (fun out e=>if e.var∈p/\Aq s e.when then out.set e.var.toNat e.val else out) s
theorem qbT (p s:List Int) (l:List BD) (e:BD):dX p s (l++[e])=if e.var∈p/\Aq s e.when then (dX p s l).set e.var.toNat e.val else dX p s l:=by simp[dX]
theorem qeu (p s:List Int) (l:List BD):(dX p s l).length=s.length:=by
 refine kx (P:=fun l=>(dX p s l).length=s.length) rfl ?_ l;intro l e ih;rw[qbT];split<;>simp[ih]
theorem qiB {vars p s:List Int}{l:List BD}(hs:s.length=vars.length) (hp:∀ v∈p,0<=v/\v<vars.length):(∀ e∈l,AV vars e)->∀ v∈p,sg (dX p s l) v=sg (dt s l) v:=by
 refine kx (P:=fun l=>(∀ e∈l,AV vars e)->∀ v∈p,sg (dX p s l) v=sg (dt s l) v) (fun _ _ _=>rfl) ?_ l;intro l e ih h v hv;have h1:=ih (fun x hx=>h x (by simp[hx])) v hv;obtain⟨a,b,c,d⟩:=qB (h e (by simp));obtain⟨sk,jA⟩:=hp v hv;rw[qbT,z6];by_cases hh:Aq s e.when
 ·by_cases hm:e.var∈p
  ·rw[if_pos ⟨hm,hh⟩,if_pos hh]
   by_cases nS:e.var=v
   ·rw[<-nS,qbz a (by rw[qeu];omega),qbz a (by rw[qf0];omega)]
   ·rw[vH a sk nS,vH a sk nS,h1]
  ·rw[if_neg (fun h=>hm h.1),if_pos hh,vH a sk (fun e'=>hm (e' ▸ hv)),h1]
 ·rw[if_neg (fun h=>hh h.2),if_neg hh,h1]
theorem qgi {s s':List Int}{x:Fact}(hl:s.length=s'.length) (h:sg s x.var=sg s' x.var):A4 s x↔A4 s' x:=by
 unfold A4;rw[hl,show s.getD x.var.toNat aa.dflt=s'.getD x.var.toNat aa.dflt from h]
theorem qj0 {s s':List Int}{f:List Fact}(hl:s.length=s'.length) (h:∀ x∈f,sg s x.var=sg s' x.var):Aq s f↔Aq s' f:=by
 rw[sN,sN];constructor
 ·intro hh x hx;exact(qgi hl (h x hx)).1 (hh x hx)
 ·intro hh x hx;exact(qgi hl (h x hx)).2 (hh x hx)
theorem qgj {vars p s s':List Int}{l:List BD}(hl:s.length=vars.length) (rS:s'.length=vars.length) (hp:∀ v∈p,0<=v/\v<vars.length) (uj:∀ v∈p,sg s v=sg s' v) :
  (∀ e∈l,AV vars e)->(∀ e∈l,e.var∈p->∀ f∈e.when,sg s f.var=sg s' f.var)->∀ v∈p,sg (dX p s l) v=sg (dX p s' l) v:=by
 refine kx (P:=fun l=>(∀ e∈l,AV vars e)->(∀ e∈l,e.var∈p->∀ f∈e.when,sg s f.var=sg s' f.var)->∀ v∈p,sg (dX p s l) v=sg (dX p s' l) v) (fun _ _=>uj) ?_ l;intro l e ih h hw v hv;have h1:=ih (fun x hx=>h x (by simp[hx])) (fun x hx=>hw x (by simp[hx])) v hv;obtain⟨a,b,c,d⟩:=qB (h e (by simp));obtain⟨sk,jA⟩:=hp v hv;rw[qbT,qbT];by_cases hm:e.var∈p
 ·have hc:=qj0 (hl.trans rS.symm) (hw e (by simp) hm)
  by_cases hh:Aq s e.when
  ·rw[if_pos ⟨hm,hh⟩,if_pos ⟨hm,hc.1 hh⟩]
   by_cases nS:e.var=v
   ·rw[<-nS,qbz a (by rw[qeu];omega),qbz a (by rw[qeu];omega)]
   ·rw[vH a sk nS,vH a sk nS,h1]
  ·rw[if_neg (fun h=>hh h.2),if_neg (fun h=>hh (hc.2 h.2)),h1]
 ·rw[if_neg (fun h=>hm h.1),if_neg (fun h=>hm h.1),h1]
def gL (n:Nat):List Int:=replicate n 0
theorem qcx (n:Nat):(gL n).length=n:=by simp[gL]
theorem qqS (n:Nat) (v:Int):sg (gL n) v=0:=by
 simp only[sg,gL,getD_eq_getElem?_getD,getElem?_replicate];split<;>rfl
def jq (p s:List Int) (f:List Fact):List Int:=f.foldl (fun s x=>if x.var∈p then s else s.set x.var.toNat x.val) s
theorem qdf (p s:List Int) (f:List Fact) (x:Fact):jq p s (f++[x])=if x.var∈p then jq p s f else (jq p s f).set x.var.toNat x.val:=by simp[jq]
theorem qnp (p s:List Int) (f:List Fact):(jq p s f).length=s.length:=by
 refine kx (P:=fun f=>(jq p s f).length=s.length) rfl ?_ f;intro l e ih;rw[qdf];split<;>simp[ih]
def CV (p s:List Int) (f:List Fact):Prop:=∀ x∈f,x.var∈p->sg s x.var=x.val
theorem vF {vars:List Int}{f:List Fact}(h:Ax vars f):∀ x∈f,Ao vars x:=by
 intro x hx;obtain⟨i,hi,rfl⟩:=getElem_of_mem hx;have:=(h i hi).1
 rwa[getD_at hi]at this
theorem qtf {vars:List Int}{f:List Fact}(h:Ax vars f):f.Pairwise fun x y=>x.var<y.var:=by
 rw[pairwise_iff_getElem];intro i j hi hj ie;have key:∀ k,(hk:i+k+1<f.length)->f[i].var<f[i+k+1].var:=by
  intro k
  induction k with
  | zero=>intro hk;have:=(h (i+1) om).2 om;rw[getD_at om,getD_at om]at this;simpa using this
  | succ k ih =>
   intro hk;have h1:=ih om;have:=(h (i+k+1+1) om).2 om;rw[getD_at om,getD_at om]at this;simp only[Nat.add_sub_cancel]at this;exact Int.lt_trans h1 this
 have:=key (j-i-1) om
 simpa [show i+(j-i-1)+1=j by omega] using this
theorem qhZ {vars p s:List Int}{f:List Fact}{v:Int}(hv:0<=v):(∀ x∈f,Ao vars x)->(∀ x∈f,x.var∉p->x.var≠v)->sg (jq p s f) v=sg s v:=by
 refine kx (P:=fun f=>(∀ x∈f,Ao vars x)->(∀ x∈f,x.var∉p->x.var≠v)->sg (jq p s f) v=sg s v) (fun _ _=>rfl) ?_ f;intro l x ih h hn;have h1:=ih (fun y hy=>h y (by simp[hy])) (fun y hy=>hn y (by simp[hy]));have hx:=h x (by simp);rw[qdf];split
 ·exact h1
 ·rename_i hm
  rw[vH hx.1 hv (hn x (by simp) hm),h1]
theorem qnq {vars p s:List Int}{f:List Fact}(hs:s.length=vars.length):(∀ x∈f,Ao vars x)->(f.Pairwise fun x y=>x.var<y.var)->∀ x∈f,x.var∉p->sg (jq p s f) x.var=x.val:=by
 refine kx (P:=fun f=>(∀ x∈f,Ao vars x)->(f.Pairwise fun x y=>x.var<y.var)->∀ x∈f,x.var∉p->sg (jq p s f) x.var=x.val) (fun _ _ x hx=>by simp at hx) ?_ f;intro l y ih h hp x hx mI;have hy:=h y (by simp);have r9:=h x hx;rw[qdf];rcases mem_append.1 hx with mZ|mZ
 ·have h1:=ih (fun z hz=>h z (by simp[hz])) (pairwise_append.1 hp).1 x mZ mI
  have bD:=(pairwise_append.1 hp).2.2 x mZ y (by simp);split
  ·exact h1
  ·rw[vH hy.1 r9.1 om,h1]
 ·rw[mem_singleton.1 mZ]at mI ⊢
  rw[if_neg mI,qbz hy.1 (by rw[qnp,hs];exact hy.2.1)]
theorem qvz {vars p s:List Int}{f:List Fact}(hs:Ac vars s):(∀ x∈f,Ao vars x)->Ac vars (jq p s f):=by
 refine kx (P:=fun f=>(∀ x∈f,Ao vars x)->Ac vars (jq p s f)) (fun _=>hs) ?_ f;intro l x ih h;have h1:=ih fun y hy=>h y (by simp[hy]);have hx:=h x (by simp);rw[qdf];split
 ·exact h1
 ·exact qdP h1 hx.1 hx.2.2.1 hx.2.2.2
section
variable {t:Aa}{p:List Int}{op:Nat}{a:Int}
def gy (t:Aa) (op:Nat):Bu:=t.ops.getD op aO
def st1 (t:Aa) (p:List Int) (a:Int):List Int:=fm t.vars p (gL t.vars.length) a
def st2 (t:Aa) (p:List Int) (op:Nat) (a:Int):List Int:=jq p (st1 t p a) (gy t op).pre
noncomputable def gB (t:Aa) (p:List Int) (op:Nat):List Int:=oT t.vars (gy t op) p
def Cp (t:Aa) (p:List Int) (op:Nat) (a k b:Int):Prop:=∃ S,Ac t.vars S/\(∀ v,0<=v->v∉gB t p op->sg S v=sg (st2 t p op a) v)/\bj t.vars (gB t p op) S<k/\bj t.vars p (dX p S (gy t op).aw)=b
theorem qnr (hd:∀ x∈t.vars,1<=x):Ac t.vars (gL t.vars.length):=by
 refine⟨qcx _,fun i hi=>?_⟩;rw[qcx]at hi;have:=hd _ (bY aa.dflt hi);rw[<-qo,qqS];omega
theorem qkD (hg:Af t) (hp:A5 t.vars p) (h0:0<=a) (h1:a<aL t.vars p):Ac t.vars (st1 t p a)/\bj t.vars p (st1 t p a)=a:=by
 have hz:=qnr (t:=t) hg.pos;exact⟨qiy hg.pos hp h0 h1 (qcx _) fun v hv iD _=>hz.cC hv iD,(qdj hg.pos hp (qcx _) h0 h1).1⟩
theorem xD (hg:Af t) (hp:A5 t.vars p) (h0:0<=a) (h1:a<aL t.vars p) {s:List Int}(hs:Ac t.vars s) (ha:bj t.vars p s=a):∀ v∈p,sg s v=sg (st1 t p a) v :=
 qfL hs (qkD hg hp h0 h1).1 hp.mem (ha.trans (qkD hg hp h0 h1).2.symm)
theorem fk (hg:Af t) (ho:op<t.ops.length):(∀ x∈(gy t op).pre,Ao t.vars x)/\((gy t op).pre.Pairwise fun x y=>x.var<y.var) :=
 ⟨vF (hg.op op ho).pre,qtf (hg.op op ho).pre⟩
theorem qun (hg:Af t) (hp:A5 t.vars p) (ho:op<t.ops.length) (h0:0<=a) (h1:a<aL t.vars p):Ac t.vars (st2 t p op a):=qvz (qkD hg hp h0 h1).1 (fk hg ho).1
theorem tU (hg:Af t) (hp:A5 t.vars p) (ho:op<t.ops.length):∀ v∈p,sg (st2 t p op a) v=sg (st1 t p a) v:=fun v hv =>
 qhZ (hp.mem v hv).1 (fk hg ho).1 fun x _ hx e=>hx (e ▸ hv)
theorem xE {v:Int}(hv:v∈gB t p op):v∉p:=(wx.1 hv).2.2.1
theorem qqT {x:Fact}(hx:x∈(gy t op).pre):x.var∉gB t p op:=fun h=>(wx.1 h).2.2.2 x hx rfl
theorem qtg (hg:Af t) (hp:A5 t.vars p) (h0:0<=a) (h1:a<aL t.vars p) (hn:¬CV p (st1 t p a) (gy t op).pre):mb t p a op=[]:=by
 refine(qiA Pairwise.nil fun b=>⟨fun h=>by simp at h,?_⟩).symm;rintro⟨_,s,hs,ha,kb,_⟩
 exact absurd (fun x hx mI=>by
  rw[<-xD hg hp h0 h1 hs ha _ mI]
  exact(sN.1 kb x hx).2.2) hn
theorem qwe (hg:Af t) (hp:A5 t.vars p) (ho:op<t.ops.length) (h0:0<=a) (h1:a<aL t.vars p) (aN:CV p (st1 t p a) (gy t op).pre) {b:Int} :
  Cp t p op a (aL t.vars (gB t p op)) b↔Du t p a op b:=by
 obtain⟨jy,uk⟩:=qkD hg hp h0 h1;have dW:=qun hg hp ho h0 h1;have nq:A5 t.vars (gB t p op):=qda t.vars (gy t op) p;have mu:∀ e∈(gy t op).aw,AV t.vars e:=(hg.op op ho).mem;constructor
 ·rintro⟨S,hS,vg,_,rfl⟩
  have hSp:∀ v∈p,sg S v=sg (st1 t p a) v:=fun v hv=>by
   rw[vg v (hp.mem v hv).1 (fun h=>xE h hv),tU hg hp ho v hv]
  refine⟨S,hS,(qbS hSp).trans uk,?_,qbS fun v hv=>(qiB hS.1 hp.mem mu v hv).symm⟩;refine sN.2 fun x hx=>?_;have hxf:=(fk hg ho).1 x hx;refine⟨hxf.1,by rw[hS.1];exact hxf.2.1,?_⟩;show sg S x.var=x.val;rw[vg x.var hxf.1 (qqT hx)];by_cases mI:x.var∈p
  ·rw[tU hg hp ho _ mI];exact aN x hx mI
  ·exact qnq jy.1 (fk hg ho).1 (fk hg ho).2 x hx mI
 ·rintro⟨s,hs,ha,kb,rfl⟩
  have iE:=xD hg hp h0 h1 hs ha;have hb:=k9 hs nq.mem;have hq:=qdj (s:=st2 t p op a) hg.pos nq dW.1 hb.1 hb.2;have qJ:=qiy (s:=st2 t p op a) hg.pos nq hb.1 hb.2 dW.1 fun v hv iD _=>dW.cC hv iD;have kA:=qfL qJ hs nq.mem hq.1;refine⟨fm t.vars (gB t p op) (st2 t p op a) (bj t.vars (gB t p op) s),qJ,hq.2.2,by rw[hq.1];exact hb.2,qbS fun v hv=>?_⟩;rw[show sg (bm t s op) v=sg (dX p s (gy t op).aw) v from (qiB hs.1 hp.mem mu v hv).symm];have hSp:∀ v∈p,sg (fm t.vars (gB t p op) (st2 t p op a) (bj t.vars (gB t p op) s)) v=sg s v:=fun v hv=>by
   rw[show sg (fm t.vars (gB t p op) (st2 t p op a) (bj t.vars (gB t p op) s)) v=_ from hq.2.2 v (hp.mem v hv).1 (fun h=>xE (op:=op) h hv),tU hg hp ho v hv,iE v hv]
  refine qgj qJ.1 hs.1 hp.mem hSp mu (fun e he hep f hf=>?_) v hv;have hff:=vF (mu e he).1 f hf;by_cases hfp:f.var∈p
  ·exact hSp _ hfp
  ·by_cases r9:∃ x∈(gy t op).pre,x.var=f.var
   ·obtain⟨x,hx,sK⟩:=r9
    rw[show sg (fm t.vars (gB t p op) (st2 t p op a) (bj t.vars (gB t p op) s)) f.var=_ from hq.2.2 f.var hff.1 (by rw[<-sK];exact qqT hx)];rw[<-sK,show sg (st2 t p op a) x.var=x.val from qnq jy.1 (fk hg ho).1 (fk hg ho).2 x hx (by rw[sK];exact hfp)];exact(sN.1 kb x hx).2.2.symm
   ·refine kA f.var (wx.2 ⟨⟨hff.1,hff.2.1⟩,⟨e,he,hep,f,hf,rfl⟩,hfp,fun x hx sK=>r9 ⟨x,hx,sK⟩⟩)
theorem qth (hg:Af t) (hp:A5 t.vars p) (ho:op<t.ops.length) {k:Int}{S:List Int}(hS:Ac t.vars S) (vg:∀ v,0<=v->v∉gB t p op->sg S v=sg (st2 t p op a) v) (hk:bj t.vars (gB t p op) S=k) {b:Int} :
  Cp t p op a (k+1) b↔Cp t p op a k b\/b=bj t.vars p (dX p S (gy t op).aw):=by
 have nq:A5 t.vars (gB t p op):=qda t.vars (gy t op) p;have mu:∀ e∈(gy t op).aw,AV t.vars e:=(hg.op op ho).mem;constructor
 ·rintro⟨S',vh,oD,bD,hb⟩
  by_cases h:bj t.vars (gB t p op) S'<k
  ·exact .inl ⟨S',vh,oD,h,hb⟩
  ·right
   have kA:=qfL vh hS nq.mem (show bj t.vars (gB t p op) S'=bj t.vars (gB t p op) S by omega);have bZ:∀ v,0<=v->sg S' v=sg S v:=fun v hv=>by
    by_cases hm:v∈gB t p op
    ·exact kA v hm
    ·rw[oD v hv hm,vg v hv hm]
   rw[<-hb];exact qbS (qgj vh.1 hS.1 hp.mem (fun v hv=>bZ v (hp.mem v hv).1) mu fun e he _ f hf=>bZ _ (vF (mu e he).1 f hf).1)
 ·rintro (⟨S',vh,oD,bD,hb⟩|rfl)
  ·exact⟨S',vh,oD,by omega,hb⟩
  ·exact⟨S,hS,vg,by omega,rfl⟩
theorem qwf (hg:Af t) (hp:A5 t.vars p) (ho:op<t.ops.length) {k b:Int}(h:Cp t p op a k b):0<=b/\b<aL t.vars p:=by
 obtain⟨S,hS,_,_,rfl⟩:=h;have mu:∀ e∈(gy t op).aw,AV t.vars e:=(hg.op op ho).mem;rw[qbS (qiB hS.1 hp.mem mu)];exact k9 (qmv hS mu) hp.mem
end
def iX (a:Int) (op:Nat) (l:List Int):List Au:=l.map fun b=>⟨a,op,b⟩
noncomputable def gi (t:Aa) (p:List Int) (a:Int) (j:Nat):List Au:=(List.range j).flatMap fun op=>iX a op (mb t p a op)
noncomputable def fA (t:Aa) (p:List Int) (k:Nat):List Au:=(List.range k).flatMap fun (a:Nat)=>gi t p (a:Int) t.ops.length
noncomputable def aZ (t:Aa) (p:List Int):List Au:=fA t p (aL t.vars p).toNat
theorem qkG (t:Aa) (p:List Int) (a:Int):gi t p a 0=[]:=rfl
theorem qeE (t:Aa) (p:List Int) (a:Int) (j:Nat):gi t p a (j+1)=gi t p a j++iX a j (mb t p a j):=by simp[gi,range_succ]
theorem qqX (t:Aa) (p:List Int):fA t p 0=[]:=rfl
theorem qeF (t:Aa) (p:List Int) (k:Nat):fA t p (k+1)=fA t p k++gi t p (k:Int) t.ops.length:=by simp[fA,range_succ]
theorem qjf (a:Int) (op:Nat) (l:List Int):(iX a op l).length=l.length:=by simp[iX]
theorem qqY {a:Int}{op:Nat}{l:List Int}{m:Nat}(hm:m<l.length):iX a op (l.take (m+1))=iX a op (l.take m)++[⟨a,op,l.getD m aa.dflt⟩]:=by
 rw[dJ aa.dflt hm];simp[iX]
theorem qqZ (t:Aa) (p:List Int) (a:Int) {i j:Nat}(h:i<=j):(gi t p a i).length<=(gi t p a j).length:=by
 induction j with
 | zero =>
   have:i=0:=by omega
   subst this;exact Nat.le_refl _
 | succ j ih =>
  by_cases e:i=j+1
  ·subst e;exact Nat.le_refl _
  ·have:=ih om;rw[qeE,length_append];omega
theorem qq0 (t:Aa) (p:List Int) {i j:Nat}(h:i<=j):(fA t p i).length<=(fA t p j).length:=by
 induction j with
 | zero =>
   have:i=0:=by omega
   subst this;exact Nat.le_refl _
 | succ j ih =>
  by_cases e:i=j+1
  ·subst e;exact Nat.le_refl _
  ·have:=ih om;rw[qeF,length_append];omega
theorem qq1 {t:Aa}{p:List Int}{k j:Nat}(hk:(k:Int)<aL t.vars p) (hj:j<t.ops.length):(fA t p k).length+(gi t p (k:Int) j).length+(mb t p (k:Int) j).length<=(aZ t p).length:=by
 have h1:=qq0 t p (show k+1<=(aL t.vars p).toNat by omega);have h2:=qqZ t p (k:Int) (show j+1<=t.ops.length by omega);rw[qeF,length_append]at h1;rw[qeE,length_append,qjf]at h2;unfold aZ;omega
theorem qcy {t:Aa}{p:List Int}{e:Au}:e∈aZ t p↔∃ (a:Int) (op:Nat) (b:Int),(0<=a/\a<aL t.vars p)/\op<t.ops.length/\(0<=b/\b<aL t.vars p)/\Du t p a op b/\e=⟨a,op,b⟩:=by
 simp only[aZ,fA,gi,iX,mem_flatMap,mem_range,mem_map];constructor
 ·rintro⟨a,ha,op,ho,b,hb,rfl⟩
  have:=wx.1 hb;exact⟨a,op,b,by omega,ho,this.1,this.2,rfl⟩
 ·rintro⟨a,op,b,ha,ho,hb,hT,rfl⟩
  refine⟨a.toNat,by omega,op,ho,b,?_,?_⟩
  ·rw[Int.toNat_of_nonneg ha.1];exact wx.2 ⟨hb,hT⟩
  ·rw[Int.toNat_of_nonneg ha.1]
open Classical in
noncomputable def jJ (t:Aa) (p:List Int) (a:Int):Bool:=decide (CD t p a)
noncomputable def cP (t:Aa) (p:List Int) (k:Nat):List Bool:=(List.range k).map fun (a:Nat)=>jJ t p (a:Int)
theorem qlS (t:Aa) (p:List Int) (k:Nat):cP t p (k+1)=cP t p k++[jJ t p (k:Int)]:=by simp[cP,range_succ]
theorem qe9 (t:Aa) (p:List Int) (k:Nat):(cP t p k).length=k:=by simp[cP]
theorem qkH {t:Aa}{p:List Int}{k a:Nat}(h:a<k):(cP t p k).getD a false=jJ t p (a:Int):=by simp[cP,List.getD,h]
theorem qgQ {t:Aa}{p:List Int}{a:Int}:jJ t p a=true↔CD t p a:=by simp[jJ]
def Cw (p S:List Int) (f:List Fact):Prop:=∀ x∈f,x.var∈p->sg S x.var=x.val
theorem qtm {t:Aa}{p S:List Int}{a:Int}(hg:Af t) (hp:A5 t.vars p) (hS:Ac t.vars S) (ha:bj t.vars p S=a):Cw p S t.goal↔CD t p a:=by
 constructor
 ·intro h
  refine⟨S,hS,ha,sN.2 fun x hx=>?_⟩;simp only[tx,mem_filter,decide_eq_true_eq]at hx;have hf:=vF hg.goal x hx.1;exact⟨hf.1,by rw[hS.1];exact hf.2.1,h x hx.1 hx.2⟩
 ·rintro⟨s,hs,hi,hh⟩ x hx mI
  rw[qfL hS hs hp.mem (ha.trans hi.symm) _ mI];exact(sN.1 hh x (by simp[tx,hx,mI])).2.2
def ar (t:Aa):List Int:=t.ops.map (·.cost)
theorem wV {t:Aa}{i:Nat}(h:i<t.ops.length):(ar t).getD i aa.dflt=(t.ops.getD i aO).cost:=by
 rw[getD_at h];simp[ar,List.getD,h]
def B6 (t:Aa) (p:List Int):Prop:=∃ op,op<t.ops.length/\4096<aL t.vars (gB t p op)
open Classical in
noncomputable def gV (t:Aa) (p:List Int):Int:=if 4096<aL t.vars p then 5 else if B6 t p then 5 else if 65536<(aZ t p).length then 5 else 0
structure Ak where
 st:Int
 aY:Int
 au:List Int
 ak:List Au
 goals:List Bool
noncomputable def cj (t:Aa) (p:List Int):Ak:=⟨aL t.vars p,bj t.vars p t.init,ar t,aZ t p,cP t p (aL t.vars p).toNat⟩
def bH:Ak:=⟨0,0,[],[],[]⟩
noncomputable def gD (t:Aa) (p:List Int) (c:Int):Ak:=if c=0 then cj t p else bH
theorem ia {α:Type}{l:List α}{i j:Nat}{x d:α}:(l.set i x).getD j d=if i=j/\j<l.length then x else l.getD j d:=by
 simp only[List.getD,getElem?_set];split
 ·rename_i h;subst h
  split
  ·rename_i h2;simp[h2]
  ·rename_i h2;simp[h2,getElem?_eq_none (Nat.not_lt.1 h2)]
 ·rename_i h;simp[h]
theorem qeJ {α:Type}{n i:Nat}{x d:α}(h:i<n):(replicate n x).getD i d=x:=by simp[List.getD,h]
def gE {α:Type}(f:α->α):Nat->α->α
 | 0,x=>x
 | n+1,x=>f (gE f n x)
section
variable {α:Type}{f:α->α}{d:α->Bool}
theorem qrk (m n:Nat) (x:α):gE f (m+n) x=gE f m (gE f n x):=by
 induction m with
 | zero=>rw[Nat.zero_add];rfl
 | succ m ih=>rw[succ_add];exact congrArg f ih
theorem qnz (hd:∀ y,d y=true->f y=y) {x:α}(h:d x=true) (n:Nat):gE f n x=x:=by
 induction n with
 | zero=>rfl
 | succ n ih=>show f (gE f n x)=x;rw[ih];exact hd x h
open Classical in
noncomputable def fixF (f:α->α) (d:α->Bool) (x:α):α:=if h:∃ n,d (gE f n x)=true then gE f (Classical.choose h) x else x
theorem fixF_eq (hd:∀ y,d y=true->f y=y) {n:Nat}{x:α}(h:d (gE f n x)=true):fixF f d x=gE f n x:=by
 have hex:∃ n,d (gE f n x)=true:=⟨n,h⟩
 unfold fixF;rw[dif_pos hex];have hm:=Classical.choose_spec hex;generalize Classical.choose hex=m at hm ⊢;rcases Nat.le_total m n with hle|hle
 ·have e:n=(n-m)+m:=by omega
  rw[e,qrk,qnz hd hm]
 ·have e:m=(m-n)+n:=by omega
  rw[e,qrk,qnz hd h]
end
section
variable {α:Type}{dflt:α}{g:α->Int}{n k:Nat}{l:List α}
def ef (g:α->Int) (n:Nat) (l:List α):List (List α):=(List.range n).map fun (x:Nat)=>l.filter fun a=>decide (g a=(x:Int))
theorem ve:(ef g n l).length=n:=by simp[ef]
theorem qgW {x:Nat}(h:x<n):(ef g n l).getD x []=l.filter fun a=>decide (g a=(x:Int)):=by simp[ef,List.getD,h]
theorem qjk:ef g n []=replicate n []:=by
 apply ext_getElem (by simp[ef]);intro i h1 h2;simp[ef]
theorem qjl (hk:k<l.length) (h0:0<=g (l.getD k dflt)) (h1:g (l.getD k dflt)<n) :
  ef g n (l.take (k+1))=(ef g n (l.take k)).set (g (l.getD k dflt)).toNat ((ef g n (l.take k)).getD (g (l.getD k dflt)).toNat []++[l.getD k dflt]):=by
 apply ext_getElem (by simp[ef]);intro i h2 h3;have hi:i<n:=by simpa [ef] using h2
 have hbg:(ef g n (l.take k)).getD (g (l.getD k dflt)).toNat []=(l.take k).filter fun a=>decide (g a=(((g (l.getD k dflt)).toNat:Nat):Int)):=qgW om;rw[getElem_set];simp only[ef,getElem_map,getElem_range];rw[dJ dflt hk,filter_append,filter_cons,filter_nil];by_cases e:(g (l.getD k dflt)).toNat=i
 ·subst e
  have e2:(((g (l.getD k dflt)).toNat:Nat):Int)=g (l.getD k dflt):=by omega
  rw[if_pos rfl,if_pos (decide_eq_true e2.symm)];exact congrArg (·++[l.getD k dflt]) hbg.symm
 ·rw[if_neg (by rw[decide_eq_true_iff];omega),if_neg e,append_nil]
theorem vd {x:Nat}{a:α}(h:x<n):a∈(ef g n l).getD x []↔a∈l/\g a=(x:Int):=by rw[qgW h];simp
end
instance qxV:Inhabited Au:=⟨⟨0,0,0⟩⟩
def eC (x y:Int):Int:=if x<y then -1 else if y<x then 1 else 0
def sb:List Int->Int
 | []=>0
 | x::r=>if x≠0 then x else sb r
def df (a b:Au):Int:=sb [eC a.src b.src,eC a.bI b.bI,eC a.dst b.dst]
def lV (a b:Int × Int):Int:=sb [eC a.1 b.1,eC a.2 b.2]
def dN {α:Type} [Inhabited α] (cf:α->α->Int) (l:List α):List α:=(Go.Sort.pdq (fun a b=>decide (cf a b<0)) l.toArray 0 l.length (Go.Lib.bitLen l.length) true true).toList
def ix {α:Type} [DecidableEq α]:List α->List α
 | []=>[]
 | x::r=>x::match r with|[]=>[]|y::_=>if x=y then (ix r).tail else ix r
def Ar (S:Ak):Prop:=1<=S.st/\S.st<=4096/\0<=S.aY/\S.aY<S.st/\(S.goals.length:Int)=S.st/\S.au.length<=4096/\S.ak.length<=65536/\(∀ c∈S.au,0<=c/\c<=1048576) /\
 (∀ e∈S.ak,(0<=e.src/\e.src<S.st)/\(0<=e.dst/\e.dst<S.st)/\0<=e.bI/\e.bI<S.au.length)/\∀ i,0<i->i<S.ak.length->df (S.ak.getD (i-1) ax.dflt) (S.ak.getD i ax.dflt)<0
open Classical in
noncomputable def fM (S:Ak):Bool:=decide (Ar S)
structure AL where
 src:Int
 dst:Int
 wt:Int
def dx:Ty AL:=⟨3,fun a=>[.int .i64 a.src,.int .i64 a.dst,.int .i64 a.wt],fun _=>rfl,⟨0,0,0⟩⟩
instance qxW:Bn dx:=⟨fun x v hv=>by simp only[dx,mem_cons,not_mem_nil,or_false]at hv;rcases hv with rfl|rfl|rfl<;>rfl⟩
structure CF where
 out:List Int
 waits:List Bool
 q:List Int
def cF (i:Int) (s:CF) (a:AL):CF :=
 if s.out.getD i.toNat aa.dflt+a.wt≥s.out.getD a.dst.toNat aa.dflt then s
 else if s.waits.getD a.dst.toNat ah.dflt then ⟨s.out.set a.dst.toNat (s.out.getD i.toNat aa.dflt+a.wt),s.waits,s.q⟩
 else ⟨s.out.set a.dst.toNat (s.out.getD i.toNat aa.dflt+a.wt),s.waits.set a.dst.toNat true,s.q++[a.dst]⟩
def bB (arcs:List (List AL)) (s:CF):CF:=match s.q with
 | []=>s
 | i::r=>(arcs.getD i.toNat []).foldl (cF i) ⟨s.out,s.waits.set i.toNat false,r⟩
def cR (s:CF):Bool:=s.q.isEmpty
theorem qd4 (arcs:List (List AL)):∀ s,cR s=true->bB arcs s=s:=by
 rintro⟨o,w,q⟩ h
 cases q with
 | nil=>rfl
 | cons _ _=>exact absurd h (by simp[cR])
def oz (S:Ak) (back:Bool) (e:Au):AL:=if back then ⟨e.dst,e.src,S.au.getD e.bI.toNat aa.dflt⟩ else ⟨e.src,e.dst,S.au.getD e.bI.toNat aa.dflt⟩
def gk (S:Ak) (back:Bool):List (List AL):=ef (·.src) S.st.toNat (S.ak.map (oz S back))
def dG (n:Nat) (fr:List Int):CF:=⟨fr.foldl (fun o i=>o.set i.toNat 0) (replicate n 1125899906842624),fr.foldl (fun o i=>o.set i.toNat true) (replicate n false),fr⟩
noncomputable def zU (S:Ak) (fr:List Int) (back:Bool):List Int:=(fixF (bB (gk S back)) cR (dG S.st.toNat fr)).out
def eP (g:List Bool) (k:Nat):List Int:=(List.range k).filterMap fun i=>if g.getD i ah.dflt then some (i:Int) else none
def rq (g:List Bool):List Int:=eP g g.length
noncomputable def j8 (S:Ak):List Int:=zU S (rq S.goals) true
def bL (S:Ak):List (List Au):=ef (·.bI) S.au.length S.ak
def jO (a b:Ak):List Bool:=(List.range a.st.toNat).flatMap fun i=>(List.range b.st.toNat).map fun j=>a.goals.getD i ah.dflt && b.goals.getD j ah.dflt
def vb (a b:Ak):Nat:=((List.range a.au.length).map fun l=>((bL a).getD l []).length*((bL b).getD l []).length).foldl (·+·) 0
def jN (a b:Ak):List Au:=(List.range a.au.length).flatMap fun l=>((bL a).getD l []).flatMap fun e=>((bL b).getD l []).map fun f=>⟨e.src*b.st+f.src,l,e.dst*b.st+f.dst⟩
open Classical in
noncomputable def bU (a b:Ak):Int:=if Ar a/\Ar b/\a.au=b.au then (if 4096<a.st*b.st then 5 else if 65536<vb a b then 5 else 0) else 2
noncomputable def eL (a b:Ak):Ak:=if bU a b=0 then ⟨a.st*b.st,a.aY*b.st+b.aY,a.au,dN df (jN a b),jO a b⟩ else bH
def AJ (c:List Int) (n:Int) (k:Int):Prop:=(c.length:Int)=n/\(∀ x∈c,0<=x/\x<n)/\(∀ x∈c,x<k)/\∀ x:Int,0<=x->x<k->x∈c
theorem qvE {c:List Int}{n k k':Int}(h:AJ c n k) (h':AJ c n k') (hk:0<=k) (aj:0<=k'):k=k':=by
 obtain⟨_,_,h3,h4⟩:=h;obtain⟨_,_,h3',h4'⟩:=h';by_cases e:k=k'
 ·exact e
 rcases Int.lt_or_lt_of_ne e with hl|hl
 ·have:=h3 _ (h4' k hk hl);omega
 ·have:=h3' _ (h4 k' aj hl);omega
open Classical in
noncomputable def iQ (c:List Int) (n:Int):Bool:=decide (∃ k,0<=k/\AJ c n k)
open Classical in
noncomputable def jk (c:List Int) (n:Int):Int:=if h:∃ k,0<=k/\AJ c n k then Classical.choose h else 0
theorem qrj {c:List Int}{n k:Int}(hk:0<=k) (h:AJ c n k):iQ c n=true/\jk c n=k:=by
 have hx:∃ k,0<=k/\AJ c n k:=⟨k,hk,h⟩
 refine⟨by unfold iQ;simp only[hx,decide_true],?_⟩;unfold jk;rw[dif_pos hx];have:=Classical.choose_spec hx;exact qvE this.2 h this.1 hk
noncomputable def cQ (S:Ak) (c:List Int):Int:=if fM S=true/\iQ c S.st=true then 0 else 2
def kO (g:List Bool) (c:List Int) (k:Nat):List Bool:=(List.range k).map fun (x:Nat)=>(List.range g.length).any fun s=>decide (c.getD s aa.dflt=(x:Int)) && g.getD s ah.dflt
def kN (c:List Int) (e:Au):Au:=⟨c.getD e.src.toNat aa.dflt,e.bI,c.getD e.dst.toNat aa.dflt⟩
noncomputable def fF (S:Ak) (c:List Int):Ak:=if cQ S c=0 then ⟨jk c S.st,c.getD S.aY.toNat aa.dflt,S.au,ix (dN df (S.ak.map (kN c))),kO S.goals c (jk c S.st).toNat⟩ else bH
def bF (l:List ByteArray):List ByteArray:=l.foldl (fun u s=>if u.any (fun x=>decide (x=s)) then u else u++[s]) []
def cm (l:List ByteArray):List Int:=l.map fun s=>((bF l).findIdx (fun x=>decide (x=s)):Int)
def toL (S:Ak) (c:List Int) (s:Nat):List (Int × Int):=(S.ak.filter fun e=>decide (e.src=(s:Int))).map fun e=>(e.bI,c.getD e.dst.toNat aa.dflt)
def fS (n:Int):List UInt8:=Go.Lib.itoa n
def kp (p:Int × Int):List UInt8:=32::fS p.1++58::fS p.2
def iZ (S:Ak) (c:List Int) (s:Nat):List UInt8:=fS (c.getD s aa.dflt)++(ix (dN lV (toL S c s))).flatMap kp
def fj (S:Ak) (c:List Int):List ByteArray:=(List.range S.st.toNat).map fun s=>⟨(iZ S c s).toArray⟩
def e7 (S:Ak) (x:List Int × Nat × Bool):List Int × Nat × Bool:=if x.2.2 then x else (cm (fj S x.1),(bF (fj S x.1)).length,decide ((bF (fj S x.1)).length=x.2.1))
def qj (x:List Int × Nat × Bool):Bool:=x.2.2
theorem qgV (S:Ak):∀ x,qj x=true->e7 S x=x:=fun x h=>by
 unfold e7 qj at *
 rw[if_pos h]
def il (b:Bool):ByteArray:=if b then ⟨#[116,114,117,101]⟩ else ⟨#[102,97,108,115,101]⟩
def kB (S:Ak):List Int × Nat × Bool:=(cm (S.goals.map il),(bF (S.goals.map il)).length,false)
noncomputable def j9 (S:Ak):List Int:=(fixF (e7 S) qj (kB S)).1
def wM (g:List Bool) (k:Nat):Nat->Option Nat
 | 0=>none
 | i+1=>if g.getD i ah.dflt=g.getD k ah.dflt then some i else wM g k i
def wL (g:List Bool):Nat->Nat × Nat
 | 0=>(0,1)
 | k+1=>if k=0 then (0,1) else match wM g k k with|some i=>(i,k)|none=>wL g k
def nb (g:List Bool):Nat × Nat:=wL g g.length
def j0 (i k:Nat) (c:Int):Int:=if c=k then i else if c>k then c-1 else c
def eu (most:Nat) (x:List Int × List Bool):List Int × List Bool:=if x.2.length<=most then x else (x.1.map (j0 (nb x.2).1 (nb x.2).2),x.2.eraseIdx (nb x.2).2)
def ka (most:Nat) (x:List Int × List Bool):Bool:=decide (x.2.length<=most)
theorem qd5 (most:Nat):∀ x,ka most x=true->eu most x=x:=fun x h=>by
 unfold eu;rw[if_pos (of_decide_eq_true h)]
def fW (l:List Int):Int:=l.tail.foldl max (l.headD 0)
def r8 (g:List Bool) (c:List Int) (k:Nat):List Bool:=(List.range k).map fun (x:Nat)=>(((List.range c.length).reverse.find? fun s=>decide (c.getD s aa.dflt=(x:Int))).map fun s=>g.getD s ah.dflt).getD false
noncomputable def dS (S:Ak) (most:Int):List Int:=(fixF (eu (max 1 (min most 4096)).toNat) (ka (max 1 (min most 4096)).toNat) (j9 S,r8 S.goals (j9 S) (fW (j9 S)+1).toNat)).1
def bX (n:Nat):List Int:=(List.range n).map fun (i:Nat)=>(i:Int)
open Classical in
noncomputable def bA (S:Ak) (most:Int):Int:=if S.st<=most then 0 else if Ar S then cQ S (dS S most) else 2
open Classical in
noncomputable def dZ (S:Ak) (most:Int):List Int:=if S.st<=most then bX S.st.toNat else if Ar S then dS S most else []
open Classical in
noncomputable def cb (S:Ak) (most:Int):Ak:=if S.st<=most then S else if Ar S then fF S (dS S most) else bH
abbrev ib (x v:Nat):Prop:=x.testBit v=true
structure Gr (n:Nat) (N:Nat->Nat):Prop where
 sym:∀ u v,ib (N u) v->ib (N v) u
 irr:∀ u,¬ib (N u) u
 bd:∀ u v,ib (N u) v->v<n
structure B8 (n:Nat) (N:Nat->Nat) (C:Nat):Prop where
 bd:∀ v,ib C v->v<n
 o5:∀ u v,ib C u->ib C v->u≠v->ib (N u) v
 max:∀ u,u<n->¬ib C u->∃ v,ib C v/\¬ib (N u) v
structure Bf (n:Nat) (N:Nat->Nat) (R P C:Nat):Prop where
 mx:B8 n N C
 lo:∀ v,ib R v->ib C v
 hi:∀ v,ib C v->ib R v\/ib P v
structure BI (n:Nat) (N:Nat->Nat) (R P X:Nat):Prop where
 rb:∀ v,ib R v->v<n
 pb:∀ v,ib P v->v<n
 xb:∀ v,ib X v->v<n
 o5:∀ u v,ib R u->ib R v->u≠v->ib (N u) v
 sQ:∀ u,ib P u\/ib X u->∀ r,ib R r->ib (N u) r
 all:∀ u,u<n->(∀ r,ib R r->ib (N u) r)->ib P u\/ib X u
section
variable {n:Nat}{N:Nat->Nat}{R P X C:Nat}
theorem BI.base (h:BI n N R P X) (hP:∀ v,¬ib P v) (hX:∀ v,¬ib X v):Bf n N R P C↔C=R:=by
 constructor
 ·intro hc
  apply eq_of_testBit_eq;intro i;by_cases hi:ib C i
  ·rcases hc.hi i hi with h1|h1
   ·exact hi.trans h1.symm
   ·exact absurd h1 (hP i)
  ·have hr:¬ib R i:=fun hr=>hi (hc.lo i hr)
   rw[Bool.eq_false_iff.2 hi,Bool.eq_false_iff.2 hr]
 ·rintro rfl
  refine⟨⟨h.rb,h.o5,fun u hu hn=>?_⟩,fun _ hv=>hv,fun _ hv=>.inl hv⟩;refine Classical.byContradiction fun iM=>?_;have bZ:∀ r,ib C r->ib (N u) r:=fun r hr=>Classical.byContradiction fun hh=>iM ⟨r,hr,hh⟩;rcases h.all u hu bZ with h1|h1
  ·exact hP u h1
  ·exact hX u h1
theorem BI.qyK (hG:Gr n N) (h:BI n N R P X) {v:Nat}(hv:ib P v\/ib X v):¬ib R v:=fun hr=>hG.irr v (h.sQ v hv v hr)
theorem BI.child (hG:Gr n N) (h:BI n N R P X) {v R1 P1 X1:Nat}(hv:ib P v) (h1:∀ u,ib R1 u↔ib R u\/u=v) (h2:∀ u,ib P1 u↔ib P u/\ib (N v) u) (h3:∀ u,ib X1 u↔ib X u/\ib (N v) u):BI n N R1 P1 X1 where
 rb u hu:=by
  rcases (h1 u).1 hu with h0|rfl
  ·exact h.rb u h0
  ·exact h.pb _ hv
 pb u hu:=h.pb u ((h2 u).1 hu).1
 xb u hu:=h.xb u ((h3 u).1 hu).1
 o5 a b ha hb pC:=by
  rcases (h1 a).1 ha with ha|rfl
  ·rcases (h1 b).1 hb with hb|rfl
   ·exact h.o5 a b ha hb pC
   ·exact hG.sym _ _ (h.sQ _ (.inl hv) a ha)
  ·rcases (h1 b).1 hb with hb|rfl
   ·exact h.sQ _ (.inl hv) b hb
   ·exact absurd rfl pC
 sQ u hu r hr:=by
  have hu2:(ib P u\/ib X u)/\ib (N v) u:=by
   rcases hu with hu|hu
   ·exact⟨.inl ((h2 u).1 hu).1,((h2 u).1 hu).2⟩
   ·exact⟨.inr ((h3 u).1 hu).1,((h3 u).1 hu).2⟩
  rcases (h1 r).1 hr with hr|rfl
  ·exact h.sQ u hu2.1 r hr
  ·exact hG.sym _ _ hu2.2
 all u hu ha:=by
  have pM:ib (N v) u:=hG.sym _ _ (ha v ((h1 v).2 (.inr rfl)));rcases h.all u hu (fun r hr=>ha r ((h1 r).2 (.inl hr))) with h0|h0
  ·exact .inl ((h2 u).2 ⟨h0,pM⟩)
  ·exact .inr ((h3 u).2 ⟨h0,pM⟩)
theorem BI.next (h:BI n N R P X) {v P1 X1:Nat}(hv:ib P v) (h2:∀ u,ib P1 u↔ib P u/\u≠v) (h3:∀ u,ib X1 u↔ib X u\/u=v):BI n N R P1 X1 where
 rb:=h.rb
 pb u hu:=h.pb u ((h2 u).1 hu).1
 xb u hu:=by
  rcases (h3 u).1 hu with h0|rfl
  ·exact h.xb u h0
  ·exact h.pb _ hv
 o5:=h.o5
 sQ u hu r hr:=by
  rcases hu with hu|hu
  ·exact h.sQ u (.inl ((h2 u).1 hu).1) r hr
  ·rcases (h3 u).1 hu with h0|rfl
   ·exact h.sQ u (.inr h0) r hr
   ·exact h.sQ _ (.inl hv) r hr
 all u hu ha:=by
  rcases h.all u hu ha with h0|h0
  ·by_cases e:u=v
   ·exact .inr ((h3 u).2 (.inr e))
   ·exact .inl ((h2 u).2 ⟨h0,e⟩)
  ·exact .inr ((h3 u).2 (.inl h0))
theorem BI.split (hG:Gr n N) (h:BI n N R P X) {v R1 P1 P2:Nat}(hv:ib P v) (h1:∀ u,ib R1 u↔ib R u\/u=v) (h2:∀ u,ib P1 u↔ib P u/\ib (N v) u) (h3:∀ u,ib P2 u↔ib P u/\u≠v) :
  (Bf n N R P C↔Bf n N R1 P1 C\/Bf n N R P2 C)/\(Bf n N R1 P1 C->ib C v)/\(Bf n N R P2 C->¬ib C v):=by
 have hnr:=h.qyK hG (.inl hv);refine⟨⟨fun hc=>?_,fun hc=>?_⟩,fun hc=>hc.lo v ((h1 v).2 (.inr rfl)),fun hc vE=>?_⟩
 ·by_cases vE:ib C v
  ·refine .inl ⟨hc.mx,fun u hu=>?_,fun u hu=>?_⟩
   ·rcases (h1 u).1 hu with h0|rfl
    ·exact hc.lo u h0
    ·exact vE
   ·by_cases e:u=v
    ·exact .inl ((h1 u).2 (.inr e))
    ·rcases hc.hi u hu with h0|h0
     ·exact .inl ((h1 u).2 (.inl h0))
     ·exact .inr ((h2 u).2 ⟨h0,hc.mx.o5 v u vE hu (fun hh=>e hh.symm)⟩)
  ·refine .inr ⟨hc.mx,hc.lo,fun u hu=>?_⟩
   rcases hc.hi u hu with h0|h0
   ·exact .inl h0
   ·exact .inr ((h3 u).2 ⟨h0,fun e=>vE (e ▸ hu)⟩)
 ·rcases hc with hc|hc
  ·refine⟨hc.mx,fun u hu=>hc.lo u ((h1 u).2 (.inl hu)),fun u hu=>?_⟩
   rcases hc.hi u hu with h0|h0
   ·rcases (h1 u).1 h0 with h0|rfl
    ·exact .inl h0
    ·exact .inr hv
   ·exact .inr ((h2 u).1 h0).1
  ·refine⟨hc.mx,hc.lo,fun u hu=>?_⟩
   rcases hc.hi u hu with h0|h0
   ·exact .inl h0
   ·exact .inr ((h3 u).1 h0).1
 ·rcases hc.hi v vE with h0|h0
  ·exact hnr h0
  ·exact((h3 v).1 h0).2 rfl
theorem BI.pivot (hG:Gr n N) (h:BI n N R P X) {u:Nat}(hu:ib P u\/ib X u) (hc:Bf n N R P C):∃ q,ib C q/\ib P q/\¬ib (N u) q:=by
 refine Classical.byContradiction fun iM=>?_;have bZ:∀ c,ib C c->ib (N u) c:=fun c yc=>by
  rcases hc.hi c yc with h0|h0
  ·exact h.sQ u hu c h0
  ·exact Classical.byContradiction fun hh=>iM ⟨c,yc,h0,hh⟩
 by_cases hcu:ib C u
 ·exact hG.irr u (bZ u hcu)
 ·have iv:u<n:=by
   rcases hu with h0|h0
   ·exact h.pb u h0
   ·exact h.xb u h0
  obtain⟨v,hv,hn⟩:=hc.mx.max u iv hcu;exact hn (bZ v hv)
end
def Dj (x v:Nat):Prop:=ib x v/\∀ u,u<v->¬ib x u
theorem qhF {x:Nat}(h:x≠0):∃ v,Dj x v:=by
 have:∃ v,ib x v:=by
  refine Classical.byContradiction fun iM=>h (eq_of_testBit_eq fun i=>?_);rw[zero_testBit];exact Bool.eq_false_iff.2 fun hh=>iM ⟨i,hh⟩
 obtain⟨v,hv⟩:=this
 induction v using Nat.strongRecOn with
 | _ v ih =>
  by_cases hh:∃ u,u<v/\ib x u
  ·obtain⟨u,h1,h2⟩:=hh
   exact ih u h1 h2
  ·exact⟨v,hv,fun u hu hb=>hh ⟨u,hu,hb⟩⟩
theorem qsF {x v:Nat}(h:Dj x v):x=2 ^ (v+1)*(x / 2 ^ (v+1))+2 ^ v:=by
 apply eq_of_testBit_eq;intro i;rw[testBit_two_pow_mul_add _ (by rw[Nat.pow_succ];have:=Nat.two_pow_pos v;omega)];split
 ·rename_i hi
  rw[testBit_two_pow];by_cases e:v=i
  ·subst e;rw[decide_eq_true rfl];exact h.1
  ·rw[decide_eq_false e]
   exact Bool.eq_false_iff.2 (h.2 i om)
 ·rename_i hi
  rw[testBit_div_two_pow];congr 1;omega
theorem qmP {x v:Nat}(h:Dj x v) (i:Nat):(x-1).testBit i=if i<v then true else if i=v then false else x.testBit i:=by
 have hp:=Nat.two_pow_pos v;have e:x-1=2 ^ (v+1)*(x / 2 ^ (v+1))+(2 ^ v-1):=by
  have:=qsF h;omega
 rw[e,testBit_two_pow_mul_add _ (by rw[Nat.pow_succ];omega)];split
 ·rename_i hi
  rw[testBit_two_pow_sub_one];by_cases e1:i<v
  ·rw[if_pos e1,decide_eq_true e1]
  ·rw[if_neg e1,if_pos om,decide_eq_false e1]
 ·rename_i hi
  rw[if_neg om,if_neg om,testBit_div_two_pow];congr 1;omega
theorem qj1 {x v:Nat}(h:Dj x v) (i:Nat):ib (x &&& (x-1)) i↔ib x i/\i≠v:=by
 unfold ib;rw[testBit_and,qmP h,Bool.and_eq_true];by_cases e1:i<v
 ·have:=h.2 i e1
  rw[if_pos e1];exact⟨fun hh=>absurd hh.1 this,fun hh=>absurd hh.1 this⟩
 ·rw[if_neg e1]
  by_cases e2:i=v
  ·rw[if_pos e2]
   exact⟨fun hh=>(by cases hh.2),fun hh=>absurd e2 hh.2⟩
  ·rw[if_neg e2]
   exact⟨fun hh=>⟨hh.1,e2⟩,fun hh=>⟨hh.1,hh.1⟩⟩
theorem qmQ {x:Nat}(h:x≠0):x &&& (x-1)<x:=by
 have:=and_le_right (n:=x) (m:=x-1);omega
theorem qvb {x v:Nat}(h:Dj x v) (hx:x<2 ^ 64):x &&& (2 ^ 64-x)=2 ^ v:=by
 have mC:x≠0:=fun e=>by have:=h.1;subst e;simp[ib]at this
 have hv:v<64:=Nat.lt_of_not_le fun hle=>by
  have h1:=h.1;unfold ib at h1;rw[testBit_lt_two_pow (Nat.lt_of_lt_of_le hx (Nat.pow_le_pow_right (by decide) hle))]at h1;cases h1
 apply eq_of_testBit_eq;intro i;rw[testBit_and,show 2 ^ 64-x=2 ^ 64-((x-1)+1) by omega,testBit_two_pow_sub_succ om,qmP h,testBit_two_pow];by_cases e1:i<v
 ·rw[if_pos e1,Bool.eq_false_iff.2 (h.2 i e1),Bool.false_and,decide_eq_false om]
 ·rw[if_neg e1]
  by_cases e2:i=v
  ·subst e2
   rw[if_pos rfl,show x.testBit i=true from h.1,decide_eq_true hv,decide_eq_true rfl];rfl
  ·rw[if_neg e2,show decide (v=i)=false from decide_eq_false fun hh=>e2 hh.symm]
   cases x.testBit i<;>simp
theorem qvZ {x v k:Nat}(h:Dj x v) (hx:x<2 ^ k):v<k:=Nat.lt_of_not_le fun hle=>by
 have h1:=h.1;unfold ib at h1;rw[testBit_lt_two_pow (Nat.lt_of_lt_of_le hx (Nat.pow_le_pow_right (by decide) hle))]at h1;cases h1
def cn (C:Nat) (k:Nat):List Int:=((List.range k).filter fun v=>C.testBit v).map fun (v:Nat)=>(v:Int)
theorem qfb (C k:Nat):cn C (k+1)=cn C k++if C.testBit k then [(k:Int)] else []:=by
 unfold cn;rw[range_succ,filter_append,map_append];congr 1;simp only[filter_cons,filter_nil];split<;>rfl
theorem qkM (C:Nat):∀ k,(cn C k).length<=k
 | 0=>Nat.le_refl _
 | k+1=>by
  rw[qfb,length_append];have:=qkM C k;split<;>simp<;>omega
theorem qdh {C k:Nat}{x:Int}:x∈cn C k↔∃ v:Nat,v<k/\ib C v/\x=v:=by
 simp only[cn,mem_map,mem_filter,mem_range];constructor
 ·rintro⟨v,⟨h1,h2⟩,rfl⟩;exact⟨v,h1,h2,rfl⟩
 ·rintro⟨v,h1,h2,rfl⟩;exact⟨v,⟨h1,h2⟩,rfl⟩
theorem qrq {C C' n:Nat}(h:∀ v,ib C v->v<n) (h':∀ v,ib C' v->v<n) (he:cn C n=cn C' n):C=C':=by
 apply eq_of_testBit_eq;intro i;have key:ib C i↔ib C' i:=by
  constructor
  ·intro hi
   have:(i:Int)∈cn C n:=qdh.2 ⟨i,h i hi,hi,rfl⟩;rw[he]at this;obtain⟨v,_,hv,e⟩:=qdh.1 this;have:i=v:=by omega
   rw[this];exact hv
  ·intro hi
   have:(i:Int)∈cn C' n:=qdh.2 ⟨i,h' i hi,hi,rfl⟩;rw[<-he]at this;obtain⟨v,_,hv,e⟩:=qdh.1 this;have:i=v:=by omega
   rw[this];exact hv
 exact Bool.eq_iff_iff.2 key
def dB:List Int->List Int->Int
 | [],[]=>0
 | [],_::_ => -1
 | _::_,[]=>1
 | x::xs,y::ys=>if x<y then -1 else if y<x then 1 else dB xs ys
theorem qkN:∀ xs,dB xs xs=0
 | []=>rfl
 | x::xs=>by simp[dB,qkN xs]
theorem qty:∀ xs ys,dB xs ys = -1\/dB xs ys=0\/dB xs ys=1
 | [],[]=>.inr (.inl rfl)
 | [],_::_=>.inl rfl
 | _::_,[]=>.inr (.inr rfl)
 | x::xs,y::ys=>by
  simp only[dB];split
  ·exact .inl rfl
  ·split
   ·exact .inr (.inr rfl)
   ·exact qty xs ys
theorem qgX:∀ xs ys,dB ys xs =-dB xs ys
 | [],[]=>rfl
 | [],_::_=>rfl
 | _::_,[]=>rfl
 | x::xs,y::ys=>by
  simp only[dB];by_cases h1:x<y
  ·rw[if_pos h1,if_neg om,if_pos h1];rfl
  ·by_cases h2:y<x
   ·rw[if_pos h2,if_neg h1,if_pos h2]
   ·rw[if_neg h1,if_neg h2,if_neg h2,if_neg h1];exact qgX xs ys
theorem qgY:∀ {xs ys},dB xs ys=0->xs=ys
 | [],[],_=>rfl
 | [],_::_,h=>by simp[dB]at h
 | _::_,[],h=>by simp[dB]at h
 | x::xs,y::ys,h=>by
  simp only[dB]at h;split at h
  ·cases h
  ·split at h
   ·cases h
   ·rw[qgY h];congr 1;omega
theorem qfc:∀ {xs ys zs},dB xs ys<0->dB ys zs<0->dB xs zs<0
 | [],[],_,h,_=>by simp[dB]at h
 | [],_::_,[],_,h=>by simp[dB]at h
 | [],_::_,_::_,_,_=>by simp[dB]
 | _::_,[],_,h,_=>by simp[dB]at h
 | _::_,_::_,[],_,h=>by simp[dB]at h
 | x::xs,y::ys,z::zs,h1,h2=>by
  simp only[dB]at h1 h2 ⊢;by_cases a:x<y
  ·by_cases b:y<z
   ·rw[if_pos om];decide
   ·rw[if_neg b]at h2
    split at h2
    ·cases h2
    ·rw[if_pos om];decide
  ·rw[if_neg a]at h1
   split at h1
   ·cases h1
   ·by_cases b:y<z
    ·rw[if_pos om];decide
    ·rw[if_neg b]at h2
     split at h2
     ·cases h2
     ·rw[if_neg om,if_neg om]
      exact qfc h1 h2
def Di (L:List (List Int)):Prop:=L.Pairwise fun a b=>dB a b<0
section
variable {n:Nat}{N:Nat->Nat}{l:List Int}{v:Nat}{E E1 E2:List (List Int)}
theorem qmT {C k:Nat}(hv:ib C k):cn C (k+1)=cn C k++[(k:Int)]:=by rw[qfb,if_pos hv]
theorem qj4 {C k:Nat}(hv:¬ib C k):cn C (k+1)=cn C k:=by rw[qfb,if_neg hv,append_nil]
end
structure Bl where
 src:Int
 dst:Int
 wt:Int
 deriving DecidableEq
def aU:Ty Bl:=⟨3,fun a=>[.int .i64 a.src,.int .i64 a.dst,.int .i64 a.wt],fun _=>rfl,⟨0,0,0⟩⟩
def dE (n:Int) (a:Bl):Prop:=0<=a.src/\a.src<n/\0<=a.dst/\a.dst<n /\ -1099511627776<=a.wt/\a.wt<=1099511627776
instance (n:Int) (a:Bl):Decidable (dE n a):=by unfold dE;infer_instance
def bu (n:Int) (arcs:List Bl):Int :=
 if n<0 then 1 else if 4096<n\/65536<(arcs.length:Int) then 5 else if ∀ a∈arcs,dE n a then 0 else 1
theorem qjh {n:Int}{arcs:List Bl}(h:n<0):bu n arcs=1:=by simp[bu,h]
theorem qgT {n:Int}{arcs:List Bl}(h:0<=n) (h1:4096<n\/65536<(arcs.length:Int)):bu n arcs=5:=by simp only[bu,if_neg (Int.not_lt.2 h),h1,if_true]
theorem qji {n:Int}{arcs:List Bl}(h:0<=n) (h1:¬(4096<n\/65536<(arcs.length:Int))) {k:Nat}(hk:k<arcs.length) (hb:¬dE n (arcs.getD k aU.dflt)):bu n arcs=1:=by
 have:¬∀ a∈arcs,dE n a:=fun hh=>hb (hh _ (bY _ hk));simp only[bu,if_neg (Int.not_lt.2 h),h1,this,if_false]
theorem qfw {n:Int}{arcs:List Bl}(h:0<=n) (h1:¬(4096<n\/65536<(arcs.length:Int))) (hb:∀ i,i<arcs.length->dE n (arcs.getD i aU.dflt)):bu n arcs=0:=by
 have:∀ a∈arcs,dE n a:=fun a ha=>by
  obtain⟨i,hi,rfl⟩:=getElem_of_mem ha;have:=hb i hi
  simpa [List.getD,hi] using this
 simp only[bu,if_neg (Int.not_lt.2 h),h1,if_false,if_pos this]
theorem qkJ {n:Int}{arcs:List Bl}(h:bu n arcs=0):0<=n/\n<=4096/\arcs.length<=65536/\∀ a∈arcs,dE n a:=by
 unfold bu at h;split at h
 ·cases h
 ·split at h
  ·cases h
  ·split at h
   ·rename_i h1 h2 h3;exact⟨by omega,by omega,by omega,h3⟩
   ·cases h
def BE (arcs:List Bl) (u v:Nat):Prop:=u≠v/\∃ a∈arcs,(a.src=u/\a.dst=v)\/(a.src=v/\a.dst=u)
theorem BE.symm {arcs:List Bl}{u v:Nat}(h:BE arcs u v):BE arcs v u:=⟨fun e=>h.1 e.symm,let ⟨a,ha,hh⟩:=h.2;⟨a,ha,hh.symm⟩⟩
def jK (L:List Nat) (u v:Nat):List Nat:=L.set u (L.getD u bT.dflt ||| 2 ^ v)
theorem qnx (L:List Nat) (u v:Nat):(jK L u v).length=L.length:=by simp[jK]
theorem qjj {L:List Nat}{u v x y:Nat}(hu:u<L.length):ib ((jK L u v).getD x bT.dflt) y↔ib (L.getD x bT.dflt) y\/(x=u/\y=v):=by
 unfold jK;by_cases e:x=u
 ·subst e
  have e2:(L.set x (L.getD x bT.dflt ||| 2 ^ v)).getD x bT.dflt=L.getD x bT.dflt ||| 2 ^ v:=by simp[List.getD,hu]
  rw[e2];unfold ib;rw[testBit_or,testBit_two_pow,Bool.or_eq_true,decide_eq_true_eq];constructor
  ·rintro (h|h)
   ·exact .inl h
   ·exact .inr ⟨rfl,h.symm⟩
  ·rintro (h|h)
   ·exact .inl h
   ·exact .inr h.2.symm
 ·have e2:(L.set u (L.getD u bT.dflt ||| 2 ^ v)).getD x bT.dflt=L.getD x bT.dflt:=by
   simp only[List.getD,getElem?_set,if_neg (fun h=>e h.symm:¬u=x)]
  rw[e2];exact⟨.inl,fun h=>h.elim id fun hh=>absurd hh.1 e⟩
def lF (L:List Nat) (a:Bl):List Nat:=if a.src=a.dst then L else jK (jK L a.src.toNat a.dst.toNat) a.dst.toNat a.src.toNat
def du (n:Nat) (arcs:List Bl) (k:Nat):List Nat:=(arcs.take k).foldl lF (replicate n 0)
theorem qos (n:Nat) (arcs:List Bl):du n arcs 0=replicate n 0:=rfl
theorem qdH {n:Nat}{arcs:List Bl}{k:Nat}(h:k<arcs.length):du n arcs (k+1)=lF (du n arcs k) (arcs.getD k aU.dflt):=by
 rw[du,dJ aU.dflt h,foldl_append];rfl
theorem qrc (L:List Nat) (a:Bl):(lF L a).length=L.length:=by unfold lF;split<;>simp[jK]
theorem qeG {n:Nat}{arcs:List Bl}:∀ k,k<=arcs.length->(du n arcs k).length=n
 | 0,_=>by simp[du]
 | k+1,h=>by rw[qdH om,qrc,qeG k om]
theorem qeH {n:Nat}{arcs:List Bl}(br:∀ a∈arcs,dE n a) {x y:Nat}:∀ k,k<=arcs.length->(ib ((du n arcs k).getD x bT.dflt) y↔BE (arcs.take k) x y)
 | 0,_=>by
  constructor
  ·intro h
   have e:(du n arcs 0).getD x bT.dflt=0:=by
    rw[qos];simp only[List.getD,getElem?_replicate];split<;>rfl
   rw[e]at h;simp[ib]at h
  ·rintro⟨_,a,ha,_⟩;simp at ha
 | k+1,h=>by
  have ih:=qeH br (x:=x) (y:=y) k om;have hl:=qeG (n:=n) (arcs:=arcs) k om;have ha:=br _ (bY aU.dflt (show k<arcs.length by omega));unfold dE at ha;have qzo:BE (arcs.take (k+1)) x y↔BE (arcs.take k) x y\/(x≠y/\(((arcs.getD k aU.dflt).src=x/\(arcs.getD k aU.dflt).dst=y)\/((arcs.getD k aU.dflt).src=y/\(arcs.getD k aU.dflt).dst=x))):=by
   rw[dJ aU.dflt om];unfold BE;constructor
   ·rintro⟨cY,a,hm,hh⟩
    rcases mem_append.1 hm with hm|hm
    ·exact .inl ⟨cY,a,hm,hh⟩
    ·rw[mem_singleton.1 hm]at hh;exact .inr ⟨cY,hh⟩
   ·rintro (⟨cY,a,hm,hh⟩|⟨cY,hh⟩)
    ·exact⟨cY,a,mem_append_left _ hm,hh⟩
    ·exact⟨cY,_,mem_append_right _ (mem_singleton.2 rfl),hh⟩
  rw[qdH om,qzo,<-ih];unfold lF;split
  ·rename_i e
   refine⟨.inl,fun h=>h.elim id fun hh=>?_⟩;omega
  ·rename_i e
   rw[qjj (by rw[qnx];omega),qjj om];constructor
   ·rintro ((h|h)|h)
    ·exact .inl h
    ·exact .inr ⟨by omega,by omega⟩
    ·exact .inr ⟨by omega,by omega⟩
   ·rintro (h|⟨h1,h2|h2⟩)
    ·exact .inl (.inl h)
    ·exact .inl (.inr ⟨by omega,by omega⟩)
    ·exact .inr ⟨by omega,by omega⟩
def qD (n:Nat) (arcs:List Bl):List Nat:=du n arcs arcs.length
def nN (n:Nat) (arcs:List Bl) (u:Nat):Nat:=(qD n arcs).getD u bT.dflt
theorem qgU {n:Nat}{arcs:List Bl}(br:∀ a∈arcs,dE n a) {x y:Nat}:ib (nN n arcs x) y↔BE arcs x y:=by
 have:=qeH br (x:=x) (y:=y) arcs.length (Nat.le_refl _)
 rwa[take_length]at this
theorem BE.lt {n:Nat}{arcs:List Bl}(br:∀ a∈arcs,dE n a) {x y:Nat}(h:BE arcs x y):x<n/\y<n:=by
 obtain⟨_,a,ha,hh⟩:=h;have:=br a ha;unfold dE at this;rcases hh with hh|hh<;>constructor<;>omega
theorem quu {n:Nat}{arcs:List Bl}(br:∀ a∈arcs,dE n a):Gr n (nN n arcs) :=
 ⟨fun _ _ h=>(qgU br).2 ((qgU br).1 h).symm,fun _ h=>((qgU br).1 h).1 rfl,fun _ _ h=>(((qgU br).1 h).lt br).2⟩
theorem qfa {C n:Nat}(h:∀ v,ib C v->v<n):C<2 ^ n:=lt_pow_two_of_testBit C fun i hi=>Bool.eq_false_iff.2 fun hh=>by have:=h i hh;omega
theorem qtp {n:Nat}{arcs:List Bl}(br:∀ a∈arcs,dE n a) {k x:Nat}(hk:k<=arcs.length):(du n arcs k).getD x bT.dflt<2 ^ n:=qfa fun v hv=>by
 have:=(qeH br k hk).1 hv;exact(BE.lt (arcs:=arcs.take k) (fun a ha=>br a (mem_of_mem_take ha)) this).2
end
section
open Go.Sl Go Go.Sort
theorem tC {a b:Au}:df a b<0↔(a.src<b.src\/a.src=b.src/\(a.bI<b.bI\/a.bI=b.bI/\a.dst<b.dst)):=by
 simp only[df,sb,eC,ne_eq]
 repeat' split
 all_goals omega
theorem qlw {a b:Int × Int}:lV a b<0↔(a.1<b.1\/a.1=b.1/\a.2<b.2):=by
 simp only[lV,sb,eC,ne_eq]
 repeat' split
 all_goals omega
theorem kK:SWO (ltOf df) where
 irrefl x:=by simp only[ltOf,decide_eq_false_iff_not,tC];omega
 trans x y z h1 h2:=by simp only[ltOf,decide_eq_true_eq,tC]at h1 h2 ⊢;omega
 ntrans x y z h1 h2:=by simp only[ltOf,decide_eq_false_iff_not,tC]at h1 h2 ⊢;omega
theorem yW:SWO (ltOf lV) where
 irrefl x:=by simp only[ltOf,decide_eq_false_iff_not,qlw];omega
 trans x y z h1 h2:=by simp only[ltOf,decide_eq_true_eq,qlw]at h1 h2 ⊢;omega
 ntrans x y z h1 h2:=by simp only[ltOf,decide_eq_false_iff_not,qlw]at h1 h2 ⊢;omega
section
variable {α:Type} [Inhabited α] {cf:α->α->Int}(hO:SWO (ltOf cf)) {l:List α}
include hO
theorem qiG:(dN cf l).Perm l:=by
 have h:=pdq_sorts (ltOf cf) hO l.toArray 0 l.toArray.size (Lib.bitLen l.toArray.size) true true (zero_le _) (Nat.le_refl _) (Or.inl rfl);obtain⟨⟨p1,_,p3⟩,_⟩:=h;have e:dN cf l=(pdq (ltOf cf) l.toArray 0 l.toArray.size (Lib.bitLen l.toArray.size) true true).toList:=rfl;rw[e];generalize pdq (ltOf cf) l.toArray 0 l.toArray.size (Lib.bitLen l.toArray.size) true true=d at p1 p3 ⊢;have q1:d.extract 0 l.toArray.size=d:=by
  have:=Array.extract_size (xs:=d)
  rwa[p1]at this
 have q2:l.toArray.extract 0 l.toArray.size=l.toArray:=Array.extract_size;rw[q1,q2]at p3
 simpa using p3
theorem zT:(dN cf l).length=l.length:=(qiG hO).length_eq
theorem qgk {a:α}:a∈dN cf l↔a∈l:=(qiG hO).mem_iff
theorem qva:dN cf []=[]:=eq_nil_of_length_eq_zero (zT hO)
theorem qtY:(dN cf l).Pairwise fun a b=>¬cf b a<0:=by
 have h:=pdq_sorts (ltOf cf) hO l.toArray 0 l.toArray.size (Lib.bitLen l.toArray.size) true true (zero_le _) (Nat.le_refl _) (Or.inl rfl);obtain⟨⟨p1,_,_⟩,hs⟩:=h;have e:dN cf l=(pdq (ltOf cf) l.toArray 0 l.toArray.size (Lib.bitLen l.toArray.size) true true).toList:=rfl;rw[e];generalize pdq (ltOf cf) l.toArray 0 l.toArray.size (Lib.bitLen l.toArray.size) true true=d at p1 hs ⊢;rw[pairwise_iff_getElem];intro i j hi hj ie;simp only[Array.length_toList]at hi hj;have h1:=hs i j (zero_le _) ie om;rw[getElem!_pos d j hj,getElem!_pos d i hi]at h1
 simpa [ltOf] using h1
end
section
variable {α:Type} [DecidableEq α]
theorem qcJ (x:α) (r:List α):∃ t,ix (x::r)=x::t:=⟨_,rfl⟩
theorem yX (a b:α) (l:List α):ix (a::b::l)=a::(if a=b then (ix (b::l)).tail else ix (b::l)):=rfl
theorem qiH (x y:α):∀ l:List α,ix (l++[y]++[x])=ix (l++[y])++(if y=x then [] else [x])
 | []=>by simp only[nil_append,cons_append,ix];split<;>rfl
 | [a]=>by
  have ih:=qiH x y [];simp only[nil_append,cons_append]at ih ⊢;obtain⟨t,ht⟩:=qcJ y [];rw[yX a y [x],yX a y [],ih,ht];by_cases h:a=y
  ·simp only[if_pos h,cons_append,tail_cons]
  ·simp only[if_neg h,cons_append]
 | a::b::r=>by
  have ih:=qiH x y (b::r);simp only[cons_append]at ih ⊢;obtain⟨t,ht⟩:=qcJ b (r++[y]);rw[yX a b (r++[y]++[x]),yX a b (r++[y]),ih,ht];by_cases h:a=b
  ·simp only[if_pos h,cons_append,tail_cons]
  ·simp only[if_neg h,cons_append]
theorem qfM (d:α) {l:List α}{k:Nat}(h0:0<k) (hk:k<l.length):ix (l.take (k+1))=ix (l.take k)++(if l.getD (k-1) d=l.getD k d then [] else [l.getD k d]):=by
 obtain⟨j,rfl⟩:∃ j,k=j+1:=⟨k-1,by omega⟩
 rw[dJ d hk,dJ d (show j<l.length by omega)];exact qiH _ _ _
theorem qiI {a:α}:∀ {l:List α},a∈ix l↔a∈l
 | []=>Iff.rfl
 | [x]=>by simp[ix]
 | x::y::r=>by
  have ih:=qiI (a:=a) (l:=y::r);rw[yX];obtain⟨t,ht⟩:=qcJ y r;rw[ht]at ih ⊢;by_cases h:x=y
  ·subst h
   simp only[if_true,tail_cons];rw[ih];simp
  ·simp only[if_neg h]
   rw[mem_cons,ih,mem_cons (a:=a) (b:=x)]
theorem qpX:∀ (l:List α),(ix l).length<=l.length
 | []=>Nat.le_refl _
 | [x]=>Nat.le_refl _
 | x::y::r=>by
  have ih:=qpX (y::r);rw[yX];split
  ·rw[length_cons,length_tail];simp only[length_cons]at *;omega
  ·simp only[length_cons]at *;omega
theorem qtZ {lt:α->α->Prop}(hT:∀ x y,¬lt x y->¬lt y x->x=y) (ht:∀ x y z,lt x y->lt y z->lt x z):∀ {l:List α},l.Pairwise (fun a b=>¬lt b a)->(ix l).Pairwise lt
 | [],_=>Pairwise.nil
 | [x],_=>by simp[ix]
 | x::y::r,h=>by
  obtain⟨h1,h2⟩:=pairwise_cons.1 h;have ih:=qtZ hT ht h2;rw[yX];obtain⟨t,he⟩:=qcJ y r;rw[he]at ih ⊢;obtain⟨i1,i2⟩:=pairwise_cons.1 ih;by_cases tw:x=y
  ·subst tw
   simp only[if_true,tail_cons];exact ih
  ·simp only[if_neg tw]
   have bD:lt x y:=Classical.byContradiction fun hn=>tw (hT x y hn (h1 y mem_cons_self))
   exact pairwise_cons.2 ⟨fun z hz=>by
    rcases mem_cons.1 hz with rfl|hz
    ·exact bD
    ·exact ht _ _ _ bD (i1 z hz),ih⟩
end
end
section
open Go.Sl
abbrev inf:Int:=1125899906842624
abbrev dg (D:List Int) (i:Int):Int:=D.getD i.toNat aa.dflt
abbrev fB (c:List Int) (e:Au):Int:=c.getD e.bI.toNat aa.dflt
inductive Bt (E:List Au) (c:List Int) (G:Int->Prop):Int->Int->Prop
 | goal {a:Int}:G a->Bt E c G a 0
 | step {e:Au}{k:Int}:e∈E->Bt E c G e.dst k->Bt E c G e.src (fB c e+k)
structure BO (E:List Au) (c:List Int) (n:Nat):Prop where
 src:∀ e∈E,0<=e.src/\e.src<n
 dst:∀ e∈E,0<=e.dst/\e.dst<n
 bI:∀ e∈E,0<=e.bI/\e.bI<c.length
 cost:∀ x∈c,0<=x/\x<=1099511627776
theorem BO.fB {E:List Au}{c:List Int}{n:Nat}(h:BO E c n) {e:Au}(he:e∈E):0<=fB c e/\fB c e<=1099511627776 :=
 h.cost _ (bY aa.dflt (by have:=h.bI e he;omega))
theorem BO.getD {E:List Au}{c:List Int}{n k:Nat}(h:BO E c n) (hk:k<E.length):(0<=(E.getD k ax.dflt).src/\(E.getD k ax.dflt).src<n)/\(0<=(E.getD k ax.dflt).dst/\(E.getD k ax.dflt).dst<n)/\(0<=(E.getD k ax.dflt).bI/\(E.getD k ax.dflt).bI<c.length)/\0<=Go.Proofs.YtmapkjoefdgjfaaGreatDoor.fB c (E.getD k ax.dflt)/\Go.Proofs.YtmapkjoefdgjfaaGreatDoor.fB c (E.getD k ax.dflt)<=1099511627776 :=
 have hm:=bY ax.dflt hk
 ⟨h.src _ hm,h.dst _ hm,h.bI _ hm,h.fB hm⟩
structure CC (E:List Au) (c:List Int) (G:Int->Prop) (n:Nat) (D:List Int):Prop where
 len:D.length=n
 cC:∀ i:Nat,i<n->0<=dg D i/\dg D i<=inf
 sP:∀ i:Nat,i<n->dg D i<inf->Bt E c G i (dg D i)
 gol:∀ i:Nat,i<n->G i->dg D i=0
def Db (c:List Int) (D:List Int) (e:Au):Prop:=dg D e.dst<inf->dg D e.src<=dg D e.dst+fB c e
structure As (E:List Au) (c:List Int) (G:Int->Prop) (n:Nat) (D:List Int):Prop where
 len:D.length=n
 cC:∀ i:Nat,i<n->0<=dg D i/\dg D i<=inf
 sP:∀ i:Nat,i<n->dg D i<inf->Bt E c G i (dg D i)
 low:∀ i:Nat,i<n->∀ k,Bt E c G i k->dg D i<=k
theorem Bt.y7 {E:List Au}{c:List Int}{G:Int->Prop}{n:Nat}(h:BO E c n) {a k:Int}(hw:Bt E c G a k):0<=k:=by
 induction hw with
 | goal _=>omega
 | step he _ ih=>have:=h.fB he;omega
theorem CC.bf {E:List Au}{c:List Int}{G:Int->Prop}{n:Nat}{D:List Int}(hE:BO E c n) (h:CC E c G n D) (hs:∀ e∈E,Db c D e):As E c G n D:=by
 refine⟨h.len,h.cC,h.sP,?_⟩;have key:∀ {a k:Int},Bt E c G a k->0<=a->a<n->dg D a<=k:=by
  intro a k hw
  induction hw with
  | @goal a hg =>
   intro h0 h1;have:=h.gol a.toNat om (by rw[Int.toNat_of_nonneg h0];exact hg);rw[Int.toNat_of_nonneg h0]at this
   omega
  | @step e k he _ ih =>
   intro h0 h1;have hd:=hE.dst e he;have hc:=hE.fB he;have h2:=ih hd.1 hd.2;have h3:=hs e he;by_cases h4:dg D e.dst<inf
   ·have:=h3 h4;omega
   ·have:=(h.cC e.src.toNat om).2
    rw[Int.toNat_of_nonneg h0]at this;omega
 intro i hi k hw;exact key hw om om
theorem As.goal {E:List Au}{c:List Int}{G:Int->Prop}{n:Nat}{D:List Int}(h:As E c G n D) {i:Nat}(hi:i<n) (hg:G i):dg D i=0:=by
 have:=h.low i hi 0 (.goal hg);have:=h.cC i hi;omega
theorem As.qw6 {E:List Au}{c:List Int}{G:Int->Prop}{n:Nat}{D:List Int}(hE:BO E c n) (h:As E c G n D) {e:Au}(he:e∈E):Db c D e:=by
 intro hl;have hd:=hE.dst e he;have hs:=hE.src e he;have h1:=h.sP e.dst.toNat om (by rw[Int.toNat_of_nonneg hd.1];exact hl);rw[Int.toNat_of_nonneg hd.1]at h1;have h2:=h.low e.src.toNat om _ (by rw[Int.toNat_of_nonneg hs.1];exact .step he h1);rw[Int.toNat_of_nonneg hs.1]at h2;omega
def fa (D:List Int):Nat:=(D.map Int.toNat).sum
theorem qiO {v:Int}:∀ {D:List Int}{i:Nat},i<D.length->v.toNat<(D.getD i aa.dflt).toNat->fa (D.set i v)<fa D
 | [],i,h,_=>by simp at h
 | x::D,0,_,h=>by simp[fa]at h ⊢;omega
 | x::D,i+1,h,h2=>by
  have:=qiO (i:=i) (D:=D) (by simpa using h) (by simpa using h2);simp only[fa,set_cons_succ,map_cons,sum_cons]at this ⊢;omega
theorem qhK {D:List Int}{a b v:Int}(ha:0<=a) (hb:0<=b) (hl:b<D.length):dg (D.set b.toNat v) a=if a=b then v else dg D a:=by
 simp only[dg,getD_eq_getElem?_getD,getElem?_set];by_cases e:a=b
 ·subst e;rw[if_pos rfl,if_pos rfl,if_pos om];rfl
 ·rw[if_neg om,if_neg e]
theorem CC.oP {E:List Au}{c:List Int}{G:Int->Prop}{n:Nat}{D:List Int}(hE:BO E c n) (h:CC E c G n D) {e:Au}(he:e∈E) (h1:dg D e.dst<inf) (h2:dg D e.dst+fB c e<dg D e.src) :
  CC E c G n (D.set e.src.toNat (dg D e.dst+fB c e))/\fa (D.set e.src.toNat (dg D e.dst+fB c e))<fa D:=by
 have hd:=hE.dst e he;have hs:=hE.src e he;have hc:=hE.fB he;have hl:=h.len;have r1:=h.cC e.dst.toNat om;have r2:=h.cC e.src.toNat om;rw[Int.toNat_of_nonneg hd.1]at r1;rw[Int.toNat_of_nonneg hs.1]at r2;have hwk:=h.sP e.dst.toNat om (by rw[Int.toNat_of_nonneg hd.1];exact h1);rw[Int.toNat_of_nonneg hd.1]at hwk;have hg:∀ i:Nat,dg (D.set e.src.toNat (dg D e.dst+fB c e)) i=if (i:Int)=e.src then dg D e.dst+fB c e else dg D i:=fun i=>qhK om hs.1 om
 refine⟨⟨by simp[hl],fun i hi=>?_,fun i hi bD=>?_,fun i hi da=>?_⟩,qiO om (by simp only[dg]at *;omega)⟩
 ·rw[hg];split
  ·omega
  ·exact h.cC i hi
 ·rw[hg]at bD ⊢
  split
  ·rename_i ei;rw[ei,Int.add_comm];exact .step he hwk
  ·rename_i ei;rw[if_neg ei]at bD;exact h.sP i hi bD
 ·rw[hg];split
  ·rename_i ei
   have:=h.gol i hi da;rw[ei]at this;omega
  ·exact h.gol i hi da
noncomputable def zi (p:Prop):Int:=@ite _ p (Classical.propDecidable _) 0 inf
theorem vP {p:Prop}(h:p):zi p=0:=if_pos h
theorem qhL {p:Prop}(h:¬p):zi p=inf:=if_neg h
theorem qiP {p q:Prop}(h:p↔q):zi p=zi q:=by
 by_cases hp:p
 ·rw[vP hp,vP (h.1 hp)]
 ·rw[qhL hp,qhL (fun hq=>hp (h.2 hq))]
noncomputable def lW (G:Int->Prop) (n:Nat):List Int:=(List.range n).map fun (i:Nat)=>zi (G (i:Int))
theorem qdx {G:Int->Prop}{n i:Nat}(hi:i<n):dg (lW G n) i=zi (G (i:Int)):=by simp[dg,lW,List.getD,hi]
theorem qqa (E:List Au) (c:List Int) (G:Int->Prop) (n:Nat):CC E c G n (lW G n):=by
 refine⟨by simp[lW],fun i hi=>?_,fun i hi h=>?_,fun i hi h=>?_⟩
 ·rw[qdx hi]
  by_cases g:G (i:Int)
  ·rw[vP g];exact⟨by decide,by decide⟩
  ·rw[qhL g];exact⟨by decide,by decide⟩
 ·rw[qdx hi]at h ⊢
  by_cases g:G (i:Int)
  ·rw[vP g];exact .goal g
  ·rw[qhL g]at h;omega
 ·rw[qdx hi,vP h]
noncomputable def cE (G:Int->Prop) (n k:Nat):List Int:=(List.range n).map fun (i:Nat)=>zi (i<k->G (i:Int))
theorem qob (G:Int->Prop) (n k:Nat):(cE G n k).length=n:=by simp[cE]
theorem qlA (G:Int->Prop) (n:Nat):cE G n 0=replicate n 0:=by
 apply ext_getElem (by simp[cE]);intro i h1 h2;simp only[cE,getElem_map,getElem_range,getElem_replicate];exact vP fun h=>absurd h (not_lt_zero _)
theorem qoc (G:Int->Prop) (n:Nat):cE G n n=lW G n:=by
 unfold cE lW;refine map_congr_left fun i hi=>qiP ⟨fun h=>h (mem_range.1 hi),fun h _=>h⟩
theorem qqb {G:Int->Prop}{n k:Nat}(h:¬G (k:Int)):(cE G n k).set k inf=cE G n (k+1):=by
 apply ext_getElem (by simp[cE]);intro i h1 h2;rw[getElem_set];simp only[cE,getElem_map,getElem_range];split
 ·rename_i e;subst e;rw[qhL];intro hh;exact h (hh (lt_succ_self _))
 ·rename_i e;exact qiP ⟨fun hh hi=>hh om,fun hh hi=>hh om⟩
theorem qod {G:Int->Prop}{n k:Nat}(h:G (k:Int)):cE G n k=cE G n (k+1):=by
 unfold cE;refine map_congr_left fun i hi=>qiP ⟨fun hh hi=>?_,fun hh hi=>hh om⟩;by_cases e:i=k
 ·subst e;exact h
 ·exact hh om
theorem qlB {G:Int->Prop}{n k:Nat}{v:Int}(h:G (k:Int)):((cE G n k).set k v).set k 0=cE G n (k+1):=by
 rw[set_set,<-qod h];apply ext_getElem (by simp);intro i h1 h2;rw[getElem_set];split
 ·rename_i e;subst e
  simp only[cE,getElem_map,getElem_range];exact(vP fun h=>absurd h (Nat.lt_irrefl _)).symm
 ·rfl
inductive IR|qzS|solved|unknown
 deriving DecidableEq
structure DC where
 exp:Nat
 next:Int
 vis:List Int->Option Int
 path:List Int
structure DD where
 t:Aa
 H:List Int->Int
 lim:Nat
 bound:Int
def pJ (t:Aa) (op:Nat):Int:=(t.ops.getD op aO).cost
section
variable {I:DD}{rec:List Int->Int->DC->IR × DC}{s:List Int}{g:Int}{op:Nat}{l:List Nat}{S:DC}
end
inductive CG (t:Aa):List Int->List Int->Int->Prop
 | goal {s:List Int}:Aq s t.goal->CG t s [] 0
 | step {s:List Int}{op:Nat}{p:List Int}{c:Int}:op<t.ops.length->A6 t s op->CG t (bm t s op) p c->CG t s ((op:Int)::p) (pJ t op+c)
theorem zZ {t:Aa}(hg:Af t) {op:Nat}(ho:op<t.ops.length):0<=pJ t op/\pJ t op<=1048576:=⟨(hg.op op ho).jc,(hg.op op ho).ly⟩
theorem CG.nn {t:Aa}(hg:Af t) {s p:List Int}{c:Int}(h:CG t s p c):0<=c:=by
 induction h with
 | goal _=>exact Int.le_refl _
 | step ho _ _ ih=>have:=zZ hg ho;omega
end
section
open Go.Sl Go

end
section
open Go.Sl
def c9 (n:Nat) (f:Nat->Int) (k:Nat):List Int:=(List.range n).map fun i=>if i<k then f i else 0
theorem qc2 (n:Nat) (f:Nat->Int) (k:Nat):(c9 n f k).length=n:=by simp[c9]
theorem qeQ (n:Nat) (f:Nat->Int):c9 n f 0=replicate n 0:=by
 apply ext_getElem (by simp[c9]);intro i h1 h2;simp[c9]
theorem qf6 {n:Nat}{f:Nat->Int}{k:Nat}:(c9 n f k).set k (f k)=c9 n f (k+1):=by
 apply ext_getElem (by simp[c9]);intro i h1 h2;rw[getElem_set];simp only[c9,getElem_map,getElem_range];split
 ·rename_i e;subst e;rw[if_pos om]
 ·by_cases h:i<k
  ·rw[if_pos h,if_pos om]
  ·rw[if_neg h,if_neg om]
theorem qmD {n:Nat}{f:Nat->Int}{k i:Nat}(h:i<n) (hk:i<k):(c9 n f k).getD i aa.dflt=f i:=by simp[c9,List.getD,h,hk]
def rf (l:List UInt8):Nat:=l.foldl (fun v c=>v*10+(c.toNat-48)) 0
theorem qlR {d:Nat}(h:d<10):(UInt8.ofNat (48+d)).toNat=48+d:=by rw[UInt8.toNat_ofNat'];omega
theorem qvA (u:Nat):rf (Go.Lib.decDigits u)=u/\Go.Lib.decDigits u≠[]/\∀ c∈Go.Lib.decDigits u,48<=c.toNat:=by
 induction u using Nat.strongRecOn with
 | _ u ih =>
  rw[Go.Lib.decDigits];by_cases h:u<10
  ·rw[dif_pos h]
   refine⟨?_,by simp,fun c hc=>?_⟩
   ·unfold rf;rw[foldl_cons,foldl_nil,qlR h];omega
   ·rw[mem_singleton.1 hc,qlR h];omega
  ·rw[dif_neg h]
   obtain⟨h1,h2,h3⟩:=ih (u / 10) om;have hd:=qlR (mod_lt u (show 10>0 by decide));refine⟨?_,by simp,fun c hc=>?_⟩
   ·unfold rf at h1 ⊢
    rw[foldl_append,h1,foldl_cons,foldl_nil,hd];omega
   ·rcases mem_append.1 hc with hc|hc
    ·exact h3 c hc
    ·rw[mem_singleton.1 hc,hd];omega
theorem qfT {n:Int}(h:0<=n):(rf (fS n):Int)=n/\fS n≠[]/\∀ c∈fS n,48<=c.toNat:=by
 obtain⟨u,rfl⟩:∃ u:Nat,n=u:=⟨n.toNat,by omega⟩
 unfold fS;rw[Go.Lib.itoa_nonneg];obtain⟨h1,h2,h3⟩:=qvA u;exact⟨by rw[h1],h2,h3⟩
theorem qh0 {p:UInt8->Bool}:∀ {a b:List UInt8},(∀ c∈a,p c=true)->(∀ x r,b=x::r->p x=false)->(a++b).takeWhile p=a
 | [],[],_,_=>rfl
 | [],x::r,_,h=>by rw[nil_append,takeWhile_cons,h x r rfl];rfl
 | c::a,b,h,hb=>by
  rw[cons_append,takeWhile_cons,h c mem_cons_self,if_pos rfl,qh0 (fun d hd=>h d (mem_cons_of_mem _ hd)) hb]
theorem qkE {S:Ak}{c:List Int}{s:Nat}(h:0<=c.getD s aa.dflt):(iZ S c s).takeWhile (fun x=>decide (x≠32))=fS (c.getD s aa.dflt):=by
 unfold iZ;refine qh0 (fun x hx=>?_) (fun x r e=>?_)
 ·have:=(qfT h).2.2 x hx
  rw[decide_eq_true_eq];rintro rfl;exact absurd this (by decide)
 ·cases hl:ix (dN lV (toL S c s)) with
  | nil=>rw[hl]at e;simp at e
  | cons y t =>
   rw[hl,flatMap_cons]at e;simp only[kp,cons_append,List.cons.injEq]at e;rw[<-e.1];rfl
theorem qvB {S:Ak}{c:List Int}{s t:Nat}(hs:0<=c.getD s aa.dflt) (ht:0<=c.getD t aa.dflt) (e:iZ S c s=iZ S c t):c.getD s aa.dflt=c.getD t aa.dflt:=by
 have h1:=qkE (S:=S) hs;rw[e,qkE ht]at h1;have:=(qfT hs).1;rw[<-h1,(qfT ht).1]at this;exact this.symm
theorem tV {α:Type} [DecidableEq α]:∀ {l m:List α},l.Nodup->(∀ x∈l,x∈m)->l.length<=m.length
 | [],_,_,_=>zero_le _
 | x::l,m,hn,h=>by
  obtain⟨h1,h2⟩:=nodup_cons.1 hn;have hx:=h x mem_cons_self;have ih:=tV (m:=m.erase x) h2 fun y hy=>(mem_erase_of_ne (fun e=>h1 (by rw[<-e];exact hy))).2 (h y (mem_cons_of_mem _ hy));rw[length_erase_of_mem hx]at ih;have:=length_pos_of_mem hx;simp only[length_cons];omega
theorem qjc {u:List ByteArray}{s:ByteArray}:u.any (fun x=>decide (x=s))=true↔s∈u:=by
 rw[any_eq_true];constructor
 ·rintro⟨x,hx,e⟩;rw[<-of_decide_eq_true e];exact hx
 ·intro h;exact⟨s,h,decide_eq_true rfl⟩
theorem qjd:∀ (l u:List ByteArray),u.Nodup->(l.foldl (fun u s=>if u.any (fun x=>decide (x=s)) then u else u++[s]) u).Nodup/\∀ x,x∈l.foldl (fun u s=>if u.any (fun x=>decide (x=s)) then u else u++[s]) u↔x∈u\/x∈l
 | [],u,h=>⟨h,fun x=>by simp⟩
 | s::l,u,h=>by
  rw[foldl_cons];by_cases hs:s∈u
  ·rw[if_pos (qjc.2 hs)]
   obtain⟨h1,h2⟩:=qjd l u h;refine⟨h1,fun x=>?_⟩;rw[h2,mem_cons];constructor
   ·rintro (h|h)
    ·exact .inl h
    ·exact .inr (.inr h)
   ·rintro (h|rfl|h)
    ·exact .inl h
    ·exact .inl hs
    ·exact .inr h
  ·rw[if_neg (fun h=>hs (qjc.1 h))]
   obtain⟨h1,h2⟩:=qjd l (u++[s]) (by rw[nodup_append];exact⟨h,by simp,fun x hx y hy e=>hs (by rw[mem_singleton.1 hy]at e;rw[<-e];exact hx)⟩);refine⟨h1,fun x=>?_⟩;rw[h2,mem_append,mem_singleton,mem_cons,or_assoc]
theorem qkF (l:List ByteArray):(bF l).Nodup:=(qjd l [] nodup_nil).1
theorem qje {l:List ByteArray}{x:ByteArray}:x∈bF l↔x∈l:=by
 have:=(qjd l [] nodup_nil).2 x
 simpa [bF] using this
theorem uR (l:List ByteArray):(cm l).length=l.length:=by simp[cm]
theorem qqV {l:List ByteArray}{i:Nat}(hi:i<l.length):(cm l).getD i aa.dflt=((bF l).findIdx (fun x=>decide (x=l[i])):Int):=by simp[cm,List.getD,hi]
theorem zW {l:List ByteArray}{i:Nat}(hi:i<l.length):0<=(cm l).getD i aa.dflt/\(cm l).getD i aa.dflt<(bF l).length:=by
 rw[qqV hi];have hm:l[i]∈bF l:=qje.2 (getElem_mem hi);have:=findIdx_lt_length_of_exists (xs:=bF l) (p:=fun x=>decide (x=l[i])) ⟨_,hm,decide_eq_true rfl⟩;omega
theorem qns {l:List ByteArray}{v:Nat}(hv:v<(bF l).length):∃ i,i<l.length/\(cm l).getD i aa.dflt=(v:Int):=by
 have hm:(bF l)[v]∈l:=qje.1 (getElem_mem hv);obtain⟨i,hi,he⟩:=getElem_of_mem hm;refine⟨i,hi,?_⟩;rw[qqV hi,he];congr 1;rw[findIdx_eq hv];refine⟨decide_eq_true rfl,fun j hj=>?_⟩;rw[decide_eq_false_iff_not];intro e;exact absurd e (pairwise_iff_getElem.1 (qkF l) j v om hv hj)
theorem wO (l:List ByteArray):(bF l).length<=l.length:=tV (qkF l) fun _ hx=>qje.1 hx
theorem qnt (S:Ak) (c:List Int):(fj S c).length=S.st.toNat:=by simp[fj]
theorem qnu {S:Ak}{l:List ByteArray}(hl:l.length=S.st.toNat):(bF l).length<=(bF (fj S (cm l))).length:=by
 have gh:∀ v:Nat,v<(bF l).length->∃ i,i<l.length/\(cm l).getD i aa.dflt=(v:Int):=fun v hv=>qns hv
 let F:Nat->ByteArray:=fun v=>if h:v<(bF l).length then ⟨(iZ S (cm l) (Classical.choose (gh v h))).toArray⟩ else ⟨#[]⟩
 have hF:∀ v (h:v<(bF l).length),∃ i,i<l.length/\(cm l).getD i aa.dflt=(v:Int)/\F v=⟨(iZ S (cm l) i).toArray⟩:=fun v h=>by
  have hs:=Classical.choose_spec (gh v h);exact⟨_,hs.1,hs.2,by simp only[F,dif_pos h]⟩
 have hle:=tV (l:=(List.range (bF l).length).map F) (m:=bF (fj S (cm l))) ?_ ?_
 ·simpa using hle
 ·rw[nodup_iff_pairwise_ne,pairwise_map]
  refine Pairwise.imp_of_mem (fun {a b} ha hb bD=>?_) pairwise_lt_range;rw[mem_range]at ha hb;obtain⟨i,hi,iK,hFi⟩:=hF a ha;obtain⟨j,hj,kz,hFj⟩:=hF b hb;rw[hFi,hFj];intro e;have e2:iZ S (cm l) i=iZ S (cm l) j:=by
   injection e with e
   have:=congrArg Array.toList e
   simpa using this
  have:=qvB (zW hi).1 (zW hj).1 e2;rw[iK,kz]at this;omega
 ·intro x hx
  obtain⟨v,hv,rfl⟩:=mem_map.1 hx;rw[mem_range]at hv;obtain⟨i,hi,iK,hFi⟩:=hF v hv;rw[qje,hFi];unfold fj;exact mem_map.2 ⟨i,by rw[mem_range];omega,rfl⟩
theorem qex:∀ {N:Nat}{l:List Int},l.Nodup->(∀ v∈l,0<=v/\v<(N:Int))->l.length<=N
 | 0,l,_,h=>by
  cases l with
  | nil=>exact Nat.le_refl _
  | cons x r=>have:=h x mem_cons_self;omega
 | N+1,l,hn,h=>by
  have ih:=qex (N:=N) (l:=l.filter fun v=>decide (v≠(N:Int))) (hn.filter _) (fun v hv=>by
   simp only[mem_filter,decide_eq_true_eq]at hv;have:=h v hv.1
   omega)
  have h1:(l.filter fun v=>decide (v≠(N:Int))).length+(l.filter fun v => !decide (v≠(N:Int))).length=l.length:=by
   rw[<-countP_eq_length_filter,<-countP_eq_length_filter];have:=length_eq_countP_add_countP (fun v=>decide (v≠(N:Int))) (l:=l);simp only[Bool.not_eq_true,decide_eq_true_eq]at this;rw[this];congr 1;apply countP_congr;intro a _;simp
  have h2:(l.filter fun v => !decide (v≠(N:Int))).length<=1:=by
   have xw:=hn.filter (fun v => !decide (v≠(N:Int)));have bZ:∀ v∈(l.filter fun v => !decide (v≠(N:Int))),v=(N:Int):=fun v hv=>by simp only[mem_filter,Bool.not_eq_true',decide_eq_false_iff_not,ne_eq,Classical.not_not]at hv;exact hv.2
   generalize (l.filter fun v => !decide (v≠(N:Int)))=m at xw bZ ⊢
   match m,xw,bZ with
   | [],_,_=>simp
   | [_],_,_=>simp
   | a::b::r,xw,bZ =>
    have e1:=bZ a (by simp);have e2:=bZ b (by simp);subst e1;rw[e2]at xw;simp at xw
  omega
theorem qmZ:∀ {l:List Int}{k:Nat}{v:Int},k<l.length->((l.set k v).map Int.toNat).sum+(l.getD k aa.dflt).toNat=(l.map Int.toNat).sum+v.toNat
 | x::r,0,v,_=>by simp only[set_cons_zero,map_cons,sum_cons,getD_cons_zero];omega
 | x::r,k+1,v,h=>by
  have:=qmZ (l:=r) (k:=k) (v:=v) (by simpa using h);simp only[set_cons_succ,map_cons,sum_cons,getD_cons_succ];omega
structure Bj (n:Nat) (a:AL):Prop where
 s0:0<=a.src
 s1:a.src<n
 d0:0<=a.dst
 d1:a.dst<n
 w0:0<=a.wt
 w1:a.wt<=1048576
structure AN (n:Nat) (s:CF):Prop where
 ol:s.out.length=n
 wl:s.waits.length=n
 ob:∀ i,i<n->0<=s.out.getD i aa.dflt/\s.out.getD i aa.dflt<=1125899906842624
 qb:∀ i∈s.q,0<=i/\i<n
 qn:s.q.Nodup
 qw:∀ i:Int,0<=i->i<n->(s.waits.getD i.toNat ah.dflt=true↔i∈s.q)
theorem AN.ql {n:Nat}{s:CF}(h:AN n s):s.q.length<=n:=qex h.qn h.qb
def l8 (s:CF):Nat:=2*(s.out.map Int.toNat).sum+s.q.length
def lJ (s:CF) (a:AL):Prop:=s.out.getD a.dst.toNat aa.dflt<=s.out.getD a.src.toNat aa.dflt+a.wt
section
variable {n:Nat}{s:CF}{i:Int}{a:AL}
theorem toNat_ne {x y:Int}(hx:0<=x) (hy:0<=y) (h:x.toNat=y.toNat):x=y:=by omega
theorem AN.rel (h:AN n s) (hi:0<=i/\i<n) (ha:Bj n a):AN n (cF i s a)/\l8 (cF i s a)<=l8 s/\(∀ j∈s.q,j∈(cF i s a).q)/\(∀ j,(cF i s a).out.getD j aa.dflt<=s.out.getD j aa.dflt) /\
  ((cF i s a).out=s.out/\s.out.getD a.dst.toNat aa.dflt<=s.out.getD i.toNat aa.dflt+a.wt\/i≠a.dst/\(cF i s a).out=s.out.set a.dst.toNat (s.out.getD i.toNat aa.dflt+a.wt)/\s.out.getD i.toNat aa.dflt+a.wt<s.out.getD a.dst.toNat aa.dflt/\a.dst∈(cF i s a).q):=by
 obtain⟨_,_,d0,d1,w0,w1⟩:=ha;have q6:=h.ob i.toNat om;have uE:=h.ob a.dst.toNat om;unfold cF;split
 ·rename_i hc
  exact⟨h,Nat.le_refl _,fun _ h=>h,fun _=>Int.le_refl _,.inl ⟨rfl,hc⟩⟩
 ·rename_i hc
  have cY:i≠a.dst:=fun e=>by rw[e]at hc q6;omega
  have hob:∀ j,j<n->0<=(s.out.set a.dst.toNat (s.out.getD i.toNat aa.dflt+a.wt)).getD j aa.dflt/\(s.out.set a.dst.toNat (s.out.getD i.toNat aa.dflt+a.wt)).getD j aa.dflt<=1125899906842624:=fun j hj=>by
   rw[ia];split
   ·omega
   ·exact h.ob j hj
  have hle:∀ j,(s.out.set a.dst.toNat (s.out.getD i.toNat aa.dflt+a.wt)).getD j aa.dflt<=s.out.getD j aa.dflt:=fun j=>by
   rw[ia];split
   ·rename_i hj;rw[<-hj.1];omega
   ·exact Int.le_refl _
  have qw9:=qmZ (l:=s.out) (k:=a.dst.toNat) (v:=s.out.getD i.toNat aa.dflt+a.wt) (by rw[h.ol];omega);have hm:((s.out.set a.dst.toNat (s.out.getD i.toNat aa.dflt+a.wt)).map Int.toNat).sum+1<=(s.out.map Int.toNat).sum:=by
   have:(s.out.getD i.toNat aa.dflt+a.wt).toNat<(s.out.getD a.dst.toNat aa.dflt).toNat:=by omega
   omega
  split
  ·rename_i vM
   refine⟨⟨by rw[length_set];exact h.ol,h.wl,hob,h.qb,h.qn,h.qw⟩,by unfold l8;dsimp only;omega,fun _ h=>h,hle,.inr ⟨cY,rfl,by omega,(h.qw _ d0 d1).1 vM⟩⟩
  ·rename_i vM
   have hnq:a.dst∉s.q:=fun hq=>vM ((h.qw _ d0 d1).2 hq);refine⟨⟨by rw[length_set];exact h.ol,by rw[length_set];exact h.wl,hob,fun j hj=>?_,?_,fun j qU hj1=>?_⟩,?_,fun _ h=>mem_append_left _ h,hle,.inr ⟨cY,rfl,by omega,by simp⟩⟩
   ·rcases mem_append.1 hj with hj|hj
    ·exact h.qb j hj
    ·rw[mem_singleton.1 hj];exact⟨d0,d1⟩
   ·rw[nodup_append]
    exact⟨h.qn,by simp,fun x hx y hy e=>hnq (by rw[mem_singleton.1 hy]at e;exact e ▸ hx)⟩
   ·simp only
    rw[ia,h.wl];by_cases e:a.dst=j
    ·subst e;rw[if_pos ⟨rfl,by omega⟩];simp
    ·rw[if_neg (fun hh=>e (toNat_ne d0 qU hh.1)),h.qw j qU hj1]
     simp[Ne.symm e]
   ·unfold l8
    simp only[length_append,length_cons,length_nil];omega
theorem AN.y6:∀ {L:List AL}{s:CF},AN n s->0<=i/\i<n->(∀ a∈L,Bj n a)->AN n (L.foldl (cF i) s)/\l8 (L.foldl (cF i) s)<=l8 s/\∀ j,(L.foldl (cF i) s).out.getD j aa.dflt<=s.out.getD j aa.dflt
 | [],s,h,_,_=>⟨h,Nat.le_refl _,fun _=>Int.le_refl _⟩
 | a::L,s,h,hi,hL=>by
  obtain⟨h1,h2,_,h3,_⟩:=h.rel hi (hL a mem_cons_self);obtain⟨g1,g2,g3⟩:=h1.y6 hi fun b hb=>hL b (mem_cons_of_mem _ hb);exact⟨g1,Nat.le_trans g2 h2,fun j=>Int.le_trans (g3 j) (h3 j)⟩
theorem AN.pop {i:Int}{r:List Int}(h:AN n s) (hq:s.q=i::r):AN n ⟨s.out,s.waits.set i.toNat false,r⟩/\l8 ⟨s.out,s.waits.set i.toNat false,r⟩+1=l8 s/\0<=i/\i<n:=by
 have q6:=h.qb i (by rw[hq];simp);have hn:=h.qn;rw[hq]at hn;obtain⟨hn1,xw⟩:=nodup_cons.1 hn;refine⟨⟨h.ol,by rw[length_set];exact h.wl,h.ob,fun j hj=>h.qb j (by rw[hq];exact mem_cons_of_mem _ hj),xw,fun j qU hj1=>?_⟩,by unfold l8;rw[hq];simp;omega,q6⟩;simp only;rw[ia,h.wl];by_cases e:i=j
 ·subst e;rw[if_pos ⟨rfl,by omega⟩];simp[hn1]
 ·rw[if_neg (fun hh=>e (toNat_ne q6.1 qU hh.1)),h.qw j qU hj1,hq]
  simp[Ne.symm e]
variable {arcs:List (List AL)}
theorem AN.step (h:AN n s) (ha:∀ l∈arcs,∀ a∈l,Bj n a):AN n (bB arcs s)/\(cR s=false->l8 (bB arcs s)<l8 s)/\∀ j,(bB arcs s).out.getD j aa.dflt<=s.out.getD j aa.dflt:=by
 unfold bB;split
 ·rename_i hq
  exact⟨h,fun hd=>by simp[cR,hq]at hd,fun _=>Int.le_refl _⟩
 ·rename_i i r hq
  obtain⟨h1,h2,h3⟩:=h.pop hq
  obtain⟨g1,g2,g3⟩:=h1.y6 (L:=arcs.getD i.toNat []) h3 (fun a hm=>by
   by_cases hl:i.toNat<arcs.length
   ·exact ha _ (by rw[getD_eq_getElem?_getD,getElem?_eq_getElem hl];exact getElem_mem hl) a hm
   ·rw[getD_eq_getElem?_getD,getElem?_eq_none om]at hm;simp at hm)
  exact⟨g1,fun _=>by omega,g3⟩
theorem AN.vj (h:AN n s) (ha:∀ l∈arcs,∀ a∈l,Bj n a):∀ k,AN n (gE (bB arcs) k s)/\(cR (gE (bB arcs) k s)=false->l8 (gE (bB arcs) k s)+k<=l8 s)/\∀ j,(gE (bB arcs) k s).out.getD j aa.dflt<=s.out.getD j aa.dflt
 | 0=>⟨h,fun _=>Nat.le_refl _,fun _=>Int.le_refl _⟩
 | k+1=>by
  obtain⟨h1,h2,h3⟩:=AN.vj h ha k;obtain⟨g1,g2,g3⟩:=h1.step ha;refine⟨g1,fun hd=>?_,fun j=>Int.le_trans (g3 j) (h3 j)⟩;have o9:cR (gE (bB arcs) k s)=false:=by
   cases he:cR (gE (bB arcs) k s) with
   | false=>rfl
   | true =>
    have:gE (bB arcs) (k+1) s=gE (bB arcs) k s:=qd4 arcs _ he;rw[this,he]at hd;cases hd
  have a1:=h2 o9;have a2:=g2 o9;show l8 (bB arcs _)+(k+1)<=l8 s;omega
theorem AN.ends (h:AN n s) (ha:∀ l∈arcs,∀ a∈l,Bj n a):cR (gE (bB arcs) (l8 s+1) s)=true:=by
 obtain⟨_,h2,_⟩:=h.vj ha (l8 s+1)
 cases he:cR (gE (bB arcs) (l8 s+1) s) with
 | true=>rfl
 | false=>have:=h2 he;omega
theorem AN.fix (h:AN n s) (ha:∀ l∈arcs,∀ a∈l,Bj n a):fixF (bB arcs) cR s=gE (bB arcs) (l8 s+1) s:=fixF_eq (qd4 arcs) (h.ends ha)
end
section
variable {α:Type}{v d:α}
theorem qc3:∀ {fr:List Int}{l:List α},(fr.foldl (fun o i=>o.set i.toNat v) l).length=l.length
 | [],_=>rfl
 | i::fr,l=>by rw[foldl_cons,qc3,length_set]
theorem qfE:∀ {fr:List Int}{l:List α}{j:Nat},j<l.length->(∃ i∈fr,i.toNat=j)->(fr.foldl (fun o i=>o.set i.toNat v) l).getD j d=v
 | [],_,_,_,h=>by obtain⟨_,h,_⟩:=h;simp at h
 | i::fr,l,j,hj,h=>by
  rw[foldl_cons];by_cases h2:∃ i∈fr,i.toNat=j
  ·exact qfE (by rw[length_set];exact hj) h2
  ·obtain⟨i',hm,he⟩:=h
   rcases mem_cons.1 hm with rfl|hm
   ·have key:∀ {fr:List Int}{l:List α},(¬∃ i∈fr,i.toNat=j)->(fr.foldl (fun o i=>o.set i.toNat v) l).getD j d=l.getD j d:=by
     intro fr
     induction fr with
     | nil=>intro l _;rfl
     | cons i fr ih =>
      intro l hn;rw[foldl_cons,ih (fun⟨k,hk,e⟩=>hn ⟨k,mem_cons_of_mem _ hk,e⟩),ia,if_neg (fun hh=>hn ⟨i,mem_cons_self,hh.1⟩)]
    rw[key h2,ia,if_pos ⟨he,hj⟩]
   ·exact absurd ⟨i',hm,he⟩ h2
theorem qef:∀ {fr:List Int}{l:List α}{j:Nat},(¬∃ i∈fr,i.toNat=j)->(fr.foldl (fun o i=>o.set i.toNat v) l).getD j d=l.getD j d
 | [],_,_,_=>rfl
 | i::fr,l,j,hn=>by rw[foldl_cons,qef (fun⟨k,hk,e⟩=>hn ⟨k,mem_cons_of_mem _ hk,e⟩),ia,if_neg (fun hh=>hn ⟨i,mem_cons_self,hh.1⟩)]
end
section
variable {n:Nat}{fr:List Int}
theorem qmF (h1:fr.Nodup) (h2:∀ i∈fr,0<=i/\i<n):AN n (dG n fr) where
 ol:=by unfold dG;simp only;rw[qc3];simp
 wl:=by unfold dG;simp only;rw[qc3];simp
 ob i hi:=by
  unfold dG;simp only;by_cases h:∃ k∈fr,k.toNat=i
  ·rw[qfE (by simpa using hi) h];omega
  ·rw[qef h,qeJ hi];omega
 qb:=h2
 qn:=h1
 qw i h0 h1:=by
  unfold dG;simp only;by_cases h:∃ k∈fr,k.toNat=i.toNat
  ·rw[qfE (by simp;omega) h]
   obtain⟨k,hk,e⟩:=h;have:=h2 k hk;rw[toNat_ne this.1 h0 e]at hk;simp[hk]
  ·rw[qef h,qeJ om]
   constructor
   ·intro hh;cases hh
   ·intro hh;exact absurd ⟨i,hh,rfl⟩ h
theorem qnU {i:Int}(hi:i∈fr) (h0:0<=i) (h1:i<n):(dG n fr).out.getD i.toNat aa.dflt=0:=by
 unfold dG;exact qfE (by simp;omega) ⟨i,hi,rfl⟩
theorem qpy {i:Nat}(hi:i<n) (h:¬∃ k∈fr,k.toNat=i):(dG n fr).out.getD i aa.dflt=1125899906842624:=by
 unfold dG;simp only;rw[qef h,qeJ hi]
variable {s:CF}{i:Int}{A:AL->Prop}
theorem qpz (hA:∀ a,A a->Bj n a):∀ {L:List AL}{s:CF},AN n s->0<=i/\i<n->(∀ a∈L,Bj n a/\a.src=i)->(∀ a,A a->a.src∈s.q\/lJ s a\/a∈L)->∀ a,A a->a.src∈(L.foldl (cF i) s).q\/lJ (L.foldl (cF i) s) a
 | [],s,_,_,_,h,a,ha=>by
  rcases h a ha with h|h|h
  ·exact .inl h
  ·exact .inr h
  ·simp at h
 | a0::L,s,hs,hi,hL,h,a,ha=>by
  obtain⟨rB,sY⟩:=hL a0 mem_cons_self;obtain⟨h1,_,hq,hle,hd⟩:=hs.rel hi rB;refine qpz hA h1 hi (fun b hb=>hL b (mem_cons_of_mem _ hb)) (fun b hb=>?_) a ha;have hbo:=hA b hb;rcases h b hb with h|h|h
  ·exact .inl (hq _ h)
  ·rcases hd with ⟨e,_⟩|⟨_,e,bD,hm⟩
   ·right;left;unfold lJ at h ⊢;rw[e];exact h
   ·by_cases hbs:b.src=a0.dst
    ·left;rw[hbs];exact hm
    ·right;left
     unfold lJ at h ⊢;have h2:=hle b.dst.toNat;have h3:(cF i s a0).out.getD b.src.toNat aa.dflt=s.out.getD b.src.toNat aa.dflt:=by
      rw[e,ia,if_neg (fun hh=>hbs (toNat_ne hbo.s0 rB.d0 hh.1.symm))]
     omega
  ·rcases mem_cons.1 h with rfl|h
   ·right;left
    unfold lJ;rcases hd with ⟨e,hc⟩|⟨cY,e,_,_⟩
    ·rw[e,sY];exact hc
    ·have g1:=rB.d1
     have g0:=rB.d0;rw[e,ia,ia,if_pos ⟨rfl,by rw[hs.ol];omega⟩,if_neg (fun hh=>cY (by rw[<-sY];exact toNat_ne rB.s0 rB.d0 hh.1.symm)),sY];exact Int.le_refl _
   ·exact .inr (.inr h)
variable {arcs:List (List AL)}
structure Cc (n:Nat) (arcs:List (List AL)):Prop where
 ok:∀ l∈arcs,∀ a∈l,Bj n a
 src:∀ i,i<arcs.length->∀ a∈arcs.getD i [],a.src=(i:Int)
 len:arcs.length=n
def BG (arcs:List (List AL)) (a:AL):Prop:=a∈arcs.getD a.src.toNat []/\0<=a.src/\a.src<arcs.length
theorem qfF {α:Type}{l:List (List α)}{i:Nat}(h:i<l.length):l.getD i []∈l:=by rw[getD_eq_getElem?_getD,getElem?_eq_getElem h];exact getElem_mem h
theorem quV (ha:Cc n arcs) (h:AN n s) (cu:∀ a,BG arcs a->a.src∈s.q\/lJ s a):∀ a,BG arcs a->a.src∈(bB arcs s).q\/lJ (bB arcs s) a:=by
 unfold bB;split
 ·exact cu
 ·rename_i i r hq
  obtain⟨h1,_,h3⟩:=h.pop hq;have cI:i.toNat<arcs.length:=by rw[ha.len];omega
  refine qpz (fun a gY=>ha.ok _ (qfF (by have:=gY.2;omega)) a gY.1) h1 h3 (fun a hm=>⟨ha.ok _ (qfF cI) a hm,by have:=ha.src _ cI a hm;omega⟩) (fun a gY=>?_);rcases cu a gY with hh|hh
  ·rw[hq]at hh
   rcases mem_cons.1 hh with e|hh
   ·right;right;rw[<-e];exact gY.1
   ·exact .inl hh
  ·exact .inr (.inl hh)
theorem qtR (ha:Cc n arcs) (h:AN n s) (cu:∀ a,BG arcs a->a.src∈s.q\/lJ s a):∀ k,∀ a,BG arcs a->a.src∈(gE (bB arcs) k s).q\/lJ (gE (bB arcs) k s) a
 | 0=>cu
 | k+1=>quV ha (h.vj ha.ok k).1 (qtR ha h cu k)
theorem qtS (ha:Cc n arcs) (h1:fr.Nodup) (h2:∀ i∈fr,0<=i/\i<n) :
  AN n (fixF (bB arcs) cR (dG n fr))/\(∀ a,BG arcs a->lJ (fixF (bB arcs) cR (dG n fr)) a)/\∀ i∈fr,(fixF (bB arcs) cR (dG n fr)).out.getD i.toNat aa.dflt=0:=by
 have hb:=qmF h1 h2;rw[hb.fix ha.ok];have hd:=hb.ends ha.ok;obtain⟨g1,_,g3⟩:=hb.vj ha.ok (l8 (dG n fr)+1);refine⟨g1,fun a gY=>?_,fun i hi=>?_⟩
 ·have:=qtR ha hb (fun b gY=>by
   by_cases hm:b.src∈fr
   ·exact .inl hm
   ·right
    have ho:=ha.ok _ (qfF (by have:=gY.2;omega)) b gY.1;obtain⟨s0,s1,d0,d1,w0,w1⟩:=ho;unfold lJ;rw[qpy (i:=b.src.toNat) om (fun⟨k,hk,e⟩=>hm (by rw[<-toNat_ne (h2 k hk).1 s0 e];exact hk))];have:=(hb.ob b.dst.toNat om).2
    omega) (l8 (dG n fr)+1) a gY
  rcases this with hq|cu
  ·unfold cR at hd
   rw[isEmpty_iff.1 hd]at hq;simp at hq
  ·exact cu
 ·have h0:=h2 i hi
  have a1:=g3 i.toNat;rw[qnU hi h0.1 h0.2]at a1;have a2:=(g1.ob i.toNat om).1;omega
end
theorem quq {g:List Bool}{k:Nat}:∀ {m i:Nat},wM g k m=some i->i<m
 | 0,_,h=>by cases h
 | m+1,i,h=>by
  unfold wM at h;split at h
  ·cases h;exact lt_succ_self _
  ·exact lt_succ_of_lt (quq h)
theorem qur {g:List Bool}:∀ {K:Nat},2<=g.length->K<=g.length->(wL g K).1<(wL g K).2/\(wL g K).2<g.length
 | 0,h2,_=>⟨lt_succ_self _,h2⟩
 | K+1,h2,hK=>by
  unfold wL;split
  ·exact⟨lt_succ_self _,h2⟩
  ·split
   ·rename_i i hi;exact⟨quq hi,hK⟩
   ·exact qur h2 om
theorem qus {g:List Bool}(h2:2<=g.length):(nb g).1<(nb g).2/\(nb g).2<g.length:=qur h2 (Nat.le_refl _)
theorem qlT:∀ {l:List Int}{a:Int},a<=l.foldl max a/\∀ x∈l,x<=l.foldl max a
 | [],a=>⟨Int.le_refl _,fun x hx=>by simp at hx⟩
 | y::l,a=>by
  obtain⟨h1,h2⟩:=qlT (l:=l) (a:=max a y);rw[foldl_cons];refine⟨by omega,fun x hx=>?_⟩;rcases mem_cons.1 hx with rfl|hx
  ·omega
  ·exact h2 x hx
theorem qq2:∀ {l:List Int}{a:Int},l.foldl max a=a\/l.foldl max a∈l
 | [],_=>.inl rfl
 | y::l,a=>by
  rw[foldl_cons];rcases qq2 (l:=l) (a:=max a y) with h|h
  ·by_cases e:a<=y
   ·right;rw[h,show max a y=y from by omega];exact mem_cons_self
   ·left;rw[h];omega
  ·exact .inr (mem_cons_of_mem _ h)
theorem qq3 {l:List Int}{x:Int}(hx:x∈l):x<=fW l:=by
 cases l with
 | nil=>simp at hx
 | cons y l =>
  unfold fW;rcases mem_cons.1 hx with rfl|hx
  ·exact(qlT (l:=l) (a:=x)).1
  ·exact(qlT (l:=l) (a:=y)).2 x hx
theorem qjg {l:List Int}(h:0<l.length):fW l∈l:=by
 cases l with
 | nil=>simp at h
 | cons y l =>
  unfold fW;rcases qq2 (l:=l) (a:=y) with h|h
  ·show l.foldl max y∈y::l
   rw[h];exact mem_cons_self
  ·exact mem_cons_of_mem _ h
def jl (g:List Bool) (c:List Int) (k m:Nat):List Bool:=(List.range k).map fun (x:Nat)=>(((List.range m).reverse.find? fun s=>decide (c.getD s aa.dflt=(x:Int))).map fun s=>g.getD s ah.dflt).getD false
theorem zX {g:List Bool}{c:List Int}{k m:Nat}:(jl g c k m).length=k:=by simp[jl]
theorem qq4 {g:List Bool}{c:List Int}{k:Nat}:jl g c k 0=replicate k false:=by
 apply ext_getElem (by simp[jl]);intro i h1 h2;simp[jl]
theorem qq5 {g:List Bool}{c:List Int}{k m i:Nat}(hi:i<k):(jl g c k m).getD i ah.dflt=(((List.range m).reverse.find? fun s=>decide (c.getD s aa.dflt=(i:Int))).map fun s=>g.getD s ah.dflt).getD false:=by
 unfold jl;rw[getD_eq_getElem?_getD,getElem?_map,getElem?_range hi];rfl
theorem qq6 {g:List Bool}{c:List Int}{k m:Nat}(h0:0<=c.getD m aa.dflt) (h1:c.getD m aa.dflt<k) :
  jl g c k (m+1)=(jl g c k m).set (c.getD m aa.dflt).toNat (g.getD m ah.dflt):=by
 apply ext_getElem (by rw[length_set,zX,zX]);intro i h2 h3;have hi:i<k:=by rwa[zX]at h2
 have a1:(jl g c k (m+1))[i]=(jl g c k (m+1)).getD i ah.dflt:=(getD_at h2).symm;have a2:=(getD_at (d:=ah.dflt) h3).symm;rw[a1,a2,ia,zX,qq5 hi,range_succ,reverse_append,reverse_cons,reverse_nil,nil_append,singleton_append,find?_cons];by_cases e:(c.getD m aa.dflt).toNat=i
 ·have e2:c.getD m aa.dflt=(i:Int):=by omega
  rw[if_pos ⟨e,hi⟩,decide_eq_true e2];rfl
 ·have e2:¬c.getD m aa.dflt=(i:Int):=by omega
  rw[if_neg (fun h=>e h.1),decide_eq_false e2,qq5 hi]
end
section
open Go.Sl Go
def DL (w0:World) (Γ:List HP) (φ:World->Prop):Prop:=∀ (w:World) (Δ:List HP),Sat w0 w (Δ++Γ)->φ w
end
section
open Go.Sl
section
variable {t:Aa}
end
structure AS where
 st:List (List Int)
 g:List Int
 wt:List Bool
section
variable {t:Aa}{H:List Int->Int}{B:Option Int}{S:AS}
end
section
variable {t:Aa}{H:List Int->Int}{lim f:Nat}{next:Int}{e:Nat}{bs:List Int}
structure Dh (t:Aa) (H:List Int->Int):Prop where
 cr:Af t
 nn:∀ y,0<=H y
 le:∀ y,H y<=inf
end
class BK {α:Type}(lt:α->α->Bool):Prop where
 asym:∀ a b,lt a b=true->lt b a=false
 trans:∀ a b c,lt b a=false->lt c b=false->lt c a=false
abbrev hle {α:Type}(lt:α->α->Bool) (a b:α):Prop:=lt b a=false
section
variable {α:Type}{d:α}{lt:α->α->Bool}
theorem yi [BK lt] (a:α):hle lt a a:=by
 show lt a a=false
 cases h:lt a a with
 | false=>rfl
 | true=>exact absurd (BK.asym a a h) (by rw[h];decide)
theorem qed [BK lt] {a b c:α}(h1:hle lt a b) (h2:hle lt b c):hle lt a c:=BK.trans a b c h1 h2
theorem qmw [BK lt] {a b:α}(h:lt a b=true):hle lt a b:=BK.asym a b h
abbrev hg (d:α) (xs:List α) (i:Nat):α:=xs.getD i d
def Av (d:α) (lt:α->α->Bool) (xs:List α):Prop:=∀ i,0<i->i<xs.length->hle lt (hg d xs ((i-1) / 2)) (hg d xs i)
def sw (d:α) (xs:List α) (i j:Nat):List α:=(xs.set i (hg d xs j)).set j (hg d xs i)
theorem yj (xs:List α) (i j:Nat):(sw d xs i j).length=xs.length:=by simp[sw]
theorem qtM {xs:List α}{i k:Nat}{x:α}(hi:i<xs.length):hg d (xs.set i x) k=if k=i then x else hg d xs k:=by
 simp only[hg,getD_eq_getElem?_getD,getElem?_set];by_cases h:i=k
 ·subst h;simp[hi]
 ·rw[if_neg h,if_neg (Ne.symm h)]
theorem nM {xs:List α}{i j k:Nat}(hi:i<xs.length) (hj:j<xs.length):hg d (sw d xs i j) k=if k=j then hg d xs i else if k=i then hg d xs j else hg d xs k:=by
 unfold sw;rw[qtM (by simpa using hj),qtM hi]
theorem ur {xs:List α}{i j:Nat}(hi:i<xs.length) (hj:j<xs.length):(sw d xs i j).Perm xs:=by
 have h1:hg d xs i=xs[i]:=getD_at hi;have h2:hg d xs j=xs[j]:=getD_at hj;unfold sw;rw[h1,h2];exact set_set_perm hi hj
structure C4 (d:α) (lt:α->α->Bool) (xs:List α) (j:Nat):Prop where
 inb:j<xs.length
 rest:∀ i,0<i->i<xs.length->i≠j->hle lt (hg d xs ((i-1) / 2)) (hg d xs i)
 over:∀ i,0<i->i<xs.length->(i-1) / 2=j->0<j->hle lt (hg d xs ((j-1) / 2)) (hg d xs i)
theorem C4.done {xs:List α}{j:Nat}(h:C4 d lt xs j) (hd:(j-1) / 2=j\/hle lt (hg d xs ((j-1) / 2)) (hg d xs j)):Av d lt xs:=by
 intro i h0 h1;by_cases ie:i=j
 ·subst ie
  rcases hd with hd|hd
  ·omega
  ·exact hd
 ·exact h.rest i h0 h1 ie
theorem C4.step [BK lt] {xs:List α}{j:Nat}(h:C4 d lt xs j) (hj:(j-1) / 2≠j) (hl:lt (hg d xs j) (hg d xs ((j-1) / 2))=true):C4 d lt (sw d xs ((j-1) / 2) j) ((j-1) / 2):=by
 have bD:=h.inb;have hp:(j-1) / 2<xs.length:=by omega
 have h0j:0<j:=by omega
 have ow:=qmw hl;refine⟨by rw[yj];exact hp,fun i h0 h1 cY=>?_,fun i h0 h1 he ij=>?_⟩
 ·rw[yj]at h1
  rw[nM hp bD,nM hp bD];by_cases ie:i=j
  ·subst ie
   have e1:¬(i-1) / 2=i:=by omega
   rw[if_neg e1,if_pos rfl,if_pos rfl];exact ow
  ·rw[if_neg ie,if_neg cY]
   by_cases hpj:(i-1) / 2=j
   ·rw[if_pos hpj]
    exact h.over i h0 h1 hpj h0j
   ·rw[if_neg hpj]
    by_cases uj:(i-1) / 2=(j-1) / 2
    ·rw[if_pos uj]
     have:=h.rest i h0 h1 ie;rw[uj]at this;exact qed ow this
    ·rw[if_neg uj]
     exact h.rest i h0 h1 ie
 ·rw[yj]at h1
  rw[nM hp bD,nM hp bD];have hr:=h.rest ((j-1) / 2) ij hp om;have e1:¬((j-1) / 2-1) / 2=j:=by omega
  have e2:¬((j-1) / 2-1) / 2=(j-1) / 2:=by omega
  rw[if_neg e1,if_neg e2];by_cases ie:i=j
  ·rw[if_pos ie];exact hr
  ·rw[if_neg ie]
   by_cases hip:i=(j-1) / 2
   ·omega
   ·rw[if_neg hip]
    have:=h.rest i h0 h1 ie;rw[he]at this;exact qed hr this
theorem qmx {xs:List α}{x:α}(h:Av d lt xs):C4 d lt (xs++[x]) xs.length:=by
 have oy:∀ k,k<xs.length->hg d (xs++[x]) k=hg d xs k:=fun k hk=>by simp[hg,getD_eq_getElem?_getD,getElem?_append_left hk]
 refine⟨by simp,fun i h0 h1 cY=>?_,fun i h0 h1 he hp=>?_⟩
 ·simp only[length_append,length_cons,length_nil]at h1
  rw[oy _ om,oy _ om];exact h i h0 om
 ·simp only[length_append,length_cons,length_nil]at h1
  omega
structure CO (d:α) (lt:α->α->Bool) (xs:List α) (n i:Nat):Prop where
 le:n<=xs.length
 rest:∀ c,0<c->c<n->(c-1) / 2≠i->hle lt (hg d xs ((c-1) / 2)) (hg d xs c)
 over:∀ c,0<c->c<n->(c-1) / 2=i->0<i->hle lt (hg d xs ((i-1) / 2)) (hg d xs c)
def Cn (d:α) (lt:α->α->Bool) (xs:List α) (n:Nat):Prop:=∀ c,0<c->c<n->hle lt (hg d xs ((c-1) / 2)) (hg d xs c)
theorem CO.leaf {xs:List α}{n i:Nat}(h:CO d lt xs n i) (hl:n<=2*i+1):Cn d lt xs n:=fun c h0 h1=>h.rest c h0 h1 om
theorem CO.done [BK lt] {xs:List α}{n i j:Nat}(h:CO d lt xs n i) (cV:∀ c,0<c->c<n->(c-1) / 2=i->hle lt (hg d xs j) (hg d xs c)) (ow:hle lt (hg d xs i) (hg d xs j)):Cn d lt xs n:=by
 intro c h0 h1;by_cases hc:(c-1) / 2=i
 ·have:=cV c h0 h1 hc
  rw[hc];exact qed ow this
 ·exact h.rest c h0 h1 hc
theorem CO.step [BK lt] {xs:List α}{n i j:Nat}(h:CO d lt xs n i) (hj:j=2*i+1\/j=2*i+2) (ky:j<n) (cV:∀ c,0<c->c<n->(c-1) / 2=i->hle lt (hg d xs j) (hg d xs c)) (bD:lt (hg d xs j) (hg d xs i)=true):CO d lt (sw d xs i j) n j:=by
 have ow:=h.le;have hi:i<xs.length:=by omega
 have cJ:j<xs.length:=by omega
 refine⟨by rw[yj];exact ow,fun c h0 h1 cY=>?_,fun c h0 h1 he hp=>?_⟩
 ·rw[nM hi cJ,nM hi cJ,if_neg cY]
  by_cases iK:(c-1) / 2=i
  ·rw[if_pos iK]
   by_cases kz:c=j
   ·rw[if_pos kz];exact qmw bD
   ·rw[if_neg kz,if_neg om]
    exact cV c h0 h1 iK
  ·rw[if_neg iK]
   by_cases kz:c=j
   ·omega
   ·rw[if_neg kz]
    by_cases hc:c=i
    ·subst hc
     rw[if_pos rfl];exact h.over j om ky om h0
    ·rw[if_neg hc]
     exact h.rest c h0 h1 iK
 ·rw[nM hi cJ,nM hi cJ]
  have e1:(j-1) / 2=i:=by omega
  rw[e1,if_neg (show ¬i=j by omega),if_pos rfl,if_neg (show ¬c=j by omega),if_neg (show ¬c=i by omega)];have:=h.rest c h0 h1 om;rw[he]at this;exact this
theorem qph {xs:List α}(h:Av d lt xs) (hl:0<xs.length):CO d lt (sw d xs 0 (xs.length-1)) (xs.length-1) 0:=by
 refine⟨by rw[yj];omega,fun c h0 h1 cY=>?_,fun c _ _ _ h0=>absurd h0 om⟩;rw[nM hl om,nM hl om,if_neg om,if_neg om,if_neg om,if_neg om];exact h c h0 om
theorem qsc [BK lt] {xs:List α}(h:Av d lt xs):∀ i,i<xs.length->hle lt (hg d xs 0) (hg d xs i):=by
 intro i
 induction i using Nat.strongRecOn with
 | _ i ih =>
  intro hi;rcases eq_zero_or_pos i with h0|h0
  ·subst h0;exact yi _
  ·exact qed (ih ((i-1) / 2) om om) (h i h0 hi)
theorem qmy [BK lt] {xs:List α}(h:Av d lt xs) {x:α}(hx:x∈xs):hle lt (hg d xs 0) x:=by
 obtain⟨i,hi,rfl⟩:=getElem_of_mem hx;have:=qsc h i hi
 rwa[show hg d xs i=xs[i] from getD_at hi]at this
theorem qmz {xs ys:List α}(hl:0<xs.length) (hp:ys.Perm xs) (hh:Cn d lt ys (xs.length-1)) (lE:hg d ys (xs.length-1)=hg d xs 0) :
  Av d lt (ys.take (xs.length-1))/\xs.Perm (hg d xs 0::ys.take (xs.length-1)):=by
 have nh:=hp.length_eq;refine⟨fun i h0 h1=>?_,?_⟩
 ·simp only[length_take]at h1
  have oy:∀ k,k<xs.length-1->hg d (ys.take (xs.length-1)) k=hg d ys k:=fun k hk=>by simp[hg,hk]
  rw[oy _ om,oy _ om];exact hh i h0 om
 ·have e:ys=ys.take (xs.length-1)++[hg d xs 0]:=by
   have h1:ys.drop (xs.length-1)=[hg d xs 0]:=by
    rw[drop_eq_getElem_cons om,drop_eq_nil_of_le om,<-lE];rw[show hg d ys (xs.length-1)=ys[xs.length-1] from getD_at om]
   rw[<-h1,take_append_drop]
  refine hp.symm.trans ?_;have:=perm_append_comm (l₁:=ys.take (xs.length-1)) (l₂:=[hg d xs 0]);rw[<-e]at this;exact this
theorem qnO:Av d lt []:=fun _ _ h=>absurd h (not_lt_zero _)
end
theorem qjI (j:Nat):Int.tdiv ((j:Int)-1) 2=(((j-1) / 2:Nat):Int):=by
 rcases eq_zero_or_pos j with h|h
 ·subst h;rfl
 ·rw[Int.tdiv_eq_ediv_of_nonneg om];omega
structure Dv where
 t:Aa
 H:List Int->Int
 B:Option Int
inductive AR where
 | solved (i:Nat)
 | none
 | unknown
theorem qt0 {α:Type}{l:List α}{i j:Nat}{x d:α}(hi:i<l.length):(l.set i x).getD j d=if j=i then x else l.getD j d:=by
 simp only[List.getD,getElem?_set];by_cases h:i=j
 ·subst h;simp[hi]
 ·rw[if_neg h,if_neg (Ne.symm h)]


structure Item where
 bf:Int
 state:Int
 deriving DecidableEq
def ao:Ty Item:=⟨2,fun x=>[.int .i64 x.bf,.int .i64 x.state],fun _=>rfl,⟨0,0⟩⟩
instance qxC:Bn ao:=⟨fun x v hv=>by simp only[ao,mem_cons,not_mem_nil,or_false]at hv;rcases hv with rfl|rfl<;>rfl⟩
def eJ (a b:Item):Bool:=decide (a.bf<b.bf)
instance qxD:BK eJ:=⟨fun a b h=>by simp only[eJ,decide_eq_true_eq,decide_eq_false_iff_not]at *;omega,fun a b c h1 h2=>by simp only[eJ,decide_eq_false_iff_not]at *;omega⟩
def bucket (E:List Au) (u:Int):List Au:=E.filter fun e=>decide (e.dst=u)
def mP (E:List Au) (S:List Int):Nat:=(E.filter fun e=>decide (e.dst∉S)).length
theorem qh2 {S:List Int}{u:Int}(hu:u∉S):∀ E:List Au,mP E S=mP E (u::S)+(bucket E u).length
 | []=>rfl
 | e::E=>by
  have ih:=qh2 hu E;simp only[mP,bucket,filter_cons]at ih ⊢;by_cases h1:e.dst=u
  ·rw[if_pos (by simp[h1,hu]),if_neg (by simp[h1]),if_pos (by simp[h1])]
   simp only[length_cons];omega
  ·by_cases h2:e.dst∈S
   ·rw[if_neg (by simp[h2]),if_neg (by simp[h2]),if_neg (by simp[h1])];exact ih
   ·rw[if_pos (by simp[h2]),if_pos (by simp[h1,h2]),if_neg (by simp[h1])]
    simp only[length_cons];omega
theorem qtz (E:List Au) (S:List Int):mP E S<=E.length:=length_filter_le _ _
theorem qh3 {E:List Au}{u:Int}{e:Au}:e∈bucket E u↔e∈E/\e.dst=u:=by simp[bucket]
structure DJ (E:List Au) (c:List Int) (G:Int->Prop) (n:Nat) (D:List Int) (Q:List Item) (S:List Int) (m:Int) (done:Au->Prop):Prop where
 inv:CC E c G n D
 kZ:∀ x∈Q,(0<=x.state/\x.state<n)/\dg D x.state<=x.bf/\m<=x.bf/\x.bf<inf/\(x.state∈S->dg D x.state<x.bf)
 nd:Q.Nodup
 set:∀ u∈S,(0<=u/\u<n)/\dg D u<=m
 act:∀ u:Int,0<=u->u<n->dg D u<inf->u∉S->∃ x∈Q,x.state=u/\x.bf=dg D u
 wm:∀ e∈E,e.dst∈S->done e->Db c D e
 m0:0<=m
abbrev Df (E:List Au) (c:List Int) (G:Int->Prop) (n:Nat) (D:List Int) (Q:List Item) (S:List Int) (m:Int):Prop:=DJ E c G n D Q S m fun _=>True
section
variable {E:List Au}{c:List Int}{G:Int->Prop}{n:Nat}{D:List Int}{Q:List Item}{S:List Int}{m:Int}{done:Au->Prop}
theorem DJ.perm (h:DJ E c G n D Q S m done) {Q':List Item}(hp:Q'.Perm Q):DJ E c G n D Q' S m done :=
 ⟨h.inv,fun x hx=>h.kZ x (hp.mem_iff.1 hx),hp.nodup_iff.2 h.nd,h.set,fun u a b e f=>let ⟨x,hx,hh⟩:=h.act u a b e f;⟨x,hp.mem_iff.2 hx,hh⟩,h.wm,h.m0⟩
theorem DJ.fin (hE:BO E c n) (h:Df E c G n D [] S m):As E c G n D:=by
 refine h.inv.bf hE fun e he hl=>?_;have hd:=hE.dst e he;have hm:e.dst∈S:=by
  apply Classical.byContradiction;intro hn;obtain⟨x,hx,_⟩:=h.act e.dst hd.1 hd.2 hl hn;simp at hx
 exact h.wm e he hm trivial hl
theorem DJ.skip {x:Item}(h:Df E c G n D (x::Q) S m) (hx:dg D x.state<x.bf):Df E c G n D Q S m:=by
 refine⟨h.inv,fun y hy=>h.kZ y (by simp[hy]),(nodup_cons.1 h.nd).2,h.set,fun u a b e f=>?_,h.wm,h.m0⟩;obtain⟨y,hy,h1,h2⟩:=h.act u a b e f;rcases mem_cons.1 hy with rfl|hy
 ·subst h1;omega
 ·exact⟨y,hy,h1,h2⟩
theorem DJ.take {x:Item}(h:Df E c G n D (x::Q) S m) (hx:¬dg D x.state<x.bf) (cV:∀ y∈Q,x.bf<=y.bf) :
  DJ E c G n D Q (x.state::S) x.bf (fun e=>e.dst∈S)/\x.state∉S/\dg D x.state=x.bf/\(0<=x.state/\x.state<n)/\x.bf<inf:=by
 obtain⟨e1,e2,e3,e4,e5⟩:=h.kZ x (by simp);have hS:x.state∉S:=fun hm=>hx (e5 hm);have hd:dg D x.state=x.bf:=by omega
 have fe:=nodup_cons.1 h.nd;refine⟨⟨h.inv,fun y hy=>?_,fe.2,fun u hu=>?_,fun u a b e f=>?_,fun e he _ hm=>h.wm e he hm trivial,by have:=h.m0;omega⟩,hS,hd,e1,e4⟩
 ·obtain⟨f1,f2,f3,f4,f5⟩:=h.kZ y (by simp[hy])
  refine⟨f1,f2,cV y hy,f4,fun hm=>?_⟩;rcases mem_cons.1 hm with j6|j6
  ·have cY:y.bf≠x.bf:=fun he=>fe.1 (by
    have:y=x:=by
     clear hm;obtain⟨a,b⟩:=y;obtain⟨a',b'⟩:=x;simp only at he j6;subst he j6;rfl
    rw[<-this];exact hy)
   have:=cV y hy;rw[j6,hd];omega
  ·exact f5 j6
 ·rcases mem_cons.1 hu with rfl|hu
  ·exact⟨e1,by omega⟩
  ·have:=h.set u hu;exact⟨this.1,by omega⟩
 ·simp only[mem_cons,not_or]at f
  obtain⟨y,hy,h1,h2⟩:=h.act u a b e f.2;rcases mem_cons.1 hy with rfl|hy
  ·exact absurd h1.symm f.1
  ·exact⟨y,hy,h1,h2⟩
theorem DJ.keep (h:DJ E c G n D Q S m done) {e:Au}(hs:Db c D e):DJ E c G n D Q S m (fun e'=>done e'\/e'=e) :=
 ⟨h.inv,h.kZ,h.nd,h.set,h.act,fun e' nD hm hd=>hd.elim (h.wm e' nD hm) fun hh=>hh ▸ hs,h.m0⟩
theorem DJ.oP (hE:BO E c n) (h:DJ E c G n D Q S m done) {e:Au}(he:e∈E) (hu:e.dst∈S) (hm:dg D e.dst=m) (hmi:m<inf) (hl:m+fB c e<dg D e.src) :
  DJ E c G n (D.set e.src.toNat (m+fB c e)) (⟨m+fB c e,e.src⟩::Q) S m (fun e'=>done e'\/e'=e):=by
 have hs:=hE.src e he;have hd:=hE.dst e he;have hc:=hE.fB he;have hlen:=h.inv.len;have hr:=(h.inv.cC e.src.toNat om).2;rw[Int.toNat_of_nonneg hs.1]at hr;have hvS:e.src∉S:=fun hv=>by have:=(h.set _ hv).2;omega
 have hg:∀ i:Int,0<=i->dg (D.set e.src.toNat (m+fB c e)) i=if i=e.src then m+fB c e else dg D i:=fun i hi=>qhK hi hs.1 om
 have gY:=h.inv.oP hE he om om;rw[hm]at gY;have hS:∀ i∈S,dg (D.set e.src.toNat (m+fB c e)) i=dg D i:=fun i hi=>by
  rw[hg i (h.set i hi).1.1,if_neg (fun (e':i=e.src)=>hvS (by rw[<-e'];exact hi))]
 refine⟨gY.1,fun y hy=>?_,nodup_cons.2 ⟨fun hq=>?_,h.nd⟩,fun u hu=>?_,fun u a b f hu=>?_,fun e' nD hm' nx => ?_,h.m0⟩
 ·rcases mem_cons.1 hy with rfl|hy
  ·exact⟨hs,by simp only;rw[hg _ hs.1,if_pos rfl];exact Int.le_refl _,by simp only;omega,by simp only;omega,fun hv=>absurd hv hvS⟩
  ·obtain⟨f1,f2,f3,f4,f5⟩:=h.kZ y hy
   refine⟨f1,?_,f3,f4,fun hv=>by rw[hS _ hv];exact f5 hv⟩;rw[hg _ f1.1];split
   ·rename_i hh;rw[hh]at f2;omega
   ·exact f2
 ·have:=(h.kZ _ hq).2.1
  simp only at this;omega
 ·rw[hS u hu];exact h.set u hu
 ·rw[hg u a]at f ⊢
  by_cases ev:u=e.src
  ·rw[if_pos ev];exact⟨⟨m+fB c e,e.src⟩,by simp,ev.symm,rfl⟩
  ·rw[if_neg ev]at f ⊢
   obtain⟨y,hy,hh⟩:=h.act u a b f hu;exact⟨y,by simp[hy],hh⟩
 ·intro bD
  have ig:=hE.src e' nD;rw[hS _ hm']at bD ⊢;rw[hg _ ig.1];rcases nx with nx|rfl
  ·have:=h.wm e' nD hm' nx bD
   split
   ·rename_i hh;rw[hh]at this;omega
   ·exact this
  ·rw[if_pos rfl,hm];exact Int.le_refl _
theorem DJ.close {u:Int}(h:DJ E c G n D Q (u::S) m done) (hd:∀ e∈E,e.dst∈u::S->done e):Df E c G n D Q (u::S) m :=
 ⟨h.inv,h.kZ,h.nd,h.set,h.act,fun e he hm _=>h.wm e he hm (hd e he hm),h.m0⟩
end
theorem DJ.start (E:List Au) (c:List Int) (G:Int->Prop) (n:Nat) {Q:List Item}(hQ:∀ x,x∈Q↔∃ i:Nat,i<n/\G i/\x=⟨0,i⟩) (hn:Q.Nodup):Df E c G n (lW G n) Q [] 0:=by
 refine⟨qqa _ _ _ _,fun x hx=>?_,hn,fun u hu=>(by simp at hu),fun u a b f _=>?_,fun e _ hm=>(by simp at hm),Int.le_refl _⟩
 ·obtain⟨i,hi,hg,rfl⟩:=(hQ x).1 hx
  refine⟨⟨by simp only;omega,by simp only;omega⟩,?_,Int.le_refl _,by simp only;decide,fun h=>by simp at h⟩;rw[qdx hi,vP hg];exact Int.le_refl _
 ·have hu:u=((u.toNat:Nat):Int):=by omega
  rw[hu,qdx om]at f;by_cases hg:G ((u.toNat:Nat):Int)
  ·refine⟨⟨0,u⟩,(hQ _).2 ⟨u.toNat,by omega,hg,by rw[<-hu]⟩,rfl,?_⟩
   rw[hu,qdx om,vP hg]
  ·rw[qhL hg]at f;omega
structure Un where
 op:Int
 dL:Int
 cost:Int
 makes:Int
 an:List Int
def dUn:Un:=⟨0,0,0,0,[]⟩
def un (U:List Un) (i:Int):Un:=U.getD i.toNat dUn
inductive Be (U:List Un) (S:Int->Prop):Int->Int->Prop
 | start {f:Int}:S f->Be U S f 0
 | gK {i:Nat}{v:Int->Int}{m:Int}:i<U.length->0<=m->(∀ n∈(un U i).an,Be U S n (v n))->(∀ n∈(un U i).an,v n<=m)->Be U S (un U i).makes ((un U i).cost+m)
structure CU (U:List Un) (N:Nat):Prop where
 cost:∀ i:Nat,i<U.length->0<=(un U i).cost/\(un U i).cost<=1048576
 makes:∀ i:Nat,i<U.length->0<=(un U i).makes/\(un U i).makes<N
 an:∀ i:Nat,i<U.length->∀ n∈(un U i).an,0<=n/\n<N
 nd:∀ i:Nat,i<U.length->(un U i).an.Nodup
def pZ (dn:List Int) (l:List Int):Nat:=(l.filter fun n=>decide (n∉dn)).length
theorem qmX {dn l:List Int}:pZ dn l=0↔∀ n∈l,n∈dn:=by
 unfold pZ;rw[length_eq_zero_iff,filter_eq_nil_iff];simp
theorem qve (l:List Int):pZ [] l=l.length:=by
 unfold pZ;rw[filter_eq_self.2 (by simp)]
theorem qp9 {f:Int}{dn:List Int}(hf:f∉dn):∀ {l:List Int},l.Nodup->f∈l->pZ dn l=pZ (f::dn) l+1
 | [],_,h=>by simp at h
 | x::l,hn,h=>by
  obtain⟨h1,h2⟩:=nodup_cons.1 hn;unfold pZ;by_cases e:x=f
  ·subst e
   rw[filter_cons,if_pos (by simp[hf]),filter_cons,if_neg (by simp)];have hc:(l.filter fun n=>decide (n∉dn))=l.filter fun n=>decide (n∉x::dn):=filter_congr fun y hy=>by
    have:y≠x:=fun e=>h1 (by rw[<-e];exact hy);simp[this]
   rw[hc];rfl
  ·have ih:=qp9 hf h2 (by rcases mem_cons.1 h with h|h;exact absurd h.symm e;exact h)
   unfold pZ at ih;by_cases hx:x∈dn
   ·rw[filter_cons,if_neg (by simp[hx]),filter_cons,if_neg (by simp[hx])];exact ih
   ·rw[filter_cons,if_pos (by simp[hx]),filter_cons,if_pos (by simp[hx,e])]
    simp only[length_cons];omega
theorem qvf {f:Int}{dn l:List Int}(h:f∉l):pZ dn l=pZ (f::dn) l:=by
 unfold pZ
 rw[filter_congr fun y hy=>by
  have:y≠f:=fun e=>h (by rw[<-e];exact hy);show decide (y∉dn)=decide (y∉f::dn)
  simp[this]]
def cT (U:List Un) (f:Int):List Int:=((List.range U.length).filter fun (i:Nat)=>decide (f∈(un U i).an)).map fun (i:Nat)=>(i:Int)
theorem qmY {U:List Un}{f i:Int}:i∈cT U f↔∃ k:Nat,i=k/\k<U.length/\f∈(un U k).an:=by
 unfold cT;simp only[mem_map,mem_filter,mem_range,decide_eq_true_eq];constructor
 ·rintro⟨k,⟨h1,h2⟩,rfl⟩;exact⟨k,rfl,h1,h2⟩
 ·rintro⟨k,rfl,h1,h2⟩;exact⟨k,⟨h1,h2⟩,rfl⟩
theorem qoa (U:List Un) (f:Int):(cT U f).Nodup:=by
 unfold cT;refine Pairwise.map _ (fun a b h=>?_) (nodup_range.filter _);intro e;exact h om
structure RI (U:List Un) (S:Int->Prop) (N:Nat) (D lf:List Int) (dn:List Int) (Q:List Item) (m:Int) (f:Int) (ok:Nat->Prop):Prop where
 dl:D.length=N
 ll:lf.length=U.length
 cC:∀ g:Int,0<=g->g<N->0<=dg D g/\dg D g<=inf
 mG:∀ g:Int,0<=g->g<N->dg D g<inf->Be U S g (dg D g)
 tJ:∀ i:Nat,i<U.length->ok i->dg lf i=pZ dn (un U i).an
 rQ:∀ i:Nat,i<U.length->¬ok i->f∈(un U i).an/\dg lf i=pZ dn (un U i).an+1
 low:∀ i:Nat,i<U.length->ok i->(∀ n∈(un U i).an,n∈dn)->∀ k,0<=k->(∀ n∈(un U i).an,dg D n<=k)->dg D (un U i).makes<=(un U i).cost+k
 act:∀ g:Int,0<=g->g<N->dg D g<inf->g∉dn->∃ x∈Q,x.state=g/\x.bf=dg D g
 kZ:∀ x∈Q,(0<=x.state/\x.state<N)/\dg D x.state<=x.bf/\m<=x.bf/\x.bf<inf
 set:∀ g∈dn,(0<=g/\g<N)/\dg D g<=m
 m0:0<=m
 m1:m<inf
section
variable {U:List Un}{S:Int->Prop}{N:Nat}{D lf dn:List Int}{Q:List Item}{m f:Int}{ok:Nat->Prop}
theorem RI.perm (h:RI U S N D lf dn Q m f ok) {Q':List Item}(hp:Q'.Perm Q):RI U S N D lf dn Q' m f ok :=
 { h with
  act:=fun g a b c d=>let ⟨x,hx,hh⟩:=h.act g a b c d;⟨x,hp.mem_iff.2 hx,hh⟩
  kZ:=fun x hx=>h.kZ x (hp.mem_iff.1 hx) }
theorem RI.reach (h:RI U S N D lf dn Q m f ok) {g v:Int}(hg:0<=g/\g<N) (hv:v<dg D g) (hm:m<=v) (hd:Be U S g v):RI U S N (D.set g.toNat v) lf dn (⟨v,g⟩::Q) m f ok:=by
 have hr:=h.cC g hg.1 hg.2;have sG:=h.m0;have hgd:g∉dn:=fun hh=>by have:=(h.set g hh).2;omega
 have bD:g.toNat<D.length:=by rw[h.dl];omega
 have gU:∀ x:Int,0<=x->dg (D.set g.toNat v) x=if x=g then v else dg D x:=fun x hx=>by
  unfold dg;by_cases e:x=g
  ·rw[if_pos e,e]
   simp[List.getD,bD]
  ·rw[if_neg e]
   simp only[List.getD];rw[getElem?_set_ne om]
 have hle:∀ x:Int,0<=x->dg (D.set g.toNat v) x<=dg D x:=fun x hx=>by
  rw[gU x hx];split
  ·rename_i e;rw[e];omega
  ·exact Int.le_refl _
 refine⟨by simp[h.dl],h.ll,fun x h0 h1=>?_,fun x h0 h1 h2=>?_,h.tJ,h.rQ,fun i hi ho hn k hk gW=>?_,fun x h0 h1 h2 h3=>?_,fun x hx=>?_,fun x hx=>?_,h.m0,h.m1⟩
 ·rw[gU x h0];split
  ·exact⟨by omega,by omega⟩
  ·exact h.cC x h0 h1
 ·rw[gU x h0]at h2 ⊢
  split
  ·rename_i e;rw[e];exact hd
  ·rename_i e;rw[if_neg e]at h2;exact h.mG x h0 h1 h2
 ·have qG:(0:Int)<=(un U i).makes\/(un U i).makes<0:=by omega
  have hb:=h.low i hi ho hn k hk fun n iB=>by
   have:=gW n iB;have h0:=((h.set n (hn n iB)).1).1;rw[gU n h0,if_neg (fun e=>hgd (by rw[<-e];exact hn n iB))]at this;exact this
  rcases qG with h0|h0
  ·have:=hle _ h0;omega
  ·unfold dg at hb ⊢
   rw[show (un U i).makes.toNat=(0:Int).toNat by omega]at hb ⊢;have:=hle 0 (Int.le_refl _);unfold dg at this;omega
 ·rw[gU x h0]at h2 ⊢
  by_cases e:x=g
  ·exact⟨⟨v,g⟩,mem_cons_self,e.symm,by rw[if_pos e]⟩
  ·rw[if_neg e]at h2 ⊢
   obtain⟨y,hy,h4⟩:=h.act x h0 h1 h2 h3;exact⟨y,mem_cons_of_mem _ hy,h4⟩
 ·rcases mem_cons.1 hx with rfl|hx
  ·refine⟨hg,?_,hm,by have:=hr.2;show v<inf;omega⟩
   rw[gU _ hg.1,if_pos rfl];exact Int.le_refl _
  ·obtain⟨e1,e2,e3,e4⟩:=h.kZ x hx
   exact⟨e1,by have:=hle x.state e1.1;omega,e3,e4⟩
 ·obtain⟨e1,e2⟩:=h.set x hx
  exact⟨e1,by have:=hle x e1.1;omega⟩
theorem RI.skip {x:Item}(h:RI U S N D lf dn (x::Q) m f ok) (hx:x.state∈dn):RI U S N D lf dn Q m f ok :=
 { h with
  act:=fun g a b c d=>by
   obtain⟨y,hy,h1,h2⟩:=h.act g a b c d;rcases mem_cons.1 hy with rfl|hy
   ·exact absurd (h1 ▸ hx) d
   ·exact⟨y,hy,h1,h2⟩
  kZ:=fun y hy=>h.kZ y (mem_cons_of_mem _ hy) }
theorem RI.take (hU:CU U N) {x:Item}(h:RI U S N D lf dn (x::Q) m f fun _=>True) (hx:x.state∉dn) (cV:∀ y∈Q,x.bf<=y.bf) :
  RI U S N D lf (x.state::dn) Q x.bf x.state (fun i=>x.state∉(un U i).an)/\dg D x.state=x.bf/\(0<=x.state/\x.state<N)/\0<=x.bf/\x.bf<inf:=by
 obtain⟨e1,e2,e3,e4⟩:=h.kZ x mem_cons_self;have sG:=h.m0;have hd:dg D x.state=x.bf:=by
  obtain⟨y,hy,h1,h2⟩:=h.act x.state e1.1 e1.2 om hx;rcases mem_cons.1 hy with rfl|hy
  ·exact h2.symm
  ·have:=cV y hy;omega
 refine⟨⟨h.dl,h.ll,h.cC,h.mG,fun i hi ho=>?_,fun i hi ho=>?_,fun i hi ho hn k hk gW=>?_,fun g h0 h1 h2 h3=>?_,fun y hy=>?_,fun g hg=>?_,by omega,e4⟩,hd,e1,by omega,e4⟩
 ·rw[h.tJ i hi trivial,qvf ho]
 ·have ho:x.state∈(un U i).an:=Classical.byContradiction ho
  refine⟨ho,?_⟩;rw[h.tJ i hi trivial,qp9 hx (hU.nd i hi) ho];rfl
 ·refine h.low i hi trivial (fun n iB => ?_) k hk gW
  rcases mem_cons.1 (hn n iB) with e|e
  ·exact absurd (e ▸ iB) ho
  ·exact e
 ·obtain⟨y,hy,h4,h5⟩:=h.act g h0 h1 h2 (fun hh=>h3 (mem_cons_of_mem _ hh))
  rcases mem_cons.1 hy with rfl|hy
  ·exact absurd (by rw[h4];exact mem_cons_self) h3
  ·exact⟨y,hy,h4,h5⟩
 ·obtain⟨f1,f2,f3,f4⟩:=h.kZ y (mem_cons_of_mem _ hy)
  exact⟨f1,f2,cV y hy,f4⟩
 ·rcases mem_cons.1 hg with rfl|hg
  ·exact⟨e1,by omega⟩
  ·obtain⟨f1,f2⟩:=h.set g hg
   exact⟨f1,by omega⟩
theorem RI.count {i:Nat}(hi:i<U.length) (h:RI U S N D lf dn Q m f ok) (iM:¬ok i) (hz:dg lf i-1≠0\/dg D (un U i).makes<=m+(un U i).cost) (hf:dg D f=m):RI U S N D (lf.set i (dg lf i-1)) dn Q m f (fun k=>ok k\/k=i):=by
 obtain⟨hfi,hl⟩:=h.rQ i hi iM
 have gU:∀ k:Nat,dg (lf.set i (dg lf i-1)) k=if k=i then dg lf i-1 else dg lf k:=fun k=>by
  unfold dg;by_cases e:k=i
  ·subst e
   rw[if_pos rfl];have:k<lf.length:=by rw[h.ll];exact hi
   simp[List.getD,this]
  ·rw[if_neg e]
   simp only[List.getD];rw[getElem?_set_ne om]
 refine { h with ll:=by simp[h.ll],tJ:=fun k hk ho=>?_,rQ:=fun k hk ho=>?_,low:=fun k hk ho hn c hc xj=>?_ }
 ·rw[gU]
  by_cases e:k=i
  ·subst e;rw[if_pos rfl,hl];omega
  ·rw[if_neg e];exact h.tJ k hk (ho.resolve_right e)
 ·have e:k≠i:=fun e=>ho (.inr e)
  rw[gU,if_neg e];exact h.rQ k hk fun hh=>ho (.inl hh)
 ·by_cases e:ok k
  ·exact h.low k hk e hn c hc xj
  ·have e2:k=i:=ho.resolve_left e
   subst e2;have ml:=qmX.2 hn;have:=xj f hfi;rcases hz with hz|hz
   ·omega
   ·omega
theorem RI.fin (hU:CU U N) (h:RI U S N D lf dn [] m f fun _=>True) (hS:∀ g,S g->0<=g/\g<N/\dg D g<=0):∀ g v,Be U S g v->0<=g->g<N->dg D g<=v:=by
 have tk:∀ g:Int,0<=g->g<N->dg D g<inf->g∈dn:=fun g h0 h1 h2=>by
  apply Classical.byContradiction;intro hn;obtain⟨x,hx,_⟩:=h.act g h0 h1 h2 hn;simp at hx
 intro g v hd
 induction hd with
 | start hs=>intro _ _;exact(hS _ hs).2.2
 | @gK i v m hi hm hn hle ih =>
  intro h0 h1;have hr:=h.cC _ h0 h1;have hc:=(hU.cost i hi).1;by_cases bZ:∀ n∈(un U i).an,dg D n<inf
  ·refine h.low i hi trivial (fun n iB => ?_) m hm fun n iB => ?_
   ·have hb:=hU.an i hi n iB
    exact tk n hb.1 hb.2 (bZ n iB)
   ·have hb:=hU.an i hi n iB
    have:=ih n iB hb.1 hb.2;have:=hle n iB;omega
  ·have:∃ n,n∈(un U i).an/\¬dg D n<inf:=by
    apply Classical.byContradiction;intro hh;exact bZ fun n iB=>Classical.byContradiction fun h3=>hh ⟨n,iB,h3⟩
   obtain⟨n,iB,h3⟩:=this;have hb:=hU.an i hi n iB;have:=ih n iB hb.1 hb.2;have:=hle n iB;omega
theorem RI.qw8 {i:Nat}(hi:i<U.length) (h:RI U S N D lf dn Q m f ok) (iM:¬ok i) (hz:dg lf i-1=0) (hb:∀ n∈(un U i).an,0<=n/\n<N):Be U S (un U i).makes (m+(un U i).cost):=by
 obtain⟨hfi,hl⟩:=h.rQ i hi iM;have ml:pZ dn (un U i).an=0:=by omega
 have bZ:=qmX.1 ml;rw[Int.add_comm];have pD:=h.m1;refine .gK (v:=dg D) hi h.m0 (fun n hn=>?_) fun n hn=>?_
 ·obtain⟨e1,e2⟩:=h.set n (bZ n hn)
  exact h.mG n e1.1 e1.2 om
 ·exact(h.set n (bZ n hn)).2
end
def aV (vars:List Int) (v:Nat):Int:=(vars.take v).foldl (·+·) 0
def cz (vars:List Int) (f:Fact):Int:=aV vars f.var.toNat+f.val
def lG (acc:List Int) (n:Int):List Int:=if n∈acc then acc else acc++[n]
def bp (vars:List Int) (l:List Fact) (acc:List Int):List Int:=l.foldl (fun acc f=>lG acc (cz vars f)) acc
theorem qf3 (vars:List Int):aV vars 0=0:=rfl
theorem qbv {vars:List Int}{v:Nat}(h:v<vars.length):aV vars (v+1)=aV vars v+vars.getD v aa.dflt:=by
 unfold aV;rw[dJ aa.dflt h,foldl_append];rfl
theorem qcE {vars:List Int}(hp:∀ x∈vars,1<=x) {a:Nat}:∀ {b:Nat},a<=b->b<=vars.length->aV vars a<=aV vars b
 | 0,h,_=>by rw[show a=0 by omega];exact Int.le_refl _
 | b+1,h,hb=>by
  by_cases e:a=b+1
  ·rw[e];exact Int.le_refl _
  ·have:=qcE hp (a:=a) (b:=b) om om
   have h2:=hp _ (bY aa.dflt (show b<vars.length by omega));rw[qbv om];omega
theorem qcn {vars:List Int}(hp:∀ x∈vars,1<=x) {b:Nat}(hb:b<=vars.length):0<=aV vars b:=qcE hp (a:=0) (zero_le _) hb
theorem qcZ {vars:List Int}(hp:∀ i,i<vars.length->vars.getD i aa.dflt<=64):∀ {b:Nat},b<=vars.length->aV vars b<=64*(b:Int)
 | 0,_=>by rw[qf3];omega
 | b+1,hb=>by
  have:=qcZ hp (b:=b) om;have:=hp b om;rw[qbv om];omega
theorem rz {vars:List Int}(hp:∀ x∈vars,1<=x) {f:Fact}(h:Ao vars f):0<=cz vars f/\cz vars f<aV vars vars.length:=by
 obtain⟨h0,h1,h2,h3⟩:=h;have hv:f.var.toNat<vars.length:=by omega
 have a:=qcn hp (b:=f.var.toNat) om;have b:=qcE hp (a:=f.var.toNat+1) (b:=vars.length) om (Nat.le_refl _);rw[qbv hv]at b;unfold cz;omega
theorem qf4 {vars:List Int}(hp:∀ x∈vars,1<=x) {v:Nat}(hv:v<vars.length) {x:Int}(h0:0<=x) (h1:x<vars.getD v aa.dflt):0<=aV vars v+x/\aV vars v+x<aV vars vars.length:=by
 have a:=qcn hp (b:=v) om;have b:=qcE hp (a:=v+1) (b:=vars.length) om (Nat.le_refl _);rw[qbv hv]at b;omega
theorem qsd {acc:List Int}{n x:Int}:x∈lG acc n↔x∈acc\/x=n:=by
 unfold lG;split
 ·rename_i h
  exact⟨.inl,fun h2=>h2.elim id fun e=>by rw[e];exact h⟩
 ·simp
theorem qnQ {acc:List Int}{n:Int}(h:acc.Nodup):(lG acc n).Nodup:=by
 unfold lG;split
 ·exact h
 ·rename_i hn
  exact nodup_append.2 ⟨h,by simp,fun a ha b hb e=>hn (by rw[mem_singleton.1 hb]at e;rw[<-e];exact ha)⟩
theorem qse (acc:List Int) (n:Int):(lG acc n).length<=acc.length+1:=by
 unfold lG;split<;>simp
theorem qdR (vars:List Int) (l:List Fact) (f:Fact) (acc:List Int):bp vars (l++[f]) acc=lG (bp vars l acc) (cz vars f):=by simp[bp]
theorem uy {vars:List Int}{acc:List Int}{x:Int}:∀ {l:List Fact},x∈bp vars l acc↔x∈acc\/∃ f∈l,cz vars f=x:=by
 intro l;refine kx (P:=fun l=>x∈bp vars l acc↔x∈acc\/∃ f∈l,cz vars f=x) (by simp[bp]) ?_ l;intro l f ih;rw[qdR,qsd,ih];simp only[mem_append,mem_singleton];constructor
 ·rintro ((h|⟨g,h1,h2⟩)|h)
  ·exact .inl h
  ·exact .inr ⟨g,.inl h1,h2⟩
  ·exact .inr ⟨f,.inr rfl,h.symm⟩
 ·rintro (h|⟨g,h1|h1,h2⟩)
  ·exact .inl (.inl h)
  ·exact .inl (.inr ⟨g,h1,h2⟩)
  ·exact .inr (by rw[<-h2,h1])
theorem qb9 {vars:List Int}{acc:List Int}(h:acc.Nodup) (l:List Fact):(bp vars l acc).Nodup:=by
 refine kx (P:=fun l=>(bp vars l acc).Nodup) h ?_ l;intro l f ih;rw[qdR];exact qnQ ih
def uZ (vars:List Int) (i:Nat) (o:Bu) (k:Nat):Un:=⟨i,k,o.cost,cz vars ⟨(o.aw.getD k ba).var,(o.aw.getD k ba).val⟩,bp vars (o.aw.getD k ba).when (bp vars o.pre [])⟩
def jn (vars:List Int) (i:Nat) (o:Bu) (m:Nat):List Un:=(List.range m).map (uZ vars i o)
def eR (t:Aa) (k:Nat):List Un:=(List.range k).flatMap fun i=>jn t.vars i (t.ops.getD i aO) (t.ops.getD i aO).aw.length
def bh (t:Aa):List Un:=eR t t.ops.length
theorem qil (vars:List Int) (i:Nat) (o:Bu) (m:Nat):jn vars i o (m+1)=jn vars i o m++[uZ vars i o m]:=by simp[jn,range_succ]
theorem u0 (t:Aa) (k:Nat):eR t (k+1)=eR t k++jn t.vars k (t.ops.getD k aO) (t.ops.getD k aO).aw.length:=by simp[eR,range_succ]
theorem qeO {t:Aa}{k:Nat}{u:Un}:u∈eR t k↔∃ i j,i<k/\j<(t.ops.getD i aO).aw.length/\u=uZ t.vars i (t.ops.getD i aO) j:=by
 simp only[eR,jn,mem_flatMap,mem_range,mem_map];constructor
 ·rintro⟨i,h1,j,h2,rfl⟩;exact⟨i,j,h1,h2,rfl⟩
 ·rintro⟨i,j,h1,h2,rfl⟩;exact⟨i,h1,j,h2,rfl⟩
theorem yl (vars:List Int) (i:Nat) (o:Bu) (m:Nat):(jn vars i o m).length=m:=by simp[jn]
theorem ym {t:Aa}(hg:Af t):∀ {k:Nat},k<=t.ops.length->(eR t k).length<=64*k
 | 0,_=>by simp[eR]
 | k+1,h=>by
  have:=ym hg (k:=k) om;have:=(hg.op k om).aw;rw[u0,length_append,yl];omega
def ay (t:Aa):Nat:=(aV t.vars t.vars.length).toNat
theorem pd {t:Aa}(hg:Af t):(ay t:Int)=aV t.vars t.vars.length:=by
 have:=qcn hg.pos (b:=t.vars.length) (Nat.le_refl _);unfold ay;omega
theorem wS {t:Aa}(hg:Af t):ay t<=4096:=by
 have h1:=qcZ (fun i hi=>(hg.gd i hi).2) (Nat.le_refl t.vars.length);have h2:=hg.vars;unfold ay;omega
theorem u7 {U:List Un}{i:Nat}(h:i<U.length):un U i∈U:=bY dUn h
theorem qF {t:Aa}(hg:Af t):CU (bh t) (ay t):=by
 have key:∀ u∈bh t,(0<=u.cost/\u.cost<=1048576)/\(0<=u.makes/\u.makes<ay t)/\(∀ n∈u.an,0<=n/\n<ay t)/\u.an.Nodup:=by
  intro u hu;obtain⟨i,j,hi,hj,rfl⟩:=qeO.1 hu;have ho:=hg.op i hi;have he:=qB (ho.dL j hj);rw[pd hg];refine⟨⟨ho.jc,ho.ly⟩,rz hg.pos he,fun n hn=>?_,qb9 (qb9 nodup_nil _) _⟩;have hw:=(ho.dL j hj).1;rcases uy.1 hn with h|⟨f,hf,rfl⟩
  ·rcases uy.1 h with h|⟨f,hf,rfl⟩
   ·simp at h
   ·obtain⟨k,hk,rfl⟩:=getElem_of_mem hf
    have:=(ho.pre k hk).1;rw[getD_at hk]at this;exact rz hg.pos this
  ·obtain⟨k,hk,rfl⟩:=getElem_of_mem hf
   have:=(hw k hk).1;rw[getD_at hk]at this;exact rz hg.pos this
 exact⟨fun i hi=>(key _ (u7 hi)).1,fun i hi=>(key _ (u7 hi)).2.1,fun i hi=>(key _ (u7 hi)).2.2.1,fun i hi=>(key _ (u7 hi)).2.2.2⟩
def BF (vars s:List Int) (f:Int):Prop:=∃ v:Nat,v<vars.length/\f=aV vars v+s.getD v aa.dflt
structure AW (t:Aa) (s out:List Int):Prop where
 len:out.length=ay t
 cC:∀ g:Int,0<=g->g<ay t->0<=dg out g/\dg out g<=inf
 mG:∀ g:Int,0<=g->g<ay t->dg out g<inf->Be (bh t) (BF t.vars s) g (dg out g)
 low:∀ g v,Be (bh t) (BF t.vars s) g v->0<=g->g<ay t->dg out g<=v
def bQ (vars:List Int) (goal:List Fact) (out:List Int):Int:=goal.foldl (fun m f=>max m (dg out (cz vars f))) 0
theorem qf5 (vars:List Int) (l:List Fact) (f:Fact) (out:List Int):bQ vars (l++[f]) out=max (bQ vars l out) (dg out (cz vars f)):=by simp[bQ]
theorem u9 {vars:List Int}{out:List Int}{b:Int}(hb:0<=b):∀ {l:List Fact},bQ vars l out<=b↔∀ f∈l,dg out (cz vars f)<=b:=by
 intro l;refine kx (P:=fun l=>bQ vars l out<=b↔∀ f∈l,dg out (cz vars f)<=b) (by simp[bQ,hb]) ?_ l;intro l f ih;rw[qf5,Int.max_le,ih];simp only[mem_append,mem_singleton];exact⟨fun⟨h1,h2⟩ x hx=>hx.elim (h1 x) fun e=>by rw[e];exact h2,fun h=>⟨fun x hx=>h x (.inl hx),h f (.inr rfl)⟩⟩
theorem wT (vars:List Int) (l:List Fact) (out:List Int):0<=bQ vars l out:=by
 refine kx (P:=fun l=>0<=bQ vars l out) (by simp[bQ]) ?_ l;intro l f ih;rw[qf5];omega
open Classical in
theorem Be.shift {U:List Un}{S S':Int->Prop}{c:Int}(hc:0<=c) (h:∀ f,S' f->∃ v,v<=c/\Be U S f v) {f v:Int}(hd:Be U S' f v):∃ v',v'<=v+c/\Be U S f v':=by
 induction hd with
 | start hs=>obtain⟨v,h1,h2⟩:=h _ hs;exact⟨v,by omega,h2⟩
 | @gK i v m hi hm hn hle ih =>
  refine⟨(un U i).cost+(m+c),by omega,.gK (v:=fun n=>if hx:∃ v',v'<=v n+c/\Be U S n v' then Classical.choose hx else 0) hi om (fun n iB => ?_) fun n iB => ?_⟩
  ·have hx:=ih n iB
   show Be U S n (dite _ _ _);rw[dif_pos hx];exact(Classical.choose_spec hx).2
  ·have hx:=ih n iB
   show dite _ _ _<=_;rw[dif_pos hx];have:=(Classical.choose_spec hx).1;have:=hle n iB;omega
theorem qco {vars s:List Int}(hs:Ac vars s) {f:Fact}(h:A4 s f):BF vars s (cz vars f) :=
 ⟨f.var.toNat,by have:=hs.1;have:=h.1;have:=h.2.1;omega,by unfold cz;rw[h.2.2]⟩
theorem qcp {s:List Int}{l:List Fact}(h:Aq s l) {f:Fact}(hf:f∈l):A4 s f:=by
 obtain⟨i,hi,rfl⟩:=getElem_of_mem hf;have:=h i hi
 rwa[getD_at hi]at this
theorem qhv {s:List Int}{l:List BD}(hr:∀ e∈l,0<=e.var/\e.var<s.length) {v:Nat}(hv:v<s.length):(dt s l).getD v aa.dflt=s.getD v aa.dflt\/∃ k,k<l.length/\(l.getD k ba).var=v/\(l.getD k ba).val=(dt s l).getD v aa.dflt/\Aq s (l.getD k ba).when:=by
 revert hr;refine kx (P:=fun l=>(∀ e∈l,0<=e.var/\e.var<(s.length:Int))->((dt s l).getD v aa.dflt=s.getD v aa.dflt\/∃ k,k<l.length/\(l.getD k ba).var=v/\(l.getD k ba).val=(dt s l).getD v aa.dflt/\Aq s (l.getD k ba).when)) (fun _=>.inl rfl) ?_ l;intro l e ih hr;have ih:=ih fun x hx=>hr x (by simp[hx]);have hl:∀ k,k<l.length->(l++[e]).getD k ba=l.getD k ba:=fun k hk=>by simp[List.getD,getElem?_append_left hk]
 have hold:(∃ k,k<l.length/\(l.getD k ba).var=v/\(l.getD k ba).val=(dt s l).getD v aa.dflt/\Aq s (l.getD k ba).when)->∃ k,k<(l++[e]).length/\((l++[e]).getD k ba).var=v/\((l++[e]).getD k ba).val=(dt s l).getD v aa.dflt/\Aq s ((l++[e]).getD k ba).when:=fun⟨k,h1,h2,h3,h4⟩=>⟨k,by simp;omega,by rw[hl k h1];exact h2,by rw[hl k h1];exact h3,by rw[hl k h1];exact h4⟩
 rw[z6];by_cases hw:Aq s e.when
 ·rw[if_pos hw]
  have he:=hr e (by simp);by_cases ev:e.var=v
  ·right
   have hg:(l++[e]).getD l.length ba=e:=by simp[List.getD]
   refine⟨l.length,by simp,by rw[hg];exact ev,?_,by rw[hg];exact hw⟩;rw[hg,ev,Int.toNat_natCast];have:v<(dt s l).length:=by rw[qf0];exact hv
   simp[List.getD,this]
  ·have fN:((dt s l).set e.var.toNat e.val).getD v aa.dflt=(dt s l).getD v aa.dflt:=by
    simp only[List.getD];rw[getElem?_set_ne om]
   rw[fN];exact ih.imp id hold
 ·rw[if_neg hw]
  exact ih.imp id hold
theorem qtO {t:Aa}{op k:Nat}(ho:op<t.ops.length) (hk:k<(t.ops.getD op aO).aw.length):∃ i,i<(bh t).length/\un (bh t) i=uZ t.vars op (t.ops.getD op aO) k:=by
 have hm:uZ t.vars op (t.ops.getD op aO) k∈bh t:=qeO.2 ⟨op,k,ho,hk,rfl⟩;obtain⟨i,hi,he⟩:=getElem_of_mem hm;exact⟨i,hi,by unfold un;rw[Int.toNat_natCast,getD_at hi];exact he⟩
theorem quM {t:Aa}(hg:Af t) {s out out':List Int}(hs:Ac t.vars s) {op:Nat}(ho:op<t.ops.length) (ha:A6 t s op) (h:AW t s out) (h':AW t (bm t s op) out') {g:Int}(h0:0<=g) (h1:g<ay t):dg out g<=(t.ops.getD op aO).cost+dg out' g:=by
 have sT:=hg.op op ho;have hc:=sT.jc;have hr:=h.cC g h0 h1;have j1:=h'.cC g h0 h1;by_cases hi:dg out' g<inf
 ·have hd:=h'.mG g h0 h1 hi
  obtain⟨v,hv,hdv⟩:=Be.shift (S:=BF t.vars s) hc (fun f hf=>by
   obtain⟨v,hv,rfl⟩:=hf;have iu:v<s.length:=by rw[hs.1];exact hv
   rcases qhv (s:=s) (l:=(t.ops.getD op aO).aw) (fun e he=>by have:=qB (sT.mem e he);rw[hs.1];exact⟨this.1,this.2.1⟩) iu with e|⟨k,hk,e1,e2,e3⟩
   ·exact⟨0,hc,.start ⟨v,hv,by rw[<-e];rfl⟩⟩
   ·obtain⟨i,hi,iv⟩:=qtO ho hk
    refine⟨(t.ops.getD op aO).cost+0,by omega,?_⟩;have qG:(un (bh t) i).makes=aV t.vars v+(bm t s op).getD v aa.dflt:=by
     rw[iv];show aV t.vars ((t.ops.getD op aO).aw.getD k ba).var.toNat+((t.ops.getD op aO).aw.getD k ba).val=_;rw[e1,e2,Int.toNat_natCast];rfl
    have jM:(un (bh t) i).cost=(t.ops.getD op aO).cost:=by rw[iv];rfl
    rw[<-qG,<-jM];refine .gK (v:=fun _=>0) hi (Int.le_refl _) (fun n hn=>.start ?_) fun _ _=>Int.le_refl _;rw[iv]at hn;rcases uy.1 hn with hn|⟨f,hf,rfl⟩
    ·rcases uy.1 hn with hn|⟨f,hf,rfl⟩
     ·simp at hn
     ·exact qco hs (qcp ha hf)
    ·exact qco hs (qcp e3 hf)) hd
  have:=h.low g v hdv h0 h1;omega
 ·omega
theorem quN {t:Aa}(hg:Af t) {s out out':List Int}(hs:Ac t.vars s) {op:Nat}(ho:op<t.ops.length) (ha:A6 t s op) (h:AW t s out) (h':AW t (bm t s op) out'):bQ t.vars t.goal out<=(t.ops.getD op aO).cost+bQ t.vars t.goal out':=by
 have hc:=(hg.op op ho).jc;have nP:=wT t.vars t.goal out';refine(u9 om).2 fun f hf=>?_;obtain⟨i,hi,rfl⟩:=getElem_of_mem hf;have j2:=(hg.goal i hi).1;rw[getD_at hi]at j2;have hn:=rz hg.pos j2;rw[<-pd hg]at hn;have:=quM hg hs ho ha h h' hn.1 hn.2;have:=(u9 nP).1 (Int.le_refl _) _ hf;omega
theorem quO {t:Aa}(hg:Af t) {s out:List Int}(hs:Ac t.vars s) (h:AW t s out) (hh:Aq s t.goal):bQ t.vars t.goal out=0:=by
 have h1:=wT t.vars t.goal out;have h2:bQ t.vars t.goal out<=0:=(u9 (Int.le_refl _)).2 fun f hf=>by
  obtain⟨i,hi,rfl⟩:=getElem_of_mem hf;have j2:=(hg.goal i hi).1;rw[getD_at hi]at j2;have hn:=rz hg.pos j2;rw[<-pd hg]at hn;exact h.low _ 0 (.start (qco hs (qcp hh hf))) hn.1 hn.2
 omega
theorem qH {t:Aa}(hg:Af t) {s out:List Int}(h:AW t s out):bQ t.vars t.goal out<=inf:=(u9 (by decide)).2 fun f hf=>by
 obtain⟨i,hi,rfl⟩:=getElem_of_mem hf;have j2:=(hg.goal i hi).1;rw[getD_at hi]at j2;have hn:=rz hg.pos j2;rw[<-pd hg]at hn;exact(h.cC _ hn.1 hn.2).2
theorem wU {t:Aa}{s out out':List Int}(h:AW t s out) (h':AW t s out'):out=out':=by
 apply ext_getElem (by rw[h.len,h'.len]);intro i h1 h2;have hi:i<ay t:=by rw[<-h.len];exact h1
 have a:=h.cC i om om;have a':=h'.cC i om om;have b:=h.mG i om om;have b':=h'.mG i om om;have c:=fun v hd=>h.low i v hd om om;have c':=fun v hd=>h'.low i v hd om om;have e:dg out (i:Int)=dg out' (i:Int):=by
  by_cases hx:dg out (i:Int)<inf
  ·have:=c' _ (b hx)
   have:=c _ (b' om);omega
  ·by_cases hy:dg out' (i:Int)<inf
   ·have:=c _ (b' hy);omega
   ·omega
 unfold dg at e;rw[Int.toNat_natCast,getD_at h1,getD_at h2]at e;exact e
theorem Be.nn {U:List Un}{S:Int->Prop}(hc:∀ i:Nat,i<U.length->0<=(un U i).cost) {g v:Int}(h:Be U S g v):0<=v:=by
 cases h with
 | start _=>exact Int.le_refl _
 | gK hi hm _ _=>have:=hc _ hi;omega
theorem qqw {U:List Un}{S:Int->Prop}(hc:∀ i:Nat,i<U.length->0<=(un U i).cost) (g:Int):∃ m,0<=m/\m<=inf/\(m<inf->Be U S g m)/\∀ v,Be U S g v->m<=v:=by
 have key:∀ n:Nat,(∃ v,Be U S g v/\v<(n:Int))->∃ m,Be U S g m/\∀ v,Be U S g v->m<=v:=by
  intro n
  induction n with
  | zero=>rintro⟨v,h1,h2⟩;have:=h1.nn hc;omega
  | succ n ih =>
   rintro⟨v,h1,h2⟩;by_cases h3:∃ v,Be U S g v/\v<(n:Int)
   ·exact ih h3
   ·refine⟨v,h1,fun v' h4=>?_⟩
    have:¬v'<(n:Int):=fun h5=>h3 ⟨v',h4,h5⟩;omega
 have e3:inf=1125899906842624:=rfl;by_cases h:∃ v,Be U S g v/\v<inf
 ·obtain⟨v,h1,h2⟩:=h
  obtain⟨m,h3,h4⟩:=key inf.toNat ⟨v,h1,by omega⟩;have:=h4 v h1;exact⟨m,h3.nn hc,by omega,fun _=>h3,h4⟩
 ·exact⟨inf,by omega,Int.le_refl _,fun h'=>absurd h' (Int.lt_irrefl _),fun v hv=>Int.not_lt.1 fun h'=>h ⟨v,hv,h'⟩⟩
open Classical in
theorem xA {t:Aa}(hg:Af t) (s:List Int):∃ out,AW t s out:=by
 have br:=qF hg;have h:=fun g:Int=>qqw (U:=bh t) (S:=BF t.vars s) (fun i hi=>(br.cost i hi).1) g;have hd:∀ g:Int,0<=g->g<ay t->dg ((List.range (ay t)).map fun (i:Nat)=>Classical.choose (h i)) g=Classical.choose (h g):=fun g h0 h1=>by
  have h2:g.toNat<ay t:=by omega
  unfold dg;simp[List.getD,h2,Int.toNat_of_nonneg h0]
 refine⟨(List.range (ay t)).map fun (i:Nat)=>Classical.choose (h i),by simp,fun g h0 h1=>?_,fun g h0 h1 h2=>?_,fun g v hv h0 h1=>?_⟩
 ·rw[hd g h0 h1];have:=Classical.choose_spec (h g);exact⟨this.1,this.2.1⟩
 ·rw[hd g h0 h1]at h2 ⊢;exact(Classical.choose_spec (h g)).2.2.1 h2
 ·rw[hd g h0 h1];exact(Classical.choose_spec (h g)).2.2.2 v hv
open Classical in
noncomputable def cp (t:Aa) (s:List Int):Int:=if h:Ac t.vars s/\∃ out,AW t s out then bQ t.vars t.goal (Classical.choose h.2) else 0
theorem tM {t:Aa}{s out:List Int}(hs:Ac t.vars s) (h:AW t s out):cp t s=bQ t.vars t.goal out:=by
 have hx:Ac t.vars s/\∃ out,AW t s out:=⟨hs,out,h⟩
 unfold cp;rw[dif_pos hx,wU (Classical.choose_spec hx.2) h]
theorem qgD {t:Aa}{s:List Int}(hs:¬Ac t.vars s):cp t s=0:=by
 unfold cp;rw[dif_neg (fun h=>hs h.1)]
theorem qvp {t:Aa}(hg:Af t):Dh t (cp t):=by
 have e3:(0:Int)<=inf:=by decide
 refine⟨hg,fun y=>?_,fun y=>?_⟩
 ·by_cases h:Ac t.vars y
  ·obtain⟨out,ho⟩:=xA hg y
   rw[tM h ho];exact wT _ _ _
  ·rw[qgD h];exact Int.le_refl _
 ·by_cases h:Ac t.vars y
  ·obtain⟨out,ho⟩:=xA hg y
   rw[tM h ho];exact qH hg ho
  ·rw[qgD h];exact e3
theorem qkp {t:Aa}(hg:Af t) {s:List Int}(hs:Ac t.vars s) {op:Nat}(ho:op<t.ops.length) (ha:A6 t s op):cp t s<=pJ t op+cp t (bm t s op):=by
 obtain⟨out,h1⟩:=xA hg s;obtain⟨out',h2⟩:=xA hg (bm t s op);rw[tM hs h1,tM (qA hg hs ho) h2];exact quN hg hs ho ha h1 h2
theorem qqx {t:Aa}(hg:Af t) {s:List Int}(hh:Aq s t.goal):cp t s=0:=by
 by_cases h:Ac t.vars s
 ·obtain⟨out,h1⟩:=xA hg s
  rw[tM h h1];exact quO hg h h1 hh
 ·exact qgD h
theorem qqy {t:Aa}{s out:List Int}(hl:out.length=ay t) (hr:∀ g:Int,0<=g->g<ay t->0<=dg out g/\dg out g<=inf) (hU:CU (bh t) (ay t)) (hs:∀ g,BF t.vars s g->dg out g<=0)
  (qy7:∀ i:Nat,i<(bh t).length->dg out (un (bh t) i).makes<=(un (bh t) i).cost+(un (bh t) i).an.foldl (fun m n=>max m (dg out n)) 0)
  (zm:∀ g:Int,0<=g->g<ay t->dg out g<inf->Be (bh t) (BF t.vars s) g (dg out g)):AW t s out:=by
 have hfm:∀ (l:List Int) (a k:Int),a<=k->(∀ n∈l,dg out n<=k)->l.foldl (fun m n=>max m (dg out n)) a<=k:=by
  intro l
  induction l with
  | nil=>intro a k h _;exact h
  | cons x l ih =>
   intro a k h h2;exact ih _ _ (Int.max_le.2 ⟨h,h2 x mem_cons_self⟩) fun n hn=>h2 n (mem_cons_of_mem _ hn)
 refine⟨hl,hr,zm,fun g v hd=>?_⟩
 induction hd with
 | start h=>intro _ _;exact hs _ h
 | @gK i v m hi hm hn hle ih =>
  intro h0 h1;have h2:=qy7 i hi;have h3:=hfm (un (bh t) i).an 0 m hm fun n iB=>by
   have hb:=hU.an i hi n iB;have:=ih n iB hb.1 hb.2;have:=hle n iB;omega
  omega
end
section
open Go.Sl Go
section
variable {t:Aa}{ops:List Int}{u n k:Nat}
end
end
section
open Go.Sl
structure Cl (n:Nat) (N:Nat->Nat) (C:Nat):Prop where
 bd:∀ v,ib C v->v<n
 o5:∀ u v,ib C u->ib C v->u≠v->ib (N u) v
theorem mA {x v u:Nat}:ib (x ||| 2 ^ v) u↔ib x u\/u=v:=by
 unfold ib;rw[testBit_or,testBit_two_pow,Bool.or_eq_true,decide_eq_true_eq];constructor
 ·rintro (h|h)
  ·exact .inl h
  ·exact .inr h.symm
 ·rintro (h|h)
  ·exact .inl h
  ·exact .inr h.symm
theorem qmn {n:Nat}{N:Nat->Nat}(hG:Gr n N):∀ (m:Nat) (C:Nat),Cl n N C->2 ^ n-C<=m->∃ C',B8 n N C'/\∀ v,ib C v->ib C' v:=by
 intro m
 induction m with
 | zero =>
  intro C hC hm;exfalso;have:C<2 ^ n:=lt_pow_two_of_testBit C fun i hi=>Bool.eq_false_iff.2 fun h=>by have:=hC.bd i h;omega
  omega
 | succ m ih =>
  intro C hC hm;by_cases hx:∃ u,u<n/\¬ib C u/\∀ v,ib C v->ib (N u) v
  ·obtain⟨u,hu,hnu,bZ⟩:=hx
   have wF:C<C ||| 2 ^ u:=by
    have h1:C<=C ||| 2 ^ u:=left_le_or;have h2:C≠C ||| 2 ^ u:=fun e=>hnu (by rw[e];exact mA.2 (.inr rfl));omega
   have hC2:Cl n N (C ||| 2 ^ u):=⟨fun v hv=>by
     rcases mA.1 hv with hv|rfl
     ·exact hC.bd v hv
     ·exact hu,fun a b ha hb pC=>by
     rcases mA.1 ha with ha'|ea
     ·rcases mA.1 hb with eY|eb
      ·exact hC.o5 a b ha' eY pC
      ·rw[eb];exact hG.sym _ _ (bZ a ha')
     ·rcases mA.1 hb with eY|eb
      ·rw[ea];exact bZ b eY
      ·exact absurd (ea.trans eb.symm) pC⟩
   have bD:C<2 ^ n:=lt_pow_two_of_testBit C fun i hi=>Bool.eq_false_iff.2 fun h=>by have:=hC.bd i h;omega
   obtain⟨C',h1,h2⟩:=ih _ hC2 om;exact⟨C',h1,fun v hv=>h2 v (mA.2 (.inl hv))⟩
  ·exact⟨C,⟨hC.bd,hC.o5,fun u hu hnu=>Classical.byContradiction fun iM=>hx ⟨u,hu,hnu,fun v hv=>Classical.byContradiction fun hh=>iM ⟨v,hv,hh⟩⟩⟩,fun v hv=>hv⟩
def Bh (n:Nat) (N:Nat->Nat) (Cs:List (List Int)):Prop:=∀ l,l∈Cs↔∃ C,B8 n N C/\l=cn C n
theorem qnD {a b v:Nat}:ib (a &&& b) v↔ib a v/\ib b v:=by
 unfold ib;rw[testBit_and,Bool.and_eq_true]
theorem qkO {a b v:Nat}:ib (a ||| b) v↔ib a v\/ib b v:=by
 unfold ib;rw[testBit_or,Bool.or_eq_true]
theorem qnE {k v:Nat}:ib (2 ^ k) v↔v=k:=by
 unfold ib;rw[testBit_two_pow,decide_eq_true_eq];exact⟨fun h=>h.symm,fun h=>h.symm⟩
theorem qvG {a v:Nat}(ha:a<18446744073709551616) (h:ib a v):v<64:=Nat.lt_of_not_le fun hle=>by
 unfold ib at h;rw[testBit_lt_two_pow (Nat.lt_of_lt_of_le (show a<2 ^ 64 from ha) (Nat.pow_le_pow_right (by decide) hle))]at h;cases h
theorem qux {a b v:Nat}(ha:a<18446744073709551616) (hb:b<18446744073709551616):ib (a &&& mq b) v↔ib a v/\¬ib b v:=by
 rw[qnD];constructor
 ·rintro⟨h1,h2⟩
  refine⟨h1,fun h3=>?_⟩;unfold ib at h2 h3;rw[qm2 hb,h3]at h2;simp at h2
 ·rintro⟨h1,h2⟩
  refine⟨h1,?_⟩;unfold ib at h2 ⊢;rw[qm2 hb,decide_eq_true (qvG ha h1),Bool.eq_false_iff.2 h2];rfl
theorem qwh {a b v:Nat}(h1:ib a v) (h2:¬ib b v):a &&& b<a:=by
 have h:=and_le_left (n:=a) (m:=b);have cY:a &&& b≠a:=fun e=>by
  rw[<-e]at h1;exact h2 (qnD.1 h1).2
 omega
theorem qC {x:Nat}(h:x=0) (v:Nat):¬ib x v:=by subst h;simp[ib]
theorem qkP {x:Nat}(h:∀ v,¬ib x v):x=0:=eq_of_testBit_eq fun i=>by rw[zero_testBit];exact Bool.eq_false_iff.2 (h i)
structure Bd (n:Nat) (N:Nat->Nat) (R P l:Nat) (r:Bool) (M:List Nat):Prop where
 nd:M.Nodup
 mem:∀ C∈M,Bf n N R P C
 all:r=true->∀ C,Bf n N R P C->C∈M
 le:r=true->l+M.length<=4096
 gt:r=false->l+M.length=4097
structure FI (n:Nat) (N:Nat->Nat) (R P l q p x:Nat) (M:List Nat):Prop where
 bi:BI n N R p x
 ple:p<=P
 qp:∀ v,ib q v->ib p v
 meet:∀ C,Bf n N R p C->∃ u,ib C u/\ib q u
 nd:M.Nodup
 mem:∀ C∈M,Bf n N R P C/\¬Bf n N R p C
 all:∀ C,Bf n N R P C->C∈M\/Bf n N R p C
 sub:∀ C,Bf n N R p C->Bf n N R P C
 le:l+M.length<=4096
section
variable {n:Nat}{N:Nat->Nat}{R P X l q p x:Nat}{M:List Nat}
theorem Bd.base (h:BI n N R P X) (hP:P=0) (hX:X=0) (hl:l<=4096):Bd n N R P l (decide (l+1<=4096)) [R] where
 nd:=by simp
 mem C hC:=by rw[mem_singleton.1 hC];exact(h.base (qC hP) (qC hX)).2 rfl
 all _ C hC:=mem_singleton.2 ((h.base (qC hP) (qC hX)).1 hC)
 le hr:=by simpa using hr
 gt hr:=by simp at hr;simp;omega
theorem FI.start (hG:Gr n N) (h:BI n N R P X) {u:Nat}(hu:ib P u\/ib X u) (hq:∀ v,ib q v↔ib P v/\¬ib (N u) v) (hl:l<=4096):FI n N R P l q P X [] where
 bi:=h
 ple:=Nat.le_refl _
 qp v hv:=((hq v).1 hv).1
 meet C hC:=by
  obtain⟨w,h1,h2,h3⟩:=h.pivot hG hu hC;exact⟨w,h1,(hq w).2 ⟨h2,h3⟩⟩
 nd:=nodup_nil
 mem C hC:=by simp at hC
 all C hC:=.inr hC
 sub _ hC:=hC
 le:=by simpa using hl
theorem FI.step (hG:Gr n N) (h:FI n N R P l q p x M) {v R1 P1 p' x' q':Nat}{M1:List Nat}(hv:ib q v) (h1:∀ u,ib R1 u↔ib R u\/u=v) (h2:∀ u,ib P1 u↔ib p u/\ib (N v) u) (hf:Bd n N R1 P1 (l+M.length) true M1)
  (hp:∀ u,ib p' u↔ib p u/\u≠v) (hx:∀ u,ib x' u↔ib x u\/u=v) (hq:∀ u,ib q' u↔ib q u/\u≠v) (qzw:p'<=p):FI n N R P l q' p' x' (M++M1):=by
 have hs:=fun C=>h.bi.split (C:=C) hG (h.qp v hv) h1 h2 hp;refine⟨h.bi.next (h.qp v hv) hp hx,Nat.le_trans qzw h.ple,fun u hu=>?_,fun C hC=>?_,?_,fun C hC=>?_,fun C hC=>?_,fun C hC=>h.sub C ((hs C).1.2 (.inr hC)),?_⟩
 ·have:=(hq u).1 hu
  exact(hp u).2 ⟨h.qp u this.1,this.2⟩
 ·obtain⟨u,a,b⟩:=h.meet C ((hs C).1.2 (.inr hC))
  have hn:=(hs C).2.2 hC;exact⟨u,a,(hq u).2 ⟨b,fun e=>hn (e ▸ a)⟩⟩
 ·refine nodup_append.2 ⟨h.nd,hf.nd,fun a ha b hb e=>?_⟩
  subst e;exact(h.mem a ha).2 ((hs a).1.2 (.inl (hf.mem a hb)))
 ·rcases mem_append.1 hC with hC|hC
  ·exact⟨(h.mem C hC).1,fun hh=>(h.mem C hC).2 ((hs C).1.2 (.inr hh))⟩
  ·have hc:=hf.mem C hC
   exact⟨h.sub C ((hs C).1.2 (.inl hc)),fun hh=>(hs C).2.2 hh ((hs C).2.1 hc)⟩
 ·rcases h.all C hC with hh|hh
  ·exact .inl (mem_append_left _ hh)
  ·rcases (hs C).1.1 hh with hh|hh
   ·exact .inl (mem_append_right _ (hf.all rfl C hh))
   ·exact .inr hh
 ·have:=hf.le rfl
  rw[length_append];omega
theorem FI.fail (hG:Gr n N) (h:FI n N R P l q p x M) {v R1 P1:Nat}{M1:List Nat}(hv:ib q v) (h1:∀ u,ib R1 u↔ib R u\/u=v) (h2:∀ u,ib P1 u↔ib p u/\ib (N v) u) (hf:Bd n N R1 P1 (l+M.length) false M1) :
  Bd n N R P l false (M++M1):=by
 have hs:=fun C=>(h.bi.split (C:=C) (P2:=p &&& (p ^^^ 2 ^ v)) hG (h.qp v hv) h1 h2 (fun u=>by
  unfold ib;rw[testBit_and,testBit_xor,testBit_two_pow];by_cases e:u=v
  ·subst e
   have hp:p.testBit u=true:=h.qp u hv;simp[hp]
  ·have e2:¬v=u:=fun hh=>e hh.symm
   simp[e,e2])).1.2
 refine⟨nodup_append.2 ⟨h.nd,hf.nd,fun a ha b hb e=>?_⟩,fun C hC=>?_,fun hr=>(by cases hr),fun hr=>(by cases hr),fun _=>?_⟩
 ·subst e
  exact(h.mem a ha).2 (hs a (.inl (hf.mem a hb)))
 ·rcases mem_append.1 hC with hC|hC
  ·exact(h.mem C hC).1
  ·exact h.sub C (hs C (.inl (hf.mem C hC)))
 ·have:=hf.gt rfl
  rw[length_append];omega
theorem FI.done (h:FI n N R P l q p x M) (hq:q=0):Bd n N R P l true M:=by
 have iM:∀ C,¬Bf n N R p C:=fun C hC=>by
  obtain⟨u,_,hu⟩:=h.meet C hC;exact qC hq u hu
 exact⟨h.nd,fun C hC=>(h.mem C hC).1,fun _ C hC=>(h.all C hC).elim id fun hh=>absurd hh (iM C),fun _=>h.le,fun hr=>(by cases hr)⟩
end
structure C3 where
 op:Int
 dL:Int
 cost:Int
 makes:Int
 an:Value
def iO:Ty C3:=⟨5,fun u=>[.int .i64 u.op,.int .i64 u.dL,.int .i64 u.cost,.int .i64 u.makes,u.an],fun _=>rfl,⟨0,0,0,0,.slice none 0 0⟩⟩
instance qx5:BN iO:=⟨trivial⟩
structure Dy (w:World) (v:C3) (u:Un):Prop where
 op:v.op=u.op
 dL:v.dL=u.dL
 cost:v.cost=u.cost
 makes:v.makes=u.makes
 an:RS aa w v.an u.an
def BJ (vs:List C3) (us:List Un) (w:World):Prop:=∀ i:Nat,i<us.length->Dy w (az iO vs i) (un us i)
def cw (vars:List Int) (k:Nat):List Int:=(List.range k).map (aV vars)
theorem wJ (vars:List Int) (k:Nat):(cw vars k).length=k:=by simp[cw]
theorem quC {vars:List Int}{k i:Nat}(h:i<k):(cw vars k).getD i aa.dflt=aV vars i:=by simp[cw,List.getD,h]
theorem qjB (vars:List Int) (k:Nat):cw vars (k+1)=cw vars k++[aV vars k]:=by simp[cw,range_succ]
def ic (U:List Un) (u:Un) (i N:Nat):List (List Int):=(List.range N).map fun (f:Nat)=>cT U f++(if (f:Int)∈u.an.take i then [(U.length:Int)] else [])
def et (U:List Un) (N:Nat):List (List Int):=(List.range N).map fun (f:Nat)=>cT U f
theorem qmo (U:List Un) (u:Un) (i N:Nat):(ic U u i N).length=N:=by simp[ic]
theorem qif (U:List Un) (N:Nat):(et U N).length=N:=by simp[et]
theorem quD {U:List Un}{N f:Nat}(h:f<N):(et U N).getD f []=cT U f:=by simp[et,List.getD,h]
theorem qr7 (N:Nat):et [] N=replicate N []:=by
 apply ext_getElem (by simp[et]);intro i h1 h2;simp[et,cT]
theorem qo5 (U:List Un) (u:Un) (N:Nat):ic U u 0 N=et U N:=by simp[ic,et]
theorem qo6 (U:List Un) (u:Un) (f:Int):cT (U++[u]) f=cT U f++(if f∈u.an then [(U.length:Int)] else []):=by
 unfold cT;rw[length_append,length_singleton,range_succ,filter_append,map_append];have h1:(List.range U.length).filter (fun (i:Nat)=>decide (f∈(un (U++[u]) i).an))=(List.range U.length).filter fun (i:Nat)=>decide (f∈(un U i).an):=filter_congr fun i hi=>by
  have hi:=mem_range.1 hi;have:un (U++[u]) i=un U i:=by unfold un;simp[List.getD,getElem?_append_left hi]
  rw[this]
 have h2:un (U++[u]) (U.length:Nat)=u:=by unfold un;simp[List.getD]
 rw[h1];congr 1;simp only[filter_cons,filter_nil];rw[h2];by_cases h:f∈u.an
 ·simp[h]
 ·simp[h]
theorem qr8 (U:List Un) (u:Un) (N:Nat):ic U u u.an.length N=et (U++[u]) N:=by
 unfold ic et;refine map_congr_left fun f _=>?_;rw[qo6,take_length]
theorem qo7 {U:List Un}{u:Un}{i N f:Nat}(h:f<N):(ic U u i N).getD f []=cT U f++(if (f:Int)∈u.an.take i then [(U.length:Int)] else []):=by simp[ic,List.getD,h]
theorem qr9 {U:List Un}{u:Un}{i N:Nat}(hi:i<u.an.length) (hn:u.an.Nodup) (hr:∀ n∈u.an,0<=n/\n<N):(ic U u i N).set (u.an.getD i aa.dflt).toNat ((ic U u i N).getD (u.an.getD i aa.dflt).toNat []++[(U.length:Int)])=ic U u (i+1) N:=by
 have hm:=hr _ (bY aa.dflt hi);have hni:u.an.getD i aa.dflt∉u.an.take i:=by
  rw[getD_at hi];intro h;obtain⟨j,hj,he⟩:=getElem_of_mem h;rw[length_take]at hj;rw[getElem_take]at he
  exact absurd he (by
   have:=pairwise_iff_getElem.1 hn j i om hi om
   exact this)
 have r5:u.an.take (i+1)=u.an.take i++[u.an.getD i aa.dflt]:=dJ aa.dflt hi;rw[qo7 om,if_neg (by rw[Int.toNat_of_nonneg hm.1];exact hni),append_nil];apply ext_getElem (by simp[ic]);intro j h1 h2;rw[getElem_set];have hj:j<N:=by simpa [ic] using h2
 simp only[ic,getElem_map,getElem_range];rw[r5];split
 ·rename_i e
  subst e;rw[Int.toNat_of_nonneg hm.1,if_pos (by simp)]
 ·rename_i e
  have e2:(j:Int)≠u.an.getD i aa.dflt:=fun h=>e (by rw[<-h];rfl);by_cases h:(j:Int)∈u.an.take i
  ·rw[if_pos h,if_pos (mem_append_left _ h)]
  ·rw[if_neg h,if_neg (by simp only[mem_append,mem_singleton];exact fun hh=>hh.elim h e2)]
theorem qmp (U:List Un) (f:Int):(cT U f).length<=U.length:=by
 unfold cT;rw[length_map];exact Nat.le_trans (length_filter_le _ _) (by simp)
theorem qlb (U:List Un) (u:Un) (i N f:Nat):((ic U u i N).getD f []).length<=U.length+1:=by
 by_cases h:f<N
 ·rw[qo7 h]
  have:=qmp U f;split<;>simp<;>omega
 ·simp[ic,List.getD,h]
def cM (U:List Un):List Int:=((List.range U.length).filter fun (i:Nat)=>decide ((un U i).an=[])).map fun (i:Nat)=>(i:Int)
theorem qsa:cM []=[]:=by simp[cM]
theorem qmq {U:List Un}{i:Int}:i∈cM U↔∃ k:Nat,i=k/\k<U.length/\(un U k).an=[]:=by
 unfold cM;simp only[mem_map,mem_filter,mem_range,decide_eq_true_eq];constructor
 ·rintro⟨k,⟨h1,h2⟩,rfl⟩;exact⟨k,rfl,h1,h2⟩
 ·rintro⟨k,rfl,h1,h2⟩;exact⟨k,⟨h1,h2⟩,rfl⟩
theorem qmr (U:List Un):(cM U).length<=U.length:=by
 unfold cM;rw[length_map];exact Nat.le_trans (length_filter_le _ _) (by simp)
theorem qjC (U:List Un) (u:Un):cM (U++[u])=cM U++(if u.an=[] then [(U.length:Int)] else []):=by
 unfold cM;rw[length_append,length_singleton,range_succ,filter_append,map_append];have h1:(List.range U.length).filter (fun (i:Nat)=>decide ((un (U++[u]) i).an=[]))=(List.range U.length).filter fun (i:Nat)=>decide ((un U i).an=[]):=filter_congr fun i hi=>by
  have hi:=mem_range.1 hi;have:un (U++[u]) i=un U i:=by unfold un;simp[List.getD,getElem?_append_left hi]
  rw[this]
 have h2:un (U++[u]) (U.length:Nat)=u:=by unfold un;simp[List.getD]
 rw[h1];congr 1;simp only[filter_cons,filter_nil];rw[h2];by_cases h:u.an=[]
 ·simp[h]
 ·simp[h]
theorem qfY {U:List Un}{u:Un}{i:Nat}(h:i<U.length):un (U++[u]) i=un U i:=by unfold un;simp[List.getD,getElem?_append_left h]
theorem qfZ {U:List Un}{u:Un}:un (U++[u]) (U.length:Nat)=u:=by unfold un;simp[List.getD]
def ko (D:List Int) (g v:Int):List Int:=if v<dg D g then D.set g.toNat v else D
def nH (D:List Int) (Q:List Item) (g v:Int):List Item:=if v<dg D g then ⟨v,g⟩::Q else Q
theorem qi1 (D:List Int) (Q:List Item) (g v:Int):(nH D Q g v).length<=Q.length+1:=by unfold nH;split<;>simp
theorem qi2 {D:List Int}{N:Nat}(hl:D.length=N) {g v:Int}(hg:0<=g/\g<N) {x:Int}(hx:0<=x):dg (D.set g.toNat v) x=if x=g then v else dg D x:=by
 unfold dg;by_cases e:x=g
 ·rw[if_pos e,e]
  have bD:g.toNat<D.length:=by omega
  simp[List.getD,bD]
 ·rw[if_neg e]
  simp only[List.getD];rw[getElem?_set_ne om]
theorem qnj {D:List Int}{N:Nat}(hl:D.length=N) {g v:Int}(hg:0<=g/\g<N) {x:Int}(hx:0<=x):dg (ko D g v) x<=dg D x:=by
 unfold ko;split
 ·rw[qi2 hl hg hx]
  split
  ·rename_i h e;rw[e];omega
  ·exact Int.le_refl _
 ·exact Int.le_refl _
theorem qqE {D:List Int}{N:Nat}(hl:D.length=N) {g v:Int}(hg:0<=g/\g<N):dg (ko D g v) g<=v:=by
 unfold ko;split
 ·rw[qi2 hl hg hg.1,if_pos rfl];exact Int.le_refl _
 ·omega
theorem qs8 {D:List Int}{N:Nat}(hl:D.length=N) {g v:Int}(hg:0<=g/\g<N) {x m:Int}(hx:0<=x) (hm:dg D x=m) (hv:m<=v):dg (ko D g v) x=m:=by
 unfold ko;split
 ·rw[qi2 hl hg hx]
  split
  ·rename_i h e;rw[<-e]at h;omega
  ·exact hm
 ·exact hm
structure CM (U:List Un) (S:Int->Prop) (N:Nat) (D:List Int) (Q:List Item):Prop where
 dl:D.length=N
 cC:∀ g:Int,0<=g->g<N->0<=dg D g/\dg D g<=inf
 mG:∀ g:Int,0<=g->g<N->dg D g<inf->Be U S g (dg D g)
 act:∀ g:Int,0<=g->g<N->dg D g<inf->∃ x∈Q,x.state=g/\x.bf=dg D g
 kZ:∀ x∈Q,(0<=x.state/\x.state<N)/\dg D x.state<=x.bf/\0<=x.bf/\x.bf<inf
section
variable {U:List Un}{S:Int->Prop}{N:Nat}{D lf dn:List Int}{Q:List Item}{m f:Int}{ok:Nat->Prop}
theorem CM.init (U:List Un) (S:Int->Prop) (N:Nat):CM U S N (replicate N inf) []:=by
 have h:∀ g:Int,0<=g->g<N->dg (replicate N inf) g=inf:=fun g h0 h1=>by
  unfold dg;have:g.toNat<N:=by omega
  simp[List.getD,getElem?_replicate,this]
 exact⟨by simp,fun g h0 h1=>by rw[h g h0 h1];exact⟨by decide,Int.le_refl _⟩,fun g h0 h1 h2=>by rw[h g h0 h1]at h2;exact absurd h2 (Int.lt_irrefl _),fun g h0 h1 h2=>by rw[h g h0 h1]at h2;exact absurd h2 (Int.lt_irrefl _),fun x hx=>by simp at hx⟩
theorem CM.perm (h:CM U S N D Q) {Q':List Item}(hp:Q'.Perm Q):CM U S N D Q' :=
 { h with
  act:=fun g a b c=>let ⟨x,hx,hh⟩:=h.act g a b c;⟨x,hp.mem_iff.2 hx,hh⟩
  kZ:=fun x hx=>h.kZ x (hp.mem_iff.1 hx) }
theorem CM.rch (h:CM U S N D Q) {g v:Int}(hg:0<=g/\g<N) (hv:0<=v) (hd:Be U S g v):CM U S N (ko D g v) (nH D Q g v):=by
 unfold ko nH;by_cases bD:v<dg D g
 ·rw[if_pos bD,if_pos bD]
  have hr:=h.cC g hg.1 hg.2;have gU:∀ x:Int,0<=x->dg (D.set g.toNat v) x=if x=g then v else dg D x:=fun x hx=>qi2 h.dl hg hx
  refine⟨by simp[h.dl],fun x h0 h1=>?_,fun x h0 h1 h2=>?_,fun x h0 h1 h2=>?_,fun x hx=>?_⟩
  ·rw[gU x h0];split
   ·exact⟨by omega,by omega⟩
   ·exact h.cC x h0 h1
  ·rw[gU x h0]at h2 ⊢
   split
   ·rename_i e;rw[e];exact hd
   ·rename_i e;rw[if_neg e]at h2;exact h.mG x h0 h1 h2
  ·rw[gU x h0]at h2 ⊢
   by_cases e:x=g
   ·exact⟨⟨v,g⟩,mem_cons_self,e.symm,by rw[if_pos e]⟩
   ·rw[if_neg e]at h2 ⊢
    obtain⟨y,hy,h4⟩:=h.act x h0 h1 h2;exact⟨y,mem_cons_of_mem _ hy,h4⟩
  ·rcases mem_cons.1 hx with rfl|hx
   ·refine⟨hg,?_,hv,by have:=hr.2;show v<inf;omega⟩
    rw[gU _ hg.1,if_pos rfl];exact Int.le_refl _
   ·obtain⟨e1,e2,e3,e4⟩:=h.kZ x hx
    have h5:=gU x.state e1.1;refine⟨e1,?_,e3,e4⟩;rw[h5];split
    ·rename_i e;rw[e]at e2;omega
    ·exact e2
 ·rw[if_neg bD,if_neg bD];exact h
theorem CM.start (h:CM U S N D Q) (hl:lf.length=U.length) (yS:∀ i:Nat,i<U.length->dg lf i=(un U i).an.length) (hc:∀ i:Nat,i<U.length->0<=(un U i).cost) (gn:∀ i:Nat,i<U.length->(un U i).an=[]->dg D (un U i).makes<=(un U i).cost):RI U S N D lf [] Q 0 0 (fun _=>True):=by
 refine⟨h.dl,hl,h.cC,h.mG,fun i hi _=>by rw[yS i hi,qve],fun i hi ho=>absurd trivial ho,fun i hi _ hn k hk gW=>?_,fun g a b c _=>h.act g a b c,h.kZ,fun g hg=>by simp at hg,Int.le_refl _,by decide⟩;have ew:(un U i).an=[]:=by
  cases hx:(un U i).an with
  | nil=>rfl
  | cons a l=>have:=hn a (by rw[hx];exact mem_cons_self);simp at this
 have:=gn i hi ew;omega
theorem RI.okc (h:RI U S N D lf dn Q m f ok) {ok':Nat->Prop}(hk:∀ i,ok i↔ok' i):RI U S N D lf dn Q m f ok':=by
 have:ok=ok':=funext fun i=>propext (hk i);rw[<-this];exact h
theorem RI.rch (h:RI U S N D lf dn Q m f ok) {g v:Int}(hg:0<=g/\g<N) (hm:m<=v) (hd:Be U S g v):RI U S N (ko D g v) lf dn (nH D Q g v) m f ok:=by
 unfold ko nH;by_cases bD:v<dg D g
 ·rw[if_pos bD,if_pos bD];exact h.reach hg bD hm hd
 ·rw[if_neg bD,if_neg bD];exact h
end
def pB (dn:List Int) (N:Nat):List Bool:=(List.range N).map fun (g:Nat)=>decide ((g:Int)∈dn)
theorem qvt (dn:List Int) (N:Nat):(pB dn N).length=N:=by simp[pB]
theorem qvu (N:Nat):pB [] N=replicate N false:=by
 apply ext_getElem (by simp[pB]);intro i h1 h2;simp[pB]
theorem qwb {dn:List Int}{N:Nat}{g:Int}(h0:0<=g) (h1:g<N) {d:Bool}:(pB dn N).getD g.toNat d=decide (g∈dn):=by
 have:g.toNat<N:=by omega
 simp[pB,List.getD,this,Int.toNat_of_nonneg h0]
theorem qvv {dn:List Int}{N:Nat}{g:Int}(h0:0<=g) (h1:g<N):(pB dn N).set g.toNat true=pB (g::dn) N:=by
 apply ext_getElem (by simp[pB]);intro i h2 h3;have hi:i<N:=by simpa [pB] using h3
 rw[getElem_set];simp only[pB,getElem_map,getElem_range];split
 ·rename_i e
  have:(i:Int)=g:=by omega
  simp[this]
 ·rename_i e
  have:(i:Int)≠g:=by omega
  simp[this]
theorem qcO:∀ {N:Nat}{l:List Int},l.Nodup->(∀ v∈l,0<=v/\v<(N:Int))->l.length<=N
 | 0,l,_,h=>by
  cases l with
  | nil=>exact Nat.le_refl _
  | cons a l=>have:=h a mem_cons_self;omega
 | n+1,l,hn,h=>by
  by_cases hm:(n:Int)∈l
  ·have h1:=qcO (N:=n) (hn.erase (n:Int)) fun v hv=>by
    have iD:=(hn.mem_erase_iff).1 hv;have:=h v iD.2;have:=iD.1;omega
   rw[length_erase_of_mem hm]at h1;omega
  ·have:=qcO (N:=n) hn fun v hv=>by
    have:=h v hv;have:v≠(n:Int):=fun e=>hm (e ▸ hv);omega
   omega
theorem qls {α:Type} [DecidableEq α]:∀ {L M:List α},L.Nodup->(∀ x∈L,x∈M)->L.length<=M.length
 | [],_,_,_=>zero_le _
 | x::L,M,hd,h=>by
  obtain⟨h1,h2⟩:=nodup_cons.1 hd;have hx:=h x mem_cons_self;have h3:=qls (L:=L) (M:=M.erase x) h2 fun y hy=>(mem_erase_of_ne (fun (e:y=x)=>by subst e;exact h1 hy)).2 (h y (mem_cons_of_mem _ hy));rw[length_erase_of_mem hx]at h3;have:=length_pos_of_mem hx;simp only[length_cons];omega
end
end Go.Proofs.YtmapkjoefdgjfaaGreatDoor
