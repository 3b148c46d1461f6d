/-
  Several texts as one: TLr, TLmk, TReach, TDiv.
-/
import Derived.Test.YtdadmnlenbdfbaaGreatMW15
import Derived.Test.YtdadmnlenbdfbaaGreatMTA
set_option linter.unusedSimpArgs false
set_option linter.unusedVariables false
/-
  References 34 and 35, in plain Lean: values by variable, arcs as the reference has them, the zones as lists.
-/
namespace Go.Proofs.YtdadmnlenbdfbaaGreat
open Go.Sl
section
variable {vars:List Int}
end
section
variable {t:TTask}{z V cs D:List Int}
def rNeed (o:TOp) (j:Nat):List Fact:=o.pre++(o.effs.getD j dEff).when
def rTo (o:TOp) (j:Nat):Fact:=⟨(o.effs.getD j dEff).var,(o.effs.getD j dEff).val⟩
theorem qhu (hg:GoodT t) {k j:Nat}(hk:k<t.ops.length) (hj:j<(t.ops.getD k dOp).effs.length):∀ f∈rNeed (t.ops.getD k dOp) j,FactOk t.vars f:=fun f hf=>by
 have ho:=hg.op k hk
 rcases List.mem_append.1 hf with hf|hf
 ·obtain⟨i,hi,rfl⟩:=List.getElem_of_mem hf
  have:=(ho.pre i hi).1
  rwa [qak hi] at this
 ·obtain⟨i,hi,rfl⟩:=List.getElem_of_mem hf
  have:=((ho.eff j hj).1 i hi).1
  rwa [qak hi] at this
theorem qlp (hg:GoodT t) {k j:Nat}(hk:k<t.ops.length) (hj:j<(t.ops.getD k dOp).effs.length):FactOk t.vars (rTo (t.ops.getD k dOp) j):=by
 have:=qcm ((hg.op k hk).eff j hj)
 exact this
end
end Go.Proofs.YtdadmnlenbdfbaaGreat
/-
  Fact landmarks, in plain Lean: what is reached without a fact; each plan uses an achiever of a landmark.
-/
namespace Go.Proofs.YtdadmnlenbdfbaaGreat
open Go.Sl
inductive Rch (t:TTask) (s:List Int) (w:Fact):Fact→Prop
 | st {v:Nat}:v<t.vars.length→Rch t s w ⟨(v:Int),s.getD v tInt.dflt⟩
 | op {k j:Nat}:k<t.ops.length→j<(t.ops.getD k dOp).effs.length→rTo (t.ops.getD k dOp) j≠w→(∀ f∈rNeed (t.ops.getD k dOp) j,Rch t s w f)→Rch t s w (rTo (t.ops.getD k dOp) j)
section
variable {t:TTask}{s:List Int}{f:Fact}
end
end Go.Proofs.YtdadmnlenbdfbaaGreat
/-
  What is reached, as rows of Booleans: the fixpoint of passes over the operators' effects.
-/
namespace Go.Proofs.YtdadmnlenbdfbaaGreat
open Go.Sl
structure LUn where
 op:Nat
 needs:List Fact
 makes:Fact
def unKL (t:TTask) (k:Nat):List LUn:=(List.range (t.ops.getD k dOp).effs.length).map fun j=>⟨k,rNeed (t.ops.getD k dOp) j,rTo (t.ops.getD k dOp) j⟩
def unF (t:TTask):List LUn:=(List.range t.ops.length).flatMap (unKL t)
theorem qgG {t:TTask}{u:LUn}:u∈unF t↔∃ k j,k<t.ops.length∧j<(t.ops.getD k dOp).effs.length∧u=⟨k,rNeed (t.ops.getD k dOp) j,rTo (t.ops.getD k dOp) j⟩:=by
 unfold unF unKL
 rw [List.mem_flatMap]
 constructor
 ·rintro⟨k,hk,h⟩
  obtain⟨j,hj,rfl⟩:=List.mem_map.1 h
  exact⟨k,j,List.mem_range.1 hk,List.mem_range.1 hj,rfl⟩
 ·rintro⟨k,j,hk,hj,rfl⟩
  exact⟨k,List.mem_range.2 hk,List.mem_map.2 ⟨j,List.mem_range.2 hj,rfl⟩⟩
def atB (F:List (List Bool)) (x:Fact):Bool:=(F.getD x.var.toNat []).getD x.val.toNat false
def setB (F:List (List Bool)) (x:Fact):List (List Bool):=F.set x.var.toNat ((F.getD x.var.toNat []).set x.val.toNat true)
def cntB (F:List (List Bool)):Nat:=(F.map fun r=>r.countP fun b => !b).sum
theorem qcs {vars:List Int}{f:Fact}(h:FactOk vars f):0≤f.var∧f.var.toNat<vars.length∧0≤f.val∧f.val<vars.getD f.var.toNat tInt.dflt:=by
 obtain⟨h1,h2,h3,h4⟩:=h
 exact⟨h1,by omega,h3,h4⟩
structure ShpB (vars:List Int) (F:List (List Bool)):Prop where
 len:F.length=vars.length
 row:∀ v,v<vars.length→(F.getD v []).length=(vars.getD v tInt.dflt).toNat
theorem ShpB.set {vars:List Int}{F:List (List Bool)}(h:ShpB vars F) (x:Fact):ShpB vars (setB F x):=by
 refine⟨by unfold setB;rw [List.length_set];exact h.len,fun v hv => ?_⟩
 have hl:=h.len
 unfold setB
 by_cases e:x.var.toNat=v
 ·subst e
  rw [qak (by rw [List.length_set];omega),List.getElem_set_self,List.length_set]
  exact h.row _ hv
 ·simp only [List.getD]
  rw [List.getElem?_set_ne e]
  exact h.row v hv
theorem qjn {vars:List Int}{F:List (List Bool)}(h:ShpB vars F) {x y:Fact}(hx:FactOk vars x) (hy:FactOk vars y):atB (setB F x) y=if y=x then true else atB F y:=by
 obtain⟨x1,x2,x3,x4⟩:=qcs hx
 obtain⟨y1,y2,y3,y4⟩:=qcs hy
 have hl:=h.len
 have hr:=h.row _ x2
 unfold atB setB
 by_cases e:x.var.toNat=y.var.toNat
 ·have h1:(F.set x.var.toNat ((F.getD x.var.toNat []).set x.val.toNat true)).getD x.var.toNat []=(F.getD x.var.toNat []).set x.val.toNat true:=by
   rw [qak (by rw [List.length_set];omega),List.getElem_set_self]
  rw [←e,h1]
  by_cases e2:x.val.toNat=y.val.toNat
  ·have:y=x:=by
    cases x;cases y
    simp only at *
    congr 1 <;> omega
   rw [if_pos this,←e2,qak (by rw [List.length_set];omega),List.getElem_set_self]
  ·have:y≠x:=fun hh=>e2 (by rw [hh])
   rw [if_neg this]
   simp only [List.getD]
   rw [List.getElem?_set_ne e2]
 ·have:y≠x:=fun hh=>e (by rw [hh])
  rw [if_neg this]
  simp only [List.getD]
  rw [List.getElem?_set_ne e]
theorem countP_set {r:List Bool}:∀ {i:Nat},i<r.length→r.getD i false=false→(r.set i true).countP (fun b => !b)<r.countP (fun b => !b):=by
 induction r with
 | nil=>intro i hi;exact absurd hi (Nat.not_lt_zero _)
 | cons b r ih =>
  intro i hi hb
  cases i with
  | zero =>
   have:b=false:=hb
   subst this
   simp [List.set]
  | succ i =>
   have:=ih (i:=i) (by simpa using hi) (by simpa [List.getD_cons_succ] using hb)
   simp only [List.set,List.countP_cons]
   omega
theorem qme {F:List (List Bool)}{r:List Bool}:∀ {i:Nat},i<F.length→r.countP (fun b => !b)<(F.getD i []).countP (fun b => !b)→cntB (F.set i r)<cntB F:=by
 unfold cntB
 induction F with
 | nil=>intro i hi;exact absurd hi (Nat.not_lt_zero _)
 | cons b F ih =>
  intro i hi hb
  cases i with
  | zero =>
   have hb':r.countP (fun b => !b)<b.countP (fun b => !b):=hb
   simp only [List.set,List.map_cons,List.sum_cons]
   omega
  | succ i =>
   have:=ih (i:=i) (by simpa using hi) (by simpa [List.getD_cons_succ] using hb)
   simp only [List.set,List.map_cons,List.sum_cons]
   omega
theorem qmf {vars:List Int}{F:List (List Bool)}(h:ShpB vars F) {x:Fact}(hx:FactOk vars x) (hn:atB F x=false):cntB (setB F x)<cntB F:=by
 obtain⟨x1,x2,x3,x4⟩:=qcs hx
 have hl:=h.len
 have hr:=h.row _ x2
 exact qme (by omega) (countP_set (by omega) hn)
structure RchI (t:TTask) (s:List Int) (w:Fact) (F:List (List Bool)):Prop where
 shp:ShpB t.vars F
 snd_:∀ f,FactOk t.vars f→atB F f=true→Rch t s w f
 st:∀ v:Nat,v<t.vars.length→atB F ⟨(v:Int),s.getD v tInt.dflt⟩=true
def hasB (F:List (List Bool)) (l:List Fact):Bool:=l.all (atB F)
theorem RchI.fire {t:TTask}{s:List Int}{w:Fact}{F:List (List Bool)}(h:RchI t s w F) (hg:GoodT t) (hs:StateOk t.vars s) {u:LUn}(hu:u∈unF t) (hw:u.makes≠w) (hh:hasB F u.needs=true):RchI t s w (setB F u.makes):=by
 obtain⟨k,j,hk,hj,rfl⟩:=qgG.1 hu
 have hm:=qlp hg hk hj
 have hR:Rch t s w (rTo (t.ops.getD k dOp) j):=.op hk hj hw fun f hf=>h.snd_ f (qhu hg hk hj f hf) (List.all_eq_true.1 hh f hf)
 refine⟨h.shp.set _,fun f hf hat => ?_,fun v hv => ?_⟩
 ·rw [qjn h.shp hm hf] at hat
  split at hat
  ·rename_i e;rw [e];exact hR
  ·exact h.snd_ f hf hat
 ·have hf:FactOk t.vars ⟨(v:Int),s.getD v tInt.dflt⟩:=by
   have hl:=hs.1
   have:=hs.2 v (by omega)
   exact⟨Int.natCast_nonneg v,by show (v:Int)<t.vars.length;omega,this.1,by show s.getD v tInt.dflt<t.vars.getD (v:Int).toNat tInt.dflt;rw [Int.toNat_natCast];exact this.2⟩
  rw [qjn h.shp hm hf]
  split
  ·rfl
  ·exact h.st v hv
def ClsB (t:TTask) (w:Fact) (F:List (List Bool)) (i:Nat):Prop:=∀ u∈(unF t).take i,u.makes≠w→hasB F u.needs=true→atB F u.makes=true
theorem RchI.fin {t:TTask}{s:List Int}{w:Fact}{F:List (List Bool)}(h:RchI t s w F) (hc:ClsB t w F (unF t).length) {f:Fact}(hf:FactOk t.vars f):atB F f=true↔Rch t s w f:=by
 refine⟨h.snd_ f hf,fun hR => ?_⟩
 clear hf
 induction hR with
 | st hv=>exact h.st _ hv
 | @op k j hk hj hw _ ih =>
  exact hc ⟨k,rNeed (t.ops.getD k dOp) j,rTo (t.ops.getD k dOp) j⟩ (by rw [List.take_length];exact qgG.2 ⟨k,j,hk,hj,rfl⟩) hw (List.all_eq_true.2 ih)
theorem RchI.has {t:TTask}{s:List Int}{w:Fact}{F:List (List Bool)}(h:RchI t s w F) (hc:ClsB t w F (unF t).length) {l:List Fact}(hl:∀ f∈l,FactOk t.vars f):hasB F l=true↔∀ f∈l,Rch t s w f:=by
 unfold hasB
 rw [List.all_eq_true]
 exact⟨fun hh f hf=>(h.fin hc (hl f hf)).1 (hh f hf),fun hh f hf=>(h.fin hc (hl f hf)).2 (hh f hf)⟩
end Go.Proofs.YtdadmnlenbdfbaaGreat
/-
  Divided costs, in plain Lean: greedy, in equal shares, and by a linear program: no operator pays too much.
-/
namespace Go.Proofs.YtdadmnlenbdfbaaGreat
open Go.Sl
def minA (left:List Int):List Int→Int
 | []=>0
 | op::c=>c.foldl (fun m o=>min m (left.getD o.toNat tInt.dflt)) (left.getD op.toNat tInt.dflt)
theorem qda {left:List Int}:∀ {c:List Int}{a:Int},c.foldl (fun m o=>min m (left.getD o.toNat tInt.dflt)) a≤a∧∀ o∈c,c.foldl (fun m o=>min m (left.getD o.toNat tInt.dflt)) a≤left.getD o.toNat tInt.dflt
 | [],a=>⟨Int.le_refl _,fun o h=>absurd h List.not_mem_nil⟩
 | x::c,a=>by
  obtain⟨h1,h2⟩:=qda (left:=left) (c:=c) (a:=min a (left.getD x.toNat tInt.dflt))
  have h3:=Int.min_le_left a (left.getD x.toNat tInt.dflt)
  have h4:=Int.min_le_right a (left.getD x.toNat tInt.dflt)
  rw [List.foldl_cons]
  refine⟨by omega,fun o ho => ?_⟩
  rcases List.mem_cons.1 ho with e|ho
  ·rw [e];omega
  ·exact h2 o ho
theorem qdb {left:List Int}(hl:∀ x∈left,0≤x):∀ {c:List Int}{a:Int},0≤a→0≤c.foldl (fun m o=>min m (left.getD o.toNat tInt.dflt)) a
 | [],_,h=>h
 | x::c,a,h=>by
  rw [List.foldl_cons]
  refine qdb hl (c:=c) ?_
  have:0≤left.getD x.toNat tInt.dflt:=by
   by_cases h2:x.toNat<left.length
   ·exact hl _ (qan tInt.dflt h2)
   ·rw [List.getD,List.getElem?_eq_none (by omega)];exact Int.le_refl _
  omega
theorem qma {left c:List Int}{o:Int}(h:o∈c):minA left c≤left.getD o.toNat tInt.dflt:=by
 cases c with
 | nil=>exact absurd h List.not_mem_nil
 | cons x c =>
  obtain⟨h1,h2⟩:=qda (left:=left) (c:=c) (a:=left.getD x.toNat tInt.dflt)
  rcases List.mem_cons.1 h with e|h
  ·rw [e];exact h1
  ·exact h2 o h
theorem qmb {left c:List Int}(hl:∀ x∈left,0≤x):0≤minA left c:=by
 cases c with
 | nil=>exact Int.le_refl _
 | cons x c =>
  refine qdb hl ?_
  by_cases h2:x.toNat<left.length
  ·exact hl _ (qan tInt.dflt h2)
  ·rw [List.getD,List.getElem?_eq_none (by omega)];exact Int.le_refl _
def decA (left c:List Int) (m:Int):List Int:=(List.range left.length).map fun (i:Nat)=>if (i:Int)∈c then left.getD i tInt.dflt-m else left.getD i tInt.dflt
theorem qbp (left c:List Int) (m:Int):(decA left c m).length=left.length:=by simp [decA]
theorem qdc {left c:List Int}{m:Int}{i:Nat}(hi:i<left.length):(decA left c m).getD i tInt.dflt=if (i:Int)∈c then left.getD i tInt.dflt-m else left.getD i tInt.dflt:=by
 rw [qak (by rw [qbp];exact hi)]
 simp [decA]
theorem qmc {left c:List Int}(hl:∀ x∈left,0≤x):∀ x∈decA left c (minA left c),0≤x:=fun x hx=>by
 obtain⟨i,hi,rfl⟩:=List.getElem_of_mem hx
 have hi':i<left.length:=by rw [qbp] at hi;exact hi
 rw [←qak (d:=tInt.dflt) hi,qdc hi']
 have h1:=hl _ (qan tInt.dflt hi')
 split
 ·rename_i h
  have:=qma (left:=left) h
  rw [Int.toNat_natCast] at this
  omega
 ·exact h1
def gdyV:List Int→List (List Int)→List Int
 | _,[]=>[]
 | left,c::C=>minA left c::gdyV (decA left c (minA left c)) C
def manyO (C:List (List Int)) (op:Nat):Nat:=C.countP fun c=>decide ((op:Int)∈c)
end Go.Proofs.YtdadmnlenbdfbaaGreat
