/-
  Several texts as one: SlRes, SlSort, SlEq, SlRead, SlNum, SlSel, SlMap, SlMapS, SlBytes, SlInvM, SlRange, SlRes3, SlAgg, SlMapN, SlPtr, SlExt, SlU64, SlBld, SlSortV, SlDrawn, SlSub, SlSortK, SlEqA, SlRes7, SlRangeN.
-/
import Derived.Test.YtjdlohdcdmhigaaGreatDoorMSlA
import Derived.Sort.Row
import Derived.Sort.Grow
import Derived.Laws.Cover3
import Derived.Laws.StructEq
import Derived.ChangeSame
import Derived.ChangeShapes
import Derived.ChangeSlices
import Derived.Laws.BytesString
import Derived.Laws.Strings
import Derived.RangeFuncFrom
import Derived.RangeFuncLeaves
import Derived.Laws.Externs
import Derived.Stop.Asserts
import Derived.Lib.IfaceEq
import Derived.Lib.Builder
import Derived.Lib.UnsafeStr
import Derived.Deep.Draws
import Derived.Shelf.GgSortFunc.InsertionK
set_option linter.unusedSimpArgs false
set_option linter.unusedVariables false
/-
  Results that lie in memory.
-/
namespace Go.Sl
section
variable {P:Program}{ρ:Fr}{w:World}
theorem qcB {p:Addr}{n ty:Nat}{vs:List Value} [A:AggT P ty n] (hn:vs.length=n) (hc:∀ j v,vs[j]? = some v→w.cell? (p.add j)=some v):(loadVar ty p).run P w=.ok (.agg vs.toArray) w:=by
 subst hn
 have:=run_loadCells_list (P:=P) (w:=w) p vs hc
 simp [loadVar,A.agg.1,A.agg.2,this]
theorem qar {fn:Func}{R:Value→World→Prop}{s s' ty n:Nat}{p:Addr}{vs:List Value}{v':Value} [A:AggT P ty n] (hr:fn.results=#[.cell s ty,.tmp s']) (hv:ρ s=.pointer (some p)) (hv':ρ s'=v') (hn:vs.length=n) (hc:∀ j v,vs[j]? = some v→w.cell? (p.add j)=some v)
  (h:R (.tuple #[.agg vs.toArray,v']) w):postV P fn R .ret ρ w :=
 ⟨.tuple #[.agg vs.toArray,v'],fun a ha=>by
  have h1:a.tmps.getD s undef=.pointer (some p):=by rw [←hv,←ha];rfl
  have h2:a.tmps.getD s' undef=v':=by rw [←hv',←ha];rfl
  have h3:=qcB (P:=P) (A:=A) hn hc
  simp only [results,hr,List.mapM_toArray,List.mapM_cons,List.mapM_nil,h1,h2,bind_pure_comp,map_pure]
  simp [asAddr,h3],h⟩
end
end Go.Sl
/-
  What the kit's contracts of the sorting functions say of the world, as 'Sat'.
-/
namespace Go.Sl
open Go.RowKit (Below)
theorem Sat.ahead {w0 w:World}{Γ:List HP}(h:Sat w0 w Γ) (n:Nat):Sat w0 (Sort.ahead w n) Γ:=⟨h.below.trans ⟨rfl,rfl,rfl,Nat.le_refl _,fun _ _=>rfl⟩,h.sat⟩
theorem Sat.grow {w0 w:World}{Γ:List HP}(h:Sat w0 w Γ) (os:Array Obj):Sat w0 (Sort.grow w os) Γ:=by
 have hsz:=h.below.size
 refine⟨h.below.trans ⟨rfl,rfl,rfl,by simp [Sort.grow],fun k hk => ?_⟩,h.sat.sub fun b o hb => ?_⟩
 ·simp only [Sort.grow];rw [Array.getElem?_append_left (by omega)]
 ·simp only [newH] at hb ⊢
  split at hb
  ·cases hb
  ·rename_i h1
   rw [if_neg h1]
   have hlt:=(Array.getElem?_eq_some_iff.1 hb).1
   simp only [Sort.grow];rw [Array.getElem?_append_left hlt];exact hb
theorem qfS (xs:List Int):xs.flatMap tInt.enc=xs.map (Value.int .i64):=by
 induction xs with
 | nil=>rfl
 | cons x xs ih=>rw [List.flatMap_cons,ih];rfl
theorem qgA {pre post:List Value}{xs ys:List Int}(hl:ys.length=xs.length) :
  Sort.putCells (Value.int .i64) pre.length ys.toArray (pre++xs.map (Value.int .i64)++post).toArray=(pre++ys.map (Value.int .i64)++post).toArray:=by
 apply Array.ext_getElem?
 intro k
 simp only [Sort.putCells,Array.getElem?_mapIdx,List.getElem?_toArray,List.size_toArray]
 by_cases h1:k<pre.length
 ·rw [List.append_assoc,List.getElem?_append_left h1,List.append_assoc,List.getElem?_append_left h1]
  cases pre[k]? with
  | none=>rfl
  | some v=>simp only [Option.map_some];rw [if_neg (by omega)]
 ·by_cases h2:k<pre.length+ys.length
  ·have e1:(pre++xs.map (Value.int .i64)++post)[k]? = some (Value.int .i64 (xs[k-pre.length]'(by omega))):=by
    rw [List.append_assoc,List.getElem?_append_right (by omega),List.getElem?_append_left (by simp;omega),List.getElem?_map,List.getElem?_eq_getElem (by omega)];rfl
   have e2:(pre++ys.map (Value.int .i64)++post)[k]? = some (Value.int .i64 (ys[k-pre.length]'(by omega))):=by
    rw [List.append_assoc,List.getElem?_append_right (by omega),List.getElem?_append_left (by simp;omega),List.getElem?_map,List.getElem?_eq_getElem (by omega)];rfl
   rw [e1,e2]
   simp only [Option.map_some]
   rw [if_pos (by omega)]
   congr 2
   simp [show k-pre.length<ys.length by omega]
  ·have e1:(pre++xs.map (Value.int .i64)++post)[k]? = post[k-pre.length-ys.length]? := by
    rw [List.append_assoc,List.getElem?_append_right (by omega),List.getElem?_append_right (by simp;omega)];simp [hl]
   have e2:(pre++ys.map (Value.int .i64)++post)[k]? = post[k-pre.length-ys.length]? := by
    rw [List.append_assoc,List.getElem?_append_right (by omega),List.getElem?_append_right (by simp;omega)];simp
   rw [e1,e2]
   cases post[k-pre.length-ys.length]? with
   | none=>rfl
   | some v=>simp only [Option.map_some];rw [if_neg (by omega)]
theorem Sat.intsAt {w0 w:World}{Γ:List HP}{e:TypeId}{s:Value}{xs:List Int}(hw:Sat w0 w (OS tInt e s xs::Γ)) :
  (s=.slice none 0 0∧xs=[])∨∃ b off cap,s=.slice (some ⟨b,off,none⟩) xs.length cap∧xs.length≤cap∧b<w.heap.size∧Sort.Holds (Value.int .i64) w b off xs.toArray ∧
   ∀ ys:List Int,ys.length=xs.length→∀ n,Sat w0 (Sort.putRow (Value.int .i64) (Sort.ahead w n) b off ys.toArray) (OS tInt e s ys::Γ):=by
 obtain⟨h1,hs,ho,hl⟩:=hw.at 0 rfl
 rcases ho with ⟨rfl,hnil⟩|⟨b,off,n,cap,pre,post,rfl,hpre,hvl,hnc,hbig,hpl,hb⟩
 ·left
  refine⟨rfl,?_⟩
  cases xs with
  | nil=>rfl
  | cons x xs=>simp [tInt] at hnil
 ·right
  simp only [slen] at hl
  subst hl
  rw [qfS] at hb
  have hheap:=(hs b _ hb).1
  refine⟨b,off,cap,rfl,hnc,(Array.getElem?_eq_some_iff.1 hheap).1,fun j hj=>⟨?_,frozen_of_heap hheap _⟩,fun ys hy m => ?_⟩
  ·simp only [List.size_toArray] at hj
   rw [cell_of_heap hheap,List.append_assoc,List.getElem?_append_right (by omega),List.getElem?_append_left (by simp;omega),hpre,show off+j-off=j by omega,List.getElem?_map,List.getElem?_eq_getElem hj]
   simp [hj]
  ·have e1:Sort.putRow (Value.int .i64) (Sort.ahead w m) b off ys.toArray=putB (Sort.ahead w m) b (.cells (pre++ys.map (Value.int .i64)++post).toArray e (0,0)):=by
    simp only [Sort.putRow,Sort.mapBlock,putB,Sort.ahead]
    congr 1
    apply Array.ext_getElem?
    intro k
    have hbl:=(Array.getElem?_eq_some_iff.1 hheap).1
    by_cases hk:b=k
    ·subst hk
     rw [Array.getElem?_modify,if_pos rfl,hheap,Array.getElem?_setIfInBounds_self_of_lt hbl]
     simp only [Option.map_some,Sort.onCells]
     rw [←hpre,qgA hy]
    ·rw [Array.getElem?_modify,if_neg hk,Array.getElem?_setIfInBounds_ne hk]
   rw [e1]
   refine Sat.put (hw.ahead m) fun g hg ⟨ho',hl'⟩ => ?_
   rcases ho' with ⟨hn,_⟩|⟨b',off',n',cap',pre',post',hs',hpre',hvl',hnc',hbig',hpl',hb'⟩
   ·cases hn
   ·cases hs'
    refine⟨⟨_,hb'⟩,.inr ⟨b,off,_,cap,pre,post,rfl,hpre,by rw [qfS];simp [hy,tInt],hnc,hbig,hpl,by rw [qfS];simp [hpS]⟩,by rw [hy];exact hl'⟩
section
variable {P:Program}{ρ:Fr}{w:World}{ty:TypeId}{pos:String}{af:Array Edge}{g:Option (Nat × Bool)}{dst:Option Nat}{x y:Operand}{t t':TypeId}
theorem qcm {e sz by_:Nat}{a:Option Addr}{n c:Nat} [S:SliceT P t e sz by_] (hx:evl ρ x=.slice a n c):PureV P ⟨dst,.binOp .eql t x (.const (.slice none 0 0)) t',ty,pos,af,g⟩ ρ (.bool a.isNone):=fun w=>by
 have h1:=run_equal_slice_nil (P:=P) w t e a n c S.und
 simp only [execOp,eqGuard,hx]
 cases x <;> simp [evl,binOp,h1]
end
end Go.Sl
/-
  Structs of ints compared; shifts; results in one cell.
-/
namespace Go.Sl
def eqIntsB (P:Program) (t n:Nat):Bool:=match P.underlying t with
 | some (.struct fs)=>fs.size == n && (List.range n).all (fun i=>match fs[i]? with|some f => !(f.name == "_") && f.offset == i && cellB P f.type && (match P.underlying f.type with | some (.int _) => true | _ => false) | none => false) && !P.stoodInHeld t && !P.eqGuardType P.depth t
 | _=>false
class EqIntsT (P:Program) (t:Nat) (n:outParam Nat):Prop where
 ok:eqIntsB P t n=true
section
variable {P:Program}{ρ:Fr}{w:World}{ty:TypeId}{pos:String}{af:Array Edge}{g:Option (Nat × Bool)}{dst:Option Nat}{x y:Operand}{t t':TypeId}
theorem qdE {d:Nat}:∀ (fs:List Field) (k:Nat) (us zs:List Int) (xs ys:Array Value) (w:World),us.length=fs.length→zs.length=fs.length →
  (∀ j f,fs[j]? = some f→f.name≠ "_" ∧ f.offset = k + j ∧ CellT P f.type ∧ ∃ kd, P.underlying f.type = some (.int kd)) →
  (∀ j a,us[j]? = some a→xs[k+j]? = some (.int .i64 a))→(∀ j a,zs[j]? = some a→ys[k+j]? = some (.int .i64 a)) →
  (Op.eqFields (d+1) xs ys fs).run P w=.ok (decide (us=zs)) w
 | [],k,[],[],xs,ys,w,_,_,_,_,_=>by simp [Op.eqFields]
 | f::fs,k,a::us,b::zs,xs,ys,w,h1,h2,hf,hx,hy=>by
  obtain⟨hn,ho,C,kd,hk⟩:=hf 0 f rfl
  have ex:=hx 0 a rfl
  have ey:=hy 0 b rfl
  simp only [Nat.add_zero] at ho ex ey
  have ih:=qdE (d:=d) fs (k+1) us zs xs ys w (by simpa using h1) (by simpa using h2) (fun j f' hj=>by have:=hf (j+1) f' (by simpa using hj);rw [show k+(j+1)=k+1+j by omega] at this;exact this)
   (fun j a' hj=>by have:=hx (j+1) a' (by simpa using hj);rw [show k+(j+1)=k+1+j by omega] at this;exact this) (fun j a' hj=>by have:=hy (j+1) a' (by simpa using hj);rw [show k+(j+1)=k+1+j by omega] at this;exact this)
  have p1:(part f.type xs f.offset).run P w=.ok (.int .i64 a) w:=by simp [part,C.plain.1,ho,ex]
  have p2:(part f.type ys f.offset).run P w=.ok (.int .i64 b) w:=by simp [part,C.plain.1,ho,ey]
  simp only [Op.eqFields,ne_eq,hn,not_false_eq_true,if_true,Sem.run_bind,p1,p2,Result.andThen_ok,run_equalIn_int w d f.type .i64 kd a b hk]
  by_cases h:a=b
  ·subst h
   simp only [beq_self_eq_true,Bool.not_true,Bool.false_eq_true,if_false,ih]
   congr 1
   simp
  ·have hb:(a == b)=false:=by simpa using h
   rw [hb]
   simp [h]
theorem EqIntsT.run {n:Nat}(T:EqIntsT P t n) {us zs:List Int}(h1:us.length=n) (h2:zs.length=n) (w:World):(Op.equalIn 10000 t (.agg (us.map (Value.int .i64)).toArray) (.agg (zs.map (Value.int .i64)).toArray)).run P w=.ok (decide (us=zs)) w∧P.eqGuardType P.depth t=false:=by
 have h:=T.ok
 simp only [eqIntsB] at h
 split at h
 ·rename_i fs hd
  simp only [Bool.and_eq_true,Bool.not_eq_true',beq_iff_eq,List.all_eq_true,List.mem_range] at h
  obtain⟨⟨⟨hs,hall⟩,hst⟩,hgu⟩:=h
  have hfo:P.fieldsOf t=fs:=by simp [Program.fieldsOf,hd]
  refine⟨?_,hgu⟩
  rw [run_equalIn_struct w 9999 t _ _ (by rw [hfo];exact hd) hst,hfo]
  refine qdE (d:=9998) fs.toList 0 us zs _ _ w (by simp [h1,hs]) (by simp [h2,hs]) (fun j f hj => ?_) (fun j a hj=>by simp [hj]) (fun j a hj=>by simp [hj])
  have hjl:j<n:=by have:=(List.getElem?_eq_some_iff.1 hj).1;simpa [hs] using this
  have:=hall j hjl
  rw [show fs[j]? = some f by simpa using hj] at this
  simp only [Bool.and_eq_true,Bool.not_eq_true',beq_iff_eq] at this
  obtain⟨⟨⟨a1,a2⟩,a3⟩,a4⟩:=this
  refine⟨by simpa using a1,by simpa using a2,⟨a3⟩,?_⟩
  split at a4
  ·rename_i kd hk;exact⟨kd,hk⟩
  ·cases a4
 ·cases h
theorem qjm {n:Nat}{us zs:List Int} [T:EqIntsT P t n] (hx:evl ρ x=.agg (us.map (Value.int .i64)).toArray) (hy:evl ρ y=.agg (zs.map (Value.int .i64)).toArray) (h1:us.length=n) (h2:zs.length=n):PureV P ⟨dst,.binOp .neq t x y t',ty,pos,af,g⟩ ρ (.bool (!decide (us=zs))):=fun w=>by
 obtain⟨hr,hg⟩:=T.run h1 h2 w
 simp only [execOp,hx,hy,Sem.run_bind,run_eqGuard_agg w .neq t x y _ _ hg,Result.andThen_ok,run_neq_struct,hr,Sem.run_pure]
theorem qis {fn:Func}{R:Value→World→Prop}{s ty n:Nat}{p:Addr}{vs:List Value} [A:AggT P ty n] (hr:fn.results=#[.cell s ty]) (hv:ρ s=.pointer (some p)) (hn:vs.length=n) (hc:∀ j v,vs[j]? = some v→w.cell? (p.add j)=some v)
  (h:R (.agg vs.toArray) w):postV P fn R .ret ρ w :=
 ⟨.agg vs.toArray,fun a ha=>by
  have h1:a.tmps.getD s undef=.pointer (some p):=by rw [←hv,←ha];rfl
  have h3:=qcB (P:=P) (A:=A) hn hc
  simp only [results,hr,List.mapM_toArray,List.mapM_cons,List.mapM_nil,h1,bind_pure_comp,map_pure]
  simp [asAddr,h3],h⟩
end
end Go.Sl
/-
  From the form's reading of an argument to what a walk is told: a slice of elements of one kind.
-/
namespace Go.Sl
open Go.RowKit (Below)
section
variable {H:Type}{enc:TypeId × Value→H}{P:Program}{w:World}{base:Nat}{spare:Nat→Bool}{held:Bool}
def Rd {α:Type}(enc:TypeId × Value→H) (P:Program) (w:World) (base:Nat) (spare:Nat→Bool) (held:Bool) (t:TypeId) (T:Ty α) (Good:α→Prop):Prop :=
 ∀ fuel cs y,DataW.trod enc P w base spare held fuel t cs=some y→∃ x,cs=T.enc x∧Good x
theorem qeD {t:TypeId}(ht:P.underlying t=some (.int .i64)):Rd enc P w base spare held t tInt fun n => -9223372036854775808≤n∧n≤9223372036854775807:=by
 intro fuel cs y h
 obtain⟨n,rfl,_,hw⟩:=DataW.trod_int ht h
 refine⟨n,rfl,?_⟩
 simpa [Lit.wf,IntKind.min,IntKind.max,IntKind.signed,IntKind.bits] using hw
theorem qiQ {α β:Type}{f:α→Option β}:∀ {l:List α}{r:List β},l.mapM f=some r→∀ (i:Nat) (x:α),l[i]? = some x→∃ y,f x=some y∧r[i]? = some y
 | [],r,h,i,x,hx=>by simp at hx
 | a::l,r,h,i,x,hx=>by
  simp only [List.mapM_cons,Option.bind_eq_bind,Option.pure_def] at h
  cases ha:f a with
  | none=>simp [ha] at h
  | some b =>
   cases hl:l.mapM f with
   | none=>simp [ha,hl] at h
   | some r' =>
    simp only [ha,hl,Option.bind_some,Option.some.injEq] at h
    subst h
    cases i with
    | zero=>simp at hx;subst hx;exact⟨b,ha,rfl⟩
    | succ i=>simp at hx;obtain⟨y,h1,h2⟩:=qiQ hl i x hx;exact⟨y,h1,by simpa using h2⟩
theorem qlf {a:Addr}{n:Nat}{cs:List Value}(h:w.cells? base a n=some cs):cs.length=n∧∀ (i:Nat) v,cs[i]? = some v→w.cell? (a.add i)=some v:=by
 unfold World.cells? at h
 split at h
 ·have hl:cs.length=n:=by
   have:∀ {l:List Nat}{r:List Value},l.mapM (fun i=>w.cell? (a.add i))=some r→r.length=l.length:=by
    intro l
    induction l with
    | nil=>intro r h;simp at h;subst h;rfl
    | cons x l ih =>
     intro r h
     simp only [List.mapM_cons,Option.bind_eq_bind,Option.pure_def] at h
     cases hx:w.cell? (a.add x) with
     | none=>simp [hx] at h
     | some b =>
      cases hr:l.mapM (fun i=>w.cell? (a.add i)) with
      | none=>simp [hx,hr] at h
      | some r'=>simp only [hx,hr,Option.bind_some,Option.some.injEq] at h;subst h;simp [ih hr]
   have:=this h;simpa using this
  refine⟨hl,fun i v hv => ?_⟩
  have hi:=(List.getElem?_eq_some_iff.1 hv).1
  obtain⟨y,h1,h2⟩:=qiQ h i i (by rw [List.getElem?_range (by omega)])
  rw [hv] at h2;cases h2;exact h1
 ·cases h
theorem add_add (a:Addr) (i j:Nat) (hs:a.spot=none):(a.add i).add j=⟨a.block,a.off+(i+j),none⟩:=by
 unfold Addr.add
 obtain⟨b,o,s⟩:=a
 simp only at hs;subst hs
 split <;> split <;> simp_all <;> omega
theorem qeE {α β:Type}{Q:Nat→α→Prop}:∀ (n:Nat),(∀ i,i<n→∃ x,Q i x)→∃ xs:List α,xs.length=n∧∀ (i:Nat) x,xs[i]? = some x→Q i x
 | 0,_=>⟨[],rfl,by simp⟩
 | n+1,h=>by
  obtain⟨xs,hl,hx⟩:=qeE (β:=β) n fun i hi=>h i (by omega)
  obtain⟨x,hq⟩:=h n (by omega)
  refine⟨xs++[x],by simp [hl],fun i y hy => ?_⟩
  rcases Nat.lt_or_ge i n with hi|hi
  ·rw [List.getElem?_append_left (by omega)] at hy;exact hx i y hy
  ·have hlt:=(List.getElem?_eq_some_iff.1 hy).1
   simp at hlt
   have:i=n:=by omega
   subst this
   rw [List.getElem?_append_right (by omega),hl] at hy
   simp at hy;subst hy;exact hq
theorem qbO {α:Type}{T:Ty α}{Good:α→Prop}{t e:TypeId}(ht:P.underlying t=some (.slice e)) (hsz:P.cellsOf e=T.sz) (hpos:0<T.sz) (hE:Rd enc P w base spare held e T Good) :
  Rd enc P w base spare held t tVal fun v=>∃ xs,RS T w v xs∧∀ x∈xs,Good x:=by
 intro fuel cs y h
 rcases DataW.trod_slice ht h with ⟨rfl,_⟩|⟨a,len,cap,elems,rest,fuel',_,rfl,_,_,hlc,hcm,hlen,hel,_⟩
 ·exact⟨_,rfl,[],RS.nil,by simp⟩
 ·have hget:∀ i,i<len→∃ x:α,Good x∧∀ (k:Nat) v,(T.enc x)[k]? = some v→w.cell? ((a.add (i*P.cellsOf e)).add k)=some v:=by
   intro i hi
   have h1:=hel i hi
   rw [List.getElem?_eq_getElem (by omega)] at h1
   cases hc:w.cells? base (a.add (i*P.cellsOf e)) (P.cellsOf e) with
   | none=>simp [hc] at h1
   | some cs =>
    simp only [hc,Option.bind_some] at h1
    obtain⟨x,rfl,hg⟩:=hE _ cs _ h1
    exact⟨x,hg,(qlf hc).2⟩
  obtain⟨xs,hl,hx⟩:=qeE (β:=Unit) (Q:=fun i (x:α)=>Good x∧∀ (k:Nat) v,(T.enc x)[k]? = some v→w.cell? ((a.add (i*P.cellsOf e)).add k)=some v) len hget
  refine⟨_,rfl,xs,⟨⟨some a,len,cap,rfl,by rw [T.len,hl],⟨hlc,by unfold maxLen at hcm;unfold big;omega⟩,?_⟩,hl⟩,?_⟩
  ·intro i v hv
   have hi:=(List.getElem?_eq_some_iff.1 hv).1
   rw [T.len] at hi
   have hq:i / T.sz<xs.length:=(Nat.div_lt_iff_lt_mul hpos).2 hi
   have hmod:i % T.sz<T.sz:=Nat.mod_lt _ hpos
   have hsplit:i=i / T.sz*T.sz+i % T.sz:=by rw [Nat.mul_comm];exact (Nat.div_add_mod i T.sz).symm
   have h1:=T.get xs (i / T.sz) (i % T.sz) hq hmod
   rw [←hsplit,hv] at h1
   have hgd:xs[i / T.sz]? = some (xs.getD (i / T.sz) T.dflt):=by simp [List.getD,hq]
   have hcell:=(hx _ _ hgd).2 _ _ h1.symm
   have hspot:a.spot=none:=by
    cases hsp:a.spot with
    | none=>rfl
    | some s0 =>
     have hx0:0<xs.length:=Nat.lt_of_le_of_lt (Nat.zero_le _) hq
     have he0:0<(T.enc xs[0]).length:=by rw [T.ok];exact hpos
     have h00:=(hx 0 xs[0] (List.getElem?_eq_getElem hx0)).2 0 (T.enc xs[0])[0] (List.getElem?_eq_getElem he0)
     have:(a.add (0*P.cellsOf e)).add 0=a:=by simp [Addr.add]
     rw [this] at h00
     unfold World.cell? at h00
     split at h00
     ·simp [hsp] at h00
     ·cases h00
   refine⟨a,rfl,hspot,?_⟩
   rw [add_add a _ _ hspot,hsz,←hsplit] at hcell
   exact hcell
  ·intro x hxm
   obtain⟨i,hi,rfl⟩:=List.getElem_of_mem hxm
   exact (hx i _ (List.getElem?_eq_getElem hi)).1
theorem qgY {t:TypeId}{fs:Array Field}(ht:P.underlying t=some (.struct fs)) {fuel:Nat}{cs:List Value}{y:DataW H × List MemPlace}(h:DataW.trod enc P w base spare held fuel t cs=some y) :
  cs.length=P.cellsOf t∧∀ (i:Nat) (f:Field),fs[i]? = some f→∃ n y',DataW.trod enc P w base spare held n f.type ((cs.drop f.offset).take (P.cellsOf f.type))=some y':=by
 obtain⟨xs,n,_,_,hl,hlen,hf⟩:=DataW.trod_struct ht h
 refine⟨hl,fun i f hi => ?_⟩
 have hil:i<fs.size:=(Array.getElem?_eq_some_iff.1 hi).1
 have:=hf i f hi
 rw [List.getElem?_eq_getElem (by omega)] at this
 exact⟨n,_,this⟩
theorem qaM {t i off ft n:Nat}(F:FieldT P t i off ft) (hn:P.cellsOf ft=n) {fuel:Nat}{cs:List Value}{y:DataW H × List MemPlace}(h:DataW.trod enc P w base spare held fuel t cs=some y) :
  ∃ m y',DataW.trod enc P w base spare held m ft ((cs.drop off).take n)=some y':=by
 obtain⟨fs,fld,hd,hf,rfl,rfl,_⟩:=F.place
 obtain⟨_,hh⟩:=qgY hd h
 subst hn
 exact hh i fld hf
theorem qiR {t i off ft n:Nat}(F:FieldT P t i off ft) (hn:P.cellsOf t=n) {fuel:Nat}{cs:List Value}{y:DataW H × List MemPlace}(h:DataW.trod enc P w base spare held fuel t cs=some y):cs.length=n:=by
 obtain⟨fs,fld,hd,hf,rfl,rfl,_⟩:=F.place
 subst hn
 exact (qgY hd h).1
end
end Go.Sl
/-
  Small numbers: lists of uint8 and uint16, conversions to int, a slice that is the caller's or the call's own.
-/
namespace Go.Sl
def tU8:Ty Int:=⟨1,fun n=>[.int .u8 n],fun _=>rfl,0⟩
def tU16:Ty Int:=⟨1,fun n=>[.int .u16 n],fun _=>rfl,0⟩
instance:OneT tU8:=⟨fun _ v hv=>by rw [List.mem_singleton.1 hv];rfl⟩
instance:OneT tU16:=⟨fun _ v hv=>by rw [List.mem_singleton.1 hv];rfl⟩
class IntT (P:Program) (t:Nat) (k:outParam IntKind):Prop where
 ok:P.underlying t=some (.int k)
section
variable {P:Program}{ρ:Fr}{x y:Operand}{ty:TypeId}{pos:String}{af:Array Edge}{g:Option (Nat × Bool)}{dst:Option Nat}{t t':TypeId}
end
section
variable {w w0:World}{Γ:List HP}
end
section
variable {H:Type}{enc:TypeId × Value→H}{P:Program}{w:World}{base:Nat}{spare:Nat→Bool}{held:Bool}
end
end Go.Sl
/-
  Parts chosen out of a list that ends in parts that stay.
-/
namespace Go.Sl
class SelG (Γ Δ:List HP):Prop where
 ok:∀ h,SatL Γ h→SatL Δ h
instance (priority:=low) selG_drop {A:HP}{Γ Δ:List HP} [s:SelG Γ Δ]:SelG (A::Γ) Δ:=⟨fun h hh=>s.ok h hh.tail⟩
instance (priority:=high) selG_rfl {Γ:List HP}:SelG Γ Γ:=⟨fun _ hh=>hh⟩
instance selG_cons {A:HP}{Γ Γ' Δ:List HP} [p:PickL Γ A Γ'] [s:SelG Γ' Δ]:SelG Γ (A::Δ):=⟨fun h hh=>by
 obtain⟨i,h1,h2⟩:=p.ok
 obtain⟨g1,g2,d,s1,s2,a,g⟩:=hh.focus i h1
 rw [←h2] at g
 exact⟨g1,g2,d,s1,s2,a,s.ok g2 g⟩⟩
theorem Sat.selG {w0 w:World}{Γ Δ:List HP} [s:SelG Γ Δ] (h:Sat w0 w Γ):Sat w0 w Δ:=⟨h.below,s.ok _ h.sat⟩
end Go.Sl
/-
  Maps of the call's own: made, updated, looked up, measured.
-/
namespace Go.Sl
section
variable {α:Type} [DecidableEq α]
def mfind (x:α):List (α × Value)→Nat→Option (Nat × Value)
 | [],_=>none
 | p::l,i=>if x=p.1 then some (i,p.2) else mfind x l (i+1)
def mget (kv:List (α × Value)) (x:α):Option Value:=(mfind x kv 0).map (·.2)
def mput (kv:List (α × Value)) (x:α) (v:Value):List (α × Value):=match mfind x kv 0 with|some (i,_)=>kv.set i (x,v)|none=>kv++[(x,v)]
theorem qff {x:α}:∀ {l:List (α × Value)}{i j:Nat}{v:Value},mfind x l i=some (j,v)→i≤j∧l[j-i]? = some (x,v)
 | [],_,_,_,h=>by cases h
 | p::l,i,j,v,h=>by
  simp only [mfind] at h
  split at h
  ·rename_i e;cases h;subst e;exact⟨Nat.le_refl _,by simp⟩
  ·obtain⟨h1,h2⟩:=qff h
   refine⟨by omega,?_⟩
   rw [show j-i=(j-(i+1))+1 by omega];simpa using h2
end
class KeyT {α:Type} [DecidableEq α] (P:Program) (k:TypeId) (κ:α→Value):Prop where
 check:∀ e x w,(Instr.checkKey e 10000 k (κ x)).run P w=.ok () w
 find:∀ x (es:List MapEntry) (kv:List (α × Value)),(es.map fun e=>(e.key,e.val))=kv.map (fun p=>(κ p.1,p.2))→∀ w,(Instr.findKey k (κ x) es).run P w=.ok (mfind x kv 0) w
 bits:∀ x,Instr.sameBits 10000 (κ x) (κ x)=true
class ZeroV (P:Program) (t:Nat) (zv:outParam Value):Prop where
 ok:(P.info? t).bind (·.zero)=some zv
theorem ZeroV.run {P:Program}{t:Nat}{zv:Value}(h:ZeroV P t zv) (w:World):(zeroValue t).run P w=.ok zv w:=by
 have h:=h.ok
 cases hi:P.info? t with
 | none=>simp [hi] at h
 | some i =>
  simp only [hi,Option.bind_some] at h
  simp [zeroValue,typeInfo,hi,h]
class MapT (P:Program) (t:TypeId) (k e:outParam TypeId):Prop where
 ok:P.underlying t=some (.map k e)
section
variable {α:Type}
def MapO (κ:α→Value) (m:Value) (kv:List (α × Value)):HP:=fun h=>∃ b es clock,m=.map (some b)∧h b=some (.map es clock)∧(es.toList.map fun e=>(e.key,e.val))=kv.map fun p=>(κ p.1,p.2)
class MapAt (Γ:List HP) (m:Value) (κ:outParam (α→Value)) (kv:outParam (List (α × Value))) (put:outParam (HP→List HP)):Prop where
 foc:Foc Γ (MapO κ m kv) put
instance (priority:=high) map_here {κ:α→Value}{m:Value}{kv:List (α × Value)}{Γ:List HP}:MapAt (MapO κ m kv::Γ) m κ kv (fun A'=>A'::Γ):=⟨Foc.here⟩
instance map_there {B:HP}{κ:α→Value}{m:Value}{kv:List (α × Value)}{Γ:List HP}{put:HP→List HP} [h:MapAt Γ m κ kv put]:MapAt (B::Γ) m κ kv (fun A'=>B::put A'):=⟨h.foc.there⟩
variable {P:Program}{ops:Array Oper}{K:Fr→World→Prop}{r:List Oper}{ρ:Fr}{w w0:World}{d:Nat}{ty:TypeId}{pos:String}{af:Array Edge}{g:Option (Nat × Bool)}{dst:Option Nat}{x y z:Operand}{t:TypeId}{Γ:List HP}{κ:α→Value}{kv:List (α × Value)}{m:Value}
theorem qjs (κ:α→Value) (hw:Sat w0 w Γ) (h:∀ m w',Sat w0 w' (MapO κ m []::Γ)→opsW P ops K r (upd ρ d m) w'):opsW P ops K (⟨some d,.makeMap t none,ty,pos,af,none⟩::r) ρ w:=by
 refine qat rfl ?_
 simp only [opW,execOp,Instr.makeMap,Option.map_none,Sem.run_bind,Sem.run_pure,Result.andThen_ok,run_newObj,opUpon]
 exact h (.map (some w.heap.size)) _ (hw.push (o:=.map #[] 0) ⟨w.heap.size,#[],0,rfl,by simp,by simp⟩)
theorem qkS {i:Nat}(hw:Sat w0 w Γ) (hi:Γ[i]? = some (MapO κ m kv)):∃ b es clock,m=.map (some b)∧w.heap[b]? = some (.map es clock)∧(es.toList.map fun e=>(e.key,e.val))=kv.map fun p=>(κ p.1,p.2):=by
 obtain⟨h1,hs,b,es,clock,hm,hb,he⟩:=hw.at i hi
 exact⟨b,es,clock,hm,(hs b _ hb).1,he⟩
theorem qhD [DecidableEq α] {k e:TypeId}{q:α}{zv:Value}{put:HP→List HP} [M:MapT P t k e] [KT:KeyT P k κ] [Z:ZeroV P e zv] (hx:evl ρ x=m) (hy:evl ρ y=κ q) (hw:Sat w0 w Γ) (O:MapAt Γ m κ kv put):ReadV P ⟨dst,.lookup t x y true,ty,pos,af,g⟩ ρ w (.tuple #[(mget kv q).getD zv,.bool (mget kv q).isSome]):=by
 obtain⟨i,hi,_⟩:=O.foc.ok
 obtain⟨b,es,clock,rfl,hb,he⟩:=qkS hw hi
 have hf:=KT.find q es.toList kv he w
 simp only [ReadV,execOp,hx,hy,Instr.lookup,Sem.run_bind,run_underlying M.ok,Result.andThen_ok,Sem.run_pure,MapKept.run_getObj_map hb,KT.check,hf]
 cases h:mfind q kv 0 with
 | none=>simp [mget,h,Z.run]
 | some p=>simp [mget,h]
theorem qkT {k e:TypeId}{put:HP→List HP} [M:MapT P t k e] (hx:evl ρ x=m) (hw:Sat w0 w Γ) (O:MapAt Γ m κ kv put):ReadV P ⟨dst,.call { callee:=.builtin .len,args:=#[x],argTypes:=#[t] },ty,pos,af,g⟩ ρ w (.int .i64 kv.length):=by
 obtain⟨i,hi,_⟩:=O.foc.ok
 obtain⟨b,es,clock,rfl,hb,he⟩:=qkS hw hi
 have hl:es.size=kv.length:=by
  have:=congrArg List.length he
  simpa using this
 simp [ReadV,execOp,resolve,invoke,builtin,hx,Builtin.len_,run_underlying M.ok,MapKept.run_getObj_map hb,hl,goInt]
theorem qgB [DecidableEq α] {k e:TypeId}{q:α}{v:Value}{put:HP→List HP} [M:MapT P t k e] [KT:KeyT P k κ] (hx:evl ρ x=m) (hy:evl ρ y=κ q) (hz:evl ρ z=v) (hw:Sat w0 w Γ) (O:MapAt Γ m κ kv put)
  (h:∀ w',Sat w0 w' (put (MapO κ m (mput kv q v)))→opsW P ops K r ρ w'):opsW P ops K (⟨none,.mapUpdate t x y z,ty,pos,af,none⟩::r) ρ w:=by
 refine qat rfl ?_
 obtain⟨i,hi,hput⟩:=O.foc.ok
 obtain⟨b,es,clock,rfl,hb,he⟩:=qkS hw hi
 have hf:=KT.find q es.toList kv he w
 simp only [opW,execOp,hx,hy,hz,Instr.mapUpdate,Sem.run_bind,run_underlying M.ok,Result.andThen_ok,MapKept.run_getObj_map hb,KT.check,hf]
 cases hm:mfind q kv 0 with
 | none =>
  simp only [MapKept.run_setObj_map _ hb,Result.andThen_ok,Sem.run_pure,opUpon,updo]
  refine h _ ?_
  rw [hput]
  refine (hw.focus i hi).put (b:=b) (o':=.map (es.push { key:=κ q,val:=v,born:=clock }) (clock+1)) (A':=MapO κ (.map (some b)) (mput kv q v)) ?_ |>.back i hi
  rintro h1 _ ⟨b',es',clock',hmm,hb',_⟩
  cases hmm
  refine⟨⟨_,hb'⟩,b,es.push { key:=κ q,val:=v,born:=clock },clock+1,rfl,by simp [hpS],?_⟩
  simp [mput,hm,he]
 | some p =>
  obtain⟨j,u⟩:=p
  obtain⟨_,hj⟩:=qff hm
  rw [Nat.sub_zero] at hj
  have hjl:=(List.getElem?_eq_some_iff.1 hj).1
  have hlen:es.size=kv.length:=by have:=congrArg List.length he;simpa using this
  have hkey:((es[j]?).map (·.key)).getD (κ q)=κ q:=by
   have:=congrArg (fun l=>l[j]?) he
   simp only [List.getElem?_map,hj,Option.map_some] at this
   rw [Array.getElem?_eq_getElem (by omega)]
   rw [Array.getElem?_toList,Array.getElem?_eq_getElem (by omega)] at this
   simp at this ⊢
   exact this.1
  simp only [Instr.keyThatStays,hkey,KT.bits,if_true,Sem.run_pure,Sem.run_bind,Result.andThen_ok,MapKept.run_setObj_map _ hb,opUpon,updo]
  refine h _ ?_
  rw [hput]
  refine (hw.focus i hi).put (b:=b) (o':=.map (es.modify j fun e=>{ e with key:=κ q,val:=v }) clock) (A':=MapO κ (.map (some b)) (mput kv q v)) ?_ |>.back i hi
  rintro h1 _ ⟨b',es',clock',hmm,hb',_⟩
  cases hmm
  refine⟨⟨_,hb'⟩,b,es.modify j fun e=>{ e with key:=κ q,val:=v },clock,rfl,by simp [hpS],?_⟩
  simp only [mput,hm]
  apply List.ext_getElem?
  intro a
  have hea:=congrArg (fun l=>l[a]?) he
  simp only [List.getElem?_map] at hea
  simp only [List.getElem?_map,Array.toList_modify,List.getElem?_modify,List.getElem?_set]
  by_cases e1:j=a
  ·subst e1
   rw [if_pos rfl,if_pos hjl]
   rw [Array.getElem?_toList,Array.getElem?_eq_getElem (by omega)]
   simp
  ·rw [if_neg e1]
   simp only [e1,if_false]
   rw [←hea]
   cases es.toList[a]? <;> rfl
end
end Go.Sl
/-
  Maps whose keys are texts or ints.
-/
namespace Go.Sl
theorem qdw {α:Type} [DecidableEq α] {κ:α→Value}{d:TypeDesc}(hs:∀ a b,Instr.sameNow d (κ a) (κ b)=some (decide (a=b))) (q:α):∀ (es:List MapEntry) (kv:List (α × Value)) (i:Nat),(es.map fun e=>(e.key,e.val))=kv.map (fun p=>(κ p.1,p.2))→Instr.findNow d (κ q) es i=some (mfind q kv i)
 | [],kv,i,h=>by
  have:kv=[]:=by simpa using h.symm
  subst this
  rfl
 | e::es,[],i,h=>by simp at h
 | e::es,p::kv,i,h=>by
  simp only [List.map_cons,List.cons.injEq,Prod.mk.injEq] at h
  obtain⟨⟨h1,h2⟩,h3⟩:=h
  have ih:=qdw hs q es kv (i+1) h3
  simp only [Instr.findNow,h1,hs,mfind]
  by_cases e1:q=p.1
  ·rw [if_pos e1,decide_eq_true e1,h2]
  ·rw [if_neg e1,decide_eq_false e1];exact ih
def kStr (b:ByteArray):Value:=.string b
def kInt (z:Int):Value:=.int .i64 z
theorem qeJ (a b:ByteArray):(a == b)=decide (a=b):=by
 cases a with
 | mk x =>
  cases b with
  | mk y =>
   have h:((ByteArray.mk x) == (ByteArray.mk y))=(x == y):=rfl
   rw [h]
   exact Bool.eq_iff_iff.2 (by rw [beq_iff_eq,decide_eq_true_eq,ByteArray.mk.injEq])
theorem qmN (a b:ByteArray):Instr.sameNow .string (kStr a) (kStr b)=some (decide (a=b)):=by
 show some (a == b)=_
 rw [qeJ]
theorem qmO (a b:Int):Instr.sameNow (.int .i64) (kInt a) (kInt b)=some (decide (a=b)):=by
 show (if IntKind.i64=IntKind.i64 then some (a == b) else none)=_
 rw [if_pos rfl]
 congr 1
instance {P:Program}{k:Nat} [S:StrT P k]:KeyT P k kStr where
 check:=fun e x w=>by
  unfold Instr.checkKey
  simp only [Sem.run_bind,run_underlying S.und,Result.andThen_ok,kStr,Sem.run_pure]
 find:=fun x es kv h w=>MapKept.run_findKey S.und (qdw qmN x es kv 0 h)
 bits:=fun x=>by
  show (x == x)=true
  rw [qeJ,decide_eq_true rfl]
instance {P:Program}{k:Nat} [S:IntT P k .i64]:KeyT P k kInt where
 check:=fun e x w=>by
  unfold Instr.checkKey
  simp only [Sem.run_bind,run_underlying S.ok,Result.andThen_ok,kInt,Sem.run_pure]
 find:=fun x es kv h w=>MapKept.run_findKey S.ok (qdw qmO x es kv 0 h)
 bits:=fun x=>by simp [Instr.sameBits,kInt]
end Go.Sl
/-
  A slice of bytes turned into a text.
-/
namespace Go.Sl
section
variable {P:Program}{ops:Array Oper}{K:Fr→World→Prop}{r:List Oper}{ρ:Fr}{w:World}{d:Nat}{ty:TypeId}{pos:String}{af:Array Edge}{x:Operand}
theorem qlg {a b:ByteArray}{y:Operand}{t t':TypeId}{g:Option (Nat × Bool)}{dst:Option Nat}(hx:evl ρ x=.string a) (hy:evl ρ y=.string b):PureV P ⟨dst,.binOp .eql t x y t',ty,pos,af,g⟩ ρ (.bool (decide (a=b))):=fun w=>by
 have h:(a.toList == b.toList)=decide (a=b):=by rw [←beq_toListBytes,qeJ]
 simp only [execOp,eqGuard,hx,hy,binOp_string_eql,h]
 simp
end
end Go.Sl
/-
  Calls of a method through an interface value, whatever type it holds.
-/
namespace Go.Sl
def MethAt (P:Program) (t:Nat) (v:Value) (name:String) (f:Nat) (u:Value):Prop:=∀ (m:Nat) (w:World),(method (m+1) t v name).run P w=.ok (f,u) w
def methSB (P:Program) (t:Nat) (name:String) (f:Nat):Bool :=
 (match P.underlying t with|some (.struct _)=>true|some (.slice _)=>true|_=>false) &&
 match P.info? t with
 | some i=>(match i.methods.find? (·.name == name) with
   | some m=>m.path.isEmpty && (match m.func with|some (g,q)=>g == f && q == false|none=>false)
   | none=>false)
 | none=>false
class MethS (P:Program) (t:Nat) (name:String) (f:outParam Nat):Prop where
 ok:methSB P t name f=true
section
variable {P:Program}
theorem MethS.rows {t f:Nat}{name:String}(h:MethS P t name f):((∃ fs,P.underlying t=some (.struct fs))∨∃ e,P.underlying t=some (.slice e))∧∃ i m,P.info? t=some i∧i.methods.find? (·.name == name)=some m∧m.path.toList=[]∧m.path.isEmpty=true∧m.func=some (f,false):=by
 have h:=h.ok
 simp only [methSB,Bool.and_eq_true] at h
 obtain⟨h1,h2⟩:=h
 refine⟨?_,?_⟩
 ·split at h1
  ·rename_i e he;exact .inl ⟨e,he⟩
  ·rename_i e he;exact .inr ⟨e,he⟩
  ·cases h1
 ·split at h2
  ·rename_i i hi
   split at h2
   ·rename_i m hm
    simp only [Bool.and_eq_true] at h2
    obtain⟨h3,h4⟩:=h2
    split at h4
    ·rename_i g q hg
     simp at h4
     refine⟨i,m,hi,hm,?_,h3,by rw [hg,h4.1,h4.2]⟩
     simpa using h3
    ·cases h4
   ·cases h2
  ·cases h2
theorem qfU {t f:Nat}{name:String} [M:MethS P t name f] (v:Value):MethAt P t v name f v:=by
 obtain⟨hu,i,m,hi,hm,hp,he,hf⟩:=M.rows
 intro fuel w
 rcases hu with ⟨fs,hu⟩|⟨e,hu⟩ <;>
 simp only [method,Sem.run_bind,run_typeInfo w hi,Result.andThen_ok,hm,hp,follow,Sem.run_pure,hf,receiverAt,run_underlying hu,Place.get]
theorem qmt {t f elem:Nat}{name:String} [M:MethT P t name f true elem] (p:Addr):MethAt P t (.pointer (some p)) name f (.pointer (some p)):=fun m w=>qef M m p w
variable {ops:Array Oper}{K:Fr→World→Prop}{r:List Oper}{ρ:Fr}{w w0:World}{Γ:List HP}{d:Option Nat}{ty:TypeId}{pos:String}{af:Array Edge}{x:Operand}
theorem qjt {t f:Nat}{name:String}{v u:Value}{xs:List Operand}{ts:Array TypeId}{vs:List Value}{R:Ending→World→Prop}(M:MethAt P t v name f u) (C:CallT P f) (hr:evl ρ x=.iface t v) (hx:xs.map (evl ρ)=vs) (hc:Calls P f (u::vs).toArray w R)
  (h:∀ e w',R e w'→∃ v,e=.returned v∧opsW P ops K r (updo ρ d v) w'):opsW P ops K (⟨d,.call { callee:=.invoke x name,args:=xs.toArray,argTypes:=ts },ty,pos,af,none⟩::r) ρ w:=by
 refine qat rfl ?_
 obtain⟨m,hm⟩:=qeg P
 have hr:(execOp (evl ρ) ⟨d,.call { callee:=.invoke x name,args:=xs.toArray,argTypes:=ts },ty,pos,af,none⟩).run P w=.ok (.enter f (u::vs).toArray) w:=by
  have e:(#[evl ρ x]++Array.map (evl ρ) xs.toArray)=(.iface t v::vs).toArray:=by simp [hr,hx]
  simp only [execOp,resolve,Sem.run_bind,Sem.run_pure,Result.andThen_ok,invoke,e]
  simp only [List.getElem?_toArray,List.getElem?_cons_zero,callMethod,Sem.run_bind,run_program,Result.andThen_ok,hm,M m,C.run]
  congr 2
  simp
 simp only [opW,hr,opUpon]
 refine Calls.mono hc fun e w' hR => ?_
 obtain⟨v,rfl,hk⟩:=h e w' hR
 exact hk
end
end Go.Sl
/-
  A range over a function: what the kit's law asks, out of 'Sat'.
-/
namespace Go.Sl
open Go.RowKit (Below)
def cutH (B:Nat) (h:PH):PH:=fun b=>if b<B then h b else none
structure SatC (B:Nat) (w0 w:World) (Γ:List HP):Prop where
 below:Below w0.heap.size w0 w
 sat:SatL Γ (cutH B (newH w0 w))
def Rest (B:Nat) (W:World):HP:=fun h=>∀ b,B≤b→b<W.heap.size→h b=W.heap[b]?
theorem Sat.toC {w0 w:World}{Γ:List HP}(h:Sat w0 w Γ):SatC w.heap.size w0 w Γ:=by
 refine⟨h.below,h.sat.sub fun b o hb => ?_⟩
 have hlt:b<w.heap.size:=by
  simp only [newH] at hb
  split at hb
  ·cases hb
  ·exact (Array.getElem?_eq_some_iff.1 hb).1
 simp only [cutH,if_pos hlt];exact hb
theorem SatC.sat0 {B:Nat}{w0 w:World}{Γ:List HP}(h:SatC B w0 w Γ):Sat w0 w Γ :=
 ⟨h.below,h.sat.sub fun b o hb=>by
  simp only [cutH] at hb
  split at hb
  ·exact hb
  ·cases hb⟩
theorem SatC.own {β:Type}{B:Nat}{w0:World}{Γ:β→List HP}(hB:w0.heap.size≤B):OwnFrom B (fun s W=>B≤W.heap.size∧SatC B w0 W (Γ s)):=by
 rintro s W W' row ⟨hs,hC⟩ hg hr
 have hblk:∀ k,k<B→W'.heap[k]? = W.heap[k]? := fun k hk=>hg.block k (by omega) fun e=>by
  have:=(hr k e.symm).1;omega
 refine⟨by have:=hg.size;omega,⟨hC.below.os ▸ hg.os,hC.below.tape ▸ hg.tape,hC.below.output ▸ hg.output,by have:=hg.size;have:=hC.below.size;omega,fun k hk => ?_⟩,hC.sat.sub fun b o hb => ?_⟩
 ·rw [hblk k (by omega)];exact hC.below.block k hk
 ·simp only [cutH,newH] at hb ⊢
  split at hb
  ·rename_i h1
   rw [if_pos h1]
   split at hb
   ·cases hb
   ·rename_i h2;rw [if_neg h2,hblk b h1];exact hb
  ·cases hb
theorem SatC.open {B:Nat}{w0 W:World}{Γ:List HP}(hB:w0.heap.size≤B) (h:SatC B w0 W Γ):Sat w0 W (Rest B W::Γ):=by
 refine⟨h.below,fun b=>if b<B then none else W.heap[b]?,cutH B (newH w0 W),fun b => ?_,fun b o hb => ?_,fun b o hb => ?_,fun b h1 h2 => ?_,h.sat⟩
 ·simp only [cutH]
  by_cases hb:b<B
  ·left;rw [if_pos hb]
  ·right;rw [if_neg hb]
 ·simp only at hb
  split at hb
  ·cases hb
  ·simp only [newH];rw [if_neg (by omega)];exact hb
 ·simp only [cutH] at hb
  split at hb
  ·exact hb
  ·cases hb
 ·show (if b<B then none else W.heap[b]?)=W.heap[b]?
  rw [if_neg (by omega)]
theorem Sat.close {B:Nat}{w0 W W':World}{Γ:List HP}(h:Sat w0 W' (Rest B W::Γ)) (hsz:W'.heap.size=W.heap.size):SatC B w0 W' Γ:=by
 obtain⟨h1,h2,d,s1,s2,hr,hg⟩:=h.sat
 refine⟨h.below,hg.sub fun b o hb => ?_⟩
 have hn:=s2 b o hb
 have hlt:b<W'.heap.size:=by
  simp only [newH] at hn
  split at hn
  ·cases hn
  ·exact (Array.getElem?_eq_some_iff.1 hn).1
 simp only [cutH]
 by_cases hB:b<B
 ·rw [if_pos hB];exact hn
 ·have:=hr b (by omega) (by omega)
  rcases d b with hd|hd
  ·rw [this,Array.getElem?_eq_getElem (by omega)] at hd;cases hd
  ·rw [hb] at hd;cases hd
theorem Kept.others {w w':World}(h:Kept w w'):KeepsOthers w w':=⟨by rw [h.1];exact Nat.le_refl _,fun k o hk ho=>by
 rw [h.2 k fun cs t f e=>by rw [hk] at e;cases e;cases ho];exact hk⟩
section
variable {P:Program}{ops:Array Oper}{K:Fr→World→Prop}{r:List Oper}{ρ:Fr}{w:World}{d:Nat}{ty:TypeId}{pos:String}{af:Array Edge}
theorem qim {x:Operand}{xs:List Operand}{ts:Array TypeId}{vs:List Value}{l m:Nat}{R:Ending→World→Prop}(hf:evl ρ x=.func (.yield l) #[] #[]) (hx:xs.map (evl ρ)=vs) (hc:YieldAt Fence.wide m P l vs.toArray w R)
  (h:∀ e w',R e w'→∃ v,e=.returned v∧opsW P ops K r (upd ρ d v) w'):opsW P ops K (⟨some d,.call { callee:=.value x,args:=xs.toArray,argTypes:=ts },ty,pos,af,none⟩::r) ρ w:=by
 refine qat rfl ?_
 obtain⟨fn,tmps,assign,body,hy,hR⟩:=hc
 have hr:(execOp (evl ρ) ⟨some d,.call { callee:=.value x,args:=xs.toArray,argTypes:=ts },ty,pos,af,none⟩).run P w=.ok (.round l fn tmps assign body) w:=by
  simp only [execOp,resolve,Sem.run_bind,hf,Deferred.ofValue,Sem.run_pure,Result.andThen_ok,invoke]
  have:#[]++Array.map (evl ρ) xs.toArray=vs.toArray:=by simp [hx]
  rw [this];exact hy
 simp only [opW,hr,opUpon]
 refine⟨hR.1,fun c cs _ => ?_⟩
 obtain⟨e,w',hRe,hco⟩:=hR.2 c cs (room_wide _)
 refine⟨e,w',?_,hco⟩
 obtain⟨v,rfl,hk⟩:=h e w' hRe
 exact hk
theorem qnC {a b:Act}(hs:a.tmps.size=b.tmps.size) (hf:fr a=fr b) (hd:a.defers=b.defers):a=b:=by
 obtain⟨t,d⟩:=a
 obtain⟨t',d'⟩:=b
 simp only at hs hd
 subst hd
 congr 1
 apply Array.ext hs
 intro i h1 h2
 have:=congrFun hf i
 simp only [fr] at this
 rw [Array.getD_eq_getD_getElem?,Array.getD_eq_getD_getElem?,Array.getElem?_eq_getElem h1,Array.getElem?_eq_getElem h2] at this
 simpa using this
theorem qm7 {t:Array Value}{ds:List Deferred}{p q:Nat}{v u:Value}(hp:p<t.size) (hq:q<t.size):fr { tmps:=(#[p,q].zip #[v,u]).foldl (fun t (p,v)=>t.setIfInBounds p v) t,defers:=ds }=upd (upd (fr ⟨t,ds⟩) p v) q u:=by
 have h1:=qb7 (a:=⟨t,ds⟩) (d:=some p) (v:=v) (fun _ e=>by cases e;exact hp)
 have h2:=qb7 (a:=(⟨t,ds⟩:Act).put (some p) v) (d:=some q) (v:=u) (fun _ e=>by cases e;simpa [Act.put] using hq)
 rw [h1] at h2
 have e:(#[p,q].zip #[v,u]).foldl (fun t (p,v)=>t.setIfInBounds p v) t=(t.setIfInBounds p v).setIfInBounds q u:=by simp
 rw [e]
 exact h2
theorem qfy {t:Array Value}{p q:Nat}{v u:Value}:((#[p,q].zip #[v,u]).foldl (fun t (p,v)=>t.setIfInBounds p v) t).size=t.size:=by simp
theorem qch {ro:Option Nat}{m n:Nat}{x y:Code}{Q:Exit→Act→World→Prop}{a:Act}(hm:P.follows .mixedOrders=true) (hfit:fits n x=true) (hs:a.tmps.size=n) (hd:a.defers=[])
  (h:vc P x (Thn (fun ρ w=>∀ a',a'.tmps.size=n→a'.defers=[]→fr a'=ρ→y.wpIn (fw ro) m P Q a' w) (fun _ _ _=>False)) (fr a) w):(Code.seq x y).wpIn (fw ro) m P Q a w:=by
 refine wpIn_seq (wpIn_mono (qa1 hm x hfit _ a w hs hd h) fun e a' w' hq => ?_)
 obtain⟨h1,h2,h3⟩:=hq
 cases e with
 | normal=>exact h3 a' h1 h2 rfl
 | _=>exact h3.elim
theorem qkf {args:List Value}{n:Nat}:fr { tmps:=args.toArray++Array.replicate (n-args.toArray.size) undef,defers:=[] }=arg0 args:=by
 funext t
 simp only [fr,arg0]
 rcases Nat.lt_or_ge t args.length with ht|ht
 ·simp [Array.getElem?_append_left,ht]
 ·simp [Array.getElem?_append_right,ht]
  rcases Nat.lt_or_ge (t-args.length) (n-args.length) with h1|h1
  ·simp [h1]
  ·simp [h1]
theorem qin {Q:Exit→Fr→World→Prop}{w0:World}{Γ:List HP}{i:Nat}{l:List Oper}(hw:Sat w0 w Γ) (hc:commB P l.toArray=true) (h:∀ w',Kept w w'→Sat w0 w' Γ→opsW P l.toArray (Q .normal) l ρ w'):vc P (.region i l.toArray true) Q ρ w :=
 .inl ⟨hc,h _ ⟨rfl,fun _ _=>rfl⟩ hw.drew⟩
theorem qdD {ro:Option Nat}{m id s:Nat}{K:Act→World→Prop}{a:Act}(hm:P.follows .mixedOrders=true) (hs:d<a.tmps.size) (hd:a.defers=[]) (h:K (a.put (some d) (fr a s)) w) :
  (Code.region id #[⟨some d,.assign (.tmp s),ty,pos,af,none⟩] false).wpIn (fw ro) m P (Exit.then K (fun _ _ _=>False)) a w:=by
 refine wpIn_mono (qa1 (n:=a.tmps.size) hm _ (by simp [fits,opsFit,hs]) (fun e ρ' w'=>e=.normal∧ρ'=upd (fr a) d (fr a s)∧w'=w) a w rfl hd ?_) fun e a' w' hq => ?_
 ·refine qaF (l:=[_]) ?_
  exact qaw rfl (qex rfl) ⟨rfl,rfl,rfl⟩
 ·obtain⟨h1,h2,rfl,h3,rfl⟩:=hq
  have e:a'=a.put (some d) (fr a s):=by
   refine qnC (by rw [size_put];exact h1) ?_ (by rw [qaT,hd];exact h2)
   rw [h3,qb7 (fun t e=>by cases e;exact hs)];rfl
  rw [e];exact h
theorem qcA {W:World}{l:Nat}{o o':Obj}{p:Addr}{v:Value}(hl:W.heap[l]? = some o) (ho:o.isCells=false) (h:W.cell? p=some v):(W.putObj l o').cell? p=some v:=by
 have hne:l≠p.block:=fun e=>by
  subst e
  simp only [World.cell?,hl] at h
  cases o <;> simp_all [Obj.isCells]
 simp only [World.cell?,World.putObj] at h ⊢
 rw [Array.getElem?_setIfInBounds_ne hne];exact h
theorem qgl {α:Type}{T:Ty α}{W:World}{l:Nat}{o o':Obj}{s:Value}{xs:List α}(hl:W.heap[l]? = some o) (ho:o.isCells=false) (h:RS T W s xs):RS T (W.putObj l o') s xs:=by
 obtain⟨⟨a,n,cap,hs,h1,h2,hc⟩,h3⟩:=h
 refine⟨⟨a,n,cap,hs,h1,h2,fun i v hv => ?_⟩,h3⟩
 obtain⟨p,hp,hsp,hcell⟩:=hc i v hv
 exact⟨p,hp,hsp,qcA hl ho hcell⟩
end
end Go.Sl
/-
  Three results, the second of which lies in memory.
-/
namespace Go.Sl
section
variable {P:Program}{ρ:Fr}{w:World}
end
end Go.Sl
/-
  A struct is stored into an element of a slice of the call's own.
-/
namespace Go.Sl
section
variable {P:Program}{ops:Array Oper}{K:Fr→World→Prop}{r:List Oper}{ρ:Fr}{w w0:World}{ty:TypeId}{pos:String}{af:Array Edge}{x y:Operand}{t:TypeId}{Γ:List HP}{α:Type}{T:Ty α}{s:Value}{xs:List α}
theorem qjp {i j:Nat}{e:TypeId}{x':α}(hv:(T.enc x').all Value.oneCell'=true) (hw:Sat w0 w Γ) (hi:Γ[i]? = some (OS T e s xs)) (hj:j<xs.length) :
  ∃ w',(storeCells (eadr T s j) (T.enc x')).run P w=.ok () w'∧Sat w0 w' (Γ.set i (OS T e s (xs.set j x'))):=by
 obtain⟨h1,hs,ho,hl⟩:=hw.at i hi
 have hlen:=T.len xs
 rcases ho with ⟨rfl,hnil⟩|⟨b,off,n,cap,pre,post,rfl,hpre,hvl,hnc,hbig,hpl,hb⟩
 ·simp only [slen] at hl;omega
 ·have hidx:(j+1)*T.sz≤(xs.flatMap T.enc).length:=by
   rw [hlen];exact Nat.mul_le_mul_right _ hj
  rw [Nat.add_mul,Nat.one_mul] at hidx
  have hok:=T.ok x'
  have hadd:eadr T (.slice (some ⟨b,off,none⟩) n cap) j=⟨b,off+j*T.sz,none⟩:=rfl
  rw [hadd]
  have hflat:(xs.set j x').flatMap T.enc=(xs.flatMap T.enc).take (j*T.sz)++T.enc x'++(xs.flatMap T.enc).drop (j*T.sz+T.sz):=by
   rw [List.set_eq_take_append_cons_drop,if_pos hj,List.flatMap_append,List.flatMap_cons,T.take,show j*T.sz+T.sz=(j+1)*T.sz by rw [Nat.add_mul,Nat.one_mul],T.drop,List.append_assoc]
  have hnew:((pre++xs.flatMap T.enc++post).take (off+j*T.sz+0)++T.enc x'++(pre++xs.flatMap T.enc++post).drop (off+j*T.sz+0+(T.enc x').length))=pre++(xs.set j x').flatMap T.enc++post:=by
   rw [hflat,hok]
   have a1:(pre++xs.flatMap T.enc++post).take (off+j*T.sz+0)=pre++(xs.flatMap T.enc).take (j*T.sz):=by
    rw [List.append_assoc,List.take_append,List.take_of_length_le (by omega),List.take_append,show off+j*T.sz+0-pre.length=j*T.sz by omega,Nat.sub_eq_zero_of_le (show j*T.sz≤(xs.flatMap T.enc).length by omega),List.take_zero,List.append_nil]
   have a2:(pre++xs.flatMap T.enc++post).drop (off+j*T.sz+0+T.sz)=(xs.flatMap T.enc).drop (j*T.sz+T.sz)++post:=by
    rw [List.append_assoc,List.drop_append,List.drop_eq_nil_of_le (by omega),List.nil_append,List.drop_append,show off+j*T.sz+0+T.sz-pre.length=j*T.sz+T.sz by omega,Nat.sub_eq_zero_of_le (show j*T.sz+T.sz≤(xs.flatMap T.enc).length by omega),List.drop_zero]
   rw [a1,a2]
   simp only [List.append_assoc]
  refine⟨putB w b (.cells (pre++(xs.set j x').flatMap T.enc++post).toArray e (0,0)),?_,?_⟩
  ·have:=qaz (P:=P) (b:=b) (bt:=e) (T.enc x') (off+j*T.sz) 0 _ w (by simpa using hv) (by simp only [List.length_append];omega) (hs b _ hb).1
   rw [this,←hnew]
  ·have hlen':=T.len (xs.set j x')
   refine (Sat.put (hw.focus i hi) fun g hg ⟨ho',hl'⟩ => ?_).back i hi
   rcases ho' with ⟨hn,_⟩|⟨b',off',n',cap',pre',post',hs',hpre',hvl',hnc',hbig',hpl',hb'⟩
   ·cases hn
   ·cases hs'
    refine⟨⟨_,hb'⟩,.inr ⟨b,off,n,cap,pre,post,rfl,hpre,by rw [hlen',List.length_set,←hlen,hvl],hnc,hbig,hpl,by simp [hpS]⟩,by rw [List.length_set];exact hl⟩
theorem qcl {j n:Nat}{e:TypeId}{x':α}{put:HP→List HP} [A:AggT P t n] (hx:evl ρ x=.pointer (some (eadr T s j))) (hy:evl ρ y=.agg (T.enc x').toArray) (hn:n=T.sz) (hv:(T.enc x').all Value.oneCell'=true) (hw:Sat w0 w Γ) (O:OwnAt Γ s α T e xs put) (hj:j<xs.length)
  (h:∀ w',Sat w0 w' (put (OS T e s (xs.set j x')))→opsW P ops K r ρ w'):opsW P ops K (⟨none,.store t x y,ty,pos,af,none⟩::r) ρ w:=by
 refine qat rfl ?_
 obtain⟨i,hi,hput⟩:=O.foc.ok
 simp only [hput] at h
 obtain⟨w',hr,hs⟩:=qjp (P:=P) hv hw hi hj
 exact qbl hx hy (fun w=>by rw [A.agg.2];simp [Value.cells,hn,T.ok]) (by simpa [Value.cells] using hr) (h _ hs)
end
end Go.Sl
/-
  Looking a key up in a nil map.
-/
namespace Go.Sl
section
variable {α:Type}{P:Program}{ρ:Fr}{w:World}{ty:TypeId}{pos:String}{af:Array Edge}{g:Option (Nat × Bool)}{dst:Option Nat}{x y:Operand}{t:TypeId}{κ:α→Value}
theorem qdF [DecidableEq α] {k e:TypeId}{q:α}{zv:Value} [M:MapT P t k e] [KT:KeyT P k κ] [Z:ZeroV P e zv] (hx:evl ρ x=.map none) (hy:evl ρ y=κ q):ReadV P ⟨dst,.lookup t x y false,ty,pos,af,g⟩ ρ w zv:=by
 have hf:=KT.find q [] [] rfl w
 have h0:mfind q ([]:List (α × Value)) 0=none:=rfl
 rw [h0] at hf
 have ht:(#[]:Array MapEntry).toList=[]:=rfl
 simp only [ReadV,execOp,hx,hy,Instr.lookup,Sem.run_bind,run_underlying M.ok,Result.andThen_ok,Sem.run_pure,KT.check,ht,hf,Z.run]
 rfl
end
end Go.Sl
/-
  The nil pointer compared with a pointer.
-/
namespace Go.Sl
section
variable {P:Program}{ρ:Fr}{ty:TypeId}{pos:String}{af:Array Edge}{g:Option (Nat × Bool)}{dst:Option Nat}{x y:Operand}{t t':TypeId}
theorem qbY (w:World) (t:TypeId) (p:Option Addr) (h:P.underlying t=some (.pointer (P.pointee t))) :
  (Op.equal t (.pointer none) (.pointer p)).run P w=.ok p.isNone w:=by
 have key:∀ d,(Op.equalIn (d+1) t (.pointer none) (.pointer p)).run P w=.ok p.isNone w:=fun d=>by
  cases p <;> simp [Op.equalIn,run_underlying h]
 exact key 9999
theorem qjr {a:Option Addr} [T:PtrT P t] (hx:evl ρ x=.pointer none) (hy:evl ρ y=.pointer a):PureV P ⟨dst,.binOp .eql t x y t',ty,pos,af,g⟩ ρ (.bool a.isNone):=fun w=>by
 have h1:=qbY (P:=P) w t a T.und
 simp only [execOp,eqGuard,hx,hy]
 simp only [binOp]
 simp [h1]
end
end Go.Sl
/-
  Calls of functions that have no body; assertions to interfaces that a type does not satisfy; errors that are integers, compared.
-/
namespace Go.Sl
open Go.Stop Go.Extern.Stop
section
variable {P:Program}{ops:Array Oper}{K:Fr→World→Prop}{r:List Oper}{ρ:Fr}{w w0:World}{ty:TypeId}{pos:String}{af:Array Edge}{x y:Operand}{t t':TypeId}{d:Nat}{dst:Option Nat}{g:Option (Nat × Bool)}
end
end Go.Sl
/-
  Numbers of 64 bits without sign, as natural numbers: & | &^ << >> + - * and the sign.
-/
namespace Go.Sl
section
variable {P:Program}{ρ:Fr}{x y:Operand}{ty:TypeId}{pos:String}{af:Array Edge}{g:Option (Nat × Bool)}{dst:Option Nat}{t t':TypeId}
end
section
variable {P:Program}{ops:Array Oper}{K:Fr→World→Prop}{r:List Oper}{ρ:Fr}{w:World}{d:Nat}{x y:Operand}{ty:TypeId}{pos:String}{af:Array Edge}{t t':TypeId}
class ArrT (P:Program) (t:Nat) (n:outParam Nat):Prop where
 ok:∃ e,P.underlying t=some (.array n e)∧∀ w,(sizeOf e).run P w=.ok 1 w
theorem qa2 {k:IntKind}{j:Int}{n:Nat}{p:Addr} [A:ArrT P t n] {dst:Option Nat}{g:Option (Nat × Bool)}(hx:evl ρ x=.pointer (some p)) (hy:evl ρ y=.int k j) (h0:0≤j) (h1:j<n):PureV P ⟨dst,.indexAddr t x y,ty,pos,af,g⟩ ρ (.pointer (some (p.add j.toNat))):=fun w=>by
 obtain⟨e,he,hs⟩:=A.ok
 simp [execOp,Instr.indexAt,Instr.sureAddr,hx,hy,asIntOf,run_underlying he,h0,h1,hs]
end
def tU64:Ty Nat:=⟨1,fun n=>[.int .u64 (n:Int)],fun _=>rfl,0⟩
instance:OneT tU64:=⟨fun _ v hv=>by rw [List.mem_singleton.1 hv];rfl⟩
end Go.Sl
/-
  Bytes of the call's own: a text is appended, the bytes become a text; a pointer is an unsafe one and back.
-/
namespace Go.Sl
open Go.RowKit (Below)
section
variable {P:Program}{ops:Array Oper}{K:Fr→World→Prop}{r:List Oper}{ρ:Fr}{w w0:World}{d:Nat}{ty:TypeId}{pos:String}{af:Array Edge}{g:Option (Nat × Bool)}{dst:Option Nat}{x y:Operand}{t t':TypeId}{Γ:List HP}{s:Value}{xs:List Int}
theorem qle {b2:ByteArray}{ys:List Int}(h:b2.data.toList.map (fun c=>(c.toNat:Int))=ys) (w:World):(Builtin.firstCells tU8.sz b2.size (.string b2)).run P w=.ok (ys.flatMap tU8.enc).toArray w:=by
 have e:b2.extract 0 b2.size=b2:=by
  apply ByteArray.ext
  simp
 simp only [Builtin.firstCells,e,Sem.run_pure]
 congr 1
 apply Array.ext'
 rw [←h]
 simp only [Array.toList_map,List.flatMap_map]
 induction b2.data.toList with
 | nil=>rfl
 | cons c l ih=>rw [List.map_cons,List.flatMap_cons,ih];rfl
theorem qjC {e sz by_:Nat}{u:TypeId}{b2:ByteArray}{ys:List Int}{zs:List Value}{put:HP→List HP} [S:SliceT P t e sz by_] [Z:ZeroT P e zs] [U:StrT P u] (O:OwnAt Γ s Int tU8 e xs put) (hx:evl ρ x=s) (hy:evl ρ y=.string b2) (h2:b2.data.toList.map (fun c=>(c.toNat:Int))=ys) (hsz:sz=tU8.sz) (hzl:zs.length=sz)
  (hb:(xs.length+ys.length)*by_≤140737488355328) (hl:xs.length+ys.length≤big) (hw:Sat w0 w Γ)
  (h:∀ s' w',Sat w0 w' (put (OS tU8 e s' (xs++ys)))→opsW P ops K r (upd ρ d s') w'):opsW P ops K (⟨some d,.call { callee:=.builtin .append,args:=#[x,y],argTypes:=#[t,u] },ty,pos,af,none⟩::r) ρ w:=by
 refine qat rfl ?_
 subst hsz
 obtain⟨i,hi,hp⟩:=O.foc.ok
 simp only [hp] at h
 obtain⟨inf,hinf,hs,hby⟩:=S.info
 obtain⟨zv,hzv,hzr⟩:=Z.zero
 have h1:=hw.rs i hi
 obtain⟨ph,hph,hown⟩:=hw.at i hi
 have hone:∀ x∈ys,∀ v∈tU8.enc x,v.oneCell'=true:=fun x _ v hv=>OneT.ok x v hv
 have hyl:b2.size=ys.length:=by rw [←h2,List.length_map];rfl
 have hfc2:∀ w':World,w'.heap=w.heap→(Builtin.firstCells tU8.sz ys.length (.string b2)).run P w'=.ok (ys.flatMap tU8.enc).toArray w':=fun w' _=>by rw [←hyl];exact qle h2 w'
 have hfc1:∀ w':World,w'.heap=w.heap→(Builtin.firstCells tU8.sz xs.length s).run P w'=.ok (xs.flatMap tU8.enc).toArray w':=fun w' hw'=>qbo h1.1 h1.2.symm w' hw'
 have hgrow:∀ (a:Option Addr) (cap:Nat),s=.slice a xs.length cap→cap<xs.length+ys.length →
   (execOp (evl ρ) ⟨some d,.call { callee:=.builtin .append,args:=#[x,y],argTypes:=#[t,u] },ty,pos,af,none⟩).run P w =
   .ok (.value (.slice (some ⟨w.heap.size,0,none⟩) (xs.length+ys.length) (grownCap w (xs.length+ys.length) cap e))) (pushW w.drew (.cells ((xs.flatMap tU8.enc).toArray++(ys.flatMap tU8.enc).toArray++Builtin.zeroCells zs.toArray (grownCap w (xs.length+ys.length) cap e-(xs.length+ys.length))) e)):=by
  intro a cap hsh hcap
  have hn:¬(xs.length+ys.length≤cap):=by omega
  have h63':¬(9223372036854775807<((xs.length:Int)+(ys.length:Int))):=by unfold big at hl;omega
  have hfit:=growslice_fits (bytes:=by_) hcap hb
  have h48':¬(281474976710656<Builtin.nextslicecap (xs.length+ys.length) cap*by_):=by omega
  have hq:(Question.appendCap (xs.length+ys.length) cap e).forced=false:=rfl
  rw [hsh] at hfc1
  simp [execOp,resolve,invoke,builtin,Builtin.append_,hx,hy,hsh,run_underlying S.und,S.size,typeInfo,hinf,hby,Builtin.lenOf,hyl,run_underlying U.und,hn,h63',h48',hq,hfc1,hfc2,hzr,hzv,grownCap]
  rw [hfc1 w.drew rfl]
  simp only [Result.andThen_ok]
  rw [hfc2 w.drew rfl]
  have hlist:∀ (X Y:List Value) (Z:Array Value),X.toArray++(Y.toArray++Z)=(X++Y).toArray++Z:=fun X Y Z=>by apply Array.ext';simp only [Array.toList_append,List.append_assoc]
  simp only [newRow,Sem.run_bind,run_newObj,Result.andThen_ok,Sem.run_pure]
  rw [hlist]
  rfl
 simp only [opW]
 rcases hown with ⟨hown,hlen⟩
 have hnew:∀ cap,cap<xs.length+ys.length→Sat w0 (pushW w.drew (.cells ((xs.flatMap tU8.enc).toArray++(ys.flatMap tU8.enc).toArray++Builtin.zeroCells zs.toArray (grownCap w (xs.length+ys.length) cap e-(xs.length+ys.length))) e)) (Γ.set i (OS tU8 e (.slice (some ⟨w.heap.size,0,none⟩) (xs.length+ys.length) (grownCap w (xs.length+ys.length) cap e)) (xs++ys))):=by
  intro cap hcap
  have hge:=grownCap_ge w (xs.length+ys.length) cap e
  refine Sat.renew (w:=w.drew) hw.drew hi ⟨.inr ⟨w.heap.size,0,_,_,[],(Builtin.zeroCells zs.toArray (grownCap w (xs.length+ys.length) cap e-(xs.length+ys.length))).toList,rfl,rfl,by rw [tU8.len];simp,hge,hl,?_,?_⟩,by simp [slen]⟩
  ·simp [size_zeroCells,hzl]
  ·simp
 rcases hown with ⟨rfl,hnil⟩|⟨b,off,n,cap,pre,post,rfl,hpre,hlen',hnc,hbig,hpost,hb'⟩
 ·simp only [slen] at hlen
  by_cases hys:ys.length=0
  ·have hy0:=List.eq_nil_of_length_eq_zero hys
   subst hy0
   have hr:(execOp (evl ρ) ⟨some d,.call { callee:=.builtin .append,args:=#[x,y],argTypes:=#[t,u] },ty,pos,af,none⟩).run P w=.ok (.value (.slice none 0 0)) w:=by
    have hfc2':=hfc2 w rfl
    simp only [List.length_nil] at hfc2'
    simp [execOp,resolve,invoke,builtin,Builtin.append_,hx,hy,run_underlying S.und,S.size,Builtin.lenOf,hyl,run_underlying U.und,hfc2']
   rw [hr]
   refine h _ _ ?_
   have:xs=[]:=List.eq_nil_of_length_eq_zero hlen
   subst this
   simp only [List.append_nil]
   rw [show Γ.set i (OS tU8 e (.slice none 0 0) [])=Γ from ?_]
   ·exact hw
   ·apply List.ext_getElem?
    intro k
    rw [List.getElem?_set]
    split
    ·rename_i hk;subst hk;split
     ·rw [hi]
     ·rename_i hk;rw [List.getElem?_eq_none (by omega)]
    ·rfl
  ·rw [hgrow none 0 (by rw [hlen]) (by omega)]
   exact h _ _ (hnew 0 (by omega))
 ·simp only [slen] at hlen
  subst hlen
  by_cases hroom:xs.length+ys.length≤cap
  ·have hfc2':=hfc2 w rfl
   have hlx:(xs.flatMap tU8.enc).length=xs.length*tU8.sz:=tU8.len xs
   have hly:(ys.flatMap tU8.enc).length=ys.length*tU8.sz:=tU8.len ys
   have hm:xs.length*tU8.sz+ys.length*tU8.sz≤xs.length*tU8.sz+(cap-xs.length)*tU8.sz:=by
    have:ys.length*tU8.sz≤(cap-xs.length)*tU8.sz:=Nat.mul_le_mul_right _ (by omega)
    omega
   have hst:=qaz (P:=P) (bt:=e) (ys.flatMap tU8.enc) (off+xs.length*tU8.sz) 0 (pre++xs.flatMap tU8.enc++post) w (by
    intro v hv
    obtain⟨x',hx',hv'⟩:=List.mem_flatMap.1 hv
    exact hone x' hx' v hv') (by simp only [List.length_append,hlx,hly];omega) (hph _ _ hb').1
   have hr:(execOp (evl ρ) ⟨some d,.call { callee:=.builtin .append,args:=#[x,y],argTypes:=#[t,u] },ty,pos,af,none⟩).run P w=.ok (.value (.slice (some ⟨b,off,none⟩) (xs.length+ys.length) cap)) (putB w b (.cells ((pre++xs.flatMap tU8.enc++post).take (off+xs.length*tU8.sz+0)++ys.flatMap tU8.enc++(pre++xs.flatMap tU8.enc++post).drop (off+xs.length*tU8.sz+0+(ys.flatMap tU8.enc).length)).toArray e (0,0))):=by
    simp only [execOp,resolve,invoke,builtin,Builtin.append_,hx,hy,Sem.run_bind,Sem.run_pure,Result.andThen_ok,List.map_toArray,List.map_cons,List.map_nil,run_underlying S.und,S.size,Builtin.lenOf,hyl,run_underlying U.und]
    simp [hfc2',hroom,qbw,run_underlying S.und,Builtin.lenOf,hyl,run_underlying U.und,S.size]
    rw [hst]
    simp
   rw [hr]
   have h1':(pre++xs.flatMap tU8.enc++post).take (off+xs.length*tU8.sz+0)=pre++xs.flatMap tU8.enc:=by
    rw [List.take_append_of_le_length (by simp only [List.length_append,hlx];omega)]
    exact List.take_of_length_le (by simp only [List.length_append,hlx];omega)
   have h2':(pre++xs.flatMap tU8.enc++post).drop (off+xs.length*tU8.sz+0+(ys.flatMap tU8.enc).length)=post.drop (ys.length*tU8.sz):=by
    rw [List.drop_append,List.drop_eq_nil_of_le (by simp only [List.length_append,hlx,hly];omega)]
    simp only [List.nil_append,List.length_append,hlx,hly];congr 1;omega
   rw [h1',h2']
   refine h _ _ (Sat.back i hi (Sat.put (hw.focus i hi) fun h1 hsub hA => ?_))
   rcases hA with ⟨hA,_⟩
   rcases hA with ⟨hc,_⟩|⟨b1,off1,n1,cap1,pre1,post1,hs1,hpre1,hlen1,hnc1,hbig1,hpost1,hb1⟩
   ·cases hc
   ·cases hs1
    refine⟨⟨_,hb1⟩,.inr ⟨b,off,xs.length+ys.length,cap,pre,post.drop (ys.length*tU8.sz),rfl,hpre,by rw [tU8.len,List.length_append],hroom,hl,?_,?_⟩,by simp [slen]⟩
    ·simp only [List.length_drop]
     have:(cap-(xs.length+ys.length))*tU8.sz=(cap-xs.length)*tU8.sz-ys.length*tU8.sz:=by rw [←Nat.sub_mul];congr 1;omega
     omega
    ·simp [hpS]
  ·rw [hgrow _ cap rfl (by omega)]
   exact h _ _ (hnew cap (by omega))
theorem Sat.setCell0 {p:Addr}{bt:TypeId}{u v:Value}{vs:List Value}(hw:Sat w0 w (Box p bt (u::vs)::Γ)):Sat w0 (w.setCell p v) (Box p bt (v::vs)::Γ):=by
 obtain⟨h1,hs,ho,hsp,hb⟩:=hw.at 0 rfl
 obtain⟨pb,po,psp⟩:=p
 simp only at ho hsp hb;subst ho hsp
 have hheap:=(hs _ _ hb).1
 have hset:w.setCell ⟨pb,0,none⟩ v=putB w pb (.cells (v::vs).toArray bt (0,0)):=by
  simp only [World.setCell,putB]
  congr 1
  apply Array.ext_getElem?
  intro k
  have hbl:=(Array.getElem?_eq_some_iff.1 hheap).1
  by_cases hk:pb=k
  ·subst hk;rw [Array.getElem?_modify,if_pos rfl,hheap,Array.getElem?_setIfInBounds_self_of_lt hbl];simp
  ·rw [Array.getElem?_modify,if_neg hk,Array.getElem?_setIfInBounds_ne hk]
 rw [hset]
 exact Sat.put hw fun h1 _ ⟨_,_,hb⟩=>⟨⟨_,hb⟩,rfl,rfl,by simp [hpS]⟩
theorem Sat.boxAt0 {p:Addr}{bt:TypeId}{u:Value}{vs:List Value}(hw:Sat w0 w (Box p bt (u::vs)::Γ)):p=⟨p.block,0,none⟩∧w.cell? p=some u∧w.shape? p.block=some (bt,vs.length+1)∧w.frozen? p=false:=by
 obtain⟨h1,hs,ho,hsp,hb⟩:=hw.at 0 rfl
 obtain⟨pb,po,psp⟩:=p
 simp only at ho hsp hb;subst ho hsp
 have hheap:=(hs _ _ hb).1
 exact⟨rfl,by rw [cell_of_heap hheap];rfl,by simp [World.shape?,hheap],frozen_of_heap hheap _⟩
theorem qgU {a:Addr}{n c:Nat}(hx:evl ρ x=.slice (some a) n c) (hc:c≠0):PureV P ⟨dst,.call { callee:=.builtin .unsafeSliceData,args:=#[x],argTypes:=#[t] },ty,pos,af,g⟩ ρ (.pointer (some a)):=fun w=>by
 simp [execOp,resolve,invoke,builtin,hx,Lib.run_unsafeSliceData_row w _ _ a n c hc]
theorem qgV {a:Addr}{n c:Nat}(hx:evl ρ x=.slice (some a) n c) (hc:c≠0) (h:opsW P ops K r (upd ρ d (.pointer (some a))) w):opsW P ops K (⟨some d,.call { callee:=.builtin .unsafeSliceData,args:=#[x],argTypes:=#[t] },ty,pos,af,none⟩::r) ρ w:=by
 refine qat rfl ?_
 unfold opW
 rw [qgU hx hc w]
 exact h
theorem qjD {e:TypeId}(hc:P.cellsOf e=1) (count off n:Nat) (hn:off+n≤count):liesAt P P.depth e count off e n=true:=by
 have hd:P.depth=(2*(P.types.size+Made.depth)+1)+1:=rfl
 rw [hd]
 simp only [liesAt,Bool.or_eq_true]
 left
 rw [hd]
 simp [rowAt,hc,hn,sameLayout,Nat.mod_one]
def bytesU (l:List UInt8):List Int:=l.map fun c=>(c.toNat:Int)
theorem qfY {pt it ty e:TypeId}(hp:P.underlying pt=some (.pointer e)) (hc:P.cellsOf e=1) {g off cells:Nat}(hsh:w.shape? g=some (e,cells)) {l:List UInt8}(h0:l≠[]) (hn:off+l.length≤cells) (h63:l.length≤9223372036854775807)
  (hcell:∀ j x,l[j]? = some x→w.cell? ((⟨g,off,none⟩:Addr).add j)=some (.int .u8 x.toNat)) :
  (Builtin.unsafeString_ #[pt,it] ty #[.pointer (some ⟨g,off,none⟩),.int .i64 l.length]).run P w=.ok (.string ⟨l.toArray⟩) (w.freeze ⟨g,off,none⟩ l.length):=by
 have hl:l.length≠0:=by simpa using h0
 have hlb:=Lib.run_loadBytes (P:=P) w l ⟨g,off,none⟩ .empty hcell
 have hlies:=qjD (P:=P) hc (cells / P.cellsOf e) off l.length (by rw [hc];simpa using hn)
 have h63':¬(9223372036854775807:Int)<(l.length:Int):=by omega
 have hdef:Builtin.unsafeString_ #[pt,it] ty #[.pointer (some ⟨g,off,none⟩),.int .i64 l.length] =
   (do
    let n ←asInt (.int .i64 l.length)
    if n<0 then runtimePanic (.error "unsafe.String: len out of range")
    if n>IntKind.i64.max then unsupported (.unsafePointer "String: a length above the largest int")
    if n=0 then pure (.string .empty)
    else if ←variablesAt ⟨g,off,none⟩ (←elemOf pt) n.toNat then do
     let s ←loadBytes ⟨g,off,none⟩ .empty n.toNat
     freeze ⟨g,off,none⟩ n.toNat
     pure (.string s)
    else unsupported (.unsafePointer "String: not so many bytes at ptr")) := rfl
 rw [hdef]
 have hmax:IntKind.i64.max=9223372036854775807:=rfl
 have hneg:¬(l.length:Int)<0:=by omega
 simp [asInt,asIntOf,hmax,h63',hneg,hl,variablesAt,hsh,elemOf,run_underlying hp,hlies,hlb]
theorem qjE (l:List UInt8):(bytesU l).flatMap tU8.enc=l.map fun c=>Value.int .u8 c.toNat:=by
 induction l with
 | nil=>rfl
 | cons c l ih=>simp only [bytesU,List.map_cons,List.flatMap_cons] at *;rw [ih];rfl
theorem Sat.bytes {e:TypeId}{s:Value}{l:List UInt8}{i:Nat}(hw:Sat w0 w Γ) (hi:Γ[i]? = some (OS tU8 e s (bytesU l))) (h0:l≠[]):∃ b off cap,s=.slice (some ⟨b,off,none⟩) l.length cap∧l.length≤cap∧∃ (cs:Array Value),w.heap[b]? = some (.cells cs e (0,0))∧off+l.length≤cs.size∧(∀ j x,l[j]? = some x→w.cell? ((⟨b,off,none⟩:Addr).add j)=some (.int .u8 x.toNat))∧∀ o,Sat w0 (putB w b o) (Γ.set i fun _=>True):=by
 obtain⟨h1,hs,ho,hl⟩:=hw.at i hi
 have hbl:(bytesU l).length=l.length:=by simp [bytesU]
 rcases ho with ⟨rfl,hnil⟩|⟨b,off,n,cap,pre,post,rfl,hpre,hvl,hnc,hbig,hpl,hb⟩
 ·simp only [slen] at hl
  exact absurd (List.eq_nil_of_length_eq_zero (by omega)) h0
 ·simp only [slen] at hl
  have hheap:=(hs b _ hb).1
  rw [qjE] at hheap
  refine⟨b,off,cap,by rw [←hl,hbl],by omega,_,hheap,by simp [hpre],fun j x hj => ?_,fun o => ?_⟩
  ·have hjl:=(List.getElem?_eq_some_iff.1 hj).1
   rw [qbw,cell_of_heap hheap,List.append_assoc,List.getElem?_append_right (by omega),List.getElem?_append_left (by simp;omega),hpre,show off+j-off=j by omega,List.getElem?_map,hj]
   rfl
  ·refine (Sat.put (hw.focus i hi) fun g hg ⟨ho',_⟩ => ?_).back i hi
   rcases ho' with ⟨hn,_⟩|⟨b',off',n',cap',pre',post',hs',hpre',hvl',hnc',hbig',hpl',hb'⟩
   ·cases hn
   ·cases hs'
    exact⟨⟨_,hb'⟩,trivial⟩
theorem qgW {e:TypeId}{u:TypeId}{l:List UInt8}{b off n c:Nat}{i:Nat}(hp:P.underlying t=some (.pointer e)) (hce:P.cellsOf e=1) (hx:evl ρ x=.pointer (some ⟨b,off,none⟩)) (hy:evl ρ y=.int .i64 (l.length:Nat)) (hs:s=.slice (some ⟨b,off,none⟩) n c) (h0:l≠[]) (h63:l.length≤9223372036854775807) (hw:Sat w0 w Γ) (hi:Γ[i]? = some (OS tU8 e s (bytesU l)))
  (h:∀ w',Sat w0 w' (Γ.set i (fun _=>True))→opsW P ops K r (upd ρ d (.string ⟨l.toArray⟩)) w'):opsW P ops K (⟨some d,.call { callee:=.builtin .unsafeString,args:=#[x,y],argTypes:=#[t,u] },ty,pos,af,none⟩::r) ρ w:=by
 refine qat rfl ?_
 obtain⟨b',off',cap',hs',hlc,cs,hheap,hfit,hcell,hput⟩:=hw.bytes hi h0
 rw [hs] at hs'
 injection hs' with e1 e2 e3
 injection e1 with e1
 injection e1 with e4 e5
 subst e4 e5
 have hr:=qfY (P:=P) (it:=u) (ty:=ty) hp hce (g:=b) (off:=off) (cells:=cs.size) (by simp [World.shape?,hheap]) h0 hfit h63 hcell
 have hf:w.freeze ⟨b,off,none⟩ l.length=putB w b (.cells cs e (off,off+l.length)):=by
  have hl:l.length≠0:=by simpa using h0
  have hbl:=(Array.getElem?_eq_some_iff.1 hheap).1
  simp only [World.freeze,hl,if_false,putB]
  congr 1
  apply Array.ext_getElem?
  intro k
  by_cases hk:b=k
  ·subst hk;rw [Array.getElem?_modify,if_pos rfl,hheap,Array.getElem?_setIfInBounds_self_of_lt hbl];simp
  ·rw [Array.getElem?_modify,if_neg hk,Array.getElem?_setIfInBounds_ne hk]
 rw [hf] at hr
 simp only [opW,execOp,resolve,invoke,builtin,hx,hy,Sem.run_bind,Sem.run_pure,Result.andThen_ok,List.map_toArray,List.map_cons,List.map_nil,hr,opUpon]
 exact h _ (hput _)
theorem qeC {a b:ByteArray}(hx:evl ρ x=.string a) (hy:evl ρ y=.string b) (hsz:a.size+b.size≤1099511627776):PureV P ⟨dst,.binOp .add t x y t',ty,pos,af,g⟩ ρ (.string (a++b)):=fun w=>by
 have h1:¬(((a.size+b.size:Nat):Int)>IntKind.i64.max):=by
  have:IntKind.i64.max=9223372036854775807:=rfl
  omega
 simp only [execOp,eqGuard,binOp,Op.stringOp,hx,hy,Sem.run_bind,Sem.run_pure,Result.andThen_ok,h1,if_false]
 simp
theorem qgX {a b:Int} [A:ArrT P t 2] [Z:ZeroT P t [.int .i64 0,.int .i64 0]] (hx:evl ρ x=.int .i64 a) (hy:evl ρ y=.int .i64 b) (h:opsW P ops K r (upd ρ d (.agg #[.int .i64 a,.int .i64 b])) w):opsW P ops K (⟨some d,.build t #[(0,x),(1,y)],ty,pos,af,none⟩::r) ρ w:=by
 refine qiI (parts:=[(0,x),(1,y)]) (vs:=[(0,.int .i64 a),(1,.int .i64 b)]) (by simp [hx,hy]) (fun w => ?_) h
 obtain⟨e,he,hs⟩:=A.ok
 obtain⟨zv,hzv,hzr⟩:=Z.zero
 simp only [Instr.build,Sem.run_bind,hzr,hzv,Result.andThen_ok,run_underlying he,hs]
 rfl
theorem Sat.rowFirst {w w0:World}{Γ:List HP}{α:Type}{T:Ty α}{e:TypeId}{s:Value}{x:List α}{ss:List Value}{xss:List (List α)}(h:Sat w0 w (RowsAt T e (s::ss) (x::xss)::Γ)):Sat w0 w (OS T e s x::RowsAt T e ss xss::Γ):=by
 obtain⟨hl,h⟩:=Sat.flat h
 exact Sat.tailMono (fun g hg=>by
  obtain⟨h1,h2,d,s1,s2,ha,hg⟩:=SatL.split _ hg
  exact⟨h1,h2,d,s1,s2,⟨by simpa using hl,ha⟩,hg⟩) (show Sat w0 w (OS T e s x::(List.zipWith (OS T e) ss xss++Γ)) from h)
end
end Go.Sl
/-
  Slices of one-cell values that a sort of the kit turns, and lists of parts in another order.
-/
namespace Go.Sl
open Go.RowKit (Below)
theorem qfC {α:Type} [Inhabited α] (enc:α→Value) {pre post:List Value}{xs ys:List α}(hl:ys.length=xs.length) :
  Sort.putCells enc pre.length ys.toArray (pre++xs.map enc++post).toArray=(pre++ys.map enc++post).toArray:=by
 apply Array.ext_getElem?
 intro k
 simp only [Sort.putCells,Array.getElem?_mapIdx,List.getElem?_toArray,List.size_toArray]
 by_cases h1:k<pre.length
 ·rw [List.append_assoc,List.getElem?_append_left h1,List.append_assoc,List.getElem?_append_left h1]
  cases pre[k]? with
  | none=>rfl
  | some v=>simp only [Option.map_some];rw [if_neg (by omega)]
 ·by_cases h2:k<pre.length+ys.length
  ·have e1:(pre++xs.map enc++post)[k]? = some (enc (xs[k-pre.length]'(by omega))):=by
    rw [List.append_assoc,List.getElem?_append_right (by omega),List.getElem?_append_left (by simp;omega),List.getElem?_map,List.getElem?_eq_getElem (by omega)];rfl
   have e2:(pre++ys.map enc++post)[k]? = some (enc (ys[k-pre.length]'(by omega))):=by
    rw [List.append_assoc,List.getElem?_append_right (by omega),List.getElem?_append_left (by simp;omega),List.getElem?_map,List.getElem?_eq_getElem (by omega)];rfl
   rw [e1,e2]
   simp only [Option.map_some]
   rw [if_pos (by omega)]
   congr 2
   simp [show k-pre.length<ys.length by omega]
  ·have e1:(pre++xs.map enc++post)[k]? = post[k-pre.length-ys.length]? := by
    rw [List.append_assoc,List.getElem?_append_right (by omega),List.getElem?_append_right (by simp;omega)];simp [hl]
   have e2:(pre++ys.map enc++post)[k]? = post[k-pre.length-ys.length]? := by
    rw [List.append_assoc,List.getElem?_append_right (by omega),List.getElem?_append_right (by simp;omega)];simp
   rw [e1,e2]
   cases post[k-pre.length-ys.length]? with
   | none=>rfl
   | some v=>simp only [Option.map_some];rw [if_neg (by omega)]
end Go.Sl
/-
  Steps that say, too, that the count of draws does not fall: for functions that a sort of the kit calls.
-/
namespace Go.Sl
def Dr (n:Nat) (w:World):Prop:=n≤w.drawn
theorem Dr.refl (w:World):Dr w.drawn w:=Nat.le_refl _
theorem ex_of {w w':World}{Γ:List HP}(h:Sat w w' Γ) (hd:Dr w.drawn w'):∃ (q:Nat) (os:Array Obj),w'=Sort.grow (w.drewN q) os:=by
 obtain⟨h1,h2,h3,h4,h5⟩:=h.below
 refine⟨w'.drawn-w.drawn,w'.heap.extract w.heap.size w'.heap.size,?_⟩
 cases w with
 | mk hp tp dn os out =>
  cases w' with
  | mk hp' tp' dn' os' out' =>
   simp only at h1 h2 h3 h4 h5
   unfold Dr at hd
   simp only at hd
   subst h1 h2 h3
   simp only [Sort.grow,World.drewN,World.mk.injEq,true_and,and_true]
   refine⟨?_,by omega⟩
   apply Array.ext_getElem?
   intro i
   by_cases hi:i<hp.size
   ·rw [Array.getElem?_append_left hi];exact h5 i hi
   ·rw [Array.getElem?_append_right (by omega),Array.getElem?_extract]
    split
    ·congr 1;omega
    ·rw [Array.getElem?_eq_none (by omega)]
section
variable {P:Program}{ops:Array Oper}{K:Fr→World→Prop}{Q:Exit→Fr→World→Prop}{r:List Oper}{ρ:Fr}{w w0:World}{d:Nat}{ty:TypeId}{pos:String}{af:Array Edge}{x y:Operand}{t:TypeId}{Γ:List HP}{α:Type}{N:Nat}
theorem qfH {i:Nat}{l:List Oper}(is:List Item) (hw:Sat w0 w Γ) (hd:Dr N w) (hc:planB P l.toArray is=true) (h:∀ w',Sat w0 w' Γ→Dr N w'→opsD P l.toArray (Q .normal) is ρ w'):vc P (.region i l.toArray true) Q ρ w :=
 .inr (.inl ⟨is,hc,h _ hw.drew (Nat.le_succ_of_le hd)⟩)
theorem qdr {vs:List Value}(hx:evl ρ x=.agg vs.toArray) (hw:Sat w0 w Γ) (hd:Dr N w) (h:∀ p w',Sat w0 w' (Box p t vs::Γ)→Dr N w'→opsW P ops K r (upd ρ d (.pointer (some p))) w'):opsW P ops K (⟨some d,.box t x,ty,pos,af,none⟩::r) ρ w:=by
 refine qat rfl ?_
 simp only [opW,execOp,Instr.box,Sem.run_bind,Result.andThen_ok,newVar,newRow,run_newObj,Sem.run_pure,opUpon,hx]
 exact h ⟨w.heap.size,0,none⟩ _ (hw.push (o:=.cells (Value.agg vs.toArray).cells t) ⟨rfl,rfl,by simp [Value.cells]⟩) hd
theorem qby {T:Ty α}(xs:List α) (vs:List Value) {e sz by_ len:Nat}{parts:List (Nat × Operand)}{zs:List Value} [S:SliceT P t e sz by_] [Z:ZeroT P e zs] (hp:(parts.map fun p=>(p.1,evl ρ p.2))=(vs.zipIdx 0).map fun x=>(x.2,x.1))
  (hx:vs.flatMap (·.cells.toList)=xs.flatMap T.enc) (hvs:vs.all (fun v=>v.cells.size == sz)=true) (hlen:vs.length=len) (hxl:xs.length=len) (hsm:len*sz≤16777216) (hpos:0<len*sz) (hbig:len≤16777216) (hw:Sat w0 w Γ) (hd:Dr N w)
  (h:∀ s w',Sat w0 w' (OS T e s xs::Γ)→Dr N w'→opsW P ops K r (upd ρ d s) w'):opsW P ops K (⟨some d,.buildSlice t len parts.toArray,ty,pos,af,none⟩::r) ρ w:=by
 refine qat rfl ?_
 obtain⟨zv,hz',hzr⟩:=Z.zero
 have:(Array.map (fun x:Nat × Operand=>match x with|(i,x)=>(i,evl ρ x)) parts.toArray)=((vs.zipIdx 0).map fun x=>(x.2,x.1)).toArray:=by rw [←hp];simp
 have h0:¬(len*sz=0):=by omega
 have h1:¬(len*sz>2 ^ 24):=by omega
 have hf:Instr.fill (fun i=>some (i*sz,sz)) ((Array.range (len*sz)).map (zs.toArray[· % zs.toArray.size]!)) ((vs.zipIdx 0).map fun x=>(x.2,x.1))=some (xs.flatMap T.enc).toArray:=by
  have:=qdZ (sz:=sz) vs 0 [] ((Array.range (len*sz)).map (zs.toArray[· % zs.toArray.size]!)).toList (fun v hv=>by simpa using List.all_eq_true.1 hvs v hv) (by simp) (by simp [hlen])
  rw [hx] at this
  simp only [List.nil_append,Array.toArray_toList] at this
  exact this
 simp only [opW,execOp,this,Instr.buildSlice,Sem.run_bind,run_underlying S.und,Result.andThen_ok,S.size,h1,if_false,h0,Sem.run_pure,hzr,hz']
 rw [hf]
 simp only [Sem.run_bind,newRow,run_newObj,Result.andThen_ok,Sem.run_pure,opUpon]
 exact h _ _ (qb0 (e:=e) (by simp) hxl (by unfold big;omega) rfl hw) hd
end
end Go.Sl
/-
  A struct within a struct is stored into an element of a slice of the call's own.
-/
namespace Go.Sl
section
variable {P:Program}{ops:Array Oper}{K:Fr→World→Prop}{r:List Oper}{ρ:Fr}{w w0:World}{ty:TypeId}{pos:String}{af:Array Edge}{x y:Operand}{t:TypeId}{Γ:List HP}{α:Type}{T:Ty α}{s:Value}{xs:List α}
theorem qmu {β:Type}(A B C:List β) (k:Nat) (hk:k≤B.length):(A++(B++C)).take (A.length+k)=A++B.take k:=by
 rw [List.take_append,List.take_of_length_le (by omega),Nat.add_sub_cancel_left,List.take_append,Nat.sub_eq_zero_of_le hk,List.take_zero,List.append_nil]
theorem qmv {β:Type}(A B C:List β) (k:Nat) (hk:k≤B.length):(A++(B++C)).drop (A.length+k)=B.drop k++C:=by
 rw [List.drop_append,List.drop_eq_nil_of_le (by omega),List.nil_append,Nat.add_sub_cancel_left,List.drop_append,Nat.sub_eq_zero_of_le hk,List.drop_zero]
end
end Go.Sl
/-
  Slices whose elements have several cells, as a sort of the kit turns them, and 'clear' of the end of a slice of the call's own.
-/
namespace Go.Sl
open Go.RowKit (Below)
theorem qdQ {α:Type} [Inhabited α] (T:Ty α) (xs:List α):Sort.flatK T.enc T.sz xs.toArray=(xs.flatMap T.enc).toArray:=by
 refine Sort.ext_get! (by simp [T.len]) fun t ht => ?_
 have ht':t<xs.length*T.sz:=by simpa using ht
 have k0:0<T.sz:=by
  rcases Nat.eq_zero_or_pos T.sz with h|h
  ·rw [h] at ht';omega
  ·exact h
 have hq:t / T.sz<xs.length:=Nat.div_lt_of_lt_mul (by rwa [Nat.mul_comm])
 have hg:=T.get xs (t / T.sz) (t % T.sz) hq (Nat.mod_lt _ k0)
 rw [show t / T.sz*T.sz+t % T.sz=t from by rw [Nat.mul_comm];exact Nat.div_add_mod t T.sz] at hg
 rw [Sort.get_flatK _ _ _ _ (by simpa using ht')]
 have e:xs.toArray[t / T.sz]! = xs.getD (t / T.sz) T.dflt:=by simp [hq,List.getD]
 rw [e]
 simp only [List.getElem!_toArray,List.getElem!_eq_getElem?_getD,hg]
theorem Sat.rowK {α:Type} [Inhabited α] {T:Ty α}{w0 w:World}{Γ:List HP}{e:TypeId}{s:Value}{xs:List α}(hT:0<T.sz) (hw:Sat w0 w (OS T e s xs::Γ)) :
  (s=.slice none 0 0∧xs=[])∨∃ b off cap,s=.slice (some ⟨b,off,none⟩) xs.length cap∧xs.length≤cap∧b<w.heap.size∧Sort.HoldsK T.enc T.sz w b off xs.toArray ∧
   ∀ ys:List α,ys.length=xs.length→∀ n os,Sat w0 (Go.Proofs.sortWorldK T.enc T.sz w b off n ys.toArray os) (OS T e s ys::Γ):=by
 obtain⟨h1,hs,ho,hl⟩:=hw.at 0 rfl
 rcases ho with ⟨rfl,hnil⟩|⟨b,off,n,cap,pre,post,rfl,hpre,hvl,hnc,hbig,hpl,hb⟩
 ·left
  refine⟨rfl,?_⟩
  have:=T.len xs
  rw [hnil] at this
  rcases Nat.eq_zero_or_pos xs.length with h|h
  ·exact List.eq_nil_of_length_eq_zero h
  ·have:=Nat.mul_pos h hT;simp only [List.length_nil] at *;omega
 ·right
  simp only [slen] at hl
  subst hl
  have hheap:=(hs b _ hb).1
  refine⟨b,off,cap,rfl,hnc,(Array.getElem?_eq_some_iff.1 hheap).1,fun j hj=>⟨?_,frozen_of_heap hheap _⟩,fun ys hy m os => ?_⟩
  ·rw [qdQ] at hj ⊢
   simp only [List.size_toArray] at hj
   rw [cell_of_heap hheap,List.append_assoc,List.getElem?_append_right (by omega),List.getElem?_append_left (by omega),hpre,show off+j-off=j by omega,List.getElem?_eq_getElem hj]
   simp only [id,List.getElem!_toArray,List.getElem!_eq_getElem?_getD,List.getElem?_eq_getElem hj,Option.getD_some]
  ·refine Sat.grow ?_ os
   have hyl:(ys.flatMap T.enc).length=(xs.flatMap T.enc).length:=by rw [T.len,T.len,hy]
   have e1:Sort.putRowK T.enc T.sz (Sort.ahead w m) b off ys.toArray=putB (Sort.ahead w m) b (.cells (pre++ys.flatMap T.enc++post).toArray e (0,0)):=by
    unfold Sort.putRowK
    rw [qdQ]
    simp only [Sort.putRow,Sort.mapBlock,putB,Sort.ahead]
    congr 1
    apply Array.ext_getElem?
    intro k
    have hbl:=(Array.getElem?_eq_some_iff.1 hheap).1
    by_cases hk:b=k
    ·subst hk
     rw [Array.getElem?_modify,if_pos rfl,hheap,Array.getElem?_setIfInBounds_self_of_lt hbl]
     have hm:=qfC id (pre:=pre) (post:=post) hyl
     simp only [List.map_id] at hm
     simp only [Option.map_some,Sort.onCells]
     rw [←hpre,hm]
    ·rw [Array.getElem?_modify,if_neg hk,Array.getElem?_setIfInBounds_ne hk]
   rw [e1]
   refine Sat.put (hw.ahead m) fun g hg ⟨ho',hl'⟩ => ?_
   rcases ho' with ⟨hn,_⟩|⟨b',off',n',cap',pre',post',hs',hpre',hvl',hnc',hbig',hpl',hb'⟩
   ·cases hn
   ·cases hs'
    refine⟨⟨_,hb'⟩,.inr ⟨b,off,_,cap,pre,post,rfl,hpre,by rw [T.len,hy],hnc,hbig,hpl,by simp [hpS]⟩,by simp [slen,hy]⟩
theorem qjg {α:Type} [Inhabited α] (enc:α→Value) (w:World) (b off:Nat) (ys:List α):Sort.putRow enc w b off ys.toArray=Sort.putRow id w b off (ys.map enc).toArray:=by
 unfold Sort.putRow
 congr 1
 funext c
 apply Array.ext_getElem?
 intro k
 simp only [Sort.putCells,Array.getElem?_mapIdx,List.size_toArray,List.length_map]
 cases c[k]? with
 | none=>rfl
 | some v =>
  simp only [Option.map_some]
  split
  ·rename_i h
   have h1:k-off<ys.length:=by omega
   simp [h1]
  ·rfl
section
variable {P:Program}{ops:Array Oper}{K:Fr→World→Prop}{r:List Oper}{ρ:Fr}{w w0:World}{d:Nat}{dst:Option Nat}{ty:TypeId}{pos:String}{af:Array Edge}{x:Operand}{t:TypeId}{Γ:List HP}{α:Type}{T:Ty α}{s:Value}{xs:List α}
theorem qjh {i j:Nat}{e:TypeId}{zs:List α}(hv:∀ v∈zs.flatMap T.enc,v.oneCell'=true) (hw:Sat w0 w Γ) (hi:Γ[i]? = some (OS T e s xs)) (h0:0<zs.length) (hj:j+zs.length≤xs.length) :
  ∃ w',(storeCells (eadr T s j) (zs.flatMap T.enc)).run P w=.ok () w'∧Sat w0 w' (Γ.set i (OS T e s (xs.take j++zs++xs.drop (j+zs.length)))):=by
 obtain⟨h1,hs,ho,hl⟩:=hw.at i hi
 have hlen:=T.len xs
 rcases ho with ⟨rfl,hnil⟩|⟨b,off,n,cap,pre,post,rfl,hpre,hvl,hnc,hbig,hpl,hb⟩
 ·simp only [slen] at hl;omega
 ·have hadd:eadr T (.slice (some ⟨b,off,none⟩) n cap) j=⟨b,off+j*T.sz,none⟩:=rfl
  rw [hadd]
  have hsplit:xs.flatMap T.enc=(xs.take j).flatMap T.enc++((xs.drop j).take zs.length).flatMap T.enc++(xs.drop (j+zs.length)).flatMap T.enc:=by
   conv=>lhs;rw [←List.take_append_drop j xs,←List.take_append_drop zs.length (xs.drop j)]
   rw [List.flatMap_append,List.flatMap_append,List.drop_drop,List.append_assoc]
  have hAl:((xs.take j).flatMap T.enc).length=j*T.sz:=by rw [T.len,List.length_take,Nat.min_eq_left (by omega)]
  have hBl:(((xs.drop j).take zs.length).flatMap T.enc).length=zs.length*T.sz:=by rw [T.len,List.length_take,List.length_drop,Nat.min_eq_left (by omega)]
  have hZl:=T.len zs
  have hnew:((pre++xs.flatMap T.enc++post).take (off+j*T.sz+0)++zs.flatMap T.enc++(pre++xs.flatMap T.enc++post).drop (off+j*T.sz+0+(zs.flatMap T.enc).length))=pre++(xs.take j++zs++xs.drop (j+zs.length)).flatMap T.enc++post:=by
   have e0:pre++xs.flatMap T.enc++post=(pre++(xs.take j).flatMap T.enc)++(((xs.drop j).take zs.length).flatMap T.enc++((xs.drop (j+zs.length)).flatMap T.enc++post)):=by
    rw [hsplit];simp only [List.append_assoc]
   have e1:off+j*T.sz+0=(pre++(xs.take j).flatMap T.enc).length+0:=by rw [List.length_append,hAl,hpre]
   have e2:off+j*T.sz+0+(zs.flatMap T.enc).length=(pre++(xs.take j).flatMap T.enc).length+(zs.length*T.sz):=by rw [List.length_append,hAl,hpre,hZl];omega
   rw [e0,e2,e1,qmu _ _ _ _ (Nat.zero_le _),qmv _ _ _ _ (by omega)]
   simp only [List.take_zero,List.append_nil,List.flatMap_append,List.append_assoc]
   rw [List.drop_eq_nil_of_le (by omega),List.nil_append]
  have htot:off+j*T.sz+0+(zs.flatMap T.enc).length≤(pre++xs.flatMap T.enc++post).length:=by
   have:(j+zs.length)*T.sz≤(xs.flatMap T.enc).length:=by rw [hlen];exact Nat.mul_le_mul_right _ hj
   rw [Nat.add_mul] at this
   simp only [List.length_append];omega
  have hlen':=T.len (xs.take j++zs++xs.drop (j+zs.length))
  have hll:(xs.take j++zs++xs.drop (j+zs.length)).length=xs.length:=by simp only [List.length_append,List.length_take,List.length_drop];omega
  refine⟨putB w b (.cells (pre++(xs.take j++zs++xs.drop (j+zs.length)).flatMap T.enc++post).toArray e (0,0)),?_,?_⟩
  ·have:=qaz (P:=P) (b:=b) (bt:=e) (zs.flatMap T.enc) (off+j*T.sz) 0 _ w hv htot (hs b _ hb).1
   rw [this,←hnew]
  ·refine (Sat.put (hw.focus i hi) fun g hg ⟨ho',hl'⟩ => ?_).back i hi
   rcases ho' with ⟨hn,_⟩|⟨b',off',n',cap',pre',post',hs',hpre',hvl',hnc',hbig',hpl',hb'⟩
   ·cases hn
   ·cases hs'
    refine⟨⟨_,hb'⟩,.inr ⟨b,off,n,cap,pre,post,rfl,hpre,by rw [hlen',hll,←hlen,hvl],hnc,hbig,hpl,by simp [hpS]⟩,by rw [hll];exact hl⟩
theorem qio {e sz by_ j:Nat}{zs:List Value}{z:α}{put:HP→List HP} [S:SliceT P t e sz by_] [Z:ZeroT P e zs] (hx:evl ρ x=ssub s T.sz j xs.length) (hsz:sz=T.sz) (hz:T.enc z=zs) (hv:zs.all Value.oneCell'=true) (hw:Sat w0 w Γ) (O:OwnAt Γ s α T e xs put) (hj:j≤xs.length)
  (h:∀ w',Sat w0 w' (put (OS T e s (xs.take j++List.replicate (xs.length-j) z)))→opsW P ops K r (updo ρ dst (.tuple #[])) w'):opsW P ops K (⟨dst,.call { callee:=.builtin .clear,args:=#[x],argTypes:=#[t] },ty,pos,af,none⟩::r) ρ w:=by
 refine qat rfl ?_
 subst hsz
 obtain⟨i,hi,hput⟩:=O.foc.ok
 simp only [hput] at h
 obtain⟨zv,hzv,hzr⟩:=Z.zero
 obtain⟨a,cap,hs⟩:=(hw.rs i hi).shape
 subst hs
 simp only [opW]
 by_cases he:j=xs.length
 ·subst he
  have hr:(execOp (evl ρ) ⟨dst,.call { callee:=.builtin .clear,args:=#[x],argTypes:=#[t] },ty,pos,af,none⟩).run P w=.ok (.value (.tuple #[])) w:=by
   simp only [ssub,Nat.sub_self] at hx
   cases hq:(if cap=xs.length then a else Option.map (fun x=>x.add (xs.length*T.sz)) a) with
   | none=>rw [hq] at hx;simp [execOp,resolve,invoke,builtin,Builtin.clear_,hx,run_underlying S.und]
   | some p=>rw [hq] at hx;simp [execOp,resolve,invoke,builtin,Builtin.clear_,hx,run_underlying S.und]
  rw [hr]
  refine h w ?_
  rw [Nat.sub_self,List.replicate_zero,List.append_nil,List.take_of_length_le (Nat.le_refl _)]
  rw [show Γ.set i (OS T e (.slice a xs.length cap) xs)=Γ from ?_]
  ·exact hw
  ·apply List.ext_getElem?
   intro k
   by_cases hk:i=k
   ·subst hk;rw [List.getElem?_set_self (List.getElem?_eq_some_iff.1 hi).1,hi]
   ·rw [List.getElem?_set_ne hk]
 ·have hR:(List.replicate (xs.length-j) z).length=xs.length-j:=List.length_replicate
  obtain⟨w',hst,hsat⟩:=qjh (P:=P) (T:=T) (j:=j) (zs:=List.replicate (xs.length-j) z) (fun v hv'=>by
   obtain⟨z',hz',hv''⟩:=List.mem_flatMap.1 hv'
   rw [(List.mem_replicate.1 hz').2,hz] at hv''
   exact List.all_eq_true.1 hv v hv'') hw hi (by omega) (by omega)
  rw [hR,show j+(xs.length-j)=xs.length from by omega,List.drop_eq_nil_of_le (Nat.le_refl _),List.append_nil] at hsat
  obtain⟨p,cap',hsp,hspot⟩:∃ p cap',Value.slice a xs.length cap=.slice (some p) xs.length cap'∧p.spot=none:=by
   obtain⟨h1,_,ho,hl⟩:=hw.at i hi
   rcases ho with ⟨hn,hnil⟩|⟨b,off,n,cap2,pre,post,hn,_⟩
   ·rw [hn] at hl;simp only [slen] at hl;omega
   ·injection hn with e1 e2 e3
    subst e1;exact⟨⟨b,off,none⟩,cap,rfl,rfl⟩
  cases hsp
  have hnc:xs.length≤cap:=by
   obtain⟨_,n,c,hh,_,⟨h1,_⟩,_⟩:=(hw.rs i hi).1
   cases hh;exact h1
  have hr:(execOp (evl ρ) ⟨dst,.call { callee:=.builtin .clear,args:=#[x],argTypes:=#[t] },ty,pos,af,none⟩).run P w=.ok (.value (.tuple #[])) w':=by
   have hne:¬cap=j:=by omega
   have hx2:evl ρ x=.slice (some (p.add (j*T.sz))) (xs.length-j) (cap-j):=by rw [hx];simp [ssub,hne]
   obtain⟨m,hm⟩:∃ m,xs.length-j=m+1:=⟨xs.length-j-1,by omega⟩
   have hzc:(Builtin.zeroCells zv.cells (xs.length-j)).toList=(List.replicate (xs.length-j) z).flatMap T.enc:=by
    have hze:=qet (T:=T) hz (xs.length-j)
    have e:T.sz=zs.toArray.size:=by rw [←hz];simp [T.ok]
    rw [e] at hze
    unfold Builtin.zeroCells
    rw [hzv]
    exact hze
   rw [hm] at hx2 hzc
   have hadd:p.add (j*T.sz)=eadr T (.slice (some p) xs.length cap) j:=by rw [qdo hspot];rfl
   rw [hm] at hst
   simp only [execOp,resolve,invoke,builtin,Builtin.clear_]
   simp [hx2,run_underlying S.und,hzr,hzc,hadd,hst]
  rw [hr]
  exact h w' hsat
theorem ql4 (T:Ty α) (z:α) {y:Operand}{e sz by_:Nat}{n:Int}{zs:List Value} [S:SliceT P t e sz by_] [Z:ZeroT P e zs] (hx:evl ρ x=.int .i64 n) (hy:evl ρ y=.int .i64 n) (hsz:sz=T.sz) (hz:T.enc z=zs) (h0:0≤n) (hb:by_*n≤281474976710656) (hn:n≤281474976710656) (hw:Sat w0 w Γ)
  (h:∀ b w',Sat w0 w' (OS T e (.slice (some ⟨b,0,none⟩) n.toNat n.toNat) (List.replicate n.toNat z)::Γ)→opsW P ops K r (upd ρ d (.slice (some ⟨b,0,none⟩) n.toNat n.toNat)) w'):opsW P ops K (⟨some d,.makeSlice t x y,ty,pos,af,none⟩::r) ρ w:=by
 refine qat rfl ?_
 subst hsz
 obtain⟨zv,hz',hzr⟩:=Z.zero
 obtain⟨i,hi,hs,hby⟩:=S.info
 have hwr:IntKind.i64.wrap n=n:=qcH (by omega) (by omega)
 have hcond:((n<0 || (i.bytes:Int)*n>2 ^ 48) || n<0 || n>n)=false:=by simp [hby];omega
 simp only [opW,execOp,hx,hy,Instr.makeSlice,Sem.run_bind,run_underlying S.und,Result.andThen_ok,asInt,asIntOf,Sem.run_pure,typeInfo,run_program,hi,hwr,hcond,Bool.false_eq_true,if_false,run_askRoom,S.size]
 have hcells:∀ (z0:Array Value),(n.toNat*T.sz=0∨z0=zs.toArray)→((Array.range (n.toNat*T.sz)).map (z0[· % z0.size]!)).toList=(List.replicate n.toNat z).flatMap T.enc:=by
  intro z0 h
  rcases h with h|h
  ·rw [h]
   have:((List.replicate n.toNat z).flatMap T.enc).length=0:=by rw [T.len];simpa using h
   rw [List.eq_nil_of_length_eq_zero this];simp
  ·rw [h];exact qet hz n.toNat
 by_cases hz0:n.toNat*T.sz=0
 ·simp only [hz0,if_true,Sem.run_pure,Result.andThen_ok,newRow,Sem.run_bind,run_newObj,opUpon]
  have:=hcells #[] (.inl hz0)
  rw [hz0] at this
  exact h _ _ (qb0 (T:=T) (e:=e) (by rw [this];simp) (by simp) (by unfold big;omega) rfl hw)
 ·simp only [hz0,if_false,Sem.run_bind,hzr,Sem.run_pure,Result.andThen_ok,newRow,run_newObj,opUpon,hz']
  exact h _ _ (qb0 (T:=T) (e:=e) (by rw [hcells _ (.inr rfl)];simp) (by simp) (by unfold big;omega) rfl hw)
end
end Go.Sl
/-
  Structs and arrays of ints compared, told as elements of a list.
-/
namespace Go.Sl
def eqArrB (P:Program) (t:Nat):Bool:=match P.underlying t with
 | some (.array 2 e)=>cellB P e && (match P.underlying e with|some (.int _)=>true|_=>false) && !P.eqGuardType P.depth t
 | _=>false
class EqArrT (P:Program) (t:Nat):Prop where
 ok:eqArrB P t=true
class EqAg (P:Program) (t:Nat) {α:Type} [DecidableEq α] (T:Ty α):Prop where
 ok:∀ (a b:α) (w:World),(Op.equalIn 10000 t (.agg (T.enc a).toArray) (.agg (T.enc b).toArray)).run P w=.ok (decide (a=b)) w∧P.eqGuardType P.depth t=false
section
variable {P:Program}{ρ:Fr}{w:World}{ty:TypeId}{pos:String}{af:Array Edge}{g:Option (Nat × Bool)}{dst:Option Nat}{x y:Operand}{t t':TypeId}
theorem EqArrT.run (T:EqArrT P t) {a b c d:Int}(w:World):(Op.equalIn 10000 t (.agg #[.int .i64 a,.int .i64 b]) (.agg #[.int .i64 c,.int .i64 d])).run P w=.ok (decide ((a,b)=(c,d))) w∧P.eqGuardType P.depth t=false:=by
 have h:=T.ok
 simp only [eqArrB] at h
 split at h
 ·rename_i e hd
  simp only [Bool.and_eq_true,Bool.not_eq_true'] at h
  obtain⟨⟨h1,h2⟩,h3⟩:=h
  have C:CellT P e:=⟨h1⟩
  refine⟨?_,h3⟩
  split at h2
  ·rename_i kd hk
   have p1:∀ u v:Int,(part e #[.int .i64 u,.int .i64 v] 0).run P w=.ok (.int .i64 u) w:=fun u v=>by simp [part,C.plain.1]
   have p2:∀ u v:Int,(part e #[.int .i64 u,.int .i64 v] 1).run P w=.ok (.int .i64 v) w:=fun u v=>by simp [part,C.plain.1]
   have q:=fun u v:Int=>run_equalIn_int w 9998 e .i64 kd u v hk
   rw [show (10000:Nat)=9999+1 from rfl]
   rw [show (9998+1:Nat)=9999 from rfl] at q
   generalize (9999:Nat)=N at q
   simp only [Op.equalIn,Sem.run_bind,run_underlying hd,Result.andThen_ok,C.plain.2,Std.Legacy.Range.forIn_eq_forIn_range',Std.Legacy.Range.size,Nat.sub_zero,Nat.add_one_sub_one,Nat.div_one]
   simp only [List.range',List.forIn_cons,List.forIn_nil,Sem.run_bind,Nat.zero_mul,Nat.zero_add,Nat.one_mul,p1,p2,Result.andThen_ok]
   by_cases hac:a=c <;> by_cases hbd:b=d <;> simp [q,p1,p2,hac,hbd]
  ·cases h2
 ·cases h
variable {α:Type} [DecidableEq α] {T:Ty α}{a b:α}
theorem qi4 [E:EqAg P t T] (hx:evl ρ x=.agg (T.enc a).toArray) (hy:evl ρ y=.agg (T.enc b).toArray):PureV P ⟨dst,.binOp .eql t x y t',ty,pos,af,g⟩ ρ (.bool (decide (a=b))):=fun w=>by
 obtain⟨hr,hg⟩:=E.ok a b w
 simp only [execOp,hx,hy,Sem.run_bind,run_eqGuard_agg w .eql t x y _ _ hg,Result.andThen_ok,run_eql_struct,hr,Sem.run_pure]
theorem qi5 [E:EqAg P t T] (hx:evl ρ x=.agg (T.enc a).toArray) (hy:evl ρ y=.agg (T.enc b).toArray):PureV P ⟨dst,.binOp .neq t x y t',ty,pos,af,g⟩ ρ (.bool (!decide (a=b))):=fun w=>by
 obtain⟨hr,hg⟩:=E.ok a b w
 simp only [execOp,hx,hy,Sem.run_bind,run_eqGuard_agg w .neq t x y _ _ hg,Result.andThen_ok,run_neq_struct,hr,Sem.run_pure]
end
end Go.Sl
/-
  Three results, the first of which lies in memory.
-/
namespace Go.Sl
section
variable {P:Program}{ρ:Fr}{w:World}
theorem qbr {fn:Func}{R:Value→World→Prop}{s s' s2 ty n:Nat}{p:Addr}{vs:List Value}{v' v2:Value} [A:AggT P ty n] (hr:fn.results=#[.cell s ty,.tmp s',.tmp s2]) (hv:ρ s=.pointer (some p)) (hv':ρ s'=v') (hv2:ρ s2=v2) (hn:vs.length=n) (hc:∀ j v,vs[j]? = some v→w.cell? (p.add j)=some v)
  (h:R (.tuple #[.agg vs.toArray,v',v2]) w):postV P fn R .ret ρ w :=
 ⟨.tuple #[.agg vs.toArray,v',v2],fun a ha=>by
  have h1:a.tmps.getD s undef=.pointer (some p):=by rw [←hv,←ha];rfl
  have h2:a.tmps.getD s' undef=v':=by rw [←hv',←ha];rfl
  have h4:a.tmps.getD s2 undef=v2:=by rw [←hv2,←ha];rfl
  have h3:=qcB (P:=P) (A:=A) hn hc
  simp only [results,hr,List.mapM_toArray,List.mapM_cons,List.mapM_nil,h1,h2,h4,bind_pure_comp,map_pure]
  simp [asAddr,h3],h⟩
end
end Go.Sl
/-
  A range over a function whose body lays new blocks: the invariant speaks of cells alone.
-/
namespace Go.Sl
open Go.RowKit (Below)
def cellF (h:PH):PH:=fun b=>(h b).filter (·.isCells)
theorem qaP {h:PH}{b:Nat}{o:Obj}:cellF h b=some o↔h b=some o∧o.isCells=true:=by
 unfold cellF
 cases hb:h b with
 | none=>simp
 | some x =>
  simp only [Option.filter,Option.some.injEq]
  by_cases hx:x.isCells=true
  ·rw [if_pos hx];constructor
   ·intro e;cases e;exact⟨rfl,hx⟩
   ·rintro⟨e,_⟩;rw [e]
  ·rw [if_neg hx];constructor
   ·intro e;cases e
   ·rintro⟨e,h2⟩;subst e;exact absurd h2 hx
class CellP (A:HP):Prop where
 ok:∀ h,A h→A (cellF h)
class CellL (Γ:List HP):Prop where
 ok:∀ h,SatL Γ h→SatL Γ (cellF h)
instance:CellL []:=⟨fun _ _=>trivial⟩
instance {A:HP}{Γ:List HP} [a:CellP A] [g:CellL Γ]:CellL (A::Γ):=⟨fun h=>by
 rintro⟨h1,h2,d,s1,s2,ha,hg⟩
 refine⟨cellF h1,cellF h2,fun b => ?_,fun b o hb => ?_,fun b o hb => ?_,a.ok _ ha,g.ok _ hg⟩
 ·rcases d b with e|e
  ·left;simp [cellF,e]
  ·right;simp [cellF,e]
 ·have:=qaP.1 hb;exact qaP.2 ⟨s1 b o this.1,this.2⟩
 ·have:=qaP.1 hb;exact qaP.2 ⟨s2 b o this.1,this.2⟩⟩
instance {p:Addr}{t:TypeId}{cells:List Value}:CellP (Box p t cells):=⟨fun h ⟨h1,h2,h3⟩=>⟨h1,h2,qaP.2 ⟨h3,rfl⟩⟩⟩
instance {α:Type}{T:Ty α}{e:TypeId}{s:Value}{xs:List α}:CellP (OS T e s xs):=⟨fun h ⟨h1,h2⟩=>by
 refine⟨?_,h2⟩
 rcases h1 with h1|⟨b,off,n,cap,pre,post,a1,a2,a3,a4,a5,a6,a7⟩
 ·exact .inl h1
 ·exact .inr ⟨b,off,n,cap,pre,post,a1,a2,a3,a4,a5,a6,qaP.2 ⟨a7,rfl⟩⟩⟩
structure SatN (w0 w:World) (Γ:List HP):Prop where
 below:Below w0.heap.size w0 w
 sat:SatL Γ (cellF (newH w0 w))
def RestN (w0 W:World):HP:=fun h=>∀ b o,w0.heap.size≤b→W.heap[b]? = some o→o.isCells=false→h b=some o
theorem Sat.toN {w0 w:World}{Γ:List HP} [c:CellL Γ] (h:Sat w0 w Γ):SatN w0 w Γ:=⟨h.below,c.ok _ h.sat⟩
theorem SatN.sat0 {w0 w:World}{Γ:List HP}(h:SatN w0 w Γ):Sat w0 w Γ:=⟨h.below,h.sat.sub fun b o hb=>(qaP.1 hb).1⟩
theorem SatN.turn {B:Nat}{w0 W W':World}{row:Option Nat}{Γ:List HP}(hB:w0.heap.size≤B) (h:SatN w0 W Γ) (hg:W.grownBy W' row) (hr:∀ r,row=some r→B≤r∧∃ o:Obj,W.heap[r]? = some o∧o.isCells=false):SatN w0 W' Γ:=by
 have hsz:=h.below.size
 refine⟨⟨h.below.os ▸ hg.os,h.below.tape ▸ hg.tape,h.below.output ▸ hg.output,by have:=hg.size;omega,fun k hk => ?_⟩,h.sat.sub fun b o hb => ?_⟩
 ·rw [hg.block k (by omega) fun e=>by have:=(hr k e.symm).1;omega];exact h.below.block k hk
 ·obtain⟨h1,h2⟩:=qaP.1 hb
  refine qaP.2 ⟨?_,h2⟩
  simp only [newH] at h1 ⊢
  split at h1
  ·cases h1
  ·rename_i hlt
   rw [if_neg hlt]
   have hb2:b<W.heap.size:=(Array.getElem?_eq_some_iff.1 h1).1
   rw [hg.block b hb2 fun e => ?_]
   ·exact h1
   ·obtain⟨_,o2,h3,h4⟩:=hr b e.symm
    rw [h1] at h3;cases h3;rw [h2] at h4;cases h4
theorem SatN.open {w0 W:World}{Γ:List HP}(h:SatN w0 W Γ):Sat w0 W (RestN w0 W::Γ):=by
 refine⟨h.below,fun b=>(newH w0 W b).filter (fun o => !o.isCells),cellF (newH w0 W),fun b => ?_,fun b o hb => ?_,fun b o hb=>(qaP.1 hb).1,fun b o h1 h2 h3 => ?_,h.sat⟩
 ·show (newH w0 W b).filter _=none∨(newH w0 W b).filter _=none
  cases newH w0 W b with
  | none=>left;rfl
  | some x=>cases hc:x.isCells <;> simp [Option.filter,hc]
 ·cases hx:newH w0 W b with
  | none=>simp [hx] at hb
  | some x =>
   simp only [hx,Option.filter] at hb
   split at hb
   ·exact hb
   ·cases hb
 ·have:newH w0 W b=some o:=by simp only [newH];rw [if_neg (by omega)];exact h2
  simp [this,Option.filter,h3]
theorem Sat.closeN {w0 W W':World}{Γ:List HP} [c:CellL Γ] (hb:Below w0.heap.size w0 W) (h:Sat w0 W' (RestN w0 W::Γ)) (hsz:W.heap.size≤W'.heap.size):SatN w0 W' Γ∧KeepsOthers W W':=by
 refine⟨h.tail.toN,hsz,fun k o hk ho => ?_⟩
 rcases Nat.lt_or_ge k w0.heap.size with hlt|hge
 ·rw [h.below.block k hlt,←hb.block k hlt];exact hk
 ·obtain⟨h1,h2,d,s1,s2,hr,hg⟩:=h.sat
  have:=s1 k o (hr k o hge hk ho)
  simp only [newH] at this
  rwa [if_neg (by omega)] at this
section
variable {P:Program}{ops:Array Oper}{K:Fr→World→Prop}{r:List Oper}{ρ:Fr}{w w0:World}{d:Nat}{ty:TypeId}{pos:String}{af:Array Edge}{x y z:Operand}{t t':TypeId}{Γ:List HP}{α:Type}
theorem qe4 {T:Ty α}(xs:List α) (vs:List Value) {e sz by_ len:Nat}{parts:List (Nat × Operand)}{zs:List Value} [S:SliceT P t e sz by_] [Z:ZeroT P e zs] (hp:(parts.map fun p=>(p.1,evl ρ p.2))=(vs.zipIdx 0).map fun x=>(x.2,x.1))
  (hx:vs.flatMap (·.cells.toList)=xs.flatMap T.enc) (hvs:vs.all (fun v=>v.cells.size == sz)=true) (hlen:vs.length=len) (hxl:xs.length=len) (hsm:len*sz≤16777216) (hpos:0<len*sz) (hbig:len≤16777216) (hw:Sat w0 w Γ)
  (h:∀ s w',w.heap.size≤w'.heap.size→Sat w0 w' (OS T e s xs::Γ)→opsW P ops K r (upd ρ d s) w'):opsW P ops K (⟨some d,.buildSlice t len parts.toArray,ty,pos,af,none⟩::r) ρ w:=by
 refine qat rfl ?_
 obtain⟨zv,hz',hzr⟩:=Z.zero
 have:(Array.map (fun x:Nat × Operand=>match x with|(i,x)=>(i,evl ρ x)) parts.toArray)=((vs.zipIdx 0).map fun x=>(x.2,x.1)).toArray:=by rw [←hp];simp
 have h0:¬(len*sz=0):=by omega
 have h1:¬(len*sz>2 ^ 24):=by omega
 have hf:Instr.fill (fun i=>some (i*sz,sz)) ((Array.range (len*sz)).map (zs.toArray[· % zs.toArray.size]!)) ((vs.zipIdx 0).map fun x=>(x.2,x.1))=some (xs.flatMap T.enc).toArray:=by
  have:=qdZ (sz:=sz) vs 0 [] ((Array.range (len*sz)).map (zs.toArray[· % zs.toArray.size]!)).toList (fun v hv=>by simpa using List.all_eq_true.1 hvs v hv) (by simp) (by simp [hlen])
  rw [hx] at this
  simp only [List.nil_append,Array.toArray_toList] at this
  exact this
 simp only [opW,execOp,this,Instr.buildSlice,Sem.run_bind,run_underlying S.und,Result.andThen_ok,S.size,h1,if_false,h0,Sem.run_pure,hzr,hz']
 rw [hf]
 simp only [Sem.run_bind,newRow,run_newObj,Result.andThen_ok,Sem.run_pure,opUpon]
 exact h _ _ (by simp) (qb0 (e:=e) (by simp) hxl (by unfold big;omega) rfl hw)
theorem qeB (T:Ty α) {x1:α}{e sz by_:Nat}{v:Value}{zs:List Value} [S:SliceT P t e sz by_] [Z:ZeroT P e zs] (hp:evl ρ x=v) (hx:v.cells.toList=T.enc x1) (hvs:sz=T.sz) (hsm:sz≤16777216) (hpos:0<sz) (hw:Sat w0 w Γ)
  (h:∀ s w',w.heap.size≤w'.heap.size→Sat w0 w' (OS T e s [x1]::Γ)→opsW P ops K r (upd ρ d s) w'):opsW P ops K (⟨some d,.buildSlice t 1 #[(0,x)],ty,pos,af,none⟩::r) ρ w:=by
 have hs:v.cells.size=sz:=by
  have:=T.ok x1
  rw [←hx,←hvs] at this
  simpa using this
 exact qe4 (parts:=[(0,x)]) [x1] [v] (by simp [hp]) (by simp [hx]) (by simp [hs]) rfl rfl (by omega) (by omega) (by omega) hw h
variable {T:Ty α}{s:Value}{xs:List α}
theorem qjz {e sz by_:Nat}{s2:Value}{ys:List α}{zs:List Value}{put:HP→List HP} [S:SliceT P t e sz by_] [Z:ZeroT P e zs] (O:OwnAt Γ s α T e xs put) (hx:evl ρ x=s) (hy:evl ρ y=s2) (h2:RS T w s2 ys) (hsz:sz=T.sz) (hzl:zs.length=sz)
  (hone:∀ x∈ys,∀ v∈T.enc x,v.oneCell'=true) (hb:(xs.length+ys.length)*by_≤140737488355328) (hl:xs.length+ys.length≤big) (hw:Sat w0 w Γ)
  (h:∀ s' w',w.heap.size≤w'.heap.size→Sat w0 w' (put (OS T e s' (xs++ys)))→opsW P ops K r (upd ρ d s') w'):opsW P ops K (⟨some d,.call { callee:=.builtin .append,args:=#[x,y],argTypes:=#[t,t] },ty,pos,af,none⟩::r) ρ w:=by
 refine qat rfl ?_
 subst hsz
 obtain⟨i,hi,hp⟩:=O.foc.ok
 simp only [hp] at h
 obtain⟨inf,hinf,hs,hby⟩:=S.info
 obtain⟨zv,hzv,hzr⟩:=Z.zero
 have h1:=hw.rs i hi
 obtain⟨ph,hph,hown⟩:=hw.at i hi
 obtain⟨a2,cap2,hs2⟩:=h2.shape
 have hfc2:∀ w':World,w'.heap=w.heap→(Builtin.firstCells T.sz ys.length s2).run P w'=.ok (ys.flatMap T.enc).toArray w':=fun w' hw'=>qbo h2.1 h2.2.symm w' hw'
 have hfc1:∀ w':World,w'.heap=w.heap→(Builtin.firstCells T.sz xs.length s).run P w'=.ok (xs.flatMap T.enc).toArray w':=fun w' hw'=>qbo h1.1 h1.2.symm w' hw'
 have hgrow:∀ (a:Option Addr) (cap:Nat),s=.slice a xs.length cap→cap<xs.length+ys.length →
   (execOp (evl ρ) ⟨some d,.call { callee:=.builtin .append,args:=#[x,y],argTypes:=#[t,t] },ty,pos,af,none⟩).run P w =
   .ok (.value (.slice (some ⟨w.heap.size,0,none⟩) (xs.length+ys.length) (grownCap w (xs.length+ys.length) cap e))) (pushW w.drew (.cells ((xs.flatMap T.enc).toArray++(ys.flatMap T.enc).toArray++Builtin.zeroCells zs.toArray (grownCap w (xs.length+ys.length) cap e-(xs.length+ys.length))) e)):=by
  intro a cap hsh hcap
  have hn:¬(xs.length+ys.length≤cap):=by omega
  have h63':¬(9223372036854775807<((xs.length:Int)+(ys.length:Int))):=by unfold big at hl;omega
  have hfit:=growslice_fits (bytes:=by_) hcap hb
  have h48':¬(281474976710656<Builtin.nextslicecap (xs.length+ys.length) cap*by_):=by omega
  have hq:(Question.appendCap (xs.length+ys.length) cap e).forced=false:=rfl
  rw [hsh] at hfc1
  rw [hs2] at hfc2
  simp [execOp,resolve,invoke,builtin,Builtin.append_,hx,hy,hsh,hs2,run_underlying S.und,S.size,typeInfo,hinf,hby,Builtin.lenOf,hn,h63',h48',hq,hfc1,hfc2,hzr,hzv,grownCap]
  rw [hfc1 w.drew rfl]
  simp only [Result.andThen_ok]
  rw [hfc2 w.drew rfl]
  have hlist:∀ (X Y:List Value) (Z:Array Value),X.toArray++(Y.toArray++Z)=(X++Y).toArray++Z:=fun X Y Z=>by apply Array.ext';simp only [Array.toList_append,List.append_assoc]
  simp only [newRow,Sem.run_bind,run_newObj,Result.andThen_ok,Sem.run_pure]
  rw [hlist]
  rfl
 simp only [opW]
 rcases hown with ⟨hown,hlen⟩
 have hnew:∀ cap,cap<xs.length+ys.length→Sat w0 (pushW w.drew (.cells ((xs.flatMap T.enc).toArray++(ys.flatMap T.enc).toArray++Builtin.zeroCells zs.toArray (grownCap w (xs.length+ys.length) cap e-(xs.length+ys.length))) e)) (Γ.set i (OS T e (.slice (some ⟨w.heap.size,0,none⟩) (xs.length+ys.length) (grownCap w (xs.length+ys.length) cap e)) (xs++ys))):=by
  intro cap hcap
  have hge:=grownCap_ge w (xs.length+ys.length) cap e
  refine Sat.renew (w:=w.drew) hw.drew hi ⟨.inr ⟨w.heap.size,0,_,_,[],(Builtin.zeroCells zs.toArray (grownCap w (xs.length+ys.length) cap e-(xs.length+ys.length))).toList,rfl,rfl,by rw [T.len];simp,hge,hl,?_,?_⟩,by simp [slen]⟩
  ·simp [size_zeroCells,hzl]
  ·simp
 rcases hown with ⟨rfl,hnil⟩|⟨b,off,n,cap,pre,post,rfl,hpre,hlen',hnc,hbig,hpost,hb'⟩
 ·simp only [slen] at hlen
  by_cases hys:ys.length=0
  ·have hy0:=List.eq_nil_of_length_eq_zero hys
   subst hy0
   have hr:(execOp (evl ρ) ⟨some d,.call { callee:=.builtin .append,args:=#[x,y],argTypes:=#[t,t] },ty,pos,af,none⟩).run P w=.ok (.value (.slice none 0 0)) w:=by
    have hfc2':=hfc2 w rfl
    rw [hs2] at hfc2'
    simp only [List.length_nil] at hfc2'
    simp [execOp,resolve,invoke,builtin,Builtin.append_,hx,hy,hs2,run_underlying S.und,S.size,Builtin.lenOf,hfc2']
   rw [hr]
   refine h _ _ (Nat.le_refl _) ?_
   have:xs=[]:=List.eq_nil_of_length_eq_zero hlen
   subst this
   simp only [List.append_nil]
   rw [show Γ.set i (OS T e (.slice none 0 0) [])=Γ from ?_]
   ·exact hw
   ·apply List.ext_getElem?
    intro k
    rw [List.getElem?_set]
    split
    ·rename_i hk;subst hk;split
     ·rw [hi]
     ·rename_i hk;rw [List.getElem?_eq_none (by omega)]
    ·rfl
  ·rw [hgrow none 0 (by rw [hlen]) (by omega)]
   exact h _ _ (by simp [pushW]) (hnew 0 (by omega))
 ·simp only [slen] at hlen
  subst hlen
  by_cases hroom:xs.length+ys.length≤cap
  ·have hfc2':=hfc2 w rfl
   rw [hs2] at hfc2'
   have hlx:(xs.flatMap T.enc).length=xs.length*T.sz:=T.len xs
   have hly:(ys.flatMap T.enc).length=ys.length*T.sz:=T.len ys
   have hm:xs.length*T.sz+ys.length*T.sz≤xs.length*T.sz+(cap-xs.length)*T.sz:=by
    have:ys.length*T.sz≤(cap-xs.length)*T.sz:=Nat.mul_le_mul_right _ (by omega)
    omega
   have hst:=qaz (P:=P) (bt:=e) (ys.flatMap T.enc) (off+xs.length*T.sz) 0 (pre++xs.flatMap T.enc++post) w (by
    intro v hv
    obtain⟨x',hx',hv'⟩:=List.mem_flatMap.1 hv
    exact hone x' hx' v hv') (by simp only [List.length_append,hlx,hly];omega) (hph _ _ hb').1
   have hr:(execOp (evl ρ) ⟨some d,.call { callee:=.builtin .append,args:=#[x,y],argTypes:=#[t,t] },ty,pos,af,none⟩).run P w=.ok (.value (.slice (some ⟨b,off,none⟩) (xs.length+ys.length) cap)) (putB w b (.cells ((pre++xs.flatMap T.enc++post).take (off+xs.length*T.sz+0)++ys.flatMap T.enc++(pre++xs.flatMap T.enc++post).drop (off+xs.length*T.sz+0+(ys.flatMap T.enc).length)).toArray e (0,0))):=by
    simp only [execOp,resolve,invoke,builtin,Builtin.append_,hx,hy,hs2,Sem.run_bind,Sem.run_pure,Result.andThen_ok,List.map_toArray,List.map_cons,List.map_nil,run_underlying S.und,S.size,Builtin.lenOf]
    simp [hfc2',hroom,qbw,run_underlying S.und,Builtin.lenOf,S.size]
    rw [hst]
    simp
   rw [hr]
   have h1':(pre++xs.flatMap T.enc++post).take (off+xs.length*T.sz+0)=pre++xs.flatMap T.enc:=by
    rw [List.take_append_of_le_length (by simp only [List.length_append,hlx];omega)]
    exact List.take_of_length_le (by simp only [List.length_append,hlx];omega)
   have h2':(pre++xs.flatMap T.enc++post).drop (off+xs.length*T.sz+0+(ys.flatMap T.enc).length)=post.drop (ys.length*T.sz):=by
    rw [List.drop_append,List.drop_eq_nil_of_le (by simp only [List.length_append,hlx,hly];omega)]
    simp only [List.nil_append,List.length_append,hlx,hly];congr 1;omega
   rw [h1',h2']
   refine h _ _ (by simp [putB]) (Sat.back i hi (Sat.put (hw.focus i hi) fun h1 hsub hA => ?_))
   rcases hA with ⟨hA,_⟩
   rcases hA with ⟨hc,_⟩|⟨b1,off1,n1,cap1,pre1,post1,hs1,hpre1,hlen1,hnc1,hbig1,hpost1,hb1⟩
   ·cases hc
   ·cases hs1
    refine⟨⟨_,hb1⟩,.inr ⟨b,off,xs.length+ys.length,cap,pre,post.drop (ys.length*T.sz),rfl,hpre,by rw [T.len,List.length_append],hroom,hl,?_,?_⟩,by simp [slen]⟩
    ·simp only [List.length_drop]
     have:(cap-(xs.length+ys.length))*T.sz=(cap-xs.length)*T.sz-ys.length*T.sz:=by rw [←Nat.sub_mul];congr 1;omega
     omega
    ·simp [hpS]
  ·rw [hgrow _ cap rfl (by omega)]
   exact h _ _ (by simp [pushW]) (hnew cap (by omega))
end
section
variable {P:Program}
theorem qou {ops:Array Oper}{o:Oper}{r:List Oper}{K:Fr→World→Prop}{n:Nat}{ds:List Deferred}{a:Act}{w:World}(hfit:∀ d,o.dst=some d→d<n)
  (hs:a.tmps.size=n) (hd:a.defers=ds) (h:opsW P ops K (o::r) (fr a) w):cOp P ops o (fun a' w'=>a'.tmps.size=n∧a'.defers=ds∧opsW P ops K r (fr a') w') a w:=by
 have hput:∀ v,fr (a.put o.dst v)=updo (fr a) o.dst v:=fun v=>qb7 fun t ht=>by rw [hs];exact hfit t ht
 have hkeep:∀ v w',opsW P ops K r (updo (fr a) o.dst v) w'→(a.put o.dst v).tmps.size=n∧(a.put o.dst v).defers=ds∧opsW P ops K r (fr (a.put o.dst v)) w' :=
  fun v w' hk=>⟨by rw [size_put,hs],by rw [qaT,hd],by rw [hput];exact hk⟩
 have hop:opV P o (fr a) w (opsW P ops K r)→opVA P o a w fun a' w'=>a'.tmps.size=n∧a'.defers=ds∧opsW P ops K r (fr a') w':=by
  intro h
  unfold opV at h;unfold opVA
  split at h
  ·obtain⟨v,hv,hk⟩:=h
   unfold PureV at hv;rw [qaZ] at hv;exact⟨v,hv,hkeep _ _ hk⟩
  ·obtain⟨v,hv,hk⟩:=h
   unfold ReadV at hv;rw [qaZ] at hv;exact⟨v,hv,hkeep _ _ hk⟩
  ·unfold opW at h;rw [qaZ] at h
   exact qaA (fun v w' hk=>hkeep _ _ hk) h
 simp only [opsW] at h
 cases hg:o.guard with
 | none =>
  simp only [hg] at h
  refine⟨fun _=>hop h,fun hw => ?_⟩
  simp [Region.wanted,hg] at hw
 | some g =>
  simp only [hg] at h
  unfold cOp
  rw [qa0 hg]
  exact⟨fun hw=>hop (h.1 hw),fun hw=>hkeep _ _ (h.2 hw)⟩
theorem qgT {ro:Option Nat}{m:Nat}{id:Nat}{ops:Array Oper}{K:Fr→World→Prop}{n:Nat}{ds:List Deferred}{a:Act}{w:World}{Q:Exit→Act→World→Prop}(hQ:∀ a w,(a.tmps.size=n∧a.defers=ds∧K (fr a) w)→Q .normal a w)
  (hfit:opsFit n ops=true) (hs:a.tmps.size=n) (hd:a.defers=ds) (h:opsW P ops K ops.toList (fr a) w):(Code.region id ops false).wpIn (fw ro) m P Q a w:=by
 refine wpIn_region ?_
 have key:∀ (l:List Oper) (k:Nat) (a:Act) (w:World),(∀ j,l[j]? = ops[k+j]?)→k+l.length=ops.size→a.tmps.size=n→a.defers=ds→opsW P ops K l (fr a) w →
   wpOpsIn (fw ro) m P ops Q ((List.range' k l.length)) a w:=by
  intro l
  induction l with
  | nil=>intro k a w _ _ hs hd h;exact hQ _ _ ⟨hs,hd,h⟩
  | cons o r ih =>
   intro k a w hl hk hs hd h
   have h0:ops[k]? = some o:=by simpa using (hl 0).symm
   have hfo:∀ d,o.dst=some d→d<n:=by
    intro d hd'
    have:=Array.all_eq_true_iff_forall_mem.1 hfit o (Array.mem_of_getElem? h0)
    simpa [hd'] using this
   simp only [List.length_cons,List.range'_succ]
   rw [wpOpsIn_cons]
   refine qbQ ?_
   unfold cOpI;rw [h0]
   refine qbv (fun u w' hk' => ?_) (qou hfo hs hd h)
   simp only [List.length_cons] at hk
   exact ih (k+1) _ _ (fun j=>by have:=hl (j+1);simpa [Nat.add_assoc,Nat.add_comm 1 j] using this) (by omega) hk'.1 hk'.2.1 hk'.2.2
 have:=key ops.toList 0 a w (by simp) (by simp) hs hd h
 simpa [List.range_eq_range'] using this
end
end Go.Sl
