/-
  Several texts as one: SlRes, SlSort, SlEq, SlRead, SlNum, SlAgg, SlSub, SlU64, SlI64, SlU64b, SlSel, SlMap, SlMapS, SlBytes, SlMapN, SlRes4, SlRes5, SlInvM, SlRange, SlRes3, SlSortV, SlRem.
-/
import Derived.Test.YtkmbenhffledpaaGreatMSlA
import Derived.Sort.Row
import Derived.Sort.Grow
import Derived.Laws.Cover3
import Derived.Laws.StructEq
import Derived.ChangeSame
import Derived.ChangeShapes
import Derived.ChangeSlices
import Derived.Laws.BytesString
import Derived.Laws.Strings
import Derived.RangeFuncFrom
import Derived.RangeFuncLeaves
set_option linter.unusedSimpArgs false
set_option linter.unusedVariables false
/-
  Results that lie in memory.
-/
namespace Go.Sl
section
variable {P:Program}{ρ:Fr}{w:World}
theorem qfO {p:Addr}{n ty:Nat}{vs:List Value} [A:AggT P ty n] (hn:vs.length=n) (hc:∀ j v,vs[j]? = some v→w.cell? (p.add j)=some v):(loadVar ty p).run P w=.ok (.agg vs.toArray) w:=by
 subst hn
 have:=run_loadCells_list (P:=P) (w:=w) p vs hc
 simp [loadVar,A.agg.1,A.agg.2,this]
theorem qaL {fn:Func}{R:Value→World→Prop}{s s' ty n:Nat}{p:Addr}{vs:List Value}{v':Value} [A:AggT P ty n] (hr:fn.results=#[.cell s ty,.tmp s']) (hv:ρ s=.pointer (some p)) (hv':ρ s'=v') (hn:vs.length=n) (hc:∀ j v,vs[j]? = some v→w.cell? (p.add j)=some v)
  (h:R (.tuple #[.agg vs.toArray,v']) w):postV P fn R .ret ρ w :=
 ⟨.tuple #[.agg vs.toArray,v'],fun a ha=>by
  have h1:a.tmps.getD s undef=.pointer (some p):=by rw [←hv,←ha];rfl
  have h2:a.tmps.getD s' undef=v':=by rw [←hv',←ha];rfl
  have h3:=qfO (P:=P) (A:=A) hn hc
  simp only [results,hr,List.mapM_toArray,List.mapM_cons,List.mapM_nil,h1,h2,bind_pure_comp,map_pure]
  simp [asAddr,h3],h⟩
end
end Go.Sl
/-
  What the kit's contracts of the sorting functions say of the world, as 'Sat'.
-/
namespace Go.Sl
open Go.RowKit (Below)
theorem Sat.ahead {w0 w:World}{Γ:List HP}(h:Sat w0 w Γ) (n:Nat):Sat w0 (Sort.ahead w n) Γ:=⟨h.below.trans ⟨rfl,rfl,rfl,Nat.le_refl _,fun _ _=>rfl⟩,h.sat⟩
theorem Sat.grow {w0 w:World}{Γ:List HP}(h:Sat w0 w Γ) (os:Array Obj):Sat w0 (Sort.grow w os) Γ:=by
 have hsz:=h.below.size
 refine⟨h.below.trans ⟨rfl,rfl,rfl,by simp [Sort.grow],fun k hk => ?_⟩,h.sat.sub fun b o hb => ?_⟩
 ·simp only [Sort.grow];rw [Array.getElem?_append_left (by omega)]
 ·simp only [newH] at hb ⊢
  split at hb
  ·cases hb
  ·rename_i h1
   rw [if_neg h1]
   have hlt:=(Array.getElem?_eq_some_iff.1 hb).1
   simp only [Sort.grow];rw [Array.getElem?_append_left hlt];exact hb
theorem qh9 (xs:List Int):xs.flatMap tInt.enc=xs.map (Value.int .i64):=by
 induction xs with
 | nil=>rfl
 | cons x xs ih=>rw [List.flatMap_cons,ih];rfl
theorem qjn {pre post:List Value}{xs ys:List Int}(hl:ys.length=xs.length) :
  Sort.putCells (Value.int .i64) pre.length ys.toArray (pre++xs.map (Value.int .i64)++post).toArray=(pre++ys.map (Value.int .i64)++post).toArray:=by
 apply Array.ext_getElem?
 intro k
 simp only [Sort.putCells,Array.getElem?_mapIdx,List.getElem?_toArray,List.size_toArray]
 by_cases h1:k<pre.length
 ·rw [List.append_assoc,List.getElem?_append_left h1,List.append_assoc,List.getElem?_append_left h1]
  cases pre[k]? with
  | none=>rfl
  | some v=>simp only [Option.map_some];rw [if_neg (by omega)]
 ·by_cases h2:k<pre.length+ys.length
  ·have e1:(pre++xs.map (Value.int .i64)++post)[k]? = some (Value.int .i64 (xs[k-pre.length]'(by omega))):=by
    rw [List.append_assoc,List.getElem?_append_right (by omega),List.getElem?_append_left (by simp;omega),List.getElem?_map,List.getElem?_eq_getElem (by omega)];rfl
   have e2:(pre++ys.map (Value.int .i64)++post)[k]? = some (Value.int .i64 (ys[k-pre.length]'(by omega))):=by
    rw [List.append_assoc,List.getElem?_append_right (by omega),List.getElem?_append_left (by simp;omega),List.getElem?_map,List.getElem?_eq_getElem (by omega)];rfl
   rw [e1,e2]
   simp only [Option.map_some]
   rw [if_pos (by omega)]
   congr 2
   simp [show k-pre.length<ys.length by omega]
  ·have e1:(pre++xs.map (Value.int .i64)++post)[k]? = post[k-pre.length-ys.length]? := by
    rw [List.append_assoc,List.getElem?_append_right (by omega),List.getElem?_append_right (by simp;omega)];simp [hl]
   have e2:(pre++ys.map (Value.int .i64)++post)[k]? = post[k-pre.length-ys.length]? := by
    rw [List.append_assoc,List.getElem?_append_right (by omega),List.getElem?_append_right (by simp;omega)];simp
   rw [e1,e2]
   cases post[k-pre.length-ys.length]? with
   | none=>rfl
   | some v=>simp only [Option.map_some];rw [if_neg (by omega)]
theorem Sat.intsAt {w0 w:World}{Γ:List HP}{e:TypeId}{s:Value}{xs:List Int}(hw:Sat w0 w (OS tInt e s xs::Γ)) :
  (s=.slice none 0 0∧xs=[])∨∃ b off cap,s=.slice (some ⟨b,off,none⟩) xs.length cap∧xs.length≤cap∧b<w.heap.size∧Sort.Holds (Value.int .i64) w b off xs.toArray ∧
   ∀ ys:List Int,ys.length=xs.length→∀ n,Sat w0 (Sort.putRow (Value.int .i64) (Sort.ahead w n) b off ys.toArray) (OS tInt e s ys::Γ):=by
 obtain⟨h1,hs,ho,hl⟩:=hw.at 0 rfl
 rcases ho with ⟨rfl,hnil⟩|⟨b,off,n,cap,pre,post,rfl,hpre,hvl,hnc,hbig,hpl,hb⟩
 ·left
  refine⟨rfl,?_⟩
  cases xs with
  | nil=>rfl
  | cons x xs=>simp [tInt] at hnil
 ·right
  simp only [slen] at hl
  subst hl
  rw [qh9] at hb
  have hheap:=(hs b _ hb).1
  refine⟨b,off,cap,rfl,hnc,(Array.getElem?_eq_some_iff.1 hheap).1,fun j hj=>⟨?_,qdH hheap _⟩,fun ys hy m => ?_⟩
  ·simp only [List.size_toArray] at hj
   rw [qcn hheap,List.append_assoc,List.getElem?_append_right (by omega),List.getElem?_append_left (by simp;omega),hpre,show off+j-off=j by omega,List.getElem?_map,List.getElem?_eq_getElem hj]
   simp [hj]
  ·have e1:Sort.putRow (Value.int .i64) (Sort.ahead w m) b off ys.toArray=putB (Sort.ahead w m) b (.cells (pre++ys.map (Value.int .i64)++post).toArray e (0,0)):=by
    simp only [Sort.putRow,Sort.mapBlock,putB,Sort.ahead]
    congr 1
    apply Array.ext_getElem?
    intro k
    have hbl:=(Array.getElem?_eq_some_iff.1 hheap).1
    by_cases hk:b=k
    ·subst hk
     rw [Array.getElem?_modify,if_pos rfl,hheap,Array.getElem?_setIfInBounds_self_of_lt hbl]
     simp only [Option.map_some,Sort.onCells]
     rw [←hpre,qjn hy]
    ·rw [Array.getElem?_modify,if_neg hk,Array.getElem?_setIfInBounds_ne hk]
   rw [e1]
   refine Sat.put (hw.ahead m) fun g hg ⟨ho',hl'⟩ => ?_
   rcases ho' with ⟨hn,_⟩|⟨b',off',n',cap',pre',post',hs',hpre',hvl',hnc',hbig',hpl',hb'⟩
   ·cases hn
   ·cases hs'
    refine⟨⟨_,hb'⟩,.inr ⟨b,off,_,cap,pre,post,rfl,hpre,by rw [qh9];simp [hy,tInt],hnc,hbig,hpl,by rw [qh9];simp [hpS]⟩,by rw [hy];exact hl'⟩
section
variable {P:Program}{ρ:Fr}{w:World}{ty:TypeId}{pos:String}{af:Array Edge}{g:Option (Nat × Bool)}{dst:Option Nat}{x y:Operand}{t t':TypeId}
theorem qdo {e sz by_:Nat}{a:Option Addr}{n c:Nat} [S:SliceT P t e sz by_] (hx:evl ρ x=.slice a n c):PureV P ⟨dst,.binOp .eql t x (.const (.slice none 0 0)) t',ty,pos,af,g⟩ ρ (.bool a.isNone):=fun w=>by
 have h1:=run_equal_slice_nil (P:=P) w t e a n c S.und
 simp only [execOp,eqGuard,hx]
 cases x <;> simp [evl,binOp,h1]
theorem qhi {e sz by_:Nat}{a:Option Addr}{n c:Nat} [S:SliceT P t e sz by_] (hx:evl ρ x=.slice a n c):PureV P ⟨dst,.binOp .neq t x (.const (.slice none 0 0)) t',ty,pos,af,g⟩ ρ (.bool !a.isNone):=fun w=>by
 have h1:=run_neq_slice_nil (P:=P) w t e a n c S.und
 simp only [execOp,eqGuard,hx]
 cases x <;> simp [evl,h1]
end
end Go.Sl
/-
  Structs of ints compared; shifts; results in one cell.
-/
namespace Go.Sl
def eqIntsB (P:Program) (t n:Nat):Bool:=match P.underlying t with
 | some (.struct fs)=>fs.size == n && (List.range n).all (fun i=>match fs[i]? with|some f => !(f.name == "_") && f.offset == i && cellB P f.type && (match P.underlying f.type with | some (.int _) => true | _ => false) | none => false) && !P.stoodInHeld t && !P.eqGuardType P.depth t
 | _=>false
class EqIntsT (P:Program) (t:Nat) (n:outParam Nat):Prop where
 ok:eqIntsB P t n=true
section
variable {P:Program}{ρ:Fr}{w:World}{ty:TypeId}{pos:String}{af:Array Edge}{g:Option (Nat × Bool)}{dst:Option Nat}{x y:Operand}{t t':TypeId}
theorem qe7 {d:Nat}:∀ (fs:List Field) (k:Nat) (us zs:List Int) (xs ys:Array Value) (w:World),us.length=fs.length→zs.length=fs.length →
  (∀ j f,fs[j]? = some f→f.name≠ "_" ∧ f.offset = k + j ∧ CellT P f.type ∧ ∃ kd, P.underlying f.type = some (.int kd)) →
  (∀ j a,us[j]? = some a→xs[k+j]? = some (.int .i64 a))→(∀ j a,zs[j]? = some a→ys[k+j]? = some (.int .i64 a)) →
  (Op.eqFields (d+1) xs ys fs).run P w=.ok (decide (us=zs)) w
 | [],k,[],[],xs,ys,w,_,_,_,_,_=>by simp [Op.eqFields]
 | f::fs,k,a::us,b::zs,xs,ys,w,h1,h2,hf,hx,hy=>by
  obtain⟨hn,ho,C,kd,hk⟩:=hf 0 f rfl
  have ex:=hx 0 a rfl
  have ey:=hy 0 b rfl
  simp only [Nat.add_zero] at ho ex ey
  have ih:=qe7 (d:=d) fs (k+1) us zs xs ys w (by simpa using h1) (by simpa using h2) (fun j f' hj=>by have:=hf (j+1) f' (by simpa using hj);rw [show k+(j+1)=k+1+j by omega] at this;exact this)
   (fun j a' hj=>by have:=hx (j+1) a' (by simpa using hj);rw [show k+(j+1)=k+1+j by omega] at this;exact this) (fun j a' hj=>by have:=hy (j+1) a' (by simpa using hj);rw [show k+(j+1)=k+1+j by omega] at this;exact this)
  have p1:(part f.type xs f.offset).run P w=.ok (.int .i64 a) w:=by simp [part,C.plain.1,ho,ex]
  have p2:(part f.type ys f.offset).run P w=.ok (.int .i64 b) w:=by simp [part,C.plain.1,ho,ey]
  simp only [Op.eqFields,ne_eq,hn,not_false_eq_true,if_true,Sem.run_bind,p1,p2,Result.andThen_ok,run_equalIn_int w d f.type .i64 kd a b hk]
  by_cases h:a=b
  ·subst h
   simp only [beq_self_eq_true,Bool.not_true,Bool.false_eq_true,if_false,ih]
   congr 1
   simp
  ·have hb:(a == b)=false:=by simpa using h
   rw [hb]
   simp [h]
theorem EqIntsT.run {n:Nat}(T:EqIntsT P t n) {us zs:List Int}(h1:us.length=n) (h2:zs.length=n) (w:World):(Op.equalIn 10000 t (.agg (us.map (Value.int .i64)).toArray) (.agg (zs.map (Value.int .i64)).toArray)).run P w=.ok (decide (us=zs)) w∧P.eqGuardType P.depth t=false:=by
 have h:=T.ok
 simp only [eqIntsB] at h
 split at h
 ·rename_i fs hd
  simp only [Bool.and_eq_true,Bool.not_eq_true',beq_iff_eq,List.all_eq_true,List.mem_range] at h
  obtain⟨⟨⟨hs,hall⟩,hst⟩,hgu⟩:=h
  have hfo:P.fieldsOf t=fs:=by simp [Program.fieldsOf,hd]
  refine⟨?_,hgu⟩
  rw [run_equalIn_struct w 9999 t _ _ (by rw [hfo];exact hd) hst,hfo]
  refine qe7 (d:=9998) fs.toList 0 us zs _ _ w (by simp [h1,hs]) (by simp [h2,hs]) (fun j f hj => ?_) (fun j a hj=>by simp [hj]) (fun j a hj=>by simp [hj])
  have hjl:j<n:=by have:=(List.getElem?_eq_some_iff.1 hj).1;simpa [hs] using this
  have:=hall j hjl
  rw [show fs[j]? = some f by simpa using hj] at this
  simp only [Bool.and_eq_true,Bool.not_eq_true',beq_iff_eq] at this
  obtain⟨⟨⟨a1,a2⟩,a3⟩,a4⟩:=this
  refine⟨by simpa using a1,by simpa using a2,⟨a3⟩,?_⟩
  split at a4
  ·rename_i kd hk;exact⟨kd,hk⟩
  ·cases a4
 ·cases h
theorem qmK {n:Nat}{us zs:List Int} [T:EqIntsT P t n] (hx:evl ρ x=.agg (us.map (Value.int .i64)).toArray) (hy:evl ρ y=.agg (zs.map (Value.int .i64)).toArray) (h1:us.length=n) (h2:zs.length=n):PureV P ⟨dst,.binOp .neq t x y t',ty,pos,af,g⟩ ρ (.bool (!decide (us=zs))):=fun w=>by
 obtain⟨hr,hg⟩:=T.run h1 h2 w
 simp only [execOp,hx,hy,Sem.run_bind,run_eqGuard_agg w .neq t x y _ _ hg,Result.andThen_ok,run_neq_struct,hr,Sem.run_pure]
theorem qip {fn:Func}{R:Value→World→Prop}{s ty n:Nat}{p:Addr}{vs:List Value} [A:AggT P ty n] (hr:fn.results=#[.cell s ty]) (hv:ρ s=.pointer (some p)) (hn:vs.length=n) (hc:∀ j v,vs[j]? = some v→w.cell? (p.add j)=some v)
  (h:R (.agg vs.toArray) w):postV P fn R .ret ρ w :=
 ⟨.agg vs.toArray,fun a ha=>by
  have h1:a.tmps.getD s undef=.pointer (some p):=by rw [←hv,←ha];rfl
  have h3:=qfO (P:=P) (A:=A) hn hc
  simp only [results,hr,List.mapM_toArray,List.mapM_cons,List.mapM_nil,h1,bind_pure_comp,map_pure]
  simp [asAddr,h3],h⟩
end
end Go.Sl
/-
  From the form's reading of an argument to what a walk is told: a slice of elements of one kind.
-/
namespace Go.Sl
open Go.RowKit (Below)
section
variable {H:Type}{enc:TypeId × Value→H}{P:Program}{w:World}{base:Nat}{spare:Nat→Bool}{held:Bool}
def Rd {α:Type}(enc:TypeId × Value→H) (P:Program) (w:World) (base:Nat) (spare:Nat→Bool) (held:Bool) (t:TypeId) (T:Ty α) (Good:α→Prop):Prop :=
 ∀ fuel cs y,DataW.trod enc P w base spare held fuel t cs=some y→∃ x,cs=T.enc x∧Good x
theorem qfB {t:TypeId}(ht:P.underlying t=some (.int .i64)):Rd enc P w base spare held t tInt fun n => -9223372036854775808≤n∧n≤9223372036854775807:=by
 intro fuel cs y h
 obtain⟨n,rfl,_,hw⟩:=DataW.trod_int ht h
 refine⟨n,rfl,?_⟩
 simpa [Lit.wf,IntKind.min,IntKind.max,IntKind.signed,IntKind.bits] using hw
theorem qlp {α β:Type}{f:α→Option β}:∀ {l:List α}{r:List β},l.mapM f=some r→∀ (i:Nat) (x:α),l[i]? = some x→∃ y,f x=some y∧r[i]? = some y
 | [],r,h,i,x,hx=>by simp at hx
 | a::l,r,h,i,x,hx=>by
  simp only [List.mapM_cons,Option.bind_eq_bind,Option.pure_def] at h
  cases ha:f a with
  | none=>simp [ha] at h
  | some b =>
   cases hl:l.mapM f with
   | none=>simp [ha,hl] at h
   | some r' =>
    simp only [ha,hl,Option.bind_some,Option.some.injEq] at h
    subst h
    cases i with
    | zero=>simp at hx;subst hx;exact⟨b,ha,rfl⟩
    | succ i=>simp at hx;obtain⟨y,h1,h2⟩:=qlp hl i x hx;exact⟨y,h1,by simpa using h2⟩
theorem qnG {a:Addr}{n:Nat}{cs:List Value}(h:w.cells? base a n=some cs):cs.length=n∧∀ (i:Nat) v,cs[i]? = some v→w.cell? (a.add i)=some v:=by
 unfold World.cells? at h
 split at h
 ·have hl:cs.length=n:=by
   have:∀ {l:List Nat}{r:List Value},l.mapM (fun i=>w.cell? (a.add i))=some r→r.length=l.length:=by
    intro l
    induction l with
    | nil=>intro r h;simp at h;subst h;rfl
    | cons x l ih =>
     intro r h
     simp only [List.mapM_cons,Option.bind_eq_bind,Option.pure_def] at h
     cases hx:w.cell? (a.add x) with
     | none=>simp [hx] at h
     | some b =>
      cases hr:l.mapM (fun i=>w.cell? (a.add i)) with
      | none=>simp [hx,hr] at h
      | some r'=>simp only [hx,hr,Option.bind_some,Option.some.injEq] at h;subst h;simp [ih hr]
   have:=this h;simpa using this
  refine⟨hl,fun i v hv => ?_⟩
  have hi:=(List.getElem?_eq_some_iff.1 hv).1
  obtain⟨y,h1,h2⟩:=qlp h i i (by rw [List.getElem?_range (by omega)])
  rw [hv] at h2;cases h2;exact h1
 ·cases h
theorem add_add (a:Addr) (i j:Nat) (hs:a.spot=none):(a.add i).add j=⟨a.block,a.off+(i+j),none⟩:=by
 unfold Addr.add
 obtain⟨b,o,s⟩:=a
 simp only at hs;subst hs
 split <;> split <;> simp_all <;> omega
theorem qfC {α β:Type}{Q:Nat→α→Prop}:∀ (n:Nat),(∀ i,i<n→∃ x,Q i x)→∃ xs:List α,xs.length=n∧∀ (i:Nat) x,xs[i]? = some x→Q i x
 | 0,_=>⟨[],rfl,by simp⟩
 | n+1,h=>by
  obtain⟨xs,hl,hx⟩:=qfC (β:=β) n fun i hi=>h i (by omega)
  obtain⟨x,hq⟩:=h n (by omega)
  refine⟨xs++[x],by simp [hl],fun i y hy => ?_⟩
  rcases Nat.lt_or_ge i n with hi|hi
  ·rw [List.getElem?_append_left (by omega)] at hy;exact hx i y hy
  ·have hlt:=(List.getElem?_eq_some_iff.1 hy).1
   simp at hlt
   have:i=n:=by omega
   subst this
   rw [List.getElem?_append_right (by omega),hl] at hy
   simp at hy;subst hy;exact hq
theorem qcH {α:Type}{T:Ty α}{Good:α→Prop}{t e:TypeId}(ht:P.underlying t=some (.slice e)) (hsz:P.cellsOf e=T.sz) (hpos:0<T.sz) (hE:Rd enc P w base spare held e T Good) :
  Rd enc P w base spare held t tVal fun v=>∃ xs,RS T w v xs∧∀ x∈xs,Good x:=by
 intro fuel cs y h
 rcases DataW.trod_slice ht h with ⟨rfl,_⟩|⟨a,len,cap,elems,rest,fuel',_,rfl,_,_,hlc,hcm,hlen,hel,_⟩
 ·exact⟨_,rfl,[],RS.nil,by simp⟩
 ·have hget:∀ i,i<len→∃ x:α,Good x∧∀ (k:Nat) v,(T.enc x)[k]? = some v→w.cell? ((a.add (i*P.cellsOf e)).add k)=some v:=by
   intro i hi
   have h1:=hel i hi
   rw [List.getElem?_eq_getElem (by omega)] at h1
   cases hc:w.cells? base (a.add (i*P.cellsOf e)) (P.cellsOf e) with
   | none=>simp [hc] at h1
   | some cs =>
    simp only [hc,Option.bind_some] at h1
    obtain⟨x,rfl,hg⟩:=hE _ cs _ h1
    exact⟨x,hg,(qnG hc).2⟩
  obtain⟨xs,hl,hx⟩:=qfC (β:=Unit) (Q:=fun i (x:α)=>Good x∧∀ (k:Nat) v,(T.enc x)[k]? = some v→w.cell? ((a.add (i*P.cellsOf e)).add k)=some v) len hget
  refine⟨_,rfl,xs,⟨⟨some a,len,cap,rfl,by rw [T.len,hl],⟨hlc,by unfold maxLen at hcm;unfold big;omega⟩,?_⟩,hl⟩,?_⟩
  ·intro i v hv
   have hi:=(List.getElem?_eq_some_iff.1 hv).1
   rw [T.len] at hi
   have hq:i / T.sz<xs.length:=(Nat.div_lt_iff_lt_mul hpos).2 hi
   have hmod:i % T.sz<T.sz:=Nat.mod_lt _ hpos
   have hsplit:i=i / T.sz*T.sz+i % T.sz:=by rw [Nat.mul_comm];exact (Nat.div_add_mod i T.sz).symm
   have h1:=T.get xs (i / T.sz) (i % T.sz) hq hmod
   rw [←hsplit,hv] at h1
   have hgd:xs[i / T.sz]? = some (xs.getD (i / T.sz) T.dflt):=by simp [List.getD,hq]
   have hcell:=(hx _ _ hgd).2 _ _ h1.symm
   have hspot:a.spot=none:=by
    cases hsp:a.spot with
    | none=>rfl
    | some s0 =>
     have hx0:0<xs.length:=Nat.lt_of_le_of_lt (Nat.zero_le _) hq
     have he0:0<(T.enc xs[0]).length:=by rw [T.ok];exact hpos
     have h00:=(hx 0 xs[0] (List.getElem?_eq_getElem hx0)).2 0 (T.enc xs[0])[0] (List.getElem?_eq_getElem he0)
     have:(a.add (0*P.cellsOf e)).add 0=a:=by simp [Addr.add]
     rw [this] at h00
     unfold World.cell? at h00
     split at h00
     ·simp [hsp] at h00
     ·cases h00
   refine⟨a,rfl,hspot,?_⟩
   rw [add_add a _ _ hspot,hsz,←hsplit] at hcell
   exact hcell
  ·intro x hxm
   obtain⟨i,hi,rfl⟩:=List.getElem_of_mem hxm
   exact (hx i _ (List.getElem?_eq_getElem hi)).1
theorem qi8 {t:TypeId}{fs:Array Field}(ht:P.underlying t=some (.struct fs)) {fuel:Nat}{cs:List Value}{y:DataW H × List MemPlace}(h:DataW.trod enc P w base spare held fuel t cs=some y) :
  cs.length=P.cellsOf t∧∀ (i:Nat) (f:Field),fs[i]? = some f→∃ n y',DataW.trod enc P w base spare held n f.type ((cs.drop f.offset).take (P.cellsOf f.type))=some y':=by
 obtain⟨xs,n,_,_,hl,hlen,hf⟩:=DataW.trod_struct ht h
 refine⟨hl,fun i f hi => ?_⟩
 have hil:i<fs.size:=(Array.getElem?_eq_some_iff.1 hi).1
 have:=hf i f hi
 rw [List.getElem?_eq_getElem (by omega)] at this
 exact⟨n,_,this⟩
theorem qbe {t i off ft n:Nat}(F:FieldT P t i off ft) (hn:P.cellsOf ft=n) {fuel:Nat}{cs:List Value}{y:DataW H × List MemPlace}(h:DataW.trod enc P w base spare held fuel t cs=some y) :
  ∃ m y',DataW.trod enc P w base spare held m ft ((cs.drop off).take n)=some y':=by
 obtain⟨fs,fld,hd,hf,rfl,rfl,_⟩:=F.place
 obtain⟨_,hh⟩:=qi8 hd h
 subst hn
 exact hh i fld hf
theorem qlq {t i off ft n:Nat}(F:FieldT P t i off ft) (hn:P.cellsOf t=n) {fuel:Nat}{cs:List Value}{y:DataW H × List MemPlace}(h:DataW.trod enc P w base spare held fuel t cs=some y):cs.length=n:=by
 obtain⟨fs,fld,hd,hf,rfl,rfl,_⟩:=F.place
 subst hn
 exact (qi8 hd h).1
end
end Go.Sl
/-
  Small numbers: lists of uint8 and uint16, conversions to int, a slice that is the caller's or the call's own.
-/
namespace Go.Sl
def tU8:Ty Int:=⟨1,fun n=>[.int .u8 n],fun _=>rfl,0⟩
def tU16:Ty Int:=⟨1,fun n=>[.int .u16 n],fun _=>rfl,0⟩
instance:OneT tU8:=⟨fun _ v hv=>by rw [List.mem_singleton.1 hv];rfl⟩
instance:OneT tU16:=⟨fun _ v hv=>by rw [List.mem_singleton.1 hv];rfl⟩
class IntT (P:Program) (t:Nat) (k:outParam IntKind):Prop where
 ok:P.underlying t=some (.int k)
section
variable {P:Program}{ρ:Fr}{x y:Operand}{ty:TypeId}{pos:String}{af:Array Edge}{g:Option (Nat × Bool)}{dst:Option Nat}{t t':TypeId}
theorem qpz {s d:Nat}{ks:IntKind}{n:Int} [S:IntT P s ks] [D:IntT P d .i64] (hx:evl ρ x=.int ks n) (h0 : -9223372036854775808≤n) (h1:n≤9223372036854775807):PureV P ⟨dst,.convert s d x,ty,pos,af,g⟩ ρ (.int .i64 n):=fun w=>by
 simp only [execOp,convert,hx,Sem.run_bind,run_underlying S.ok,run_underlying D.ok,Result.andThen_ok,Conv.intToInt,qc3 h0 h1,Sem.run_pure]
end
section
variable {w w0:World}{Γ:List HP}
end
section
variable {H:Type}{enc:TypeId × Value→H}{P:Program}{w:World}{base:Nat}{spare:Nat→Bool}{held:Bool}
end
end Go.Sl
/-
  A struct is stored into an element of a slice of the call's own.
-/
namespace Go.Sl
section
variable {P:Program}{ops:Array Oper}{K:Fr→World→Prop}{r:List Oper}{ρ:Fr}{w w0:World}{ty:TypeId}{pos:String}{af:Array Edge}{x y:Operand}{t:TypeId}{Γ:List HP}{α:Type}{T:Ty α}{s:Value}{xs:List α}
theorem qmB {i j:Nat}{e:TypeId}{x':α}(hv:(T.enc x').all Value.oneCell'=true) (hw:Sat w0 w Γ) (hi:Γ[i]? = some (OS T e s xs)) (hj:j<xs.length) :
  ∃ w',(storeCells (eadr T s j) (T.enc x')).run P w=.ok () w'∧Sat w0 w' (Γ.set i (OS T e s (xs.set j x'))):=by
 obtain⟨h1,hs,ho,hl⟩:=hw.at i hi
 have hlen:=T.len xs
 rcases ho with ⟨rfl,hnil⟩|⟨b,off,n,cap,pre,post,rfl,hpre,hvl,hnc,hbig,hpl,hb⟩
 ·simp only [slen] at hl;omega
 ·have hidx:(j+1)*T.sz≤(xs.flatMap T.enc).length:=by
   rw [hlen];exact Nat.mul_le_mul_right _ hj
  rw [Nat.add_mul,Nat.one_mul] at hidx
  have hok:=T.ok x'
  have hadd:eadr T (.slice (some ⟨b,off,none⟩) n cap) j=⟨b,off+j*T.sz,none⟩:=rfl
  rw [hadd]
  have hflat:(xs.set j x').flatMap T.enc=(xs.flatMap T.enc).take (j*T.sz)++T.enc x'++(xs.flatMap T.enc).drop (j*T.sz+T.sz):=by
   rw [List.set_eq_take_append_cons_drop,if_pos hj,List.flatMap_append,List.flatMap_cons,T.take,show j*T.sz+T.sz=(j+1)*T.sz by rw [Nat.add_mul,Nat.one_mul],T.drop,List.append_assoc]
  have hnew:((pre++xs.flatMap T.enc++post).take (off+j*T.sz+0)++T.enc x'++(pre++xs.flatMap T.enc++post).drop (off+j*T.sz+0+(T.enc x').length))=pre++(xs.set j x').flatMap T.enc++post:=by
   rw [hflat,hok]
   have a1:(pre++xs.flatMap T.enc++post).take (off+j*T.sz+0)=pre++(xs.flatMap T.enc).take (j*T.sz):=by
    rw [List.append_assoc,List.take_append,List.take_of_length_le (by omega),List.take_append,show off+j*T.sz+0-pre.length=j*T.sz by omega,Nat.sub_eq_zero_of_le (show j*T.sz≤(xs.flatMap T.enc).length by omega),List.take_zero,List.append_nil]
   have a2:(pre++xs.flatMap T.enc++post).drop (off+j*T.sz+0+T.sz)=(xs.flatMap T.enc).drop (j*T.sz+T.sz)++post:=by
    rw [List.append_assoc,List.drop_append,List.drop_eq_nil_of_le (by omega),List.nil_append,List.drop_append,show off+j*T.sz+0+T.sz-pre.length=j*T.sz+T.sz by omega,Nat.sub_eq_zero_of_le (show j*T.sz+T.sz≤(xs.flatMap T.enc).length by omega),List.drop_zero]
   rw [a1,a2]
   simp only [List.append_assoc]
  refine⟨putB w b (.cells (pre++(xs.set j x').flatMap T.enc++post).toArray e (0,0)),?_,?_⟩
  ·have:=qaP (P:=P) (b:=b) (bt:=e) (T.enc x') (off+j*T.sz) 0 _ w (by simpa using hv) (by simp only [List.length_append];omega) (hs b _ hb).1
   rw [this,←hnew]
  ·have hlen':=T.len (xs.set j x')
   refine (Sat.put (hw.focus i hi) fun g hg ⟨ho',hl'⟩ => ?_).back i hi
   rcases ho' with ⟨hn,_⟩|⟨b',off',n',cap',pre',post',hs',hpre',hvl',hnc',hbig',hpl',hb'⟩
   ·cases hn
   ·cases hs'
    refine⟨⟨_,hb'⟩,.inr ⟨b,off,n,cap,pre,post,rfl,hpre,by rw [hlen',List.length_set,←hlen,hvl],hnc,hbig,hpl,by simp [hpS]⟩,by rw [List.length_set];exact hl⟩
theorem qb5 {j n:Nat}{e:TypeId}{x':α}{put:HP→List HP} [A:AggT P t n] (hx:evl ρ x=.pointer (some (eadr T s j))) (hy:evl ρ y=.agg (T.enc x').toArray) (hn:n=T.sz) (hv:(T.enc x').all Value.oneCell'=true) (hw:Sat w0 w Γ) (O:OwnAt Γ s α T e xs put) (hj:j<xs.length)
  (h:∀ w',Sat w0 w' (put (OS T e s (xs.set j x')))→opsW P ops K r ρ w'):opsW P ops K (⟨none,.store t x y,ty,pos,af,none⟩::r) ρ w:=by
 refine qaE rfl ?_
 obtain⟨i,hi,hput⟩:=O.foc.ok
 simp only [hput] at h
 obtain⟨w',hr,hs⟩:=qmB (P:=P) hv hw hi hj
 exact qbP hx hy (fun w=>by rw [A.agg.2];simp [Value.cells,hn,T.ok]) (by simpa [Value.cells] using hr) (h _ hs)
end
end Go.Sl
/-
  A struct within a struct is stored into an element of a slice of the call's own.
-/
namespace Go.Sl
section
variable {P:Program}{ops:Array Oper}{K:Fr→World→Prop}{r:List Oper}{ρ:Fr}{w w0:World}{ty:TypeId}{pos:String}{af:Array Edge}{x y:Operand}{t:TypeId}{Γ:List HP}{α:Type}{T:Ty α}{s:Value}{xs:List α}
theorem qqg {β:Type}(A B C:List β) (k:Nat) (hk:k≤B.length):(A++(B++C)).take (A.length+k)=A++B.take k:=by
 rw [List.take_append,List.take_of_length_le (by omega),Nat.add_sub_cancel_left,List.take_append,Nat.sub_eq_zero_of_le hk,List.take_zero,List.append_nil]
theorem qqh {β:Type}(A B C:List β) (k:Nat) (hk:k≤B.length):(A++(B++C)).drop (A.length+k)=B.drop k++C:=by
 rw [List.drop_append,List.drop_eq_nil_of_le (by omega),List.nil_append,Nat.add_sub_cancel_left,List.drop_append,Nat.sub_eq_zero_of_le hk,List.drop_zero]
theorem qmz {i j k:Nat}{e:TypeId}{x':α}{vs:List Value}(hv:vs.all Value.oneCell'=true) (hw:Sat w0 w Γ) (hi:Γ[i]? = some (OS T e s xs)) (hj:j<xs.length) (hk:k+vs.length≤T.sz) (hx':T.enc x'=(T.enc (xs.getD j T.dflt)).take k++vs++(T.enc (xs.getD j T.dflt)).drop (k+vs.length)) :
  ∃ w',(storeCells ((eadr T s j).add k) vs).run P w=.ok () w'∧Sat w0 w' (Γ.set i (OS T e s (xs.set j x'))):=by
 obtain⟨h1,hs,ho,hl⟩:=hw.at i hi
 have hlen:=T.len xs
 rcases ho with ⟨rfl,hnil⟩|⟨b,off,n,cap,pre,post,rfl,hpre,hvl,hnc,hbig,hpl,hb⟩
 ·simp only [slen] at hl;omega
 ·have hxj:xs.getD j T.dflt=xs[j]:=by simp [List.getD,hj]
  have hok:=T.ok (xs.getD j T.dflt)
  have hadd:(eadr T (.slice (some ⟨b,off,none⟩) n cap) j).add k=⟨b,off+j*T.sz+k,none⟩:=by
   have h0:eadr T (.slice (some ⟨b,off,none⟩) n cap) j=⟨b,off+j*T.sz,none⟩:=rfl
   rw [h0,qev]
  rw [hadd]
  obtain⟨B,hB⟩:∃ B,B=T.enc (xs.getD j T.dflt):=⟨_,rfl⟩
  rw [←hB] at hok hx'
  have hsplit:xs.flatMap T.enc=(xs.take j).flatMap T.enc++(B++(xs.drop (j+1)).flatMap T.enc):=by
   conv=>lhs;rw [←List.take_append_drop j xs,List.drop_eq_getElem_cons hj]
   rw [List.flatMap_append,List.flatMap_cons,hB,hxj]
  have hset:(xs.set j x').flatMap T.enc=(xs.take j).flatMap T.enc++(T.enc x'++(xs.drop (j+1)).flatMap T.enc):=by
   rw [List.set_eq_take_append_cons_drop,if_pos hj,List.flatMap_append,List.flatMap_cons]
  have hAl:((xs.take j).flatMap T.enc).length=j*T.sz:=by rw [T.len,List.length_take,Nat.min_eq_left (by omega)]
  have hnew:((pre++xs.flatMap T.enc++post).take (off+j*T.sz+k+0)++vs++(pre++xs.flatMap T.enc++post).drop (off+j*T.sz+k+0+vs.length))=pre++(xs.set j x').flatMap T.enc++post:=by
   have e0:pre++xs.flatMap T.enc++post=(pre++(xs.take j).flatMap T.enc)++(B++((xs.drop (j+1)).flatMap T.enc++post)):=by
    rw [hsplit];simp only [List.append_assoc]
   have e1:off+j*T.sz+k+0=(pre++(xs.take j).flatMap T.enc).length+k:=by rw [List.length_append,hAl,hpre];omega
   have e2:off+j*T.sz+k+0+vs.length=(pre++(xs.take j).flatMap T.enc).length+(k+vs.length):=by rw [List.length_append,hAl,hpre];omega
   rw [e0,e2,e1,qqg _ _ _ _ (by omega),qqh _ _ _ _ (by omega),hset,hx']
   simp only [List.append_assoc]
  have htot:off+j*T.sz+k+vs.length≤(pre++xs.flatMap T.enc++post).length:=by
   have:(j+1)*T.sz≤(xs.flatMap T.enc).length:=by rw [hlen];exact Nat.mul_le_mul_right _ hj
   rw [Nat.add_mul,Nat.one_mul] at this
   simp only [List.length_append];omega
  refine⟨putB w b (.cells (pre++(xs.set j x').flatMap T.enc++post).toArray e (0,0)),?_,?_⟩
  ·have:=qaP (P:=P) (b:=b) (bt:=e) vs (off+j*T.sz+k) 0 _ w (by simpa using hv) (by omega) (hs b _ hb).1
   rw [this,←hnew]
  ·have hlen':=T.len (xs.set j x')
   refine (Sat.put (hw.focus i hi) fun g hg ⟨ho',hl'⟩ => ?_).back i hi
   rcases ho' with ⟨hn,_⟩|⟨b',off',n',cap',pre',post',hs',hpre',hvl',hnc',hbig',hpl',hb'⟩
   ·cases hn
   ·cases hs'
    refine⟨⟨_,hb'⟩,.inr ⟨b,off,n,cap,pre,post,rfl,hpre,by rw [hlen',List.length_set,←hlen,hvl],hnc,hbig,hpl,by simp [hpS]⟩,by rw [List.length_set];exact hl⟩
theorem qhg {j k n:Nat}{e:TypeId}{x':α}{vs:List Value}{put:HP→List HP} [A:AggT P t n] (hx:evl ρ x=.pointer (some ((eadr T s j).add k))) (hy:evl ρ y=.agg vs.toArray) (hn:n=vs.length) (hv:vs.all Value.oneCell'=true) (hw:Sat w0 w Γ) (O:OwnAt Γ s α T e xs put) (hj:j<xs.length) (hk:k+vs.length≤T.sz)
  (hx':T.enc x'=(T.enc (xs.getD j T.dflt)).take k++vs++(T.enc (xs.getD j T.dflt)).drop (k+vs.length)) (h:∀ w',Sat w0 w' (put (OS T e s (xs.set j x')))→opsW P ops K r ρ w'):opsW P ops K (⟨none,.store t x y,ty,pos,af,none⟩::r) ρ w:=by
 refine qaE rfl ?_
 obtain⟨i,hi,hput⟩:=O.foc.ok
 simp only [hput] at h
 obtain⟨w',hr,hs⟩:=qmz (P:=P) hv hw hi hj hk hx'
 exact qbP hx hy (fun w=>by rw [A.agg.2];simp [Value.cells,hn]) (by simpa [Value.cells] using hr) (h _ hs)
theorem qmA {i k n:Nat}{vs:List Value}{g:Option (Nat × Bool)}{dst:Option Nat} [A:AggT P t n] (hx:evl ρ x=.pointer (some ((eadr T s i).add k))) (h:RS T w s xs) (hi:i<xs.length) (hn:vs.length=n) (hv:vs=((T.enc (eget T xs i)).drop k).take n):ReadV P ⟨dst,.load t x,ty,pos,af,g⟩ ρ w (.agg vs.toArray) :=
 qej hx hn fun j v hj=>by
  rw [qfW]
  rw [hv,List.getElem?_take,List.getElem?_drop] at hj
  split at hj
  ·rw [qaB] at hj
   exact qek h hi (by rw [←T.ok (xs.getD i T.dflt)];exact (List.getElem?_eq_some_iff.1 hj).1) hj
  ·cases hj
theorem Sat.boxK {k:Nat}{p:Addr}{bt:TypeId}{cells:List Value}{v:Value}{put:HP→List HP}(hw:Sat w0 w Γ) (B:BoxAt Γ p bt cells put) (hv:cells[k]? = some v):w.cell? (p.add k)=some v:=by
 obtain⟨i,hi,_⟩:=B.foc.ok;exact qbv hw hi hv
end
end Go.Sl
/-
  Numbers of 64 bits without sign, as natural numbers: & | &^ << >> + - * and the sign.
-/
namespace Go.Sl
section
variable {P:Program}{ρ:Fr}{x y:Operand}{ty:TypeId}{pos:String}{af:Array Edge}{g:Option (Nat × Bool)}{dst:Option Nat}{t t':TypeId}
abbrev u64 (n:Nat):Value:=.int .u64 (n:Int)
theorem wrap64 (n:Nat):IntKind.u64.wrap (n:Int)=((n % 18446744073709551616:Nat):Int):=by
 simp only [IntKind.wrap,IntKind.bits,IntKind.signed]
 simp
theorem qet {n:Nat}(h:n<18446744073709551616):IntKind.u64.wrap (n:Int)=n:=by
 rw [wrap64,Nat.mod_eq_of_lt h]
theorem ofInt64 {a:Nat}(h:a<18446744073709551616):(BitVec.ofInt 64 (a:Int)).toNat=a:=by
 rw [BitVec.toNat_ofInt]
 omega
def nb64 (b:Nat):Nat:=18446744073709551615-b
theorem qrc {b:Nat}(h:b<18446744073709551616) (i:Nat):(nb64 b).testBit i=(decide (i<64) && !b.testBit i):=by
 have:nb64 b=2 ^ 64-(b+1):=by unfold nb64;omega
 rw [this,Nat.testBit_two_pow_sub_succ (by omega)]
theorem qiK {op:BinOp}{a b:Int}{r:Nat}(hop:op=.and∨op=.or∨op=.andNot) (hx:evl ρ x=.int .u64 a) (hy:evl ρ y=.int .u64 b) (hr:∀ w,(Op.intBits op .u64 a b).run P w=.ok (.int .u64 (IntKind.u64.wrap (r:Int))) w) (hlt:r<18446744073709551616) :
  PureV P ⟨dst,.binOp op t x y t',ty,pos,af,g⟩ ρ (u64 r):=by
 intro w
 have h:=hr w
 rw [qet hlt] at h
 rcases hop with rfl|rfl|rfl <;>
 simp only [execOp,eqGuard,binOp,hx,hy,Sem.run_bind,Sem.run_pure,Result.andThen_ok,ne_eq,not_true_eq_false,if_false,Bool.not_false,if_true,h]
theorem qrd {a b:Nat}(hx:evl ρ x=u64 a) (hy:evl ρ y=u64 b) (ha:a<18446744073709551616) (hb:b<18446744073709551616):PureV P ⟨dst,.binOp .and t x y t',ty,pos,af,g⟩ ρ (u64 (a &&& b)):=by
 have e:(BitVec.ofInt 64 (a:Int) &&& BitVec.ofInt 64 (b:Int)).toNat=a &&& b:=by rw [BitVec.toNat_and,ofInt64 ha,ofInt64 hb]
 exact qiK (.inl rfl) hx hy (fun w=>by rw [←e];rfl) (Nat.lt_of_le_of_lt Nat.and_le_left ha)
theorem qs1 {a b:Nat}(hx:evl ρ x=u64 a) (hy:evl ρ y=u64 b) (ha:a<18446744073709551616) (hb:b<18446744073709551616):PureV P ⟨dst,.binOp .or t x y t',ty,pos,af,g⟩ ρ (u64 (a ||| b)):=by
 have e:(BitVec.ofInt 64 (a:Int) ||| BitVec.ofInt 64 (b:Int)).toNat=a ||| b:=by rw [BitVec.toNat_or,ofInt64 ha,ofInt64 hb]
 exact qiK (.inr (.inl rfl)) hx hy (fun w=>by rw [←e];rfl) (by have:=Nat.or_lt_two_pow (n:=64) ha hb;omega)
theorem qkS {a b:Nat}(hx:evl ρ x=u64 a) (hy:evl ρ y=u64 b) (ha:a<18446744073709551616) (hb:b<18446744073709551616):PureV P ⟨dst,.binOp .andNot t x y t',ty,pos,af,g⟩ ρ (u64 (a &&& nb64 b)):=by
 have e:(BitVec.ofInt 64 (a:Int) &&& ~~~ BitVec.ofInt 64 (b:Int)).toNat=a &&& nb64 b:=by
  rw [BitVec.toNat_and,BitVec.toNat_not,ofInt64 ha,ofInt64 hb]
  unfold nb64
  congr 1
 exact qiK (.inr (.inr rfl)) hx hy (fun w=>by rw [←e];rfl) (Nat.lt_of_le_of_lt Nat.and_le_left ha)
theorem qiL {k:IntKind}{a b:Nat}(hx:evl ρ x=u64 a) (hy:evl ρ y=.int k (b:Int)) (hb:b≤64):PureV P ⟨dst,.binOp .shl t x y t',ty,pos,af,g⟩ ρ (u64 (a*2 ^ b % 18446744073709551616)):=fun w=>by
 have e:IntKind.u64.wrap ((a:Int)*2 ^ b)=((a*2 ^ b % 18446744073709551616:Nat):Int):=by
  rw [←wrap64];congr 1
 simp [execOp,eqGuard,hx,hy,binOp,shift_shl .u64 k (a:Int) (b:Int) (by omega) (by simp only [IntKind.bits];omega),e]
theorem qiM {k:IntKind}{a b:Nat}(hx:evl ρ x=u64 a) (hy:evl ρ y=.int k (b:Int)) (hb:b≤64):PureV P ⟨dst,.binOp .shr t x y t',ty,pos,af,g⟩ ρ (u64 (a / 2 ^ b)):=fun w=>by
 simp [execOp,eqGuard,hx,hy,binOp,shift_shr .u64 k (a:Int) (b:Int) (by omega) (by simp only [IntKind.bits];omega)]
theorem qre {a b:Nat}(hx:evl ρ x=u64 a) (hy:evl ρ y=u64 b):PureV P ⟨dst,.binOp .add t x y t',ty,pos,af,g⟩ ρ (u64 ((a+b) % 18446744073709551616)):=fun w=>by
 have e:IntKind.u64.wrap ((a:Int)+b)=(((a+b) % 18446744073709551616:Nat):Int):=by
  rw [←wrap64];congr 1
 simp [execOp,eqGuard,binOp,Op.intArith,hx,hy,e]
theorem qrf {a b:Nat}(hx:evl ρ x=u64 a) (hy:evl ρ y=u64 b):PureV P ⟨dst,.binOp .mul t x y t',ty,pos,af,g⟩ ρ (u64 (a*b % 18446744073709551616)):=fun w=>by
 have e:IntKind.u64.wrap ((a:Int)*b)=((a*b % 18446744073709551616:Nat):Int):=by
  rw [←wrap64];congr 1
 simp [execOp,eqGuard,binOp,Op.intArith,hx,hy,e]
theorem qrg {a b:Nat}(hx:evl ρ x=u64 a) (hy:evl ρ y=u64 b) (h:b≤a) (ha:a<18446744073709551616):PureV P ⟨dst,.binOp .sub t x y t',ty,pos,af,g⟩ ρ (u64 (a-b)):=fun w=>by
 have e:IntKind.u64.wrap ((a:Int)-b)=((a-b:Nat):Int):=by
  rw [←qet (n:=a-b) (by omega)];congr 1;omega
 simp [execOp,eqGuard,binOp,Op.intArith,hx,hy,e]
end
section
variable {P:Program}{ops:Array Oper}{K:Fr→World→Prop}{r:List Oper}{ρ:Fr}{w:World}{d:Nat}{x y:Operand}{ty:TypeId}{pos:String}{af:Array Edge}{t t':TypeId}
end
def tU64:Ty Nat:=⟨1,fun n=>[.int .u64 (n:Int)],fun _=>rfl,0⟩
instance:OneT tU64:=⟨fun _ v hv=>by rw [List.mem_singleton.1 hv];rfl⟩
end Go.Sl
/-
  Shifts and bits of ints that are not negative.
-/
namespace Go.Sl
section
variable {P:Program}{ρ:Fr}{x y:Operand}{ty:TypeId}{pos:String}{af:Array Edge}{g:Option (Nat × Bool)}{dst:Option Nat}{t t':TypeId}
theorem qsy {k:IntKind}{a b:Nat}(hx:evl ρ x=.int .i64 (a:Int)) (hy:evl ρ y=.int k (b:Int)) (hb:b≤64) (h:a*2 ^ b<9223372036854775808):PureV P ⟨dst,.binOp .shl t x y t',ty,pos,af,g⟩ ρ (.int .i64 ((a*2 ^ b:Nat):Int)):=fun w=>by
 have e:IntKind.i64.wrap ((a:Int)*2 ^ b)=((a*2 ^ b:Nat):Int):=by
  have:((a:Int)*2 ^ b)=((a*2 ^ b:Nat):Int):=by simp
  rw [this]
  exact qc3 (by omega) (by omega)
 simp only [execOp,eqGuard,hx,hy,binOp,shift_shl .i64 k (a:Int) (b:Int) (by omega) (by simp only [IntKind.bits];omega),Int.toNat_natCast,e,Sem.run_bind,Sem.run_pure,Result.andThen_ok,ne_eq,not_true_eq_false,if_false,Bool.not_false,if_true]
end
end Go.Sl
/-
  Exclusive or of numbers of 64 bits; conversions between them and ints.
-/
namespace Go.Sl
section
variable {P:Program}{ρ:Fr}{x y:Operand}{ty:TypeId}{pos:String}{af:Array Edge}{g:Option (Nat × Bool)}{dst:Option Nat}{t t':TypeId}
theorem ql5 {a b:Nat}(hx:evl ρ x=u64 a) (hy:evl ρ y=u64 b) (ha:a<18446744073709551616) (hb:b<18446744073709551616):PureV P ⟨dst,.binOp .xor t x y t',ty,pos,af,g⟩ ρ (u64 (a ^^^ b)):=by
 have e:(BitVec.ofInt 64 (a:Int) ^^^ BitVec.ofInt 64 (b:Int)).toNat=a ^^^ b:=by rw [BitVec.toNat_xor,ofInt64 ha,ofInt64 hb]
 have hlt:a ^^^ b<18446744073709551616:=by have:=Nat.xor_lt_two_pow (n:=64) ha hb;omega
 intro w
 have h:(Op.intBits .xor .u64 (a:Int) (b:Int)).run P w=.ok (.int .u64 (IntKind.u64.wrap ((a ^^^ b:Nat):Int))) w:=by rw [←e];rfl
 rw [qet hlt] at h
 simp only [execOp,eqGuard,binOp,hx,hy,Sem.run_bind,Sem.run_pure,Result.andThen_ok,ne_eq,not_true_eq_false,if_false,Bool.not_false,if_true,h]
theorem ql6 {s dd:Nat}{n:Nat} [S:IntT P s .i64] [D:IntT P dd .u64] (hx:evl ρ x=.int .i64 (n:Int)) (h:n<18446744073709551616):PureV P ⟨dst,.convert s dd x,ty,pos,af,g⟩ ρ (u64 n):=fun w=>by
 have e:=qet h
 simp only [execOp,convert,hx,Sem.run_bind,run_underlying S.ok,run_underlying D.ok,Result.andThen_ok,Conv.intToInt,e,Sem.run_pure]
theorem qoZ {s dd:Nat}{z:Int} [S:IntT P s .i64] [D:IntT P dd .u64] (hx:evl ρ x=.int .i64 z) (h0:0≤z) (h:z<18446744073709551616):PureV P ⟨dst,.convert s dd x,ty,pos,af,g⟩ ρ (u64 z.toNat) :=
 ql6 (n:=z.toNat) (by rw [hx,Int.toNat_of_nonneg h0]) (by omega)
end
end Go.Sl
/-
  Parts chosen out of a list that ends in parts that stay.
-/
namespace Go.Sl
class SelG (Γ Δ:List HP):Prop where
 ok:∀ h,SatL Γ h→SatL Δ h
instance (priority:=low) selG_drop {A:HP}{Γ Δ:List HP} [s:SelG Γ Δ]:SelG (A::Γ) Δ:=⟨fun h hh=>s.ok h hh.tail⟩
instance (priority:=high) selG_rfl {Γ:List HP}:SelG Γ Γ:=⟨fun _ hh=>hh⟩
instance selG_cons {A:HP}{Γ Γ' Δ:List HP} [p:PickL Γ A Γ'] [s:SelG Γ' Δ]:SelG Γ (A::Δ):=⟨fun h hh=>by
 obtain⟨i,h1,h2⟩:=p.ok
 obtain⟨g1,g2,d,s1,s2,a,g⟩:=hh.focus i h1
 rw [←h2] at g
 exact⟨g1,g2,d,s1,s2,a,s.ok g2 g⟩⟩
theorem Sat.selG {w0 w:World}{Γ Δ:List HP} [s:SelG Γ Δ] (h:Sat w0 w Γ):Sat w0 w Δ:=⟨h.below,s.ok _ h.sat⟩
end Go.Sl
/-
  Maps of the call's own: made, updated, looked up, measured.
-/
namespace Go.Sl
section
variable {α:Type} [DecidableEq α]
def mfind (x:α):List (α × Value)→Nat→Option (Nat × Value)
 | [],_=>none
 | p::l,i=>if x=p.1 then some (i,p.2) else mfind x l (i+1)
def mget (kv:List (α × Value)) (x:α):Option Value:=(mfind x kv 0).map (·.2)
def mput (kv:List (α × Value)) (x:α) (v:Value):List (α × Value):=match mfind x kv 0 with|some (i,_)=>kv.set i (x,v)|none=>kv++[(x,v)]
theorem qdx {x:α}:∀ {l:List (α × Value)}{i j:Nat}{v:Value},mfind x l i=some (j,v)→i≤j∧l[j-i]? = some (x,v)
 | [],_,_,_,h=>by cases h
 | p::l,i,j,v,h=>by
  simp only [mfind] at h
  split at h
  ·rename_i e;cases h;subst e;exact⟨Nat.le_refl _,by simp⟩
  ·obtain⟨h1,h2⟩:=qdx h
   refine⟨by omega,?_⟩
   rw [show j-i=(j-(i+1))+1 by omega];simpa using h2
theorem qeQ {x:α}:∀ {l:List (α × Value)}{i:Nat},mfind x l i=none↔x∉l.map (·.1)
 | [],i=>by simp [mfind]
 | p::l,i=>by
  simp only [mfind,List.map_cons,List.mem_cons,not_or]
  split
  ·rename_i e;simp [e]
  ·rename_i e;rw [qeQ];simp [e]
theorem qoV {kv:List (α × Value)}{x:α}:mget kv x=none↔x∉kv.map (·.1):=by
 unfold mget
 rw [Option.map_eq_none_iff,qeQ]
end
class KeyT {α:Type} [DecidableEq α] (P:Program) (k:TypeId) (κ:α→Value):Prop where
 check:∀ e x w,(Instr.checkKey e 10000 k (κ x)).run P w=.ok () w
 find:∀ x (es:List MapEntry) (kv:List (α × Value)),(es.map fun e=>(e.key,e.val))=kv.map (fun p=>(κ p.1,p.2))→∀ w,(Instr.findKey k (κ x) es).run P w=.ok (mfind x kv 0) w
 bits:∀ x,Instr.sameBits 10000 (κ x) (κ x)=true
class ZeroV (P:Program) (t:Nat) (zv:outParam Value):Prop where
 ok:(P.info? t).bind (·.zero)=some zv
theorem ZeroV.run {P:Program}{t:Nat}{zv:Value}(h:ZeroV P t zv) (w:World):(zeroValue t).run P w=.ok zv w:=by
 have h:=h.ok
 cases hi:P.info? t with
 | none=>simp [hi] at h
 | some i =>
  simp only [hi,Option.bind_some] at h
  simp [zeroValue,typeInfo,hi,h]
class MapT (P:Program) (t:TypeId) (k e:outParam TypeId):Prop where
 ok:P.underlying t=some (.map k e)
section
variable {α:Type}
def MapO (κ:α→Value) (m:Value) (kv:List (α × Value)):HP:=fun h=>∃ b es clock,m=.map (some b)∧h b=some (.map es clock)∧(es.toList.map fun e=>(e.key,e.val))=kv.map fun p=>(κ p.1,p.2)
class MapAt (Γ:List HP) (m:Value) (κ:outParam (α→Value)) (kv:outParam (List (α × Value))) (put:outParam (HP→List HP)):Prop where
 foc:Foc Γ (MapO κ m kv) put
instance (priority:=high) map_here {κ:α→Value}{m:Value}{kv:List (α × Value)}{Γ:List HP}:MapAt (MapO κ m kv::Γ) m κ kv (fun A'=>A'::Γ):=⟨Foc.here⟩
instance map_there {B:HP}{κ:α→Value}{m:Value}{kv:List (α × Value)}{Γ:List HP}{put:HP→List HP} [h:MapAt Γ m κ kv put]:MapAt (B::Γ) m κ kv (fun A'=>B::put A'):=⟨h.foc.there⟩
variable {P:Program}{ops:Array Oper}{K:Fr→World→Prop}{r:List Oper}{ρ:Fr}{w w0:World}{d:Nat}{ty:TypeId}{pos:String}{af:Array Edge}{g:Option (Nat × Bool)}{dst:Option Nat}{x y z:Operand}{t:TypeId}{Γ:List HP}{κ:α→Value}{kv:List (α × Value)}{m:Value}
theorem qmY (κ:α→Value) (hw:Sat w0 w Γ) (h:∀ m w',Sat w0 w' (MapO κ m []::Γ)→opsW P ops K r (upd ρ d m) w'):opsW P ops K (⟨some d,.makeMap t none,ty,pos,af,none⟩::r) ρ w:=by
 refine qaE rfl ?_
 simp only [opW,execOp,Instr.makeMap,Option.map_none,Sem.run_bind,Sem.run_pure,Result.andThen_ok,run_newObj,opUpon]
 exact h (.map (some w.heap.size)) _ (hw.push (o:=.map #[] 0) ⟨w.heap.size,#[],0,rfl,by simp,by simp⟩)
theorem qoW {i:Nat}(hw:Sat w0 w Γ) (hi:Γ[i]? = some (MapO κ m kv)):∃ b es clock,m=.map (some b)∧w.heap[b]? = some (.map es clock)∧(es.toList.map fun e=>(e.key,e.val))=kv.map fun p=>(κ p.1,p.2):=by
 obtain⟨h1,hs,b,es,clock,hm,hb,he⟩:=hw.at i hi
 exact⟨b,es,clock,hm,(hs b _ hb).1,he⟩
theorem qeq [DecidableEq α] {k e:TypeId}{q:α}{zv:Value}{put:HP→List HP} [M:MapT P t k e] [KT:KeyT P k κ] [Z:ZeroV P e zv] (hx:evl ρ x=m) (hy:evl ρ y=κ q) (hw:Sat w0 w Γ) (O:MapAt Γ m κ kv put):ReadV P ⟨dst,.lookup t x y false,ty,pos,af,g⟩ ρ w ((mget kv q).getD zv):=by
 obtain⟨i,hi,_⟩:=O.foc.ok
 obtain⟨b,es,clock,rfl,hb,he⟩:=qoW hw hi
 have hf:=KT.find q es.toList kv he w
 simp only [ReadV,execOp,hx,hy,Instr.lookup,Sem.run_bind,run_underlying M.ok,Result.andThen_ok,Sem.run_pure,MapKept.run_getObj_map hb,KT.check,hf]
 cases h:mfind q kv 0 with
 | none=>simp [mget,h,Z.run]
 | some p=>simp [mget,h]
theorem qfa [DecidableEq α] {k e:TypeId}{q:α}{v:Value}{put:HP→List HP} [M:MapT P t k e] [KT:KeyT P k κ] (hx:evl ρ x=m) (hy:evl ρ y=κ q) (hz:evl ρ z=v) (hw:Sat w0 w Γ) (O:MapAt Γ m κ kv put)
  (h:∀ w',Sat w0 w' (put (MapO κ m (mput kv q v)))→opsW P ops K r ρ w'):opsW P ops K (⟨none,.mapUpdate t x y z,ty,pos,af,none⟩::r) ρ w:=by
 refine qaE rfl ?_
 obtain⟨i,hi,hput⟩:=O.foc.ok
 obtain⟨b,es,clock,rfl,hb,he⟩:=qoW hw hi
 have hf:=KT.find q es.toList kv he w
 simp only [opW,execOp,hx,hy,hz,Instr.mapUpdate,Sem.run_bind,run_underlying M.ok,Result.andThen_ok,MapKept.run_getObj_map hb,KT.check,hf]
 cases hm:mfind q kv 0 with
 | none =>
  simp only [MapKept.run_setObj_map _ hb,Result.andThen_ok,Sem.run_pure,opUpon,updo]
  refine h _ ?_
  rw [hput]
  refine (hw.focus i hi).put (b:=b) (o':=.map (es.push { key:=κ q,val:=v,born:=clock }) (clock+1)) (A':=MapO κ (.map (some b)) (mput kv q v)) ?_ |>.back i hi
  rintro h1 _ ⟨b',es',clock',hmm,hb',_⟩
  cases hmm
  refine⟨⟨_,hb'⟩,b,es.push { key:=κ q,val:=v,born:=clock },clock+1,rfl,by simp [hpS],?_⟩
  simp [mput,hm,he]
 | some p =>
  obtain⟨j,u⟩:=p
  obtain⟨_,hj⟩:=qdx hm
  rw [Nat.sub_zero] at hj
  have hjl:=(List.getElem?_eq_some_iff.1 hj).1
  have hlen:es.size=kv.length:=by have:=congrArg List.length he;simpa using this
  have hkey:((es[j]?).map (·.key)).getD (κ q)=κ q:=by
   have:=congrArg (fun l=>l[j]?) he
   simp only [List.getElem?_map,hj,Option.map_some] at this
   rw [Array.getElem?_eq_getElem (by omega)]
   rw [Array.getElem?_toList,Array.getElem?_eq_getElem (by omega)] at this
   simp at this ⊢
   exact this.1
  simp only [Instr.keyThatStays,hkey,KT.bits,if_true,Sem.run_pure,Sem.run_bind,Result.andThen_ok,MapKept.run_setObj_map _ hb,opUpon,updo]
  refine h _ ?_
  rw [hput]
  refine (hw.focus i hi).put (b:=b) (o':=.map (es.modify j fun e=>{ e with key:=κ q,val:=v }) clock) (A':=MapO κ (.map (some b)) (mput kv q v)) ?_ |>.back i hi
  rintro h1 _ ⟨b',es',clock',hmm,hb',_⟩
  cases hmm
  refine⟨⟨_,hb'⟩,b,es.modify j fun e=>{ e with key:=κ q,val:=v },clock,rfl,by simp [hpS],?_⟩
  simp only [mput,hm]
  apply List.ext_getElem?
  intro a
  have hea:=congrArg (fun l=>l[a]?) he
  simp only [List.getElem?_map] at hea
  simp only [List.getElem?_map,Array.toList_modify,List.getElem?_modify,List.getElem?_set]
  by_cases e1:j=a
  ·subst e1
   rw [if_pos rfl,if_pos hjl]
   rw [Array.getElem?_toList,Array.getElem?_eq_getElem (by omega)]
   simp
  ·rw [if_neg e1]
   simp only [e1,if_false]
   rw [←hea]
   cases es.toList[a]? <;> rfl
end
end Go.Sl
/-
  Maps whose keys are texts or ints.
-/
namespace Go.Sl
theorem qeB {α:Type} [DecidableEq α] {κ:α→Value}{d:TypeDesc}(hs:∀ a b,Instr.sameNow d (κ a) (κ b)=some (decide (a=b))) (q:α):∀ (es:List MapEntry) (kv:List (α × Value)) (i:Nat),(es.map fun e=>(e.key,e.val))=kv.map (fun p=>(κ p.1,p.2))→Instr.findNow d (κ q) es i=some (mfind q kv i)
 | [],kv,i,h=>by
  have:kv=[]:=by simpa using h.symm
  subst this
  rfl
 | e::es,[],i,h=>by simp at h
 | e::es,p::kv,i,h=>by
  simp only [List.map_cons,List.cons.injEq,Prod.mk.injEq] at h
  obtain⟨⟨h1,h2⟩,h3⟩:=h
  have ih:=qeB hs q es kv (i+1) h3
  simp only [Instr.findNow,h1,hs,mfind]
  by_cases e1:q=p.1
  ·rw [if_pos e1,decide_eq_true e1,h2]
  ·rw [if_neg e1,decide_eq_false e1];exact ih
def kStr (b:ByteArray):Value:=.string b
def kInt (z:Int):Value:=.int .i64 z
theorem qfF (a b:ByteArray):(a == b)=decide (a=b):=by
 cases a with
 | mk x =>
  cases b with
  | mk y =>
   have h:((ByteArray.mk x) == (ByteArray.mk y))=(x == y):=rfl
   rw [h]
   exact Bool.eq_iff_iff.2 (by rw [beq_iff_eq,decide_eq_true_eq,ByteArray.mk.injEq])
theorem qqa (a b:ByteArray):Instr.sameNow .string (kStr a) (kStr b)=some (decide (a=b)):=by
 show some (a == b)=_
 rw [qfF]
theorem qqb (a b:Int):Instr.sameNow (.int .i64) (kInt a) (kInt b)=some (decide (a=b)):=by
 show (if IntKind.i64=IntKind.i64 then some (a == b) else none)=_
 rw [if_pos rfl]
 congr 1
instance {P:Program}{k:Nat} [S:StrT P k]:KeyT P k kStr where
 check:=fun e x w=>by
  unfold Instr.checkKey
  simp only [Sem.run_bind,run_underlying S.und,Result.andThen_ok,kStr,Sem.run_pure]
 find:=fun x es kv h w=>MapKept.run_findKey S.und (qeB qqa x es kv 0 h)
 bits:=fun x=>by
  show (x == x)=true
  rw [qfF,decide_eq_true rfl]
instance {P:Program}{k:Nat} [S:IntT P k .i64]:KeyT P k kInt where
 check:=fun e x w=>by
  unfold Instr.checkKey
  simp only [Sem.run_bind,run_underlying S.ok,Result.andThen_ok,kInt,Sem.run_pure]
 find:=fun x es kv h w=>MapKept.run_findKey S.ok (qeB qqb x es kv 0 h)
 bits:=fun x=>by simp [Instr.sameBits,kInt]
end Go.Sl
/-
  A slice of bytes turned into a text.
-/
namespace Go.Sl
section
variable {P:Program}{ops:Array Oper}{K:Fr→World→Prop}{r:List Oper}{ρ:Fr}{w:World}{d:Nat}{ty:TypeId}{pos:String}{af:Array Edge}{x:Operand}
theorem qnH {a b:ByteArray}{y:Operand}{t t':TypeId}{g:Option (Nat × Bool)}{dst:Option Nat}(hx:evl ρ x=.string a) (hy:evl ρ y=.string b):PureV P ⟨dst,.binOp .eql t x y t',ty,pos,af,g⟩ ρ (.bool (decide (a=b))):=fun w=>by
 have h:(a.toList == b.toList)=decide (a=b):=by rw [←beq_toListBytes,qfF]
 simp only [execOp,eqGuard,hx,hy,binOp_string_eql,h]
 simp
end
end Go.Sl
/-
  Looking a key up in a nil map.
-/
namespace Go.Sl
section
variable {α:Type}{P:Program}{ρ:Fr}{w:World}{ty:TypeId}{pos:String}{af:Array Edge}{g:Option (Nat × Bool)}{dst:Option Nat}{x y:Operand}{t:TypeId}{κ:α→Value}
theorem qfc [DecidableEq α] {k e:TypeId}{q:α}{zv:Value} [M:MapT P t k e] [KT:KeyT P k κ] [Z:ZeroV P e zv] (hx:evl ρ x=.map none) (hy:evl ρ y=κ q):ReadV P ⟨dst,.lookup t x y false,ty,pos,af,g⟩ ρ w zv:=by
 have hf:=KT.find q [] [] rfl w
 have h0:mfind q ([]:List (α × Value)) 0=none:=rfl
 rw [h0] at hf
 have ht:(#[]:Array MapEntry).toList=[]:=rfl
 simp only [ReadV,execOp,hx,hy,Instr.lookup,Sem.run_bind,run_underlying M.ok,Result.andThen_ok,Sem.run_pure,KT.check,ht,hf,Z.run]
 rfl
end
end Go.Sl
/-
  Three results.
-/
namespace Go.Sl
section
variable {P:Program}{ρ:Fr}{w:World}
theorem qgq {fn:Func}{R:Value→World→Prop}{s1 s2 s3:Nat}{v1 v2 v3:Value}(hr:fn.results=#[.tmp s1,.tmp s2,.tmp s3]) (hv1:ρ s1=v1) (hv2:ρ s2=v2) (hv3:ρ s3=v3) (h:R (.tuple #[v1,v2,v3]) w):postV P fn R .ret ρ w :=
 ⟨.tuple #[v1,v2,v3],fun a ha=>by
  have h1:a.tmps.getD s1 undef=v1:=by rw [←hv1,←ha];rfl
  have h2:a.tmps.getD s2 undef=v2:=by rw [←hv2,←ha];rfl
  have h4:a.tmps.getD s3 undef=v3:=by rw [←hv3,←ha];rfl
  simp only [results,hr,List.mapM_toArray,List.mapM_cons,List.mapM_nil,h1,h2,h4,bind_pure_comp,map_pure]
  simp,h⟩
end
end Go.Sl
/-
  Four results.
-/
namespace Go.Sl
section
variable {P:Program}{ρ:Fr}{w:World}
theorem qmb {fn:Func}{R:Value→World→Prop}{s1 s2 s3 s4:Nat}{v1 v2 v3 v4:Value}(hr:fn.results=#[.tmp s1,.tmp s2,.tmp s3,.tmp s4]) (hv1:ρ s1=v1) (hv2:ρ s2=v2) (hv3:ρ s3=v3) (hv4:ρ s4=v4) (h:R (.tuple #[v1,v2,v3,v4]) w):postV P fn R .ret ρ w :=
 ⟨.tuple #[v1,v2,v3,v4],fun a ha=>by
  have h1:a.tmps.getD s1 undef=v1:=by rw [←hv1,←ha];rfl
  have h2:a.tmps.getD s2 undef=v2:=by rw [←hv2,←ha];rfl
  have h4:a.tmps.getD s3 undef=v3:=by rw [←hv3,←ha];rfl
  have h5:a.tmps.getD s4 undef=v4:=by rw [←hv4,←ha];rfl
  simp only [results,hr,List.mapM_toArray,List.mapM_cons,List.mapM_nil,h1,h2,h4,h5,bind_pure_comp,map_pure]
  simp,h⟩
end
end Go.Sl
/-
  Calls of a method through an interface value, whatever type it holds.
-/
namespace Go.Sl
def MethAt (P:Program) (t:Nat) (v:Value) (name:String) (f:Nat) (u:Value):Prop:=∀ (m:Nat) (w:World),(method (m+1) t v name).run P w=.ok (f,u) w
def methSB (P:Program) (t:Nat) (name:String) (f:Nat):Bool :=
 (match P.underlying t with|some (.struct _)=>true|some (.slice _)=>true|_=>false) &&
 match P.info? t with
 | some i=>(match i.methods.find? (·.name == name) with
   | some m=>m.path.isEmpty && (match m.func with|some (g,q)=>g == f && q == false|none=>false)
   | none=>false)
 | none=>false
class MethS (P:Program) (t:Nat) (name:String) (f:outParam Nat):Prop where
 ok:methSB P t name f=true
section
variable {P:Program}
theorem MethS.rows {t f:Nat}{name:String}(h:MethS P t name f):((∃ fs,P.underlying t=some (.struct fs))∨∃ e,P.underlying t=some (.slice e))∧∃ i m,P.info? t=some i∧i.methods.find? (·.name == name)=some m∧m.path.toList=[]∧m.path.isEmpty=true∧m.func=some (f,false):=by
 have h:=h.ok
 simp only [methSB,Bool.and_eq_true] at h
 obtain⟨h1,h2⟩:=h
 refine⟨?_,?_⟩
 ·split at h1
  ·rename_i e he;exact .inl ⟨e,he⟩
  ·rename_i e he;exact .inr ⟨e,he⟩
  ·cases h1
 ·split at h2
  ·rename_i i hi
   split at h2
   ·rename_i m hm
    simp only [Bool.and_eq_true] at h2
    obtain⟨h3,h4⟩:=h2
    split at h4
    ·rename_i g q hg
     simp at h4
     refine⟨i,m,hi,hm,?_,h3,by rw [hg,h4.1,h4.2]⟩
     simpa using h3
    ·cases h4
   ·cases h2
  ·cases h2
theorem qlu {t f:Nat}{name:String} [M:MethS P t name f] (v:Value):MethAt P t v name f v:=by
 obtain⟨hu,i,m,hi,hm,hp,he,hf⟩:=M.rows
 intro fuel w
 rcases hu with ⟨fs,hu⟩|⟨e,hu⟩ <;>
 simp only [method,Sem.run_bind,run_typeInfo w hi,Result.andThen_ok,hm,hp,follow,Sem.run_pure,hf,receiverAt,run_underlying hu,Place.get]
theorem qlv {t f elem:Nat}{name:String} [M:MethT P t name f true elem] (p:Addr):MethAt P t (.pointer (some p)) name f (.pointer (some p)):=fun m w=>qfK M m p w
variable {ops:Array Oper}{K:Fr→World→Prop}{r:List Oper}{ρ:Fr}{w w0:World}{Γ:List HP}{d:Option Nat}{ty:TypeId}{pos:String}{af:Array Edge}{x:Operand}
theorem qmw {t f:Nat}{name:String}{v u:Value}{xs:List Operand}{ts:Array TypeId}{vs:List Value}{R:Ending→World→Prop}(M:MethAt P t v name f u) (C:CallT P f) (hr:evl ρ x=.iface t v) (hx:xs.map (evl ρ)=vs) (hc:Calls P f (u::vs).toArray w R)
  (h:∀ e w',R e w'→∃ v,e=.returned v∧opsW P ops K r (updo ρ d v) w'):opsW P ops K (⟨d,.call { callee:=.invoke x name,args:=xs.toArray,argTypes:=ts },ty,pos,af,none⟩::r) ρ w:=by
 refine qaE rfl ?_
 obtain⟨m,hm⟩:=qfL P
 have hr:(execOp (evl ρ) ⟨d,.call { callee:=.invoke x name,args:=xs.toArray,argTypes:=ts },ty,pos,af,none⟩).run P w=.ok (.enter f (u::vs).toArray) w:=by
  have e:(#[evl ρ x]++Array.map (evl ρ) xs.toArray)=(.iface t v::vs).toArray:=by simp [hr,hx]
  simp only [execOp,resolve,Sem.run_bind,Sem.run_pure,Result.andThen_ok,invoke,e]
  simp only [List.getElem?_toArray,List.getElem?_cons_zero,callMethod,Sem.run_bind,run_program,Result.andThen_ok,hm,M m,C.run]
  congr 2
  simp
 simp only [opW,hr,opUpon]
 refine Calls.mono hc fun e w' hR => ?_
 obtain⟨v,rfl,hk⟩:=h e w' hR
 exact hk
end
end Go.Sl
/-
  A range over a function: what the kit's law asks, out of 'Sat'.
-/
namespace Go.Sl
open Go.RowKit (Below)
def cutH (B:Nat) (h:PH):PH:=fun b=>if b<B then h b else none
structure SatC (B:Nat) (w0 w:World) (Γ:List HP):Prop where
 below:Below w0.heap.size w0 w
 sat:SatL Γ (cutH B (newH w0 w))
def Rest (B:Nat) (W:World):HP:=fun h=>∀ b,B≤b→b<W.heap.size→h b=W.heap[b]?
theorem Sat.toC {w0 w:World}{Γ:List HP}(h:Sat w0 w Γ):SatC w.heap.size w0 w Γ:=by
 refine⟨h.below,h.sat.sub fun b o hb => ?_⟩
 have hlt:b<w.heap.size:=by
  simp only [newH] at hb
  split at hb
  ·cases hb
  ·exact (Array.getElem?_eq_some_iff.1 hb).1
 simp only [cutH,if_pos hlt];exact hb
theorem SatC.sat0 {B:Nat}{w0 w:World}{Γ:List HP}(h:SatC B w0 w Γ):Sat w0 w Γ :=
 ⟨h.below,h.sat.sub fun b o hb=>by
  simp only [cutH] at hb
  split at hb
  ·exact hb
  ·cases hb⟩
theorem SatC.own {β:Type}{B:Nat}{w0:World}{Γ:β→List HP}(hB:w0.heap.size≤B):OwnFrom B (fun s W=>B≤W.heap.size∧SatC B w0 W (Γ s)):=by
 rintro s W W' row ⟨hs,hC⟩ hg hr
 have hblk:∀ k,k<B→W'.heap[k]? = W.heap[k]? := fun k hk=>hg.block k (by omega) fun e=>by
  have:=(hr k e.symm).1;omega
 refine⟨by have:=hg.size;omega,⟨hC.below.os ▸ hg.os,hC.below.tape ▸ hg.tape,hC.below.output ▸ hg.output,by have:=hg.size;have:=hC.below.size;omega,fun k hk => ?_⟩,hC.sat.sub fun b o hb => ?_⟩
 ·rw [hblk k (by omega)];exact hC.below.block k hk
 ·simp only [cutH,newH] at hb ⊢
  split at hb
  ·rename_i h1
   rw [if_pos h1]
   split at hb
   ·cases hb
   ·rename_i h2;rw [if_neg h2,hblk b h1];exact hb
  ·cases hb
theorem SatC.open {B:Nat}{w0 W:World}{Γ:List HP}(hB:w0.heap.size≤B) (h:SatC B w0 W Γ):Sat w0 W (Rest B W::Γ):=by
 refine⟨h.below,fun b=>if b<B then none else W.heap[b]?,cutH B (newH w0 W),fun b => ?_,fun b o hb => ?_,fun b o hb => ?_,fun b h1 h2 => ?_,h.sat⟩
 ·simp only [cutH]
  by_cases hb:b<B
  ·left;rw [if_pos hb]
  ·right;rw [if_neg hb]
 ·simp only at hb
  split at hb
  ·cases hb
  ·simp only [newH];rw [if_neg (by omega)];exact hb
 ·simp only [cutH] at hb
  split at hb
  ·exact hb
  ·cases hb
 ·show (if b<B then none else W.heap[b]?)=W.heap[b]?
  rw [if_neg (by omega)]
theorem Sat.close {B:Nat}{w0 W W':World}{Γ:List HP}(h:Sat w0 W' (Rest B W::Γ)) (hsz:W'.heap.size=W.heap.size):SatC B w0 W' Γ:=by
 obtain⟨h1,h2,d,s1,s2,hr,hg⟩:=h.sat
 refine⟨h.below,hg.sub fun b o hb => ?_⟩
 have hn:=s2 b o hb
 have hlt:b<W'.heap.size:=by
  simp only [newH] at hn
  split at hn
  ·cases hn
  ·exact (Array.getElem?_eq_some_iff.1 hn).1
 simp only [cutH]
 by_cases hB:b<B
 ·rw [if_pos hB];exact hn
 ·have:=hr b (by omega) (by omega)
  rcases d b with hd|hd
  ·rw [this,Array.getElem?_eq_getElem (by omega)] at hd;cases hd
  ·rw [hb] at hd;cases hd
theorem Kept.others {w w':World}(h:Kept w w'):KeepsOthers w w':=⟨by rw [h.1];exact Nat.le_refl _,fun k o hk ho=>by
 rw [h.2 k fun cs t f e=>by rw [hk] at e;cases e;cases ho];exact hk⟩
section
variable {P:Program}{ops:Array Oper}{K:Fr→World→Prop}{r:List Oper}{ρ:Fr}{w:World}{d:Nat}{ty:TypeId}{pos:String}{af:Array Edge}
theorem qqj {x:Operand}{xs:List Operand}{ts:Array TypeId}{vs:List Value}{l m:Nat}{R:Ending→World→Prop}(hf:evl ρ x=.func (.yield l) #[] #[]) (hx:xs.map (evl ρ)=vs) (hc:YieldAt Fence.wide m P l vs.toArray w R)
  (h:∀ e w',R e w'→∃ v,e=.returned v∧opsW P ops K r (upd ρ d v) w'):opsW P ops K (⟨some d,.call { callee:=.value x,args:=xs.toArray,argTypes:=ts },ty,pos,af,none⟩::r) ρ w:=by
 refine qaE rfl ?_
 obtain⟨fn,tmps,assign,body,hy,hR⟩:=hc
 have hr:(execOp (evl ρ) ⟨some d,.call { callee:=.value x,args:=xs.toArray,argTypes:=ts },ty,pos,af,none⟩).run P w=.ok (.round l fn tmps assign body) w:=by
  simp only [execOp,resolve,Sem.run_bind,hf,Deferred.ofValue,Sem.run_pure,Result.andThen_ok,invoke]
  have:#[]++Array.map (evl ρ) xs.toArray=vs.toArray:=by simp [hx]
  rw [this];exact hy
 simp only [opW,hr,opUpon]
 refine⟨hR.1,fun c cs _ => ?_⟩
 obtain⟨e,w',hRe,hco⟩:=hR.2 c cs (room_wide _)
 refine⟨e,w',?_,hco⟩
 obtain⟨v,rfl,hk⟩:=h e w' hRe
 exact hk
theorem qsp {a b:Act}(hs:a.tmps.size=b.tmps.size) (hf:fr a=fr b) (hd:a.defers=b.defers):a=b:=by
 obtain⟨t,d⟩:=a
 obtain⟨t',d'⟩:=b
 simp only at hs hd
 subst hd
 congr 1
 apply Array.ext hs
 intro i h1 h2
 have:=congrFun hf i
 simp only [fr] at this
 rw [Array.getD_eq_getD_getElem?,Array.getD_eq_getD_getElem?,Array.getElem?_eq_getElem h1,Array.getElem?_eq_getElem h2] at this
 simpa using this
theorem qrP {t:Array Value}{ds:List Deferred}{p q:Nat}{v u:Value}(hp:p<t.size) (hq:q<t.size):fr { tmps:=(#[p,q].zip #[v,u]).foldl (fun t (p,v)=>t.setIfInBounds p v) t,defers:=ds }=upd (upd (fr ⟨t,ds⟩) p v) q u:=by
 have h1:=qfZ (a:=⟨t,ds⟩) (d:=some p) (v:=v) (fun _ e=>by cases e;exact hp)
 have h2:=qfZ (a:=(⟨t,ds⟩:Act).put (some p) v) (d:=some q) (v:=u) (fun _ e=>by cases e;simpa [Act.put] using hq)
 rw [h1] at h2
 have e:(#[p,q].zip #[v,u]).foldl (fun t (p,v)=>t.setIfInBounds p v) t=(t.setIfInBounds p v).setIfInBounds q u:=by simp
 rw [e]
 exact h2
theorem qh8 {t:Array Value}{p q:Nat}{v u:Value}:((#[p,q].zip #[v,u]).foldl (fun t (p,v)=>t.setIfInBounds p v) t).size=t.size:=by simp
theorem qhh {ro:Option Nat}{m n:Nat}{x y:Code}{Q:Exit→Act→World→Prop}{a:Act}(hm:P.follows .mixedOrders=true) (hfit:fits n x=true) (hs:a.tmps.size=n) (hd:a.defers=[])
  (h:vc P x (Thn (fun ρ w=>∀ a',a'.tmps.size=n→a'.defers=[]→fr a'=ρ→y.wpIn (fw ro) m P Q a' w) (fun _ _ _=>False)) (fr a) w):(Code.seq x y).wpIn (fw ro) m P Q a w:=by
 refine wpIn_seq (wpIn_mono (qbL hm x hfit _ a w hs hd h) fun e a' w' hq => ?_)
 obtain⟨h1,h2,h3⟩:=hq
 cases e with
 | normal=>exact h3 a' h1 h2 rfl
 | _=>exact h3.elim
theorem qsq {args:List Value}{n:Nat}:fr { tmps:=args.toArray++Array.replicate (n-args.toArray.size) undef,defers:=[] }=arg0 args:=by
 funext t
 simp only [fr,arg0]
 rcases Nat.lt_or_ge t args.length with ht|ht
 ·simp [Array.getElem?_append_left,ht]
 ·simp [Array.getElem?_append_right,ht]
  rcases Nat.lt_or_ge (t-args.length) (n-args.length) with h1|h1
  ·simp [h1]
  ·simp [h1]
theorem qlD {Q:Exit→Fr→World→Prop}{w0:World}{Γ:List HP}{i:Nat}{l:List Oper}(hw:Sat w0 w Γ) (hc:commB P l.toArray=true) (h:∀ w',Kept w w'→Sat w0 w' Γ→opsW P l.toArray (Q .normal) l ρ w'):vc P (.region i l.toArray true) Q ρ w :=
 .inl ⟨hc,h _ ⟨rfl,fun _ _=>rfl⟩ hw.drew⟩
theorem qjm {ro:Option Nat}{m id s:Nat}{K:Act→World→Prop}{a:Act}(hm:P.follows .mixedOrders=true) (hs:d<a.tmps.size) (hd:a.defers=[]) (h:K (a.put (some d) (fr a s)) w) :
  (Code.region id #[⟨some d,.assign (.tmp s),ty,pos,af,none⟩] false).wpIn (fw ro) m P (Exit.then K (fun _ _ _=>False)) a w:=by
 refine wpIn_mono (qbL (n:=a.tmps.size) hm _ (by simp [fits,opsFit,hs]) (fun e ρ' w'=>e=.normal∧ρ'=upd (fr a) d (fr a s)∧w'=w) a w rfl hd ?_) fun e a' w' hq => ?_
 ·refine qaS (l:=[_]) ?_
  exact qau rfl (qf7 rfl) ⟨rfl,rfl,rfl⟩
 ·obtain⟨h1,h2,rfl,h3,rfl⟩:=hq
  have e:a'=a.put (some d) (fr a s):=by
   refine qsp (by rw [size_put];exact h1) ?_ (by rw [qdq,hd];exact h2)
   rw [h3,qfZ (fun t e=>by cases e;exact hs)];rfl
  rw [e];exact h
theorem qfN {W:World}{l:Nat}{o o':Obj}{p:Addr}{v:Value}(hl:W.heap[l]? = some o) (ho:o.isCells=false) (h:W.cell? p=some v):(W.putObj l o').cell? p=some v:=by
 have hne:l≠p.block:=fun e=>by
  subst e
  simp only [World.cell?,hl] at h
  cases o <;> simp_all [Obj.isCells]
 simp only [World.cell?,World.putObj] at h ⊢
 rw [Array.getElem?_setIfInBounds_ne hne];exact h
theorem qn9 {α:Type}{T:Ty α}{W:World}{l:Nat}{o o':Obj}{s:Value}{xs:List α}(hl:W.heap[l]? = some o) (ho:o.isCells=false) (h:RS T W s xs):RS T (W.putObj l o') s xs:=by
 obtain⟨⟨a,n,cap,hs,h1,h2,hc⟩,h3⟩:=h
 refine⟨⟨a,n,cap,hs,h1,h2,fun i v hv => ?_⟩,h3⟩
 obtain⟨p,hp,hsp,hcell⟩:=hc i v hv
 exact⟨p,hp,hsp,qfN hl ho hcell⟩
end
end Go.Sl
/-
  Three results, the second of which lies in memory.
-/
namespace Go.Sl
section
variable {P:Program}{ρ:Fr}{w:World}
end
end Go.Sl
/-
  Slices of one-cell values that a sort of the kit turns, and lists of parts in another order.
-/
namespace Go.Sl
open Go.RowKit (Below)
end Go.Sl
/-
  The rest of a division, of any kind of integers.
-/
namespace Go.Sl
section
variable {P:Program}{ρ:Fr}{x y:Operand}{ty:TypeId}{pos:String}{af:Array Edge}{g:Option (Nat × Bool)}{dst:Option Nat}{t t':TypeId}
theorem qom {k:IntKind}{a b:Int}(hx:evl ρ x=.int k a) (hy:evl ρ y=.int k b) (hb:0<b):PureV P ⟨dst,.binOp .rem t x y t',ty,pos,af,g⟩ ρ (.int k (a.tmod b)):=fun w=>by
 have hb':b≠0:=by omega
 simp [execOp,eqGuard,binOp,Op.intDiv,hx,hy,hb']
theorem tmod5 {n:Int}(h:0≤n):n.tmod 5=0∨n.tmod 5=1∨n.tmod 5=2∨n.tmod 5=3∨n.tmod 5=4:=by
 rw [Int.tmod_eq_emod_of_nonneg h];omega
end
end Go.Sl
