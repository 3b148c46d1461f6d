/-
  Several texts as one: SlRes, SlSort, SlEq, SlRead, SlNum, SlSel, SlMap, SlMapS, SlBytes, SlInvM, SlRange, SlRes3, SlAgg, SlMapN, SlPtr, SlRow2, SlBoxS, SlRes6, SlExt.
-/
import Derived.Test.YtdadmnlenbdfbaaGreatMSlA
import Derived.Sort.Row
import Derived.Sort.Grow
import Derived.Laws.Cover3
import Derived.Laws.StructEq
import Derived.ChangeSame
import Derived.ChangeShapes
import Derived.ChangeSlices
import Derived.Laws.BytesString
import Derived.Laws.Strings
import Derived.RangeFuncFrom
import Derived.RangeFuncLeaves
import Derived.Laws.Externs
import Derived.Stop.Asserts
import Derived.Lib.IfaceEq
set_option linter.unusedSimpArgs false
set_option linter.unusedVariables false
/-
  Results that lie in memory.
-/
namespace Go.Sl
section
variable {P:Program}{ρ:Fr}{w:World}
theorem qck {p:Addr}{n ty:Nat}{vs:List Value} [A:AggT P ty n] (hn:vs.length=n) (hc:∀ j v,vs[j]? = some v→w.cell? (p.add j)=some v):(loadVar ty p).run P w=.ok (.agg vs.toArray) w:=by
 subst hn
 have:=run_loadCells_list (P:=P) (w:=w) p vs hc
 simp [loadVar,A.agg.1,A.agg.2,this]
theorem qar {fn:Func}{R:Value→World→Prop}{s s' ty n:Nat}{p:Addr}{vs:List Value}{v':Value} [A:AggT P ty n] (hr:fn.results=#[.cell s ty,.tmp s']) (hv:ρ s=.pointer (some p)) (hv':ρ s'=v') (hn:vs.length=n) (hc:∀ j v,vs[j]? = some v→w.cell? (p.add j)=some v)
  (h:R (.tuple #[.agg vs.toArray,v']) w):postV P fn R .ret ρ w :=
 ⟨.tuple #[.agg vs.toArray,v'],fun a ha=>by
  have h1:a.tmps.getD s undef=.pointer (some p):=by rw [←hv,←ha];rfl
  have h2:a.tmps.getD s' undef=v':=by rw [←hv',←ha];rfl
  have h3:=qck (P:=P) (A:=A) hn hc
  simp only [results,hr,List.mapM_toArray,List.mapM_cons,List.mapM_nil,h1,h2,bind_pure_comp,map_pure]
  simp [asAddr,h3],h⟩
end
end Go.Sl
/-
  What the kit's contracts of the sorting functions say of the world, as 'Sat'.
-/
namespace Go.Sl
open Go.RowKit (Below)
theorem Sat.ahead {w0 w:World}{Γ:List HP}(h:Sat w0 w Γ) (n:Nat):Sat w0 (Sort.ahead w n) Γ:=⟨h.below.trans ⟨rfl,rfl,rfl,Nat.le_refl _,fun _ _=>rfl⟩,h.sat⟩
theorem qeU (xs:List Int):xs.flatMap tInt.enc=xs.map (Value.int .i64):=by
 induction xs with
 | nil=>rfl
 | cons x xs ih=>rw [List.flatMap_cons,ih];rfl
theorem qfB {pre post:List Value}{xs ys:List Int}(hl:ys.length=xs.length) :
  Sort.putCells (Value.int .i64) pre.length ys.toArray (pre++xs.map (Value.int .i64)++post).toArray=(pre++ys.map (Value.int .i64)++post).toArray:=by
 apply Array.ext_getElem?
 intro k
 simp only [Sort.putCells,Array.getElem?_mapIdx,List.getElem?_toArray,List.size_toArray]
 by_cases h1:k<pre.length
 ·rw [List.append_assoc,List.getElem?_append_left h1,List.append_assoc,List.getElem?_append_left h1]
  cases pre[k]? with
  | none=>rfl
  | some v=>simp only [Option.map_some];rw [if_neg (by omega)]
 ·by_cases h2:k<pre.length+ys.length
  ·have e1:(pre++xs.map (Value.int .i64)++post)[k]? = some (Value.int .i64 (xs[k-pre.length]'(by omega))):=by
    rw [List.append_assoc,List.getElem?_append_right (by omega),List.getElem?_append_left (by simp;omega),List.getElem?_map,List.getElem?_eq_getElem (by omega)];rfl
   have e2:(pre++ys.map (Value.int .i64)++post)[k]? = some (Value.int .i64 (ys[k-pre.length]'(by omega))):=by
    rw [List.append_assoc,List.getElem?_append_right (by omega),List.getElem?_append_left (by simp;omega),List.getElem?_map,List.getElem?_eq_getElem (by omega)];rfl
   rw [e1,e2]
   simp only [Option.map_some]
   rw [if_pos (by omega)]
   congr 2
   simp [show k-pre.length<ys.length by omega]
  ·have e1:(pre++xs.map (Value.int .i64)++post)[k]? = post[k-pre.length-ys.length]? := by
    rw [List.append_assoc,List.getElem?_append_right (by omega),List.getElem?_append_right (by simp;omega)];simp [hl]
   have e2:(pre++ys.map (Value.int .i64)++post)[k]? = post[k-pre.length-ys.length]? := by
    rw [List.append_assoc,List.getElem?_append_right (by omega),List.getElem?_append_right (by simp;omega)];simp
   rw [e1,e2]
   cases post[k-pre.length-ys.length]? with
   | none=>rfl
   | some v=>simp only [Option.map_some];rw [if_neg (by omega)]
theorem Sat.intsAt {w0 w:World}{Γ:List HP}{e:TypeId}{s:Value}{xs:List Int}(hw:Sat w0 w (OS tInt e s xs::Γ)) :
  (s=.slice none 0 0∧xs=[])∨∃ b off cap,s=.slice (some ⟨b,off,none⟩) xs.length cap∧xs.length≤cap∧b<w.heap.size∧Sort.Holds (Value.int .i64) w b off xs.toArray ∧
   ∀ ys:List Int,ys.length=xs.length→∀ n,Sat w0 (Sort.putRow (Value.int .i64) (Sort.ahead w n) b off ys.toArray) (OS tInt e s ys::Γ):=by
 obtain⟨h1,hs,ho,hl⟩:=hw.at 0 rfl
 rcases ho with ⟨rfl,hnil⟩|⟨b,off,n,cap,pre,post,rfl,hpre,hvl,hnc,hbig,hpl,hb⟩
 ·left
  refine⟨rfl,?_⟩
  cases xs with
  | nil=>rfl
  | cons x xs=>simp [tInt] at hnil
 ·right
  simp only [slen] at hl
  subst hl
  rw [qeU] at hb
  have hheap:=(hs b _ hb).1
  refine⟨b,off,cap,rfl,hnc,(Array.getElem?_eq_some_iff.1 hheap).1,fun j hj=>⟨?_,qcj hheap _⟩,fun ys hy m => ?_⟩
  ·simp only [List.size_toArray] at hj
   rw [qbo hheap,List.append_assoc,List.getElem?_append_right (by omega),List.getElem?_append_left (by simp;omega),hpre,show off+j-off=j by omega,List.getElem?_map,List.getElem?_eq_getElem hj]
   simp [hj]
  ·have e1:Sort.putRow (Value.int .i64) (Sort.ahead w m) b off ys.toArray=putB (Sort.ahead w m) b (.cells (pre++ys.map (Value.int .i64)++post).toArray e (0,0)):=by
    simp only [Sort.putRow,Sort.mapBlock,putB,Sort.ahead]
    congr 1
    apply Array.ext_getElem?
    intro k
    have hbl:=(Array.getElem?_eq_some_iff.1 hheap).1
    by_cases hk:b=k
    ·subst hk
     rw [Array.getElem?_modify,if_pos rfl,hheap,Array.getElem?_setIfInBounds_self_of_lt hbl]
     simp only [Option.map_some,Sort.onCells]
     rw [←hpre,qfB hy]
    ·rw [Array.getElem?_modify,if_neg hk,Array.getElem?_setIfInBounds_ne hk]
   rw [e1]
   refine Sat.put (hw.ahead m) fun g hg ⟨ho',hl'⟩ => ?_
   rcases ho' with ⟨hn,_⟩|⟨b',off',n',cap',pre',post',hs',hpre',hvl',hnc',hbig',hpl',hb'⟩
   ·cases hn
   ·cases hs'
    refine⟨⟨_,hb'⟩,.inr ⟨b,off,_,cap,pre,post,rfl,hpre,by rw [qeU];simp [hy,tInt],hnc,hbig,hpl,by rw [qeU];simp [hpS]⟩,by rw [hy];exact hl'⟩
section
variable {P:Program}{ρ:Fr}{w:World}{ty:TypeId}{pos:String}{af:Array Edge}{g:Option (Nat × Bool)}{dst:Option Nat}{x y:Operand}{t t':TypeId}
theorem qbw {e sz by_:Nat}{a:Option Addr}{n c:Nat} [S:SliceT P t e sz by_] (hx:evl ρ x=.slice a n c):PureV P ⟨dst,.binOp .eql t x (.const (.slice none 0 0)) t',ty,pos,af,g⟩ ρ (.bool a.isNone):=fun w=>by
 have h1:=run_equal_slice_nil (P:=P) w t e a n c S.und
 simp only [execOp,eqGuard,hx]
 cases x <;> simp [evl,binOp,h1]
end
end Go.Sl
/-
  Structs of ints compared; shifts; results in one cell.
-/
namespace Go.Sl
def eqIntsB (P:Program) (t n:Nat):Bool:=match P.underlying t with
 | some (.struct fs)=>fs.size == n && (List.range n).all (fun i=>match fs[i]? with|some f => !(f.name == "_") && f.offset == i && cellB P f.type && (match P.underlying f.type with | some (.int _) => true | _ => false) | none => false) && !P.stoodInHeld t && !P.eqGuardType P.depth t
 | _=>false
class EqIntsT (P:Program) (t:Nat) (n:outParam Nat):Prop where
 ok:eqIntsB P t n=true
section
variable {P:Program}{ρ:Fr}{w:World}{ty:TypeId}{pos:String}{af:Array Edge}{g:Option (Nat × Bool)}{dst:Option Nat}{x y:Operand}{t t':TypeId}
theorem qds {d:Nat}:∀ (fs:List Field) (k:Nat) (us zs:List Int) (xs ys:Array Value) (w:World),us.length=fs.length→zs.length=fs.length →
  (∀ j f,fs[j]? = some f→f.name≠ "_" ∧ f.offset = k + j ∧ CellT P f.type ∧ ∃ kd, P.underlying f.type = some (.int kd)) →
  (∀ j a,us[j]? = some a→xs[k+j]? = some (.int .i64 a))→(∀ j a,zs[j]? = some a→ys[k+j]? = some (.int .i64 a)) →
  (Op.eqFields (d+1) xs ys fs).run P w=.ok (decide (us=zs)) w
 | [],k,[],[],xs,ys,w,_,_,_,_,_=>by simp [Op.eqFields]
 | f::fs,k,a::us,b::zs,xs,ys,w,h1,h2,hf,hx,hy=>by
  obtain⟨hn,ho,C,kd,hk⟩:=hf 0 f rfl
  have ex:=hx 0 a rfl
  have ey:=hy 0 b rfl
  simp only [Nat.add_zero] at ho ex ey
  have ih:=qds (d:=d) fs (k+1) us zs xs ys w (by simpa using h1) (by simpa using h2) (fun j f' hj=>by have:=hf (j+1) f' (by simpa using hj);rw [show k+(j+1)=k+1+j by omega] at this;exact this)
   (fun j a' hj=>by have:=hx (j+1) a' (by simpa using hj);rw [show k+(j+1)=k+1+j by omega] at this;exact this) (fun j a' hj=>by have:=hy (j+1) a' (by simpa using hj);rw [show k+(j+1)=k+1+j by omega] at this;exact this)
  have p1:(part f.type xs f.offset).run P w=.ok (.int .i64 a) w:=by simp [part,C.plain.1,ho,ex]
  have p2:(part f.type ys f.offset).run P w=.ok (.int .i64 b) w:=by simp [part,C.plain.1,ho,ey]
  simp only [Op.eqFields,ne_eq,hn,not_false_eq_true,if_true,Sem.run_bind,p1,p2,Result.andThen_ok,run_equalIn_int w d f.type .i64 kd a b hk]
  by_cases h:a=b
  ·subst h
   simp only [beq_self_eq_true,Bool.not_true,Bool.false_eq_true,if_false,ih]
   congr 1
   simp
  ·have hb:(a == b)=false:=by simpa using h
   rw [hb]
   simp [h]
theorem EqIntsT.run {n:Nat}(T:EqIntsT P t n) {us zs:List Int}(h1:us.length=n) (h2:zs.length=n) (w:World):(Op.equalIn 10000 t (.agg (us.map (Value.int .i64)).toArray) (.agg (zs.map (Value.int .i64)).toArray)).run P w=.ok (decide (us=zs)) w∧P.eqGuardType P.depth t=false:=by
 have h:=T.ok
 simp only [eqIntsB] at h
 split at h
 ·rename_i fs hd
  simp only [Bool.and_eq_true,Bool.not_eq_true',beq_iff_eq,List.all_eq_true,List.mem_range] at h
  obtain⟨⟨⟨hs,hall⟩,hst⟩,hgu⟩:=h
  have hfo:P.fieldsOf t=fs:=by simp [Program.fieldsOf,hd]
  refine⟨?_,hgu⟩
  rw [run_equalIn_struct w 9999 t _ _ (by rw [hfo];exact hd) hst,hfo]
  refine qds (d:=9998) fs.toList 0 us zs _ _ w (by simp [h1,hs]) (by simp [h2,hs]) (fun j f hj => ?_) (fun j a hj=>by simp [hj]) (fun j a hj=>by simp [hj])
  have hjl:j<n:=by have:=(List.getElem?_eq_some_iff.1 hj).1;simpa [hs] using this
  have:=hall j hjl
  rw [show fs[j]? = some f by simpa using hj] at this
  simp only [Bool.and_eq_true,Bool.not_eq_true',beq_iff_eq] at this
  obtain⟨⟨⟨a1,a2⟩,a3⟩,a4⟩:=this
  refine⟨by simpa using a1,by simpa using a2,⟨a3⟩,?_⟩
  split at a4
  ·rename_i kd hk;exact⟨kd,hk⟩
  ·cases a4
 ·cases h
theorem qh2 {n:Nat}{us zs:List Int} [T:EqIntsT P t n] (hx:evl ρ x=.agg (us.map (Value.int .i64)).toArray) (hy:evl ρ y=.agg (zs.map (Value.int .i64)).toArray) (h1:us.length=n) (h2:zs.length=n):PureV P ⟨dst,.binOp .eql t x y t',ty,pos,af,g⟩ ρ (.bool (decide (us=zs))):=fun w=>by
 obtain⟨hr,hg⟩:=T.run h1 h2 w
 simp only [execOp,hx,hy,Sem.run_bind,run_eqGuard_agg w .eql t x y _ _ hg,Result.andThen_ok,run_eql_struct,hr,Sem.run_pure]
theorem qeF {n:Nat}{us zs:List Int} [T:EqIntsT P t n] (hx:evl ρ x=.agg (us.map (Value.int .i64)).toArray) (hy:evl ρ y=.agg (zs.map (Value.int .i64)).toArray) (h1:us.length=n) (h2:zs.length=n):PureV P ⟨dst,.binOp .neq t x y t',ty,pos,af,g⟩ ρ (.bool (!decide (us=zs))):=fun w=>by
 obtain⟨hr,hg⟩:=T.run h1 h2 w
 simp only [execOp,hx,hy,Sem.run_bind,run_eqGuard_agg w .neq t x y _ _ hg,Result.andThen_ok,run_neq_struct,hr,Sem.run_pure]
theorem qbK {fn:Func}{R:Value→World→Prop}{s ty n:Nat}{p:Addr}{vs:List Value} [A:AggT P ty n] (hr:fn.results=#[.cell s ty]) (hv:ρ s=.pointer (some p)) (hn:vs.length=n) (hc:∀ j v,vs[j]? = some v→w.cell? (p.add j)=some v)
  (h:R (.agg vs.toArray) w):postV P fn R .ret ρ w :=
 ⟨.agg vs.toArray,fun a ha=>by
  have h1:a.tmps.getD s undef=.pointer (some p):=by rw [←hv,←ha];rfl
  have h3:=qck (P:=P) (A:=A) hn hc
  simp only [results,hr,List.mapM_toArray,List.mapM_cons,List.mapM_nil,h1,bind_pure_comp,map_pure]
  simp [asAddr,h3],h⟩
end
end Go.Sl
/-
  From the form's reading of an argument to what a walk is told: a slice of elements of one kind.
-/
namespace Go.Sl
open Go.RowKit (Below)
section
variable {H:Type}{enc:TypeId × Value→H}{P:Program}{w:World}{base:Nat}{spare:Nat→Bool}{held:Bool}
def Rd {α:Type}(enc:TypeId × Value→H) (P:Program) (w:World) (base:Nat) (spare:Nat→Bool) (held:Bool) (t:TypeId) (T:Ty α) (Good:α→Prop):Prop :=
 ∀ fuel cs y,DataW.trod enc P w base spare held fuel t cs=some y→∃ x,cs=T.enc x∧Good x
theorem qdY {t:TypeId}(ht:P.underlying t=some (.int .i64)):Rd enc P w base spare held t tInt fun n => -9223372036854775808≤n∧n≤9223372036854775807:=by
 intro fuel cs y h
 obtain⟨n,rfl,_,hw⟩:=DataW.trod_int ht h
 refine⟨n,rfl,?_⟩
 simpa [Lit.wf,IntKind.min,IntKind.max,IntKind.signed,IntKind.bits] using hw
theorem qho {α β:Type}{f:α→Option β}:∀ {l:List α}{r:List β},l.mapM f=some r→∀ (i:Nat) (x:α),l[i]? = some x→∃ y,f x=some y∧r[i]? = some y
 | [],r,h,i,x,hx=>by simp at hx
 | a::l,r,h,i,x,hx=>by
  simp only [List.mapM_cons,Option.bind_eq_bind,Option.pure_def] at h
  cases ha:f a with
  | none=>simp [ha] at h
  | some b =>
   cases hl:l.mapM f with
   | none=>simp [ha,hl] at h
   | some r' =>
    simp only [ha,hl,Option.bind_some,Option.some.injEq] at h
    subst h
    cases i with
    | zero=>simp at hx;subst hx;exact⟨b,ha,rfl⟩
    | succ i=>simp at hx;obtain⟨y,h1,h2⟩:=qho hl i x hx;exact⟨y,h1,by simpa using h2⟩
theorem qiT {a:Addr}{n:Nat}{cs:List Value}(h:w.cells? base a n=some cs):cs.length=n∧∀ (i:Nat) v,cs[i]? = some v→w.cell? (a.add i)=some v:=by
 unfold World.cells? at h
 split at h
 ·have hl:cs.length=n:=by
   have:∀ {l:List Nat}{r:List Value},l.mapM (fun i=>w.cell? (a.add i))=some r→r.length=l.length:=by
    intro l
    induction l with
    | nil=>intro r h;simp at h;subst h;rfl
    | cons x l ih =>
     intro r h
     simp only [List.mapM_cons,Option.bind_eq_bind,Option.pure_def] at h
     cases hx:w.cell? (a.add x) with
     | none=>simp [hx] at h
     | some b =>
      cases hr:l.mapM (fun i=>w.cell? (a.add i)) with
      | none=>simp [hx,hr] at h
      | some r'=>simp only [hx,hr,Option.bind_some,Option.some.injEq] at h;subst h;simp [ih hr]
   have:=this h;simpa using this
  refine⟨hl,fun i v hv => ?_⟩
  have hi:=(List.getElem?_eq_some_iff.1 hv).1
  obtain⟨y,h1,h2⟩:=qho h i i (by rw [List.getElem?_range (by omega)])
  rw [hv] at h2;cases h2;exact h1
 ·cases h
theorem add_add (a:Addr) (i j:Nat) (hs:a.spot=none):(a.add i).add j=⟨a.block,a.off+(i+j),none⟩:=by
 unfold Addr.add
 obtain⟨b,o,s⟩:=a
 simp only at hs;subst hs
 split <;> split <;> simp_all <;> omega
theorem qdZ {α β:Type}{Q:Nat→α→Prop}:∀ (n:Nat),(∀ i,i<n→∃ x,Q i x)→∃ xs:List α,xs.length=n∧∀ (i:Nat) x,xs[i]? = some x→Q i x
 | 0,_=>⟨[],rfl,by simp⟩
 | n+1,h=>by
  obtain⟨xs,hl,hx⟩:=qdZ (β:=β) n fun i hi=>h i (by omega)
  obtain⟨x,hq⟩:=h n (by omega)
  refine⟨xs++[x],by simp [hl],fun i y hy => ?_⟩
  rcases Nat.lt_or_ge i n with hi|hi
  ·rw [List.getElem?_append_left (by omega)] at hy;exact hx i y hy
  ·have hlt:=(List.getElem?_eq_some_iff.1 hy).1
   simp at hlt
   have:i=n:=by omega
   subst this
   rw [List.getElem?_append_right (by omega),hl] at hy
   simp at hy;subst hy;exact hq
theorem qbJ {α:Type}{T:Ty α}{Good:α→Prop}{t e:TypeId}(ht:P.underlying t=some (.slice e)) (hsz:P.cellsOf e=T.sz) (hpos:0<T.sz) (hE:Rd enc P w base spare held e T Good) :
  Rd enc P w base spare held t tVal fun v=>∃ xs,RS T w v xs∧∀ x∈xs,Good x:=by
 intro fuel cs y h
 rcases DataW.trod_slice ht h with ⟨rfl,_⟩|⟨a,len,cap,elems,rest,fuel',_,rfl,_,_,hlc,hcm,hlen,hel,_⟩
 ·exact⟨_,rfl,[],RS.nil,by simp⟩
 ·have hget:∀ i,i<len→∃ x:α,Good x∧∀ (k:Nat) v,(T.enc x)[k]? = some v→w.cell? ((a.add (i*P.cellsOf e)).add k)=some v:=by
   intro i hi
   have h1:=hel i hi
   rw [List.getElem?_eq_getElem (by omega)] at h1
   cases hc:w.cells? base (a.add (i*P.cellsOf e)) (P.cellsOf e) with
   | none=>simp [hc] at h1
   | some cs =>
    simp only [hc,Option.bind_some] at h1
    obtain⟨x,rfl,hg⟩:=hE _ cs _ h1
    exact⟨x,hg,(qiT hc).2⟩
  obtain⟨xs,hl,hx⟩:=qdZ (β:=Unit) (Q:=fun i (x:α)=>Good x∧∀ (k:Nat) v,(T.enc x)[k]? = some v→w.cell? ((a.add (i*P.cellsOf e)).add k)=some v) len hget
  refine⟨_,rfl,xs,⟨⟨some a,len,cap,rfl,by rw [T.len,hl],⟨hlc,by unfold maxLen at hcm;unfold big;omega⟩,?_⟩,hl⟩,?_⟩
  ·intro i v hv
   have hi:=(List.getElem?_eq_some_iff.1 hv).1
   rw [T.len] at hi
   have hq:i / T.sz<xs.length:=(Nat.div_lt_iff_lt_mul hpos).2 hi
   have hmod:i % T.sz<T.sz:=Nat.mod_lt _ hpos
   have hsplit:i=i / T.sz*T.sz+i % T.sz:=by rw [Nat.mul_comm];exact (Nat.div_add_mod i T.sz).symm
   have h1:=T.get xs (i / T.sz) (i % T.sz) hq hmod
   rw [←hsplit,hv] at h1
   have hgd:xs[i / T.sz]? = some (xs.getD (i / T.sz) T.dflt):=by simp [List.getD,hq]
   have hcell:=(hx _ _ hgd).2 _ _ h1.symm
   have hspot:a.spot=none:=by
    cases hsp:a.spot with
    | none=>rfl
    | some s0 =>
     have hx0:0<xs.length:=Nat.lt_of_le_of_lt (Nat.zero_le _) hq
     have he0:0<(T.enc xs[0]).length:=by rw [T.ok];exact hpos
     have h00:=(hx 0 xs[0] (List.getElem?_eq_getElem hx0)).2 0 (T.enc xs[0])[0] (List.getElem?_eq_getElem he0)
     have:(a.add (0*P.cellsOf e)).add 0=a:=by simp [Addr.add]
     rw [this] at h00
     unfold World.cell? at h00
     split at h00
     ·simp [hsp] at h00
     ·cases h00
   refine⟨a,rfl,hspot,?_⟩
   rw [add_add a _ _ hspot,hsz,←hsplit] at hcell
   exact hcell
  ·intro x hxm
   obtain⟨i,hi,rfl⟩:=List.getElem_of_mem hxm
   exact (hx i _ (List.getElem?_eq_getElem hi)).1
theorem qfG {t:TypeId}{fs:Array Field}(ht:P.underlying t=some (.struct fs)) {fuel:Nat}{cs:List Value}{y:DataW H × List MemPlace}(h:DataW.trod enc P w base spare held fuel t cs=some y) :
  cs.length=P.cellsOf t∧∀ (i:Nat) (f:Field),fs[i]? = some f→∃ n y',DataW.trod enc P w base spare held n f.type ((cs.drop f.offset).take (P.cellsOf f.type))=some y':=by
 obtain⟨xs,n,_,_,hl,hlen,hf⟩:=DataW.trod_struct ht h
 refine⟨hl,fun i f hi => ?_⟩
 have hil:i<fs.size:=(Array.getElem?_eq_some_iff.1 hi).1
 have:=hf i f hi
 rw [List.getElem?_eq_getElem (by omega)] at this
 exact⟨n,_,this⟩
theorem qaT {t i off ft n:Nat}(F:FieldT P t i off ft) (hn:P.cellsOf ft=n) {fuel:Nat}{cs:List Value}{y:DataW H × List MemPlace}(h:DataW.trod enc P w base spare held fuel t cs=some y) :
  ∃ m y',DataW.trod enc P w base spare held m ft ((cs.drop off).take n)=some y':=by
 obtain⟨fs,fld,hd,hf,rfl,rfl,_⟩:=F.place
 obtain⟨_,hh⟩:=qfG hd h
 subst hn
 exact hh i fld hf
theorem qhp {t i off ft n:Nat}(F:FieldT P t i off ft) (hn:P.cellsOf t=n) {fuel:Nat}{cs:List Value}{y:DataW H × List MemPlace}(h:DataW.trod enc P w base spare held fuel t cs=some y):cs.length=n:=by
 obtain⟨fs,fld,hd,hf,rfl,rfl,_⟩:=F.place
 subst hn
 exact (qfG hd h).1
end
end Go.Sl
/-
  Small numbers: lists of uint8 and uint16, conversions to int, a slice that is the caller's or the call's own.
-/
namespace Go.Sl
def tU8:Ty Int:=⟨1,fun n=>[.int .u8 n],fun _=>rfl,0⟩
def tU16:Ty Int:=⟨1,fun n=>[.int .u16 n],fun _=>rfl,0⟩
instance:OneT tU8:=⟨fun _ v hv=>by rw [List.mem_singleton.1 hv];rfl⟩
instance:OneT tU16:=⟨fun _ v hv=>by rw [List.mem_singleton.1 hv];rfl⟩
class IntT (P:Program) (t:Nat) (k:outParam IntKind):Prop where
 ok:P.underlying t=some (.int k)
section
variable {P:Program}{ρ:Fr}{x y:Operand}{ty:TypeId}{pos:String}{af:Array Edge}{g:Option (Nat × Bool)}{dst:Option Nat}{t t':TypeId}
end
section
variable {w w0:World}{Γ:List HP}
end
section
variable {H:Type}{enc:TypeId × Value→H}{P:Program}{w:World}{base:Nat}{spare:Nat→Bool}{held:Bool}
end
end Go.Sl
/-
  Parts chosen out of a list that ends in parts that stay.
-/
namespace Go.Sl
class SelG (Γ Δ:List HP):Prop where
 ok:∀ h,SatL Γ h→SatL Δ h
instance (priority:=low) selG_drop {A:HP}{Γ Δ:List HP} [s:SelG Γ Δ]:SelG (A::Γ) Δ:=⟨fun h hh=>s.ok h hh.tail⟩
instance (priority:=high) selG_rfl {Γ:List HP}:SelG Γ Γ:=⟨fun _ hh=>hh⟩
instance selG_cons {A:HP}{Γ Γ' Δ:List HP} [p:PickL Γ A Γ'] [s:SelG Γ' Δ]:SelG Γ (A::Δ):=⟨fun h hh=>by
 obtain⟨i,h1,h2⟩:=p.ok
 obtain⟨g1,g2,d,s1,s2,a,g⟩:=hh.focus i h1
 rw [←h2] at g
 exact⟨g1,g2,d,s1,s2,a,s.ok g2 g⟩⟩
theorem Sat.selG {w0 w:World}{Γ Δ:List HP} [s:SelG Γ Δ] (h:Sat w0 w Γ):Sat w0 w Δ:=⟨h.below,s.ok _ h.sat⟩
end Go.Sl
/-
  Maps of the call's own: made, updated, looked up, measured.
-/
namespace Go.Sl
section
variable {α:Type} [DecidableEq α]
def mfind (x:α):List (α × Value)→Nat→Option (Nat × Value)
 | [],_=>none
 | p::l,i=>if x=p.1 then some (i,p.2) else mfind x l (i+1)
end
class KeyT {α:Type} [DecidableEq α] (P:Program) (k:TypeId) (κ:α→Value):Prop where
 check:∀ e x w,(Instr.checkKey e 10000 k (κ x)).run P w=.ok () w
 find:∀ x (es:List MapEntry) (kv:List (α × Value)),(es.map fun e=>(e.key,e.val))=kv.map (fun p=>(κ p.1,p.2))→∀ w,(Instr.findKey k (κ x) es).run P w=.ok (mfind x kv 0) w
 bits:∀ x,Instr.sameBits 10000 (κ x) (κ x)=true
class ZeroV (P:Program) (t:Nat) (zv:outParam Value):Prop where
 ok:(P.info? t).bind (·.zero)=some zv
theorem ZeroV.run {P:Program}{t:Nat}{zv:Value}(h:ZeroV P t zv) (w:World):(zeroValue t).run P w=.ok zv w:=by
 have h:=h.ok
 cases hi:P.info? t with
 | none=>simp [hi] at h
 | some i =>
  simp only [hi,Option.bind_some] at h
  simp [zeroValue,typeInfo,hi,h]
class MapT (P:Program) (t:TypeId) (k e:outParam TypeId):Prop where
 ok:P.underlying t=some (.map k e)
section
variable {α:Type}
variable {P:Program}{ops:Array Oper}{K:Fr→World→Prop}{r:List Oper}{ρ:Fr}{w w0:World}{d:Nat}{ty:TypeId}{pos:String}{af:Array Edge}{g:Option (Nat × Bool)}{dst:Option Nat}{x y z:Operand}{t:TypeId}{Γ:List HP}{κ:α→Value}{kv:List (α × Value)}{m:Value}
end
end Go.Sl
/-
  Maps whose keys are texts or ints.
-/
namespace Go.Sl
theorem qdh {α:Type} [DecidableEq α] {κ:α→Value}{d:TypeDesc}(hs:∀ a b,Instr.sameNow d (κ a) (κ b)=some (decide (a=b))) (q:α):∀ (es:List MapEntry) (kv:List (α × Value)) (i:Nat),(es.map fun e=>(e.key,e.val))=kv.map (fun p=>(κ p.1,p.2))→Instr.findNow d (κ q) es i=some (mfind q kv i)
 | [],kv,i,h=>by
  have:kv=[]:=by simpa using h.symm
  subst this
  rfl
 | e::es,[],i,h=>by simp at h
 | e::es,p::kv,i,h=>by
  simp only [List.map_cons,List.cons.injEq,Prod.mk.injEq] at h
  obtain⟨⟨h1,h2⟩,h3⟩:=h
  have ih:=qdh hs q es kv (i+1) h3
  simp only [Instr.findNow,h1,hs,mfind]
  by_cases e1:q=p.1
  ·rw [if_pos e1,decide_eq_true e1,h2]
  ·rw [if_neg e1,decide_eq_false e1];exact ih
def kStr (b:ByteArray):Value:=.string b
def kInt (z:Int):Value:=.int .i64 z
theorem qeb (a b:ByteArray):(a == b)=decide (a=b):=by
 cases a with
 | mk x =>
  cases b with
  | mk y =>
   have h:((ByteArray.mk x) == (ByteArray.mk y))=(x == y):=rfl
   rw [h]
   exact Bool.eq_iff_iff.2 (by rw [beq_iff_eq,decide_eq_true_eq,ByteArray.mk.injEq])
theorem qkO (a b:ByteArray):Instr.sameNow .string (kStr a) (kStr b)=some (decide (a=b)):=by
 show some (a == b)=_
 rw [qeb]
theorem qkP (a b:Int):Instr.sameNow (.int .i64) (kInt a) (kInt b)=some (decide (a=b)):=by
 show (if IntKind.i64=IntKind.i64 then some (a == b) else none)=_
 rw [if_pos rfl]
 congr 1
instance {P:Program}{k:Nat} [S:StrT P k]:KeyT P k kStr where
 check:=fun e x w=>by
  unfold Instr.checkKey
  simp only [Sem.run_bind,run_underlying S.und,Result.andThen_ok,kStr,Sem.run_pure]
 find:=fun x es kv h w=>MapKept.run_findKey S.und (qdh qkO x es kv 0 h)
 bits:=fun x=>by
  show (x == x)=true
  rw [qeb,decide_eq_true rfl]
instance {P:Program}{k:Nat} [S:IntT P k .i64]:KeyT P k kInt where
 check:=fun e x w=>by
  unfold Instr.checkKey
  simp only [Sem.run_bind,run_underlying S.ok,Result.andThen_ok,kInt,Sem.run_pure]
 find:=fun x es kv h w=>MapKept.run_findKey S.ok (qdh qkP x es kv 0 h)
 bits:=fun x=>by simp [Instr.sameBits,kInt]
end Go.Sl
/-
  A slice of bytes turned into a text.
-/
namespace Go.Sl
section
variable {P:Program}{ops:Array Oper}{K:Fr→World→Prop}{r:List Oper}{ρ:Fr}{w:World}{d:Nat}{ty:TypeId}{pos:String}{af:Array Edge}{x:Operand}
theorem qjp {a b:ByteArray}{y:Operand}{t t':TypeId}{g:Option (Nat × Bool)}{dst:Option Nat}(hx:evl ρ x=.string a) (hy:evl ρ y=.string b):PureV P ⟨dst,.binOp .eql t x y t',ty,pos,af,g⟩ ρ (.bool (decide (a=b))):=fun w=>by
 have h:(a.toList == b.toList)=decide (a=b):=by rw [←beq_toListBytes,qeb]
 simp only [execOp,eqGuard,hx,hy,binOp_string_eql,h]
 simp
end
end Go.Sl
/-
  Calls of a method through an interface value, whatever type it holds.
-/
namespace Go.Sl
def MethAt (P:Program) (t:Nat) (v:Value) (name:String) (f:Nat) (u:Value):Prop:=∀ (m:Nat) (w:World),(method (m+1) t v name).run P w=.ok (f,u) w
def methSB (P:Program) (t:Nat) (name:String) (f:Nat):Bool :=
 (match P.underlying t with|some (.struct _)=>true|some (.slice _)=>true|_=>false) &&
 match P.info? t with
 | some i=>(match i.methods.find? (·.name == name) with
   | some m=>m.path.isEmpty && (match m.func with|some (g,q)=>g == f && q == false|none=>false)
   | none=>false)
 | none=>false
class MethS (P:Program) (t:Nat) (name:String) (f:outParam Nat):Prop where
 ok:methSB P t name f=true
section
variable {P:Program}
theorem MethS.rows {t f:Nat}{name:String}(h:MethS P t name f):((∃ fs,P.underlying t=some (.struct fs))∨∃ e,P.underlying t=some (.slice e))∧∃ i m,P.info? t=some i∧i.methods.find? (·.name == name)=some m∧m.path.toList=[]∧m.path.isEmpty=true∧m.func=some (f,false):=by
 have h:=h.ok
 simp only [methSB,Bool.and_eq_true] at h
 obtain⟨h1,h2⟩:=h
 refine⟨?_,?_⟩
 ·split at h1
  ·rename_i e he;exact .inl ⟨e,he⟩
  ·rename_i e he;exact .inr ⟨e,he⟩
  ·cases h1
 ·split at h2
  ·rename_i i hi
   split at h2
   ·rename_i m hm
    simp only [Bool.and_eq_true] at h2
    obtain⟨h3,h4⟩:=h2
    split at h4
    ·rename_i g q hg
     simp at h4
     refine⟨i,m,hi,hm,?_,h3,by rw [hg,h4.1,h4.2]⟩
     simpa using h3
    ·cases h4
   ·cases h2
  ·cases h2
theorem qdI {t f:Nat}{name:String} [M:MethS P t name f] (v:Value):MethAt P t v name f v:=by
 obtain⟨hu,i,m,hi,hm,hp,he,hf⟩:=M.rows
 intro fuel w
 rcases hu with ⟨fs,hu⟩|⟨e,hu⟩ <;>
 simp only [method,Sem.run_bind,run_typeInfo w hi,Result.andThen_ok,hm,hp,follow,Sem.run_pure,hf,receiverAt,run_underlying hu,Place.get]
variable {ops:Array Oper}{K:Fr→World→Prop}{r:List Oper}{ρ:Fr}{w w0:World}{Γ:List HP}{d:Option Nat}{ty:TypeId}{pos:String}{af:Array Edge}{x:Operand}
theorem qh7 {t f:Nat}{name:String}{v u:Value}{xs:List Operand}{ts:Array TypeId}{vs:List Value}{R:Ending→World→Prop}(M:MethAt P t v name f u) (C:CallT P f) (hr:evl ρ x=.iface t v) (hx:xs.map (evl ρ)=vs) (hc:Calls P f (u::vs).toArray w R)
  (h:∀ e w',R e w'→∃ v,e=.returned v∧opsW P ops K r (updo ρ d v) w'):opsW P ops K (⟨d,.call { callee:=.invoke x name,args:=xs.toArray,argTypes:=ts },ty,pos,af,none⟩::r) ρ w:=by
 refine qaD rfl ?_
 obtain⟨m,hm⟩:=qcL P
 have hr:(execOp (evl ρ) ⟨d,.call { callee:=.invoke x name,args:=xs.toArray,argTypes:=ts },ty,pos,af,none⟩).run P w=.ok (.enter f (u::vs).toArray) w:=by
  have e:(#[evl ρ x]++Array.map (evl ρ) xs.toArray)=(.iface t v::vs).toArray:=by simp [hr,hx]
  simp only [execOp,resolve,Sem.run_bind,Sem.run_pure,Result.andThen_ok,invoke,e]
  simp only [List.getElem?_toArray,List.getElem?_cons_zero,callMethod,Sem.run_bind,run_program,Result.andThen_ok,hm,M m,C.run]
  congr 2
  simp
 simp only [opW,hr,opUpon]
 refine Calls.mono hc fun e w' hR => ?_
 obtain⟨v,rfl,hk⟩:=h e w' hR
 exact hk
end
end Go.Sl
/-
  A range over a function: what the kit's law asks, out of 'Sat'.
-/
namespace Go.Sl
open Go.RowKit (Below)
section
variable {P:Program}{ops:Array Oper}{K:Fr→World→Prop}{r:List Oper}{ρ:Fr}{w:World}{d:Nat}{ty:TypeId}{pos:String}{af:Array Edge}
end
end Go.Sl
/-
  Three results, the second of which lies in memory.
-/
namespace Go.Sl
section
variable {P:Program}{ρ:Fr}{w:World}
end
end Go.Sl
/-
  A struct is stored into an element of a slice of the call's own.
-/
namespace Go.Sl
section
variable {P:Program}{ops:Array Oper}{K:Fr→World→Prop}{r:List Oper}{ρ:Fr}{w w0:World}{ty:TypeId}{pos:String}{af:Array Edge}{x y:Operand}{t:TypeId}{Γ:List HP}{α:Type}{T:Ty α}{s:Value}{xs:List α}
theorem qh1 {i j:Nat}{e:TypeId}{x':α}(hv:(T.enc x').all Value.oneCell'=true) (hw:Sat w0 w Γ) (hi:Γ[i]? = some (OS T e s xs)) (hj:j<xs.length) :
  ∃ w',(storeCells (eadr T s j) (T.enc x')).run P w=.ok () w'∧Sat w0 w' (Γ.set i (OS T e s (xs.set j x'))):=by
 obtain⟨h1,hs,ho,hl⟩:=hw.at i hi
 have hlen:=T.len xs
 rcases ho with ⟨rfl,hnil⟩|⟨b,off,n,cap,pre,post,rfl,hpre,hvl,hnc,hbig,hpl,hb⟩
 ·simp only [slen] at hl;omega
 ·have hidx:(j+1)*T.sz≤(xs.flatMap T.enc).length:=by
   rw [hlen];exact Nat.mul_le_mul_right _ hj
  rw [Nat.add_mul,Nat.one_mul] at hidx
  have hok:=T.ok x'
  have hadd:eadr T (.slice (some ⟨b,off,none⟩) n cap) j=⟨b,off+j*T.sz,none⟩:=rfl
  rw [hadd]
  have hflat:(xs.set j x').flatMap T.enc=(xs.flatMap T.enc).take (j*T.sz)++T.enc x'++(xs.flatMap T.enc).drop (j*T.sz+T.sz):=by
   rw [List.set_eq_take_append_cons_drop,if_pos hj,List.flatMap_append,List.flatMap_cons,T.take,show j*T.sz+T.sz=(j+1)*T.sz by rw [Nat.add_mul,Nat.one_mul],T.drop,List.append_assoc]
  have hnew:((pre++xs.flatMap T.enc++post).take (off+j*T.sz+0)++T.enc x'++(pre++xs.flatMap T.enc++post).drop (off+j*T.sz+0+(T.enc x').length))=pre++(xs.set j x').flatMap T.enc++post:=by
   rw [hflat,hok]
   have a1:(pre++xs.flatMap T.enc++post).take (off+j*T.sz+0)=pre++(xs.flatMap T.enc).take (j*T.sz):=by
    rw [List.append_assoc,List.take_append,List.take_of_length_le (by omega),List.take_append,show off+j*T.sz+0-pre.length=j*T.sz by omega,Nat.sub_eq_zero_of_le (show j*T.sz≤(xs.flatMap T.enc).length by omega),List.take_zero,List.append_nil]
   have a2:(pre++xs.flatMap T.enc++post).drop (off+j*T.sz+0+T.sz)=(xs.flatMap T.enc).drop (j*T.sz+T.sz)++post:=by
    rw [List.append_assoc,List.drop_append,List.drop_eq_nil_of_le (by omega),List.nil_append,List.drop_append,show off+j*T.sz+0+T.sz-pre.length=j*T.sz+T.sz by omega,Nat.sub_eq_zero_of_le (show j*T.sz+T.sz≤(xs.flatMap T.enc).length by omega),List.drop_zero]
   rw [a1,a2]
   simp only [List.append_assoc]
  refine⟨putB w b (.cells (pre++(xs.set j x').flatMap T.enc++post).toArray e (0,0)),?_,?_⟩
  ·have:=qaK (P:=P) (b:=b) (bt:=e) (T.enc x') (off+j*T.sz) 0 _ w (by simpa using hv) (by simp only [List.length_append];omega) (hs b _ hb).1
   rw [this,←hnew]
  ·have hlen':=T.len (xs.set j x')
   refine (Sat.put (hw.focus i hi) fun g hg ⟨ho',hl'⟩ => ?_).back i hi
   rcases ho' with ⟨hn,_⟩|⟨b',off',n',cap',pre',post',hs',hpre',hvl',hnc',hbig',hpl',hb'⟩
   ·cases hn
   ·cases hs'
    refine⟨⟨_,hb'⟩,.inr ⟨b,off,n,cap,pre,post,rfl,hpre,by rw [hlen',List.length_set,←hlen,hvl],hnc,hbig,hpl,by simp [hpS]⟩,by rw [List.length_set];exact hl⟩
theorem qaP {j n:Nat}{e:TypeId}{x':α}{put:HP→List HP} [A:AggT P t n] (hx:evl ρ x=.pointer (some (eadr T s j))) (hy:evl ρ y=.agg (T.enc x').toArray) (hn:n=T.sz) (hv:(T.enc x').all Value.oneCell'=true) (hw:Sat w0 w Γ) (O:OwnAt Γ s α T e xs put) (hj:j<xs.length)
  (h:∀ w',Sat w0 w' (put (OS T e s (xs.set j x')))→opsW P ops K r ρ w'):opsW P ops K (⟨none,.store t x y,ty,pos,af,none⟩::r) ρ w:=by
 refine qaD rfl ?_
 obtain⟨i,hi,hput⟩:=O.foc.ok
 simp only [hput] at h
 obtain⟨w',hr,hs⟩:=qh1 (P:=P) hv hw hi hj
 exact qbC hx hy (fun w=>by rw [A.agg.2];simp [Value.cells,hn,T.ok]) (by simpa [Value.cells] using hr) (h _ hs)
end
end Go.Sl
/-
  Looking a key up in a nil map.
-/
namespace Go.Sl
section
variable {α:Type}{P:Program}{ρ:Fr}{w:World}{ty:TypeId}{pos:String}{af:Array Edge}{g:Option (Nat × Bool)}{dst:Option Nat}{x y:Operand}{t:TypeId}{κ:α→Value}
theorem qdt [DecidableEq α] {k e:TypeId}{q:α}{zv:Value} [M:MapT P t k e] [KT:KeyT P k κ] [Z:ZeroV P e zv] (hx:evl ρ x=.map none) (hy:evl ρ y=κ q):ReadV P ⟨dst,.lookup t x y false,ty,pos,af,g⟩ ρ w zv:=by
 have hf:=KT.find q [] [] rfl w
 have h0:mfind q ([]:List (α × Value)) 0=none:=rfl
 rw [h0] at hf
 have ht:(#[]:Array MapEntry).toList=[]:=rfl
 simp only [ReadV,execOp,hx,hy,Instr.lookup,Sem.run_bind,run_underlying M.ok,Result.andThen_ok,Sem.run_pure,KT.check,ht,hf,Z.run]
 rfl
end
end Go.Sl
/-
  The nil pointer compared with a pointer.
-/
namespace Go.Sl
section
variable {P:Program}{ρ:Fr}{ty:TypeId}{pos:String}{af:Array Edge}{g:Option (Nat × Bool)}{dst:Option Nat}{x y:Operand}{t t':TypeId}
theorem qbZ (w:World) (t:TypeId) (p:Option Addr) (h:P.underlying t=some (.pointer (P.pointee t))) :
  (Op.equal t (.pointer none) (.pointer p)).run P w=.ok p.isNone w:=by
 have key:∀ d,(Op.equalIn (d+1) t (.pointer none) (.pointer p)).run P w=.ok p.isNone w:=fun d=>by
  cases p <;> simp [Op.equalIn,run_underlying h]
 exact key 9999
theorem qih {a:Option Addr} [T:PtrT P t] (hx:evl ρ x=.pointer none) (hy:evl ρ y=.pointer a):PureV P ⟨dst,.binOp .eql t x y t',ty,pos,af,g⟩ ρ (.bool a.isNone):=fun w=>by
 have h1:=qbZ (P:=P) w t a T.und
 simp only [execOp,eqGuard,hx,hy]
 simp only [binOp]
 simp [h1]
end
end Go.Sl
/-
  Rows of rows: one row, or two of them, taken out and put back, with the others as one part.
-/
namespace Go.Sl
section
variable {w0 w:World}{Γ:List HP}{α:Type}{T:Ty α}{e:TypeId}{ss:List Value}{xss:List (List α)}
theorem qhr {α:Type}{l:List α}{j:Nat}{a:α}(h:l[j]? = some a):l.set j a=l:=by
 apply List.ext_getElem?
 intro k
 by_cases hk:j=k
 ·subst hk
  rw [List.getElem?_set_self (List.getElem?_eq_some_iff.1 h).1,h]
 ·rw [List.getElem?_set_ne hk]
theorem qhs {Z:List HP}{h:PH}{i:Nat}{A:HP}(hi:Z[i]? = some A) (hh:SatL Z h):SatL [A,Pack (Z.eraseIdx i)] h:=by
 obtain⟨h1,h2,d,s1,s2,a,g⟩:=hh.focus i hi
 exact⟨h1,h2,d,s1,s2,a,h2,fun _=>none,fun b=>.inr rfl,Sub.refl _,(fun b o hb=>by cases hb),g,trivial⟩
theorem qi1 {A:HP}{Δ:List HP}{h:PH}(hh:SatL [A,Pack Δ] h):SatL (A::Δ) h:=by
 obtain⟨h1,h2,d,s1,s2,a,h3,h4,d2,s3,s4,g,_⟩:=hh
 exact⟨h1,h2,d,s1,s2,a,SatL.sub s3 g⟩
theorem qks {Z:List HP}{h:PH}{i j:Nat}{A B:HP}(hi:Z[i]? = some A) (hj:(Z.eraseIdx i)[j]? = some B) (hh:SatL Z h):SatL [A,B,Pack ((Z.eraseIdx i).eraseIdx j)] h:=by
 obtain⟨h1,h2,d,s1,s2,a,g⟩:=hh.focus i hi
 exact⟨h1,h2,d,s1,s2,a,qhs hj g⟩
theorem qe7 {Z:List HP}{h:PH}{i j:Nat}{A A' B:HP}(hi:Z[i]? = some A) (hj:(Z.eraseIdx i)[j]? = some B) (hh:SatL [A',B,Pack ((Z.eraseIdx i).eraseIdx j)] h):SatL (Z.set i A') h:=by
 obtain⟨h1,h2,d,s1,s2,a,g⟩:=hh
 have h3:=SatL.back j (A':=B) hj (qi1 g)
 rw [qhr hj] at h3
 exact SatL.back i hi ⟨h1,h2,d,s1,s2,a,h3⟩
theorem qht {i:Nat}(hl:ss.length=xss.length) (hi:i<xss.length):(List.zipWith (OS T e) ss xss)[i]? = some (OS T e (vget ss i) (xss.getD i [])):=by
 simp [qaV,List.getElem?_zipWith,List.getD,List.getElem?_eq_getElem (show i<ss.length by omega),List.getElem?_eq_getElem hi]
theorem qi2 {i:Nat}{xs':List α}(hl:ss.length=xss.length) (hi:i<xss.length):(List.zipWith (OS T e) ss xss).set i (OS T e (vget ss i) xs')=List.zipWith (OS T e) ss (xss.set i xs'):=by
 apply List.ext_getElem?
 intro k
 by_cases hk:i=k
 ·subst hk
  rw [List.getElem?_set_self (by simp;omega),List.getElem?_zipWith,List.getElem?_set_self (by omega),List.getElem?_eq_getElem (show i<ss.length by omega)]
  simp [qaV,List.getD,List.getElem?_eq_getElem (show i<ss.length by omega)]
 ·rw [List.getElem?_set_ne hk,List.getElem?_zipWith,List.getElem?_zipWith,List.getElem?_set_ne hk]
theorem Sat.rowOne {i:Nat}(hi:i<xss.length) (h:Sat w0 w (RowsAt T e ss xss::Γ)):∃ Δ,Sat w0 w (OS T e (vget ss i) (xss.getD i [])::Pack Δ::Γ)∧∀ {w':World}{xs':List α}{Γ':List HP},Sat w0 w' (OS T e (vget ss i) xs'::Pack Δ::Γ')→Sat w0 w' (RowsAt T e ss (xss.set i xs')::Γ'):=by
 obtain⟨hl,h1⟩:=h.flat
 have hz:=qht (T:=T) (e:=e) hl hi
 refine⟨_,Sat.unpack ((Sat.pack h1).mono fun g hg=>qhs hz hg),fun {w' xs' Γ'} h2 => ?_⟩
 refine Sat.unflat (by simp [hl]) ?_
 rw [←qi2 hl hi]
 exact Sat.unpack ((Sat.pack (Δ:=[_,_]) h2).mono fun g hg=>SatL.back i hz (qi1 hg))
theorem Sat.rowTwo {i r:Nat}(hi:i<xss.length) (hr:r<xss.length) (hne:i≠r) (h:Sat w0 w (RowsAt T e ss xss::Γ)):∃ Δ,Sat w0 w (OS T e (vget ss i) (xss.getD i [])::OS T e (vget ss r) (xss.getD r [])::Pack Δ::Γ)∧∀ {w':World}{xs':List α}{Γ':List HP},Sat w0 w' (OS T e (vget ss i) xs'::OS T e (vget ss r) (xss.getD r [])::Pack Δ::Γ')→Sat w0 w' (RowsAt T e ss (xss.set i xs')::Γ'):=by
 obtain⟨hl,h1⟩:=h.flat
 have hz:=qht (T:=T) (e:=e) hl hi
 have hj:∃ j:Nat,((List.zipWith (OS T e) ss xss).eraseIdx i)[j]? = some (OS T e (vget ss r) (xss.getD r [])):=by
  by_cases hri:r<i
  ·exact⟨r,by rw [List.getElem?_eraseIdx,if_pos hri];exact qht hl hr⟩
  ·exact⟨r-1,by rw [List.getElem?_eraseIdx,if_neg (by omega),show r-1+1=r by omega];exact qht hl hr⟩
 obtain⟨j,hj⟩:=hj
 refine⟨_,Sat.unpack ((Sat.pack h1).mono fun g hg=>qks hz hj hg),fun {w' xs' Γ'} h2 => ?_⟩
 refine Sat.unflat (by simp [hl]) ?_
 rw [←qi2 hl hi]
 exact Sat.unpack ((Sat.pack (Δ:=[_,_,_]) h2).mono fun g hg=>qe7 hz hj hg)
end
end Go.Sl
/-
  A struct within a struct of the call's own is stored.
-/
namespace Go.Sl
section
variable {P:Program}{ops:Array Oper}{K:Fr→World→Prop}{r:List Oper}{ρ:Fr}{w w0:World}{ty:TypeId}{pos:String}{af:Array Edge}{x y:Operand}{t:TypeId}{Γ:List HP}
theorem qfU {n k:Nat}{p:Addr}{bt:TypeId}{cells cells' vs:List Value}{put:HP→List HP} [A:AggT P t n] (hx:evl ρ x=.pointer (some (p.add k))) (hy:evl ρ y=.agg vs.toArray) (hw:Sat w0 w Γ) (B:BoxAt Γ p bt cells put) (hn:vs.length=n) (hl:k+n≤cells.length) (hv:vs.all Value.oneCell'=true)
  (hc:cells'=cells.take k++vs++cells.drop (k+n)) (h:∀ w',Sat w0 w' (put (Box p bt cells'))→opsW P ops K r ρ w'):opsW P ops K (⟨none,.store t x y,ty,pos,af,none⟩::r) ρ w:=by
 refine qaD rfl ?_
 obtain⟨i,hi,hput⟩:=B.foc.ok
 simp only [hput] at h
 obtain⟨h1,hs,ho,hsp,hb⟩:=hw.at i hi
 obtain⟨pb,po,psp⟩:=p
 simp only at ho hsp hb;subst ho hsp
 have hx':evl ρ x=.pointer (some ⟨pb,k,none⟩):=by rw [hx,qcN,Nat.zero_add]
 refine qbC hx' hy (fun w=>by rw [A.agg.2];simp [Value.cells,hn]) (w':=putB w pb (.cells cells'.toArray bt (0,0))) ?_ ?_
 ·have:=qaK (P:=P) (b:=pb) vs k 0 cells w (by simpa using hv) (by omega) (hs _ _ hb).1
  simp only [Value.cells]
  rw [this,hc,Nat.add_zero,hn]
 ·exact h _ ((Sat.put (hw.focus i hi) fun h1 _ ⟨_,_,hb⟩=>⟨⟨_,hb⟩,rfl,rfl,by simp [hpS]⟩).back i hi)
end
end Go.Sl
/-
  Four results, the first of which lies in memory.
-/
namespace Go.Sl
section
variable {P:Program}{ρ:Fr}{w:World}
theorem qcK {fn:Func}{R:Value→World→Prop}{s s2 s3 s4 ty n:Nat}{p:Addr}{vs:List Value}{v2 v3 v4:Value} [A:AggT P ty n] (hr:fn.results=#[.cell s ty,.tmp s2,.tmp s3,.tmp s4]) (hv:ρ s=.pointer (some p)) (hv2:ρ s2=v2) (hv3:ρ s3=v3) (hv4:ρ s4=v4) (hn:vs.length=n) (hc:∀ j v,vs[j]? = some v→w.cell? (p.add j)=some v)
  (h:R (.tuple #[.agg vs.toArray,v2,v3,v4]) w):postV P fn R .ret ρ w :=
 ⟨.tuple #[.agg vs.toArray,v2,v3,v4],fun a ha=>by
  have h1:a.tmps.getD s undef=.pointer (some p):=by rw [←hv,←ha];rfl
  have h2:a.tmps.getD s2 undef=v2:=by rw [←hv2,←ha];rfl
  have h4:a.tmps.getD s3 undef=v3:=by rw [←hv3,←ha];rfl
  have h5:a.tmps.getD s4 undef=v4:=by rw [←hv4,←ha];rfl
  have h3:=qck (P:=P) (A:=A) hn hc
  simp only [results,hr,List.mapM_toArray,List.mapM_cons,List.mapM_nil,h1,h2,h4,h5,bind_pure_comp,map_pure]
  simp [asAddr,h3],h⟩
end
end Go.Sl
/-
  Calls of functions that have no body; assertions to interfaces that a type does not satisfy; errors that are integers, compared.
-/
namespace Go.Sl
open Go.Stop Go.Extern.Stop
section
variable {P:Program}{ops:Array Oper}{K:Fr→World→Prop}{r:List Oper}{ρ:Fr}{w w0:World}{ty:TypeId}{pos:String}{af:Array Edge}{x y:Operand}{t t':TypeId}{d:Nat}{dst:Option Nat}{g:Option (Nat × Bool)}
theorem qk2 {f:Nat}{xs:List Operand}{ts:Array TypeId}{vs:List Value}{v:Value}(hx:xs.map (evl ρ)=vs) (hc:(callFunc f vs.toArray).run P w=.ok (.value v) w)
  (h:opsW P ops K r (upd ρ d v) w):opsW P ops K (⟨some d,.call { callee:=.value (.func f),args:=xs.toArray,argTypes:=ts },ty,pos,af,none⟩::r) ρ w:=by
 refine qaD rfl ?_
 have hr:(execOp (evl ρ) ⟨some d,.call { callee:=.value (.func f),args:=xs.toArray,argTypes:=ts },ty,pos,af,none⟩).run P w=.ok (.value v) w:=by
  simp only [execOp,resolve,Deferred.ofValue,evl,Sem.run_bind,Sem.run_pure,Result.andThen_ok,invoke]
  have:#[]++Array.map (evl ρ) xs.toArray++#[]=vs.toArray:=by simp [hx]
  rw [this,hc]
 simp only [opW,hr,opUpon]
 exact h
theorem qil {t f:Nat}{name:String}{v u v':Value}{xs:List Operand}{ts:Array TypeId}{vs:List Value}(M:MethAt P t v name f u) (hr:evl ρ x=.iface t v) (hx:xs.map (evl ρ)=vs) (hc:(callFunc f (u::vs).toArray).run P w=.ok (.value v') w)
  (h:opsW P ops K r (upd ρ d v') w):opsW P ops K (⟨some d,.call { callee:=.invoke x name,args:=xs.toArray,argTypes:=ts },ty,pos,af,none⟩::r) ρ w:=by
 refine qaD rfl ?_
 obtain⟨m,hm⟩:=qcL P
 have hr:(execOp (evl ρ) ⟨some d,.call { callee:=.invoke x name,args:=xs.toArray,argTypes:=ts },ty,pos,af,none⟩).run P w=.ok (.value v') w:=by
  have e:(#[evl ρ x]++Array.map (evl ρ) xs.toArray)=(.iface t v::vs).toArray:=by simp [hr,hx]
  have e2:#[u]++(Value.iface t v::vs).toArray.extract 1 (Value.iface t v::vs).toArray.size=(u::vs).toArray:=by simp
  simp only [execOp,resolve,Sem.run_bind,Sem.run_pure,Result.andThen_ok,invoke,e]
  simp only [List.getElem?_toArray,List.getElem?_cons_zero,callMethod,Sem.run_bind,run_program,Result.andThen_ok,hm,M m,e2,hc]
 simp only [opW,hr,opUpon]
 exact h
theorem qgM {u:TypeId}{v z:Value}{want:Array (String × TypeId)}(hx:evl ρ x=.iface u v) (hu:P.underlying t=some (.interface want)) (h:(P.info? u).map (fun i=>(lacking want i.methods).isEmpty)=some false) (hz:(P.info? t).map (·.zero)=some (some z)) :
  PureV P ⟨dst,.typeAssert x t' t true,ty,pos,af,g⟩ ρ (.tuple #[z,.bool false]):=fun w=>by
 have:=run_typeAssert_lacksB (P:=P) hu h hz v t' w
 simp [execOp,hx,this]
theorem qjO {u:TypeId}{k q:IntKind}{a b:Int}{ms:Array (String × TypeId)}(hx:evl ρ x=.iface u (.int k a)) (hy:evl ρ y=.iface u (.int k b)) (ht:P.underlying t=some (.interface ms)) (hc:(P.info? u).map (·.comparable)=some true) (hq:P.underlying u=some (.int q)) :
  PureV P ⟨dst,.binOp .eql t x y t',ty,pos,af,g⟩ ρ (.bool (a == b)):=fun w=>by
 have:=Go.Lib.run_eql_iface_int (P:=P) w a b (k:=k) ht hc hq
 simp [execOp,eqGuard,hx,hy,this]
theorem qim {u:TypeId}{v:Value}{ms:Array (String × TypeId)}(hx:evl ρ x=.nilIface) (hy:evl ρ y=.iface u v) (ht:P.underlying t=some (.interface ms)) :
  PureV P ⟨dst,.binOp .eql t x y t',ty,pos,af,g⟩ ρ (.bool false):=fun w=>by
 have:=run_eql_iface_nil_left (P:=P) (w:=w) u v ht
 simp [execOp,eqGuard,hx,hy,this]
end
end Go.Sl
