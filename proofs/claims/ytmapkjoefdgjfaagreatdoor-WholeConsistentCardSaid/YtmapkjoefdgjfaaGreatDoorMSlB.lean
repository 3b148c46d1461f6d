/- Several texts. -/
import Derived.Test.YtmapkjoefdgjfaaGreatDoorMSlA
import Derived.Sort.Row
import Derived.Sort.Grow
import Derived.Laws.Cover3
import Derived.Laws.StructEq
import Derived.ChangeSame
import Derived.ChangeShapes
import Derived.ChangeSlices
import Derived.Laws.BytesString
import Derived.Laws.Strings
import Derived.Laws.Externs
import Derived.Stop.Asserts
import Derived.Lib.IfaceEq
import Derived.Lib.Builder
import Derived.Lib.UnsafeStr
import Derived.RangeFuncFrom
import Derived.RangeFuncLeaves
import Derived.Deep.Draws
import Derived.Shelf.GgSortFunc.InsertionK
set_option linter.unusedSimpArgs false
set_option linter.unusedVariables false
set_option maxRecDepth 8000
set_option maxHeartbeats 16000000
open List Nat
namespace Go.Sl
section
section
variable {P:Program}{ρ:Fr}{w:World}
theorem qd0 {p:Addr}{n ty:Nat}{vs:List Value} [A:AH P ty n] (hn:vs.length=n) (hc:∀ j v,vs[j]? = some v->w.cell? (p.add j)=some v):(loadVar ty p).run P w=.ok (.agg vs.toArray) w:=by
 subst hn;have:=run_loadCells_list (P:=P) (w:=w) p vs hc;simp[loadVar,A.agg.1,A.agg.2,this]
theorem mg {fn:Func}{R:Value->World->Prop}{s s' ty n:Nat}{p:Addr}{vs:List Value}{v':Value} [A:AH P ty n] (hr:fn.results=#[.cell s ty,.tmp s']) (hv:ρ s=.pointer (some p)) (iD:ρ s'=v') (hn:vs.length=n) (hc:∀ j v,vs[j]? = some v->w.cell? (p.add j)=some v)
  (h:R (.tuple #[.agg vs.toArray,v']) w):jD P fn R .ret ρ w :=
 ⟨.tuple #[.agg vs.toArray,v'],fun a ha=>by
  have h1:a.tmps.getD s undef=.pointer (some p):=by rw[<-hv,<-ha];rfl
  have h2:a.tmps.getD s' undef=v':=by rw[<-iD,<-ha];rfl
  have h3:=qd0 (P:=P) (A:=A) hn hc;simp only[results,hr,mapM_toArray,mapM_cons,mapM_nil,h1,h2,bind_pure_comp,map_pure]
  simp[asAddr,h3],h⟩
end
end
section
open Go.RowKit (Below)
theorem Sat.ahead {w0 w:World}{Γ:List HP}(h:Sat w0 w Γ) (n:Nat):Sat w0 (Sort.ahead w n) Γ:=⟨h.below.trans ⟨rfl,rfl,rfl,Nat.le_refl _,fun _ _=>rfl⟩,h.sat⟩
theorem Sat.grow {w0 w:World}{Γ:List HP}(h:Sat w0 w Γ) (os:Array Obj):Sat w0 (Sort.grow w os) Γ:=by
 have eM:=h.below.size;refine⟨h.below.trans ⟨rfl,rfl,rfl,by simp[Sort.grow],fun k hk=>?_⟩,h.sat.sub fun b o hb=>?_⟩
 ·simp only[Sort.grow];rw[Array.getElem?_append_left om]
 ·simp only[dw]at hb ⊢
  split at hb
  ·cases hb
  ·rename_i h1
   rw[if_neg h1];have bD:=(Array.getElem?_eq_some_iff.1 hb).1;simp only[Sort.grow];rw[Array.getElem?_append_left bD];exact hb
theorem qiT (xs:List Int):xs.flatMap aa.enc=xs.map (Value.int .i64):=by
 induction xs with
 | nil=>rfl
 | cons x xs ih=>rw[flatMap_cons,ih];rfl
theorem qke {pre post:List Value}{xs ys:List Int}(hl:ys.length=xs.length) :
  Sort.putCells (Value.int .i64) pre.length ys.toArray (pre++xs.map (Value.int .i64)++post).toArray=(pre++ys.map (Value.int .i64)++post).toArray:=by
 apply Array.ext_getElem?;intro k;simp only[Sort.putCells,Array.getElem?_mapIdx,getElem?_toArray,size_toArray];by_cases h1:k<pre.length
 ·rw[append_assoc,getElem?_append_left h1,append_assoc,getElem?_append_left h1]
  cases pre[k]? with
  | none=>rfl
  | some v=>simp only[Option.map_some];rw[if_neg om]
 ·by_cases h2:k<pre.length+ys.length
  ·have e1:(pre++xs.map (Value.int .i64)++post)[k]? = some (Value.int .i64 (xs[k-pre.length]'om)):=by
    rw[append_assoc,getElem?_append_right om,getElem?_append_left (by simp;omega),getElem?_map,getElem?_eq_getElem om];rfl
   have e2:(pre++ys.map (Value.int .i64)++post)[k]? = some (Value.int .i64 (ys[k-pre.length]'om)):=by
    rw[append_assoc,getElem?_append_right om,getElem?_append_left (by simp;omega),getElem?_map,getElem?_eq_getElem om];rfl
   rw[e1,e2];simp only[Option.map_some];rw[if_pos om];congr 2;simp[show k-pre.length<ys.length by omega]
  ·have e1:(pre++xs.map (Value.int .i64)++post)[k]? = post[k-pre.length-ys.length]? := by
    rw[append_assoc,getElem?_append_right om,getElem?_append_right (by simp;omega)];simp[hl]
   have e2:(pre++ys.map (Value.int .i64)++post)[k]? = post[k-pre.length-ys.length]? := by
    rw[append_assoc,getElem?_append_right om,getElem?_append_right (by simp;omega)];simp
   rw[e1,e2]
   cases post[k-pre.length-ys.length]? with
   | none=>rfl
   | some v=>simp only[Option.map_some];rw[if_neg om]
theorem Sat.tA {w0 w:World}{Γ:List HP}{e:TypeId}{s:Value}{xs:List Int}(hw:Sat w0 w (OS aa e s xs::Γ)) :
  (s=.slice none 0 0/\xs=[])\/∃ b off cap,s=.slice (some ⟨b,off,none⟩) xs.length cap/\xs.length<=cap/\b<w.heap.size/\Sort.Holds (Value.int .i64) w b off xs.toArray /\
   ∀ ys:List Int,ys.length=xs.length->∀ n,Sat w0 (Sort.putRow (Value.int .i64) (Sort.ahead w n) b off ys.toArray) (OS aa e s ys::Γ):=by
 obtain⟨h1,hs,ho,hl⟩:=hw.at 0 rfl;rcases ho with ⟨rfl,ew⟩|⟨b,off,n,cap,pre,post,rfl,aN,eW,kg,eZ,iP,hb⟩
 ·left
  refine⟨rfl,?_⟩
  cases xs with
  | nil=>rfl
  | cons x xs=>simp[aa]at ew
 ·right
  simp only[cW]at hl;subst hl;rw[qiT]at hb;have ca:=(hs b _ hb).1;refine⟨b,off,cap,rfl,kg,(Array.getElem?_eq_some_iff.1 ca).1,fun j hj=>⟨?_,frozen_of_heap ca _⟩,fun ys hy m=>?_⟩
  ·simp only[size_toArray]at hj
   rw[cell_of_heap ca,append_assoc,getElem?_append_right om,getElem?_append_left (by simp;omega),aN,show off+j-off=j by omega,getElem?_map,getElem?_eq_getElem hj];simp[hj]
  ·have e1:Sort.putRow (Value.int .i64) (Sort.ahead w m) b off ys.toArray=dq (Sort.ahead w m) b (.cells (pre++ys.map (Value.int .i64)++post).toArray e (0,0)):=by
    simp only[Sort.putRow,Sort.mapBlock,dq,Sort.ahead];congr 1;apply Array.ext_getElem?;intro k;have iH:=(Array.getElem?_eq_some_iff.1 ca).1;by_cases hk:b=k
    ·subst hk
     rw[Array.getElem?_modify,if_pos rfl,ca,Array.getElem?_setIfInBounds_self_of_lt iH];simp only[Option.map_some,Sort.onCells];rw[<-aN,qke hy]
    ·rw[Array.getElem?_modify,if_neg hk,Array.getElem?_setIfInBounds_ne hk]
   rw[e1];refine Sat.put (hw.ahead m) fun g hg ⟨lM,rS⟩=>?_;rcases lM with ⟨hn,_⟩|⟨b',off',n',cap',pre',post',ig,mK,rC,rD,mL,rE,eY⟩
   ·cases hn
   ·cases ig
    refine⟨⟨_,eY⟩,.inr ⟨b,off,_,cap,pre,post,rfl,aN,by rw[qiT];simp[hy,aa],kg,eZ,iP,by rw[qiT];simp[kh]⟩,by rw[hy];exact rS⟩
section
variable {P:Program}{ρ:Fr}{w:World}{ty:TypeId}{pos:String}{af:Array Edge}{g:Option (Nat × Bool)}{dst:Option Nat}{x y:Operand}{t t':TypeId}
theorem qe1 {e sz by_:Nat}{a:Option Addr}{n c:Nat} [S:Ah P t e sz by_] (hx:aG ρ x=.slice a n c):PureV P ⟨dst,.binOp .eql t x (.const (.slice none 0 0)) t',ty,pos,af,g⟩ ρ (.bool a.isNone):=fun w=>by
 have h1:=run_equal_slice_nil (P:=P) w t e a n c S.eU;simp only[execOp,eqGuard,hx];cases x<;>simp[aG,binOp,h1]
end
end
section
def q8 (P:Program) (t n:Nat):Bool:=match P.underlying t with
 | some (.struct fs)=>fs.size == n && (List.range n).all (fun i=>match fs[i]? with|some f => !(f.name == "_") && f.offset == i && qz P f.type && (match P.underlying f.type with | some (.int _) => true | _ => false) | none => false) && !P.stoodInHeld t && !P.eqGuardType P.depth t
 | _=>false
class Bk (P:Program) (t:Nat) (n:outParam Nat):Prop where
 ok:q8 P t n=true
section
variable {P:Program}{ρ:Fr}{w:World}{ty:TypeId}{pos:String}{af:Array Edge}{g:Option (Nat × Bool)}{dst:Option Nat}{x y:Operand}{t t':TypeId}
theorem qft {d:Nat}:∀ (fs:List Field) (k:Nat) (us zs:List Int) (xs ys:Array Value) (w:World),us.length=fs.length->zs.length=fs.length ->
  (∀ j f,fs[j]? = some f->f.name≠ "_" /\ f.offset = k + j /\ An P f.type /\ ∃ kd, P.underlying f.type = some (.int kd)) ->
  (∀ j a,us[j]? = some a->xs[k+j]? = some (.int .i64 a))->(∀ j a,zs[j]? = some a->ys[k+j]? = some (.int .i64 a)) ->
  (Op.eqFields (d+1) xs ys fs).run P w=.ok (decide (us=zs)) w
 | [],k,[],[],xs,ys,w,_,_,_,_,_=>by simp[Op.eqFields]
 | f::fs,k,a::us,b::zs,xs,ys,w,h1,h2,hf,hx,hy=>by
  obtain⟨hn,ho,C,kd,hk⟩:=hf 0 f rfl;have ex:=hx 0 a rfl;have ey:=hy 0 b rfl;simp only[Nat.add_zero]at ho ex ey
  have ih:=qft (d:=d) fs (k+1) us zs xs ys w (by simpa using h1) (by simpa using h2) (fun j f' hj=>by have:=hf (j+1) f' (by simpa using hj);rw[show k+(j+1)=k+1+j by omega]at this;exact this)
   (fun j a' hj=>by have:=hx (j+1) a' (by simpa using hj);rw[show k+(j+1)=k+1+j by omega]at this;exact this) (fun j a' hj=>by have:=hy (j+1) a' (by simpa using hj);rw[show k+(j+1)=k+1+j by omega]at this;exact this)
  have p1:(part f.type xs f.offset).run P w=.ok (.int .i64 a) w:=by simp[part,C.plain.1,ho,ex]
  have p2:(part f.type ys f.offset).run P w=.ok (.int .i64 b) w:=by simp[part,C.plain.1,ho,ey]
  simp only[Op.eqFields,ne_eq,hn,not_false_eq_true,if_true,Sem.run_bind,p1,p2,Result.andThen_ok,run_equalIn_int w d f.type .i64 kd a b hk];by_cases h:a=b
  ·subst h
   simp only[beq_self_eq_true,Bool.not_true,Bool.false_eq_true,if_false,ih];congr 1;simp
  ·have hb:(a == b)=false:=by simpa using h
   rw[hb];simp[h]
theorem Bk.run {n:Nat}(T:Bk P t n) {us zs:List Int}(h1:us.length=n) (h2:zs.length=n) (w:World):(Op.equalIn 10000 t (.agg (us.map (Value.int .i64)).toArray) (.agg (zs.map (Value.int .i64)).toArray)).run P w=.ok (decide (us=zs)) w/\P.eqGuardType P.depth t=false:=by
 have h:=T.ok;simp only[q8]at h;split at h
 ·rename_i fs hd
  simp only[Bool.and_eq_true,Bool.not_eq_true',beq_iff_eq,all_eq_true,mem_range]at h;obtain⟨⟨⟨hs,bZ⟩,cu⟩,hgu⟩:=h;have j2:P.fieldsOf t=fs:=by simp[Program.fieldsOf,hd]
  refine⟨?_,hgu⟩;rw[run_equalIn_struct w 9999 t _ _ (by rw[j2];exact hd) cu,j2];refine qft (d:=9998) fs.toList 0 us zs _ _ w (by simp[h1,hs]) (by simp[h2,hs]) (fun j f hj=>?_) (fun j a hj=>by simp[hj]) (fun j a hj=>by simp[hj]);have cJ:j<n:=by have:=(List.getElem?_eq_some_iff.1 hj).1;simpa [hs] using this
  have:=bZ j cJ;rw[show fs[j]? = some f by simpa using hj]at this;simp only[Bool.and_eq_true,Bool.not_eq_true',beq_iff_eq]at this;obtain⟨⟨⟨a1,a2⟩,a3⟩,a4⟩:=this;refine⟨by simpa using a1,by simpa using a2,⟨a3⟩,?_⟩;split at a4
  ·rename_i kd hk;exact⟨kd,hk⟩
  ·cases a4
 ·cases h
theorem qoj {n:Nat}{us zs:List Int} [T:Bk P t n] (hx:aG ρ x=.agg (us.map (Value.int .i64)).toArray) (hy:aG ρ y=.agg (zs.map (Value.int .i64)).toArray) (h1:us.length=n) (h2:zs.length=n):PureV P ⟨dst,.binOp .neq t x y t',ty,pos,af,g⟩ ρ (.bool (!decide (us=zs))):=fun w=>by
 obtain⟨hr,hg⟩:=T.run h1 h2 w;simp only[execOp,hx,hy,Sem.run_bind,run_eqGuard_agg w .neq t x y _ _ hg,Result.andThen_ok,run_neq_struct,hr,Sem.run_pure]
theorem qsX {fn:Func}{R:Value->World->Prop}{s ty n:Nat}{p:Addr}{vs:List Value} [A:AH P ty n] (hr:fn.results=#[.cell s ty]) (hv:ρ s=.pointer (some p)) (hn:vs.length=n) (hc:∀ j v,vs[j]? = some v->w.cell? (p.add j)=some v)
  (h:R (.agg vs.toArray) w):jD P fn R .ret ρ w :=
 ⟨.agg vs.toArray,fun a ha=>by
  have h1:a.tmps.getD s undef=.pointer (some p):=by rw[<-hv,<-ha];rfl
  have h3:=qd0 (P:=P) (A:=A) hn hc;simp only[results,hr,mapM_toArray,mapM_cons,mapM_nil,h1,bind_pure_comp,map_pure]
  simp[asAddr,h3],h⟩
end
end
section
open Go.RowKit (Below)
section
variable {H:Type}{enc:TypeId × Value->H}{P:Program}{w:World}{base:Nat}{spare:Nat->Bool}{held:Bool}
def Rd {α:Type}(enc:TypeId × Value->H) (P:Program) (w:World) (base:Nat) (spare:Nat->Bool) (held:Bool) (t:TypeId) (T:Ty α) (Good:α->Prop):Prop :=
 ∀ fuel cs y,DataW.trod enc P w base spare held fuel t cs=some y->∃ x,cs=T.enc x/\Good x
theorem x6 {t:TypeId}(ht:P.underlying t=some (.int .i64)):Rd enc P w base spare held t aa fun n => -9223372036854775808<=n/\n<=9223372036854775807:=by
 intro fuel cs y h;obtain⟨n,rfl,_,hw⟩:=DataW.trod_int ht h;refine⟨n,rfl,?_⟩
 simpa [Lit.wf,IntKind.min,IntKind.max,IntKind.signed,IntKind.bits] using hw
theorem qnv {α β:Type}{f:α->Option β}:∀ {l:List α}{r:List β},l.mapM f=some r->∀ (i:Nat) (x:α),l[i]? = some x->∃ y,f x=some y/\r[i]? = some y
 | [],r,h,i,x,hx=>by simp at hx
 | a::l,r,h,i,x,hx=>by
  simp only[mapM_cons,Option.bind_eq_bind,Option.pure_def]at h
  cases ha:f a with
  | none=>simp[ha]at h
  | some b =>
   cases hl:l.mapM f with
   | none=>simp[ha,hl]at h
   | some r' =>
    simp only[ha,hl,Option.bind_some,Option.some.injEq]at h;subst h
    cases i with
    | zero=>simp at hx;subst hx;exact⟨b,ha,rfl⟩
    | succ i=>simp at hx;obtain⟨y,h1,h2⟩:=qnv hl i x hx;exact⟨y,h1,by simpa using h2⟩
theorem qq7 {a:Addr}{n:Nat}{cs:List Value}(h:w.cells? base a n=some cs):cs.length=n/\∀ (i:Nat) v,cs[i]? = some v->w.cell? (a.add i)=some v:=by
 unfold World.cells? at h;split at h
 ·have hl:cs.length=n:=by
   have:∀ {l:List Nat}{r:List Value},l.mapM (fun i=>w.cell? (a.add i))=some r->r.length=l.length:=by
    intro l
    induction l with
    | nil=>intro r h;simp at h;subst h;rfl
    | cons x l ih =>
     intro r h;simp only[mapM_cons,Option.bind_eq_bind,Option.pure_def]at h
     cases hx:w.cell? (a.add x) with
     | none=>simp[hx]at h
     | some b =>
      cases hr:l.mapM (fun i=>w.cell? (a.add i)) with
      | none=>simp[hx,hr]at h
      | some r'=>simp only[hx,hr,Option.bind_some,Option.some.injEq]at h;subst h;simp[ih hr]
   have:=this h;simpa using this
  refine⟨hl,fun i v hv=>?_⟩;have hi:=(List.getElem?_eq_some_iff.1 hv).1;obtain⟨y,h1,h2⟩:=qnv h i i (by rw[getElem?_range om]);rw[hv]at h2;cases h2;exact h1
 ·cases h
theorem add_add (a:Addr) (i j:Nat) (hs:a.spot=none):(a.add i).add j=⟨a.block,a.off+(i+j),none⟩:=by
 unfold Addr.add;obtain⟨b,o,s⟩:=a;simp only at hs;subst hs;split<;>split<;>simp_all<;>omega
theorem qgS {α β:Type}{Q:Nat->α->Prop}:∀ (n:Nat),(∀ i,i<n->∃ x,Q i x)->∃ xs:List α,xs.length=n/\∀ (i:Nat) x,xs[i]? = some x->Q i x
 | 0,_=>⟨[],rfl,by simp⟩
 | n+1,h=>by
  obtain⟨xs,hl,hx⟩:=qgS (β:=β) n fun i hi=>h i om;obtain⟨x,hq⟩:=h n om;refine⟨xs++[x],by simp[hl],fun i y hy=>?_⟩;rcases Nat.lt_or_ge i n with hi|hi
  ·rw[getElem?_append_left om]at hy;exact hx i y hy
  ·have bD:=(List.getElem?_eq_some_iff.1 hy).1
   simp at bD;have:i=n:=by omega
   subst this;rw[getElem?_append_right om,hl]at hy;simp at hy;subst hy;exact hq
theorem x7 {α:Type}{T:Ty α}{Good:α->Prop}{t e:TypeId}(ht:P.underlying t=some (.slice e)) (eM:P.cellsOf e=T.sz) (ij:0<T.sz) (hE:Rd enc P w base spare held e T Good) :
  Rd enc P w base spare held t al fun v=>∃ xs,RS T w v xs/\∀ x∈xs,Good x:=by
 intro fuel cs y h;rcases DataW.trod_slice ht h with ⟨rfl,_⟩|⟨a,len,cap,elems,rest,fuel',_,rfl,_,_,hlc,hcm,hlen,la,_⟩
 ·exact⟨_,rfl,[],RS.nil,by simp⟩
 ·have gU:∀ i,i<len->∃ x:α,Good x/\∀ (k:Nat) v,(T.enc x)[k]? = some v->w.cell? ((a.add (i*P.cellsOf e)).add k)=some v:=by
   intro i hi;have h1:=la i hi;rw[getElem?_eq_getElem om]at h1
   cases hc:w.cells? base (a.add (i*P.cellsOf e)) (P.cellsOf e) with
   | none=>simp[hc]at h1
   | some cs =>
    simp only[hc,Option.bind_some]at h1;obtain⟨x,rfl,hg⟩:=hE _ cs _ h1;exact⟨x,hg,(qq7 hc).2⟩
  obtain⟨xs,hl,hx⟩:=qgS (β:=Unit) (Q:=fun i (x:α)=>Good x/\∀ (k:Nat) v,(T.enc x)[k]? = some v->w.cell? ((a.add (i*P.cellsOf e)).add k)=some v) len gU;refine⟨_,rfl,xs,⟨⟨some a,len,cap,rfl,by rw[T.len,hl],⟨hlc,by unfold maxLen at hcm;unfold bo;omega⟩,?_⟩,hl⟩,?_⟩
  ·intro i v hv
   have hi:=(List.getElem?_eq_some_iff.1 hv).1;rw[T.len]at hi;have hq:i / T.sz<xs.length:=(div_lt_iff_lt_mul ij).2 hi;have tK:i % T.sz<T.sz:=mod_lt _ ij;have iF:i=i / T.sz*T.sz+i % T.sz:=by rw[Nat.mul_comm];exact(div_add_mod i T.sz).symm
   have h1:=T.get xs (i / T.sz) (i % T.sz) hq tK;rw[<-iF,hv]at h1;have hgd:xs[i / T.sz]? = some (xs.getD (i / T.sz) T.dflt):=by simp[List.getD,hq]
   have eS:=(hx _ _ hgd).2 _ _ h1.symm;have qQ:a.spot=none:=by
    cases iE:a.spot with
    | none=>rfl
    | some s0 =>
     have mC:0<xs.length:=Nat.lt_of_le_of_lt (zero_le _) hq;have he0:0<(T.enc xs[0]).length:=by rw[T.ok];exact ij
     have h00:=(hx 0 xs[0] (getElem?_eq_getElem mC)).2 0 (T.enc xs[0])[0] (getElem?_eq_getElem he0);have:(a.add (0*P.cellsOf e)).add 0=a:=by simp[Addr.add]
     rw[this]at h00;unfold World.cell? at h00;split at h00
     ·simp[iE]at h00
     ·cases h00
   refine⟨a,rfl,qQ,?_⟩;rw[add_add a _ _ qQ,eM,<-iF]at eS;exact eS
  ·intro x hxm
   obtain⟨i,hi,rfl⟩:=getElem_of_mem hxm;exact(hx i _ (getElem?_eq_getElem hi)).1
theorem qkI {t:TypeId}{fs:Array Field}(ht:P.underlying t=some (.struct fs)) {fuel:Nat}{cs:List Value}{y:DataW H × List MemPlace}(h:DataW.trod enc P w base spare held fuel t cs=some y) :
  cs.length=P.cellsOf t/\∀ (i:Nat) (f:Field),fs[i]? = some f->∃ n y',DataW.trod enc P w base spare held n f.type ((cs.drop f.offset).take (P.cellsOf f.type))=some y':=by
 obtain⟨xs,n,_,_,hl,hlen,hf⟩:=DataW.trod_struct ht h;refine⟨hl,fun i f hi=>?_⟩;have cI:i<fs.size:=(Array.getElem?_eq_some_iff.1 hi).1;have:=hf i f hi;rw[getElem?_eq_getElem om]at this;exact⟨n,_,this⟩
theorem rr {t i off ft n:Nat}(F:Ag P t i off ft) (hn:P.cellsOf ft=n) {fuel:Nat}{cs:List Value}{y:DataW H × List MemPlace}(h:DataW.trod enc P w base spare held fuel t cs=some y) :
  ∃ m y',DataW.trod enc P w base spare held m ft ((cs.drop off).take n)=some y':=by
 obtain⟨fs,pX,hd,hf,rfl,rfl,_⟩:=F.place;obtain⟨_,hh⟩:=qkI hd h;subst hn;exact hh i pX hf
theorem qnw {t i off ft n:Nat}(F:Ag P t i off ft) (hn:P.cellsOf t=n) {fuel:Nat}{cs:List Value}{y:DataW H × List MemPlace}(h:DataW.trod enc P w base spare held fuel t cs=some y):cs.length=n:=by
 obtain⟨fs,pX,hd,hf,rfl,rfl,_⟩:=F.place;subst hn;exact(qkI hd h).1
end
end
section
def dQ:Ty Int:=⟨1,fun n=>[.int .u8 n],fun _=>rfl,0⟩
def qyI:Ty Int:=⟨1,fun n=>[.int .u16 n],fun _=>rfl,0⟩
instance:Bn dQ:=⟨fun _ v hv=>by rw[mem_singleton.1 hv];rfl⟩
instance:Bn qyI:=⟨fun _ v hv=>by rw[mem_singleton.1 hv];rfl⟩
class Ce (P:Program) (t:Nat) (k:outParam IntKind):Prop where
 ok:P.underlying t=some (.int k)
section
variable {P:Program}{ρ:Fr}{x y:Operand}{ty:TypeId}{pos:String}{af:Array Edge}{g:Option (Nat × Bool)}{dst:Option Nat}{t t':TypeId}
theorem qu3 {s d:Nat}{ks:IntKind}{n:Int} [S:Ce P s ks] [D:Ce P d .i64] (hx:aG ρ x=.int ks n) (h0 : -9223372036854775808<=n) (h1:n<=9223372036854775807):PureV P ⟨dst,.convert s d x,ty,pos,af,g⟩ ρ (.int .i64 n):=fun w=>by
 simp only[execOp,convert,hx,Sem.run_bind,run_underlying S.ok,run_underlying D.ok,Result.andThen_ok,Conv.intToInt,vt h0 h1,Sem.run_pure]
end
section
variable {w w0:World}{Γ:List HP}
end
section
variable {H:Type}{enc:TypeId × Value->H}{P:Program}{w:World}{base:Nat}{spare:Nat->Bool}{held:Bool}
end
section
variable {P:Program}{ρ:Fr}{x y:Operand}{ty:TypeId}{pos:String}{af:Array Edge}{g:Option (Nat × Bool)}{dst:Option Nat}{t t':TypeId}
abbrev u64 (n:Nat):Value:=.int .u64 (n:Int)
theorem wrap64 (n:Nat):IntKind.u64.wrap (n:Int)=((n % 18446744073709551616:Nat):Int):=by
 simp only[IntKind.wrap,IntKind.bits,IntKind.signed];simp
theorem qkd {n:Nat}(h:n<18446744073709551616):IntKind.u64.wrap (n:Int)=n:=by
 rw[wrap64,mod_eq_of_lt h]
theorem qsR {z:Int}:IntKind.u64.wrap z=((z % 18446744073709551616).toNat:Int):=by
 simp only[IntKind.wrap,IntKind.bits,IntKind.signed];simp;omega
theorem ofInt64 {a:Nat}(h:a<18446744073709551616):(BitVec.ofInt 64 (a:Int)).toNat=a:=by
 rw[BitVec.toNat_ofInt];omega
def mq (b:Nat):Nat:=18446744073709551615-b
theorem qm2 {b:Nat}(h:b<18446744073709551616) (i:Nat):(mq b).testBit i=(decide (i<64) && !b.testBit i):=by
 have:mq b=2 ^ 64-(b+1):=by unfold mq;omega
 rw[this,testBit_two_pow_sub_succ om]
theorem qiR {op:BinOp}{a b:Int}{r:Nat}(bW:op=.and\/op=.or\/op=.andNot) (hx:aG ρ x=.int .u64 a) (hy:aG ρ y=.int .u64 b) (hr:∀ w,(Op.intBits op .u64 a b).run P w=.ok (.int .u64 (IntKind.u64.wrap (r:Int))) w) (bD:r<18446744073709551616) :
  PureV P ⟨dst,.binOp op t x y t',ty,pos,af,g⟩ ρ (u64 r):=by
 intro w;have h:=hr w;rw[qkd bD]at h
 rcases bW with rfl|rfl|rfl <;>
 simp only[execOp,eqGuard,binOp,hx,hy,Sem.run_bind,Sem.run_pure,Result.andThen_ok,ne_eq,not_true_eq_false,if_false,Bool.not_false,if_true,h]
theorem vR {a b:Nat}(hx:aG ρ x=u64 a) (hy:aG ρ y=u64 b) (ha:a<18446744073709551616) (hb:b<18446744073709551616):PureV P ⟨dst,.binOp .and t x y t',ty,pos,af,g⟩ ρ (u64 (a &&& b)):=by
 have e:(BitVec.ofInt 64 (a:Int) &&& BitVec.ofInt 64 (b:Int)).toNat=a &&& b:=by rw[BitVec.toNat_and,ofInt64 ha,ofInt64 hb]
 exact qiR (.inl rfl) hx hy (fun w=>by rw[<-e];rfl) (Nat.lt_of_le_of_lt and_le_left ha)
theorem qe0 {a b:Nat}(hx:aG ρ x=u64 a) (hy:aG ρ y=u64 b) (ha:a<18446744073709551616) (hb:b<18446744073709551616):PureV P ⟨dst,.binOp .or t x y t',ty,pos,af,g⟩ ρ (u64 (a ||| b)):=by
 have e:(BitVec.ofInt 64 (a:Int) ||| BitVec.ofInt 64 (b:Int)).toNat=a ||| b:=by rw[BitVec.toNat_or,ofInt64 ha,ofInt64 hb]
 exact qiR (.inr (.inl rfl)) hx hy (fun w=>by rw[<-e];rfl) (by have:=or_lt_two_pow (n:=64) ha hb;omega)
theorem qgA {a b:Nat}(hx:aG ρ x=u64 a) (hy:aG ρ y=u64 b) (ha:a<18446744073709551616) (hb:b<18446744073709551616):PureV P ⟨dst,.binOp .andNot t x y t',ty,pos,af,g⟩ ρ (u64 (a &&& mq b)):=by
 have e:(BitVec.ofInt 64 (a:Int) &&& ~~~ BitVec.ofInt 64 (b:Int)).toNat=a &&& mq b:=by
  rw[BitVec.toNat_and,BitVec.toNat_not,ofInt64 ha,ofInt64 hb];unfold mq;congr 1
 exact qiR (.inr (.inr rfl)) hx hy (fun w=>by rw[<-e];rfl) (Nat.lt_of_le_of_lt and_le_left ha)
theorem qdz {k:IntKind}{a b:Nat}(hx:aG ρ x=u64 a) (hy:aG ρ y=.int k (b:Int)) (hb:b<=64):PureV P ⟨dst,.binOp .shl t x y t',ty,pos,af,g⟩ ρ (u64 (a*2 ^ b % 18446744073709551616)):=fun w=>by
 have e:IntKind.u64.wrap ((a:Int)*2 ^ b)=((a*2 ^ b % 18446744073709551616:Nat):Int):=by
  rw[<-wrap64];congr 1
 simp[execOp,eqGuard,hx,hy,binOp,shift_shl .u64 k (a:Int) (b:Int) om (by simp only[IntKind.bits];omega),e]
theorem qiS {k:IntKind}{a b:Nat}(hx:aG ρ x=u64 a) (hy:aG ρ y=.int k (b:Int)) (hb:b<=64):PureV P ⟨dst,.binOp .shr t x y t',ty,pos,af,g⟩ ρ (u64 (a / 2 ^ b)):=fun w=>by
 simp[execOp,eqGuard,hx,hy,binOp,shift_shr .u64 k (a:Int) (b:Int) om (by simp only[IntKind.bits];omega)]
theorem qsS {a b:Nat}(hx:aG ρ x=u64 a) (hy:aG ρ y=u64 b):PureV P ⟨dst,.binOp .add t x y t',ty,pos,af,g⟩ ρ (u64 ((a+b) % 18446744073709551616)):=fun w=>by
 have e:IntKind.u64.wrap ((a:Int)+b)=(((a+b) % 18446744073709551616:Nat):Int):=by
  rw[<-wrap64];congr 1
 simp[execOp,eqGuard,binOp,Op.intArith,hx,hy,e]
theorem qsT {a b:Nat}(hx:aG ρ x=u64 a) (hy:aG ρ y=u64 b):PureV P ⟨dst,.binOp .mul t x y t',ty,pos,af,g⟩ ρ (u64 (a*b % 18446744073709551616)):=fun w=>by
 have e:IntKind.u64.wrap ((a:Int)*b)=((a*b % 18446744073709551616:Nat):Int):=by
  rw[<-wrap64];congr 1
 simp[execOp,eqGuard,binOp,Op.intArith,hx,hy,e]
theorem qfQ {a b:Nat}(hx:aG ρ x=u64 a) (hy:aG ρ y=u64 b) (h:b<=a) (ha:a<18446744073709551616):PureV P ⟨dst,.binOp .sub t x y t',ty,pos,af,g⟩ ρ (u64 (a-b)):=fun w=>by
 have e:IntKind.u64.wrap ((a:Int)-b)=((a-b:Nat):Int):=by
  rw[<-qkd (n:=a-b) om];congr 1;omega
 simp[execOp,eqGuard,binOp,Op.intArith,hx,hy,e]
theorem qsU {a:Nat}(hx:aG ρ x=u64 a) (h0:0<a) (ha:a<18446744073709551616):PureV P ⟨dst,.unOp .neg t x,ty,pos,af,g⟩ ρ (u64 (18446744073709551616-a)):=fun w=>by
 have e:IntKind.u64.wrap (0-(a:Int))=((18446744073709551616-a:Nat):Int):=by
  rw[qsR];omega
 simp only[execOp,Op.unary,hx,Op.intArith,Sem.run_bind,Sem.run_pure,Result.andThen_ok,e]
end
section
variable {P:Program}{ops:Array Oper}{K:Fr->World->Prop}{r:List Oper}{ρ:Fr}{w:World}{d:Nat}{x y:Operand}{ty:TypeId}{pos:String}{af:Array Edge}{t t':TypeId}
theorem qvh {k:IntKind}{a b:Nat}(hx:aG ρ x=u64 a) (hy:aG ρ y=.int k (b:Int)) (ha:a<18446744073709551616) (hb:b<=64) (h:∀ v:Nat,v<18446744073709551616->opsW P ops K r (dD ρ d (u64 v)) w) :
  opsW P ops K (⟨some d,.binOp .shr t x y t',ty,pos,af,none⟩::r) ρ w:=eD rfl (qiS hx hy hb) (h _ (Nat.lt_of_le_of_lt (div_le_self _ _) ha))
theorem qvi {a b:Nat}(hx:aG ρ x=u64 a) (hy:aG ρ y=u64 b) (ha:a<18446744073709551616) (hb:b<18446744073709551616) (h:∀ v:Nat,v<18446744073709551616->opsW P ops K r (dD ρ d (u64 v)) w) :
  opsW P ops K (⟨some d,.binOp .and t x y t',ty,pos,af,none⟩::r) ρ w:=eD rfl (vR hx hy ha hb) (h _ (Nat.lt_of_le_of_lt and_le_left ha))
theorem qvj {a b:Nat}(hx:aG ρ x=u64 a) (hy:aG ρ y=u64 b) (h:∀ v:Nat,v<18446744073709551616->opsW P ops K r (dD ρ d (u64 v)) w) :
  opsW P ops K (⟨some d,.binOp .add t x y t',ty,pos,af,none⟩::r) ρ w:=eD rfl (qsS hx hy) (h _ (mod_lt _ (by decide)))
theorem qsV {s dd:Nat}{n:Nat} [S:Ce P s .u64] [D:Ce P dd .i64] (hc:cls P (.convert s dd x)=.pure) (hx:aG ρ x=u64 n) (h:∀ z:Int,opsW P ops K r (dD ρ d (.int .i64 z)) w) :
  opsW P ops K (⟨some d,.convert s dd x,ty,pos,af,none⟩::r) ρ w :=
 eD hc (v:=.int .i64 (IntKind.i64.wrap (n:Int))) (fun w=>by
  simp only[execOp,convert,hx,Sem.run_bind,run_underlying S.ok,run_underlying D.ok,Result.andThen_ok,Conv.intToInt,Sem.run_pure]) (h _)
theorem qsW {a:Int}(hx:aG ρ x=.int .i64 a) (hy:aG ρ y=.int .i64 127) (h:∀ z:Int,0<=z->z<=127->opsW P ops K r (dD ρ d (.int .i64 z)) w) :
  opsW P ops K (⟨some d,.binOp .and t x y t',ty,pos,af,none⟩::r) ρ w:=by
 have hle:(BitVec.ofInt 64 a &&& BitVec.ofInt 64 127).toNat<=127:=by
  rw[BitVec.toNat_and];exact Nat.le_trans and_le_right (by decide)
 refine eD rfl (v:=.int .i64 ((BitVec.ofInt 64 a &&& BitVec.ofInt 64 127).toNat:Int)) (fun w=>?_) (h _ om om);have hr:(execOp (aG ρ) ⟨some d,.binOp .and t x y t',ty,pos,af,none⟩).run P w=.ok (.value (.int .i64 (IntKind.i64.wrap ((BitVec.ofInt 64 a &&& BitVec.ofInt 64 127).toNat:Int)))) w:=by
  simp only[execOp,eqGuard,binOp,hx,hy,Op.intBits,Sem.run_bind,Sem.run_pure,Result.andThen_ok,ne_eq,not_true_eq_false,if_false,Bool.not_false,if_true];rfl
 rw[hr,vt om om]
class C7 (P:Program) (t:Nat) (n:outParam Nat):Prop where
 ok:∃ e,P.underlying t=some (.array n e)/\∀ w,(sizeOf e).run P w=.ok 1 w
theorem zh {k:IntKind}{j:Int}{n:Nat}{p:Addr} [A:C7 P t n] {dst:Option Nat}{g:Option (Nat × Bool)}(hx:aG ρ x=.pointer (some p)) (hy:aG ρ y=.int k j) (h0:0<=j) (h1:j<n):PureV P ⟨dst,.indexAddr t x y,ty,pos,af,g⟩ ρ (.pointer (some (p.add j.toNat))):=fun w=>by
 obtain⟨e,he,hs⟩:=A.ok;simp[execOp,Instr.indexAt,Instr.sureAddr,hx,hy,asIntOf,run_underlying he,h0,h1,hs]
end
def bT:Ty Nat:=⟨1,fun n=>[.int .u64 (n:Int)],fun _=>rfl,0⟩
instance:Bn bT:=⟨fun _ v hv=>by rw[mem_singleton.1 hv];rfl⟩
section
variable {α:Type} [DecidableEq α]
def fC (x:α):List (α × Value)->Nat->Option (Nat × Value)
 | [],_=>none
 | p::l,i=>if x=p.1 then some (i,p.2) else fC x l (i+1)
def qd (kv:List (α × Value)) (x:α):Option Value:=(fC x kv 0).map (·.2)
def qf (kv:List (α × Value)) (x:α) (v:Value):List (α × Value):=match fC x kv 0 with|some (i,_)=>kv.set i (x,v)|none=>kv++[(x,v)]
theorem qh4 {x:α}:∀ {l:List (α × Value)}{i j:Nat}{v:Value},fC x l i=some (j,v)->i<=j/\l[j-i]? = some (x,v)
 | [],_,_,_,h=>by cases h
 | p::l,i,j,v,h=>by
  simp only[fC]at h;split at h
  ·rename_i e;cases h;subst e;exact⟨Nat.le_refl _,by simp⟩
  ·obtain⟨h1,h2⟩:=qh4 h
   refine⟨by omega,?_⟩;rw[show j-i=(j-(i+1))+1 by omega];simpa using h2
end
class CQ {α:Type} [DecidableEq α] (P:Program) (k:TypeId) (κ:α->Value):Prop where
 check:∀ e x w,(Instr.checkKey e 10000 k (κ x)).run P w=.ok () w
 find:∀ x (es:List MapEntry) (kv:List (α × Value)),(es.map fun e=>(e.key,e.val))=kv.map (fun p=>(κ p.1,p.2))->∀ w,(Instr.findKey k (κ x) es).run P w=.ok (fC x kv 0) w
 bits:∀ x,Instr.sameBits 10000 (κ x) (κ x)=true
class B1 (P:Program) (t:Nat) (zv:outParam Value):Prop where
 ok:(P.info? t).bind (·.zero)=some zv
theorem B1.run {P:Program}{t:Nat}{zv:Value}(h:B1 P t zv) (w:World):(zeroValue t).run P w=.ok zv w:=by
 have h:=h.ok
 cases hi:P.info? t with
 | none=>simp[hi]at h
 | some i =>
  simp only[hi,Option.bind_some]at h;simp[zeroValue,typeInfo,hi,h]
class CI (P:Program) (t:TypeId) (k e:outParam TypeId):Prop where
 ok:P.underlying t=some (.map k e)
section
variable {α:Type}
def Cg (κ:α->Value) (m:Value) (kv:List (α × Value)):HP:=fun h=>∃ b es clock,m=.map (some b)/\h b=some (.map es clock)/\(es.toList.map fun e=>(e.key,e.val))=kv.map fun p=>(κ p.1,p.2)
class B5 (Γ:List HP) (m:Value) (κ:outParam (α->Value)) (kv:outParam (List (α × Value))) (put:outParam (HP->List HP)):Prop where
 j3:CH Γ (Cg κ m kv) put
instance (priority:=high) map_here {κ:α->Value}{m:Value}{kv:List (α × Value)}{Γ:List HP}:B5 (Cg κ m kv::Γ) m κ kv (fun A'=>A'::Γ):=⟨CH.here⟩
instance qwn {B:HP}{κ:α->Value}{m:Value}{kv:List (α × Value)}{Γ:List HP}{put:HP->List HP} [h:B5 Γ m κ kv put]:B5 (B::Γ) m κ kv (fun A'=>B::put A'):=⟨h.j3.there⟩
variable {P:Program}{ops:Array Oper}{K:Fr->World->Prop}{r:List Oper}{ρ:Fr}{w w0:World}{d:Nat}{ty:TypeId}{pos:String}{af:Array Edge}{g:Option (Nat × Bool)}{dst:Option Nat}{x y z:Operand}{t:TypeId}{Γ:List HP}{κ:α->Value}{kv:List (α × Value)}{m:Value}
theorem qoD (κ:α->Value) (hw:Sat w0 w Γ) (h:∀ m w',Sat w0 w' (Cg κ m []::Γ)->opsW P ops K r (dD ρ d m) w'):opsW P ops K (⟨some d,.makeMap t none,ty,pos,af,none⟩::r) ρ w:=by
 refine jr rfl ?_;simp only[opW,execOp,Instr.makeMap,Option.map_none,Sem.run_bind,Sem.run_pure,Result.andThen_ok,run_newObj,bC];exact h (.map (some w.heap.size)) _ (hw.push (o:=.map #[] 0) ⟨w.heap.size,#[],0,rfl,by simp,by simp⟩)
theorem qrr {i:Nat}(hw:Sat w0 w Γ) (hi:Γ[i]? = some (Cg κ m kv)):∃ b es clock,m=.map (some b)/\w.heap[b]? = some (.map es clock)/\(es.toList.map fun e=>(e.key,e.val))=kv.map fun p=>(κ p.1,p.2):=by
 obtain⟨h1,hs,b,es,clock,hm,hb,he⟩:=hw.at i hi;exact⟨b,es,clock,hm,(hs b _ hb).1,he⟩
theorem ql0 [DecidableEq α] {k e:TypeId}{q:α}{zv:Value}{put:HP->List HP} [M:CI P t k e] [KT:CQ P k κ] [Z:B1 P e zv] (hx:aG ρ x=m) (hy:aG ρ y=κ q) (hw:Sat w0 w Γ) (O:B5 Γ m κ kv put):ReadV P ⟨dst,.lookup t x y true,ty,pos,af,g⟩ ρ w (.tuple #[(qd kv q).getD zv,.bool (qd kv q).isSome]):=by
 obtain⟨i,hi,_⟩:=O.j3.ok;obtain⟨b,es,clock,rfl,hb,he⟩:=qrr hw hi;have hf:=KT.find q es.toList kv he w;simp only[ReadV,execOp,hx,hy,Instr.lookup,Sem.run_bind,run_underlying M.ok,Result.andThen_ok,Sem.run_pure,MapKept.run_getObj_map hb,KT.check,hf]
 cases h:fC q kv 0 with
 | none=>simp[qd,h,Z.run]
 | some p=>simp[qd,h]
theorem qrs {k e:TypeId}{put:HP->List HP} [M:CI P t k e] (hx:aG ρ x=m) (hw:Sat w0 w Γ) (O:B5 Γ m κ kv put):ReadV P ⟨dst,.call { callee:=.builtin .len,args:=#[x],argTypes:=#[t] },ty,pos,af,g⟩ ρ w (.int .i64 kv.length):=by
 obtain⟨i,hi,_⟩:=O.j3.ok;obtain⟨b,es,clock,rfl,hb,he⟩:=qrr hw hi;have hl:es.size=kv.length:=by
  have:=congrArg List.length he
  simpa using this
 simp[ReadV,execOp,resolve,invoke,builtin,hx,Builtin.len_,run_underlying M.ok,MapKept.run_getObj_map hb,hl,goInt]
theorem qkR [DecidableEq α] {k e:TypeId}{q:α}{v:Value}{put:HP->List HP} [M:CI P t k e] [KT:CQ P k κ] (hx:aG ρ x=m) (hy:aG ρ y=κ q) (hz:aG ρ z=v) (hw:Sat w0 w Γ) (O:B5 Γ m κ kv put)
  (h:∀ w',Sat w0 w' (put (Cg κ m (qf kv q v)))->opsW P ops K r ρ w'):opsW P ops K (⟨none,.mapUpdate t x y z,ty,pos,af,none⟩::r) ρ w:=by
 refine jr rfl ?_;obtain⟨i,hi,cO⟩:=O.j3.ok;obtain⟨b,es,clock,rfl,hb,he⟩:=qrr hw hi;have hf:=KT.find q es.toList kv he w;simp only[opW,execOp,hx,hy,hz,Instr.mapUpdate,Sem.run_bind,run_underlying M.ok,Result.andThen_ok,MapKept.run_getObj_map hb,KT.check,hf]
 cases hm:fC q kv 0 with
 | none =>
  simp only[MapKept.run_setObj_map _ hb,Result.andThen_ok,Sem.run_pure,bC,fh];refine h _ ?_;rw[cO];refine(hw.focus i hi).put (b:=b) (o':=.map (es.push { key:=κ q,val:=v,born:=clock }) (clock+1)) (A':=Cg κ (.map (some b)) (qf kv q v)) ?_ |>.back i hi;rintro h1 _ ⟨b',es',clock',x9,eY,_⟩;cases x9;refine⟨⟨_,eY⟩,b,es.push { key:=κ q,val:=v,born:=clock },clock+1,rfl,by simp[kh],?_⟩
  simp[qf,hm,he]
 | some p =>
  obtain⟨j,u⟩:=p;obtain⟨_,hj⟩:=qh4 hm;rw[Nat.sub_zero]at hj;have cJ:=(List.getElem?_eq_some_iff.1 hj).1;have hlen:es.size=kv.length:=by have:=congrArg List.length he;simpa using this
  have qzB:((es[j]?).map (·.key)).getD (κ q)=κ q:=by
   have:=congrArg (fun l=>l[j]?) he;simp only[getElem?_map,hj,Option.map_some]at this;rw[Array.getElem?_eq_getElem om];rw[Array.getElem?_toList,Array.getElem?_eq_getElem om]at this;simp at this ⊢;exact this.1
  simp only[Instr.keyThatStays,qzB,KT.bits,if_true,Sem.run_pure,Sem.run_bind,Result.andThen_ok,MapKept.run_setObj_map _ hb,bC,fh];refine h _ ?_;rw[cO];refine(hw.focus i hi).put (b:=b) (o':=.map (es.modify j fun e=>{ e with key:=κ q,val:=v }) clock) (A':=Cg κ (.map (some b)) (qf kv q v)) ?_ |>.back i hi;rintro h1 _ ⟨b',es',clock',x9,eY,_⟩;cases x9;refine⟨⟨_,eY⟩,b,es.modify j fun e=>{ e with key:=κ q,val:=v },clock,rfl,by simp[kh],?_⟩;simp only[qf,hm];apply ext_getElem?;intro a;have hea:=congrArg (fun l=>l[a]?) he;simp only[getElem?_map]at hea;simp only[getElem?_map,Array.toList_modify,getElem?_modify,getElem?_set];by_cases e1:j=a
  ·subst e1
   rw[if_pos rfl,if_pos cJ];rw[Array.getElem?_toList,Array.getElem?_eq_getElem om];simp
  ·rw[if_neg e1]
   simp only[e1,if_false];rw[<-hea];cases es.toList[a]?<;>rfl
end
theorem qfd {α:Type} [DecidableEq α] {κ:α->Value}{d:TypeDesc}(hs:∀ a b,Instr.sameNow d (κ a) (κ b)=some (decide (a=b))) (q:α):∀ (es:List MapEntry) (kv:List (α × Value)) (i:Nat),(es.map fun e=>(e.key,e.val))=kv.map (fun p=>(κ p.1,p.2))->Instr.findNow d (κ q) es i=some (fC q kv i)
 | [],kv,i,h=>by
  have:kv=[]:=by simpa using h.symm
  subst this
  rfl
 | e::es,[],i,h=>by simp at h
 | e::es,p::kv,i,h=>by
  simp only[map_cons,List.cons.injEq,Prod.mk.injEq]at h;obtain⟨⟨h1,h2⟩,h3⟩:=h;have ih:=qfd hs q es kv (i+1) h3;simp only[Instr.findNow,h1,hs,fC];by_cases e1:q=p.1
  ·rw[if_pos e1,decide_eq_true e1,h2]
  ·rw[if_neg e1,decide_eq_false e1];exact ih
def lX (b:ByteArray):Value:=.string b
def qm (z:Int):Value:=.int .i64 z
theorem qkQ (a b:ByteArray):(a == b)=decide (a=b):=by
 cases a with
 | mk x =>
  cases b with
  | mk y =>
   have h:((ByteArray.mk x) == (ByteArray.mk y))=(x == y):=rfl;rw[h];exact Bool.eq_iff_iff.2 (by rw[beq_iff_eq,decide_eq_true_eq,ByteArray.mk.injEq])
theorem qtB (a b:ByteArray):Instr.sameNow .string (lX a) (lX b)=some (decide (a=b)):=by
 show some (a == b)=_;rw[qkQ]
theorem qtC (a b:Int):Instr.sameNow (.int .i64) (qm a) (qm b)=some (decide (a=b)):=by
 show (if IntKind.i64=IntKind.i64 then some (a == b) else none)=_;rw[if_pos rfl];congr 1
instance {P:Program}{k:Nat} [S:CB P k]:CQ P k lX where
 check:=fun e x w=>by
  unfold Instr.checkKey;simp only[Sem.run_bind,run_underlying S.eU,Result.andThen_ok,lX,Sem.run_pure]
 find:=fun x es kv h w=>MapKept.run_findKey S.eU (qfd qtB x es kv 0 h)
 bits:=fun x=>by
  show (x == x)=true;rw[qkQ,decide_eq_true rfl]
instance {P:Program}{k:Nat} [S:Ce P k .i64]:CQ P k qm where
 check:=fun e x w=>by
  unfold Instr.checkKey;simp only[Sem.run_bind,run_underlying S.ok,Result.andThen_ok,qm,Sem.run_pure]
 find:=fun x es kv h w=>MapKept.run_findKey S.ok (qfd qtC x es kv 0 h)
 bits:=fun x=>by simp[Instr.sameBits,qm]
section
variable {P:Program}{ops:Array Oper}{K:Fr->World->Prop}{r:List Oper}{ρ:Fr}{w:World}{d:Nat}{ty:TypeId}{pos:String}{af:Array Edge}{x:Operand}
end
def B7 (P:Program) (t:Nat) (v:Value) (name:String) (f:Nat) (u:Value):Prop:=∀ (m:Nat) (w:World),(method (m+1) t v name).run P w=.ok (f,u) w
def tN (P:Program) (t:Nat) (name:String) (f:Nat):Bool :=
 (match P.underlying t with|some (.struct _)=>true|some (.slice _)=>true|_=>false) &&
 match P.info? t with
 | some i=>(match i.methods.find? (·.name == name) with
   | some m=>m.path.isEmpty && (match m.func with|some (g,q)=>g == f && q == false|none=>false)
   | none=>false)
 | none=>false
class Ck (P:Program) (t:Nat) (name:String) (f:outParam Nat):Prop where
 ok:tN P t name f=true
section
variable {P:Program}
theorem Ck.rows {t f:Nat}{name:String}(h:Ck P t name f):((∃ fs,P.underlying t=some (.struct fs))\/∃ e,P.underlying t=some (.slice e))/\∃ i m,P.info? t=some i/\i.methods.find? (·.name == name)=some m/\m.path.toList=[]/\m.path.isEmpty=true/\m.func=some (f,false):=by
 have h:=h.ok;simp only[tN,Bool.and_eq_true]at h;obtain⟨h1,h2⟩:=h;refine⟨?_,?_⟩
 ·split at h1
  ·rename_i e he;exact .inl ⟨e,he⟩
  ·rename_i e he;exact .inr ⟨e,he⟩
  ·cases h1
 ·split at h2
  ·rename_i i hi
   split at h2
   ·rename_i m hm
    simp only[Bool.and_eq_true]at h2;obtain⟨h3,h4⟩:=h2;split at h4
    ·rename_i g q hg
     simp at h4;refine⟨i,m,hi,hm,?_,h3,by rw[hg,h4.1,h4.2]⟩
     simpa using h3
    ·cases h4
   ·cases h2
  ·cases h2
theorem qm3 {t f:Nat}{name:String} [M:Ck P t name f] (v:Value):B7 P t v name f v:=by
 obtain⟨hu,i,m,hi,hm,hp,he,hf⟩:=M.rows;intro fuel w
 rcases hu with ⟨fs,hu⟩|⟨e,hu⟩ <;>
 simp only[method,Sem.run_bind,run_typeInfo w hi,Result.andThen_ok,hm,hp,follow,Sem.run_pure,hf,receiverAt,run_underlying hu,Place.get]
theorem qfR {t f elem:Nat}{name:String} [M:AI P t name f true elem] (p:Addr):B7 P t (.pointer (some p)) name f (.pointer (some p)):=fun m w=>qgq M m p w
variable {ops:Array Oper}{K:Fr->World->Prop}{r:List Oper}{ρ:Fr}{w w0:World}{Γ:List HP}{d:Option Nat}{ty:TypeId}{pos:String}{af:Array Edge}{x:Operand}
theorem qoi {t f:Nat}{name:String}{v u:Value}{xs:List Operand}{ts:Array TypeId}{vs:List Value}{R:Ending->World->Prop}(M:B7 P t v name f u) (C:Ae P f) (hr:aG ρ x=.iface t v) (hx:xs.map (aG ρ)=vs) (hc:Calls P f (u::vs).toArray w R)
  (h:∀ e w',R e w'->∃ v,e=.returned v/\opsW P ops K r (fh ρ d v) w'):opsW P ops K (⟨d,.call { callee:=.invoke x name,args:=xs.toArray,argTypes:=ts },ty,pos,af,none⟩::r) ρ w:=by
 refine jr rfl ?_;obtain⟨m,hm⟩:=qgr P;have hr:(execOp (aG ρ) ⟨d,.call { callee:=.invoke x name,args:=xs.toArray,argTypes:=ts },ty,pos,af,none⟩).run P w=.ok (.enter f (u::vs).toArray) w:=by
  have e:(#[aG ρ x]++Array.map (aG ρ) xs.toArray)=(.iface t v::vs).toArray:=by simp[hr,hx]
  simp only[execOp,resolve,Sem.run_bind,Sem.run_pure,Result.andThen_ok,invoke,e];simp only[getElem?_toArray,getElem?_cons_zero,callMethod,Sem.run_bind,run_program,Result.andThen_ok,hm,M m,C.run];congr 2;simp
 simp only[opW,hr,bC];refine Calls.mono hc fun e w' hR=>?_;obtain⟨v,rfl,hk⟩:=h e w' hR;exact hk
end
end
section
open Go.Stop Go.Extern.Stop
section
variable {P:Program}{ops:Array Oper}{K:Fr->World->Prop}{r:List Oper}{ρ:Fr}{w w0:World}{ty:TypeId}{pos:String}{af:Array Edge}{x y:Operand}{t t':TypeId}{d:Nat}{dst:Option Nat}{g:Option (Nat × Bool)}
end
end
section
open Go.RowKit (Below)
section
variable {P:Program}{ops:Array Oper}{K:Fr->World->Prop}{r:List Oper}{ρ:Fr}{w w0:World}{d:Nat}{ty:TypeId}{pos:String}{af:Array Edge}{g:Option (Nat × Bool)}{dst:Option Nat}{x y:Operand}{t t':TypeId}{Γ:List HP}{s:Value}{xs:List Int}
theorem qpA {b2:ByteArray}{ys:List Int}(h:b2.data.toList.map (fun c=>(c.toNat:Int))=ys) (w:World):(Builtin.firstCells dQ.sz b2.size (.string b2)).run P w=.ok (ys.flatMap dQ.enc).toArray w:=by
 have e:b2.extract 0 b2.size=b2:=by
  apply ByteArray.ext;simp
 simp only[Builtin.firstCells,e,Sem.run_pure];congr 1;apply Array.ext';rw[<-h];simp only[Array.toList_map,flatMap_map]
 induction b2.data.toList with
 | nil=>rfl
 | cons c l ih=>rw[map_cons,flatMap_cons,ih];rfl
theorem qnV {e sz by_:Nat}{u:TypeId}{b2:ByteArray}{ys:List Int}{zs:List Value}{put:HP->List HP} [S:Ah P t e sz by_] [Z:Ai P e zs] [U:CB P u] (O:AT Γ s Int dQ e xs put) (hx:aG ρ x=s) (hy:aG ρ y=.string b2) (h2:b2.data.toList.map (fun c=>(c.toNat:Int))=ys) (eM:sz=dQ.sz) (uJ:zs.length=sz)
  (hb:(xs.length+ys.length)*by_<=140737488355328) (hl:xs.length+ys.length<=bo) (hw:Sat w0 w Γ)
  (h:∀ s' w',Sat w0 w' (put (OS dQ e s' (xs++ys)))->opsW P ops K r (dD ρ d s') w'):opsW P ops K (⟨some d,.call { callee:=.builtin .append,args:=#[x,y],argTypes:=#[t,u] },ty,pos,af,none⟩::r) ρ w:=by
 refine jr rfl ?_;subst eM;obtain⟨i,hi,hp⟩:=O.j3.ok;simp only[hp]at h;obtain⟨inf,sZ,hs,vk⟩:=S.info;obtain⟨zv,vl,ns⟩:=Z.zero;have h1:=hw.rs i hi;obtain⟨ph,hph,lK⟩:=hw.at i hi;have hone:∀ x∈ys,∀ v∈dQ.enc x,v.oneCell'=true:=fun x _ v hv=>Bn.ok x v hv;have nh:b2.size=ys.length:=by rw[<-h2,length_map];rfl
 have iT:∀ w':World,w'.heap=w.heap->(Builtin.firstCells dQ.sz ys.length (.string b2)).run P w'=.ok (ys.flatMap dQ.enc).toArray w':=fun w' _=>by rw[<-nh];exact qpA h2 w'
 have lL:∀ w':World,w'.heap=w.heap->(Builtin.firstCells dQ.sz xs.length s).run P w'=.ok (xs.flatMap dQ.enc).toArray w':=fun w' dA=>qbY h1.1 h1.2.symm w' dA
 have kC:∀ (a:Option Addr) (cap:Nat),s=.slice a xs.length cap->cap<xs.length+ys.length ->
   (execOp (aG ρ) ⟨some d,.call { callee:=.builtin .append,args:=#[x,y],argTypes:=#[t,u] },ty,pos,af,none⟩).run P w =
   .ok (.value (.slice (some ⟨w.heap.size,0,none⟩) (xs.length+ys.length) (grownCap w (xs.length+ys.length) cap e))) (fG w.drew (.cells ((xs.flatMap dQ.enc).toArray++(ys.flatMap dQ.enc).toArray++Builtin.zeroCells zs.toArray (grownCap w (xs.length+ys.length) cap e-(xs.length+ys.length))) e)):=by
  intro a cap sd kR;have hn:¬(xs.length+ys.length<=cap):=by omega
  have pO:¬(9223372036854775807<((xs.length:Int)+(ys.length:Int))):=by unfold bo at hl;omega
  have cL:=growslice_fits (bytes:=by_) kR hb;have s5:¬(281474976710656<Builtin.nextslicecap (xs.length+ys.length) cap*by_):=by omega
  have hq:(Question.appendCap (xs.length+ys.length) cap e).forced=false:=rfl;rw[sd]at lL;simp[execOp,resolve,invoke,builtin,Builtin.append_,hx,hy,sd,run_underlying S.eU,S.size,typeInfo,sZ,vk,Builtin.lenOf,nh,run_underlying U.eU,hn,pO,s5,hq,lL,iT,ns,vl,grownCap];rw[lL w.drew rfl];simp only[Result.andThen_ok];rw[iT w.drew rfl];have oF:∀ (X Y:List Value) (Z:Array Value),X.toArray++(Y.toArray++Z)=(X++Y).toArray++Z:=fun X Y Z=>by apply Array.ext';simp only[Array.toList_append,append_assoc]
  simp only[newRow,Sem.run_bind,run_newObj,Result.andThen_ok,Sem.run_pure];rw[oF];rfl
 simp only[opW];rcases lK with ⟨lK,hlen⟩;have fZ:∀ cap,cap<xs.length+ys.length->Sat w0 (fG w.drew (.cells ((xs.flatMap dQ.enc).toArray++(ys.flatMap dQ.enc).toArray++Builtin.zeroCells zs.toArray (grownCap w (xs.length+ys.length) cap e-(xs.length+ys.length))) e)) (Γ.set i (OS dQ e (.slice (some ⟨w.heap.size,0,none⟩) (xs.length+ys.length) (grownCap w (xs.length+ys.length) cap e)) (xs++ys))):=by
  intro cap kR;have uS:=grownCap_ge w (xs.length+ys.length) cap e;refine Sat.renew (w:=w.drew) hw.drew hi ⟨.inr ⟨w.heap.size,0,_,_,[],(Builtin.zeroCells zs.toArray (grownCap w (xs.length+ys.length) cap e-(xs.length+ys.length))).toList,rfl,rfl,by rw[dQ.len];simp,uS,hl,?_,?_⟩,by simp[cW]⟩
  ·simp[size_zeroCells,uJ]
  ·simp
 rcases lK with ⟨rfl,ew⟩|⟨b,off,n,cap,pre,post,rfl,aN,kD,kg,eZ,s6,eY⟩
 ·simp only[cW]at hlen
  by_cases vm:ys.length=0
  ·have sU:=eq_nil_of_length_eq_zero vm
   subst sU;have hr:(execOp (aG ρ) ⟨some d,.call { callee:=.builtin .append,args:=#[x,y],argTypes:=#[t,u] },ty,pos,af,none⟩).run P w=.ok (.value (.slice none 0 0)) w:=by
    have eI:=iT w rfl;simp only[length_nil]at eI;simp[execOp,resolve,invoke,builtin,Builtin.append_,hx,hy,run_underlying S.eU,S.size,Builtin.lenOf,nh,run_underlying U.eU,eI]
   rw[hr];refine h _ _ ?_;have:xs=[]:=eq_nil_of_length_eq_zero hlen;subst this;simp only[append_nil];rw[show Γ.set i (OS dQ e (.slice none 0 0) [])=Γ from ?_]
   ·exact hw
   ·apply ext_getElem?
    intro k;rw[getElem?_set];split
    ·rename_i hk;subst hk;split
     ·rw[hi]
     ·rename_i hk;rw[getElem?_eq_none om]
    ·rfl
  ·rw[kC none 0 (by rw[hlen]) om]
   exact h _ _ (fZ 0 om)
 ·simp only[cW]at hlen
  subst hlen;by_cases kE:xs.length+ys.length<=cap
  ·have eI:=iT w rfl
   have oG:(xs.flatMap dQ.enc).length=xs.length*dQ.sz:=dQ.len xs;have s7:(ys.flatMap dQ.enc).length=ys.length*dQ.sz:=dQ.len ys;have hm:xs.length*dQ.sz+ys.length*dQ.sz<=xs.length*dQ.sz+(cap-xs.length)*dQ.sz:=by
    have:ys.length*dQ.sz<=(cap-xs.length)*dQ.sz:=mul_le_mul_right _ om;omega
   have cu:=uB (P:=P) (bt:=e) (ys.flatMap dQ.enc) (off+xs.length*dQ.sz) 0 (pre++xs.flatMap dQ.enc++post) w (by
    intro v hv;obtain⟨x',mZ,iD⟩:=mem_flatMap.1 hv
    exact hone x' mZ v iD) (by simp only[length_append,oG,s7];omega) (hph _ _ eY).1
   have hr:(execOp (aG ρ) ⟨some d,.call { callee:=.builtin .append,args:=#[x,y],argTypes:=#[t,u] },ty,pos,af,none⟩).run P w=.ok (.value (.slice (some ⟨b,off,none⟩) (xs.length+ys.length) cap)) (dq w b (.cells ((pre++xs.flatMap dQ.enc++post).take (off+xs.length*dQ.sz+0)++ys.flatMap dQ.enc++(pre++xs.flatMap dQ.enc++post).drop (off+xs.length*dQ.sz+0+(ys.flatMap dQ.enc).length)).toArray e (0,0))):=by
    simp only[execOp,resolve,invoke,builtin,Builtin.append_,hx,hy,Sem.run_bind,Sem.run_pure,Result.andThen_ok,map_toArray,map_cons,map_nil,run_underlying S.eU,S.size,Builtin.lenOf,nh,run_underlying U.eU];simp[eI,kE,w8,run_underlying S.eU,Builtin.lenOf,nh,run_underlying U.eU,S.size];rw[cu];simp
   rw[hr];have s8:(pre++xs.flatMap dQ.enc++post).take (off+xs.length*dQ.sz+0)=pre++xs.flatMap dQ.enc:=by
    rw[take_append_of_le_length (by simp only[length_append,oG];omega)];exact take_of_length_le (by simp only[length_append,oG];omega)
   have vn:(pre++xs.flatMap dQ.enc++post).drop (off+xs.length*dQ.sz+0+(ys.flatMap dQ.enc).length)=post.drop (ys.length*dQ.sz):=by
    rw[drop_append,drop_eq_nil_of_le (by simp only[length_append,oG,s7];omega)];simp only[nil_append,length_append,oG,s7];congr 1;omega
   rw[s8,vn];refine h _ _ (Sat.back i hi (Sat.put (hw.focus i hi) fun h1 kM hA=>?_));rcases hA with ⟨hA,_⟩;rcases hA with ⟨hc,_⟩|⟨b1,off1,n1,cap1,pre1,post1,jy,w9,s9,qwL,xc,ta,rV⟩
   ·cases hc
   ·cases jy
    refine⟨⟨_,rV⟩,.inr ⟨b,off,xs.length+ys.length,cap,pre,post.drop (ys.length*dQ.sz),rfl,aN,by rw[dQ.len,length_append],kE,hl,?_,?_⟩,by simp[cW]⟩
    ·simp only[length_drop]
     have:(cap-(xs.length+ys.length))*dQ.sz=(cap-xs.length)*dQ.sz-ys.length*dQ.sz:=by rw[<-Nat.sub_mul];congr 1;omega
     omega
    ·simp[kh]
  ·rw[kC _ cap rfl om]
   exact h _ _ (fZ cap om)
theorem Sat.tb {p:Addr}{bt:TypeId}{u v:Value}{vs:List Value}(hw:Sat w0 w (Ad p bt (u::vs)::Γ)):Sat w0 (w.setCell p v) (Ad p bt (v::vs)::Γ):=by
 obtain⟨h1,hs,ho,iE,hb⟩:=hw.at 0 rfl;obtain⟨pb,po,psp⟩:=p;simp only at ho iE hb;subst ho iE;have ca:=(hs _ _ hb).1;have fN:w.setCell ⟨pb,0,none⟩ v=dq w pb (.cells (v::vs).toArray bt (0,0)):=by
  simp only[World.setCell,dq];congr 1;apply Array.ext_getElem?;intro k;have iH:=(Array.getElem?_eq_some_iff.1 ca).1;by_cases hk:pb=k
  ·subst hk;rw[Array.getElem?_modify,if_pos rfl,ca,Array.getElem?_setIfInBounds_self_of_lt iH];simp
  ·rw[Array.getElem?_modify,if_neg hk,Array.getElem?_setIfInBounds_ne hk]
 rw[fN];exact Sat.put hw fun h1 _ ⟨_,_,hb⟩=>⟨⟨_,hb⟩,rfl,rfl,by simp[kh]⟩
theorem Sat.yr {p:Addr}{bt:TypeId}{u:Value}{vs:List Value}(hw:Sat w0 w (Ad p bt (u::vs)::Γ)):p=⟨p.block,0,none⟩/\w.cell? p=some u/\w.shape? p.block=some (bt,vs.length+1)/\w.frozen? p=false:=by
 obtain⟨h1,hs,ho,iE,hb⟩:=hw.at 0 rfl;obtain⟨pb,po,psp⟩:=p;simp only at ho iE hb;subst ho iE;have ca:=(hs _ _ hb).1;exact⟨rfl,by rw[cell_of_heap ca];rfl,by simp[World.shape?,ca],frozen_of_heap ca _⟩
theorem qjR {a:Addr}{n c:Nat}(hx:aG ρ x=.slice (some a) n c) (hc:c≠0):PureV P ⟨dst,.call { callee:=.builtin .unsafeSliceData,args:=#[x],argTypes:=#[t] },ty,pos,af,g⟩ ρ (.pointer (some a)):=fun w=>by
 simp[execOp,resolve,invoke,builtin,hx,Lib.run_unsafeSliceData_row w _ _ a n c hc]
theorem qjS {a:Addr}{n c:Nat}(hx:aG ρ x=.slice (some a) n c) (hc:c≠0) (h:opsW P ops K r (dD ρ d (.pointer (some a))) w):opsW P ops K (⟨some d,.call { callee:=.builtin .unsafeSliceData,args:=#[x],argTypes:=#[t] },ty,pos,af,none⟩::r) ρ w:=by
 refine jr rfl ?_;unfold opW;rw[qjR hx hc w];exact h
theorem qnW {e:TypeId}(hc:P.cellsOf e=1) (count off n:Nat) (hn:off+n<=count):liesAt P P.depth e count off e n=true:=by
 have hd:P.depth=(2*(P.types.size+Made.depth)+1)+1:=rfl;rw[hd];simp only[liesAt,Bool.or_eq_true];left;rw[hd];simp[rowAt,hc,hn,sameLayout,mod_one]
def bP (l:List UInt8):List Int:=l.map fun c=>(c.toNat:Int)
theorem qip {pt it ty e:TypeId}(hp:P.underlying pt=some (.pointer e)) (hc:P.cellsOf e=1) {g off cells:Nat}(sd:w.shape? g=some (e,cells)) {l:List UInt8}(h0:l≠[]) (hn:off+l.length<=cells) (h63:l.length<=9223372036854775807)
  (eS:∀ j x,l[j]? = some x->w.cell? ((⟨g,off,none⟩:Addr).add j)=some (.int .u8 x.toNat)) :
  (Builtin.unsafeString_ #[pt,it] ty #[.pointer (some ⟨g,off,none⟩),.int .i64 l.length]).run P w=.ok (.string ⟨l.toArray⟩) (w.freeze ⟨g,off,none⟩ l.length):=by
 have hl:l.length≠0:=by simpa using h0
 have nO:=Lib.run_loadBytes (P:=P) w l ⟨g,off,none⟩ .empty eS;have qwM:=qnW (P:=P) hc (cells / P.cellsOf e) off l.length (by rw[hc];simpa using hn);have pO:¬(9223372036854775807:Int)<(l.length:Int):=by omega
 have qyf:Builtin.unsafeString_ #[pt,it] ty #[.pointer (some ⟨g,off,none⟩),.int .i64 l.length] =
   (do
    let n <-asInt (.int .i64 l.length)
    if n<0 then runtimePanic (.error "unsafe.String: len out of range")
    if n>IntKind.i64.max then unsupported (.unsafePointer "String: a length above the largest int")
    if n=0 then pure (.string .empty)
    else if <-variablesAt ⟨g,off,none⟩ (<-elemOf pt) n.toNat then do
     let s <-loadBytes ⟨g,off,none⟩ .empty n.toNat
     freeze ⟨g,off,none⟩ n.toNat
     pure (.string s)
    else unsupported (.unsafePointer "String: not so many bytes at ptr")) := rfl
 rw[qyf];have qyg:IntKind.i64.max=9223372036854775807:=rfl;have gM:¬(l.length:Int)<0:=by omega
 simp[asInt,asIntOf,qyg,pO,gM,hl,variablesAt,sd,elemOf,run_underlying hp,qwM,nO]
theorem qnX (l:List UInt8):(bP l).flatMap dQ.enc=l.map fun c=>Value.int .u8 c.toNat:=by
 induction l with
 | nil=>rfl
 | cons c l ih=>simp only[bP,map_cons,flatMap_cons]at *;rw[ih];rfl
theorem Sat.bytes {e:TypeId}{s:Value}{l:List UInt8}{i:Nat}(hw:Sat w0 w Γ) (hi:Γ[i]? = some (OS dQ e s (bP l))) (h0:l≠[]):∃ b off cap,s=.slice (some ⟨b,off,none⟩) l.length cap/\l.length<=cap/\∃ (cs:Array Value),w.heap[b]? = some (.cells cs e (0,0))/\off+l.length<=cs.size/\(∀ j x,l[j]? = some x->w.cell? ((⟨b,off,none⟩:Addr).add j)=some (.int .u8 x.toNat))/\∀ o,Sat w0 (dq w b o) (Γ.set i fun _=>True):=by
 obtain⟨h1,hs,ho,hl⟩:=hw.at i hi;have iH:(bP l).length=l.length:=by simp[bP]
 rcases ho with ⟨rfl,ew⟩|⟨b,off,n,cap,pre,post,rfl,aN,eW,kg,eZ,iP,hb⟩
 ·simp only[cW]at hl
  exact absurd (eq_nil_of_length_eq_zero om) h0
 ·simp only[cW]at hl
  have ca:=(hs b _ hb).1;rw[qnX]at ca;refine⟨b,off,cap,by rw[<-hl,iH],by omega,_,ca,by simp[aN],fun j x hj=>?_,fun o=>?_⟩
  ·have cJ:=(List.getElem?_eq_some_iff.1 hj).1
   rw[w8,cell_of_heap ca,append_assoc,getElem?_append_right om,getElem?_append_left (by simp;omega),aN,show off+j-off=j by omega,getElem?_map,hj];rfl
  ·refine(Sat.put (hw.focus i hi) fun g hg ⟨lM,_⟩=>?_).back i hi
   rcases lM with ⟨hn,_⟩|⟨b',off',n',cap',pre',post',ig,mK,rC,rD,mL,rE,eY⟩
   ·cases hn
   ·cases ig
    exact⟨⟨_,eY⟩,trivial⟩
theorem qjT {e:TypeId}{u:TypeId}{l:List UInt8}{b off n c:Nat}{i:Nat}(hp:P.underlying t=some (.pointer e)) (py:P.cellsOf e=1) (hx:aG ρ x=.pointer (some ⟨b,off,none⟩)) (hy:aG ρ y=.int .i64 (l.length:Nat)) (hs:s=.slice (some ⟨b,off,none⟩) n c) (h0:l≠[]) (h63:l.length<=9223372036854775807) (hw:Sat w0 w Γ) (hi:Γ[i]? = some (OS dQ e s (bP l)))
  (h:∀ w',Sat w0 w' (Γ.set i (fun _=>True))->opsW P ops K r (dD ρ d (.string ⟨l.toArray⟩)) w'):opsW P ops K (⟨some d,.call { callee:=.builtin .unsafeString,args:=#[x,y],argTypes:=#[t,u] },ty,pos,af,none⟩::r) ρ w:=by
 refine jr rfl ?_;obtain⟨b',off',cap',ig,hlc,cs,ca,cL,eS,cO⟩:=hw.bytes hi h0;rw[hs]at ig
 injection ig with e1 e2 e3
 injection e1 with e1
 injection e1 with e4 e5
 subst e4 e5;have hr:=qip (P:=P) (it:=u) (ty:=ty) hp py (g:=b) (off:=off) (cells:=cs.size) (by simp[World.shape?,ca]) h0 cL h63 eS;have hf:w.freeze ⟨b,off,none⟩ l.length=dq w b (.cells cs e (off,off+l.length)):=by
  have hl:l.length≠0:=by simpa using h0
  have iH:=(Array.getElem?_eq_some_iff.1 ca).1;simp only[World.freeze,hl,if_false,dq];congr 1;apply Array.ext_getElem?;intro k;by_cases hk:b=k
  ·subst hk;rw[Array.getElem?_modify,if_pos rfl,ca,Array.getElem?_setIfInBounds_self_of_lt iH];simp
  ·rw[Array.getElem?_modify,if_neg hk,Array.getElem?_setIfInBounds_ne hk]
 rw[hf]at hr;simp only[opW,execOp,resolve,invoke,builtin,hx,hy,Sem.run_bind,Sem.run_pure,Result.andThen_ok,map_toArray,map_cons,map_nil,hr,bC];exact h _ (cO _)
theorem qf9 {a b:ByteArray}(hx:aG ρ x=.string a) (hy:aG ρ y=.string b) (eM:a.size+b.size<=1099511627776):PureV P ⟨dst,.binOp .add t x y t',ty,pos,af,g⟩ ρ (.string (a++b)):=fun w=>by
 have h1:¬(((a.size+b.size:Nat):Int)>IntKind.i64.max):=by
  have:IntKind.i64.max=9223372036854775807:=rfl;omega
 simp only[execOp,eqGuard,binOp,Op.stringOp,hx,hy,Sem.run_bind,Sem.run_pure,Result.andThen_ok,h1,if_false];simp
theorem qjU {a b:Int} [A:C7 P t 2] [Z:Ai P t [.int .i64 0,.int .i64 0]] (hx:aG ρ x=.int .i64 a) (hy:aG ρ y=.int .i64 b) (h:opsW P ops K r (dD ρ d (.agg #[.int .i64 a,.int .i64 b])) w):opsW P ops K (⟨some d,.build t #[(0,x),(1,y)],ty,pos,af,none⟩::r) ρ w:=by
 refine qiQ (parts:=[(0,x),(1,y)]) (vs:=[(0,.int .i64 a),(1,.int .i64 b)]) (by simp[hx,hy]) (fun w=>?_) h;obtain⟨e,he,hs⟩:=A.ok;obtain⟨zv,vl,ns⟩:=Z.zero;simp only[Instr.build,Sem.run_bind,ns,vl,Result.andThen_ok,run_underlying he,hs];rfl
theorem Sat.tc {w w0:World}{Γ:List HP}{α:Type}{T:Ty α}{e:TypeId}{s:Value}{x:List α}{ss:List Value}{xss:List (List α)}(h:Sat w0 w (Ab T e (s::ss) (x::xss)::Γ)):Sat w0 w (OS T e s x::Ab T e ss xss::Γ):=by
 obtain⟨hl,h⟩:=Sat.flat h
 exact Sat.jQ (fun g hg=>by
  obtain⟨h1,h2,d,s1,s2,ha,hg⟩:=Ap.split _ hg
  exact⟨h1,h2,d,s1,s2,⟨by simpa using hl,ha⟩,hg⟩) (show Sat w0 w (OS T e s x::(zipWith (OS T e) ss xss++Γ)) from h)
end
end
section
class CL (Γ Δ:List HP):Prop where
 ok:∀ h,Ap Γ h->Ap Δ h
instance (priority:=low) selG_drop {A:HP}{Γ Δ:List HP} [s:CL Γ Δ]:CL (A::Γ) Δ:=⟨fun h hh=>s.ok h hh.tail⟩
instance (priority:=high) selG_rfl {Γ:List HP}:CL Γ Γ:=⟨fun _ hh=>hh⟩
instance qwk {A:HP}{Γ Γ' Δ:List HP} [p:Cq Γ A Γ'] [s:CL Γ' Δ]:CL Γ (A::Δ):=⟨fun h hh=>by
 obtain⟨i,h1,h2⟩:=p.ok;obtain⟨g1,g2,d,s1,s2,a,g⟩:=hh.focus i h1;rw[<-h2]at g
 exact⟨g1,g2,d,s1,s2,a,s.ok g2 g⟩⟩
theorem Sat.bG {w0 w:World}{Γ Δ:List HP} [s:CL Γ Δ] (h:Sat w0 w Γ):Sat w0 w Δ:=⟨h.below,s.ok _ h.sat⟩
end
section
open Go.RowKit (Below)
theorem Ap.perm {Γ Δ:List HP}(p:Γ.Perm Δ):∀ h,Ap Γ h->Ap Δ h:=by
 induction p with
 | nil=>intro h hs;exact hs
 | cons x _ ih=>rintro h ⟨h1,h2,d,s1,s2,a,b⟩;exact⟨h1,h2,d,s1,s2,a,ih h2 b⟩
 | swap x y l=>intro h hs;exact hs.swap
 | trans _ _ i1 i2=>intro h hs;exact i2 h (i1 h hs)
theorem Sat.perm {w0 w:World}{Γ Δ:List HP}(p:Γ.Perm Δ) (h:Sat w0 w Γ):Sat w0 w Δ:=⟨h.below,Ap.perm p _ h.sat⟩
theorem qqz {α:Type}{T:Ty α}{e:TypeId}{ss:List Value}{xss:List (List α)}(hl:ss.length=xss.length):zipWith (OS T e) ss xss=(List.range xss.length).map fun i=>OS T e (cU ss i) (xss.getD i []):=by
 apply ext_getElem (by simp[hl]);intro i h1 h2;simp only[getElem_zipWith,getElem_map,getElem_range];have h3:i<ss.length:=by simp at h1;omega
 have h4:i<xss.length:=by simp at h1;omega
 rw[ng];simp[List.getD,h3,h4]
theorem Sat.sM {w0 w:World}{Γ:List HP}{α:Type}{T:Ty α}{e:TypeId}{ss:List Value}{xss:List (List α)}{is:List Nat}(p:is.Perm (List.range xss.length)) (h:Sat w0 w (Ab T e ss xss::Γ)):Sat w0 w (Ab T e (is.map (cU ss)) (is.map fun i=>xss.getD i [])::Γ):=by
 obtain⟨hl,h1⟩:=h.flat;rw[qqz hl]at h1;refine Sat.nA (by simp) ?_;have e2:zipWith (OS T e) (is.map (cU ss)) (is.map fun i=>xss.getD i [])=is.map fun i=>OS T e (cU ss i) (xss.getD i []):=by
  rw[zipWith_map]
  induction is with
  | nil=>rfl
  | cons i is _=>simp[zipWith_self]
 rw[e2];exact h1.perm ((p.symm.map _).append_right _)
theorem qeA {α:Type} [Inhabited α] (enc:α->Value) {pre post:List Value}{xs ys:List α}(hl:ys.length=xs.length) :
  Sort.putCells enc pre.length ys.toArray (pre++xs.map enc++post).toArray=(pre++ys.map enc++post).toArray:=by
 apply Array.ext_getElem?;intro k;simp only[Sort.putCells,Array.getElem?_mapIdx,getElem?_toArray,size_toArray];by_cases h1:k<pre.length
 ·rw[append_assoc,getElem?_append_left h1,append_assoc,getElem?_append_left h1]
  cases pre[k]? with
  | none=>rfl
  | some v=>simp only[Option.map_some];rw[if_neg om]
 ·by_cases h2:k<pre.length+ys.length
  ·have e1:(pre++xs.map enc++post)[k]? = some (enc (xs[k-pre.length]'om)):=by
    rw[append_assoc,getElem?_append_right om,getElem?_append_left (by simp;omega),getElem?_map,getElem?_eq_getElem om];rfl
   have e2:(pre++ys.map enc++post)[k]? = some (enc (ys[k-pre.length]'om)):=by
    rw[append_assoc,getElem?_append_right om,getElem?_append_left (by simp;omega),getElem?_map,getElem?_eq_getElem om];rfl
   rw[e1,e2];simp only[Option.map_some];rw[if_pos om];congr 2;simp[show k-pre.length<ys.length by omega]
  ·have e1:(pre++xs.map enc++post)[k]? = post[k-pre.length-ys.length]? := by
    rw[append_assoc,getElem?_append_right om,getElem?_append_right (by simp;omega)];simp[hl]
   have e2:(pre++ys.map enc++post)[k]? = post[k-pre.length-ys.length]? := by
    rw[append_assoc,getElem?_append_right om,getElem?_append_right (by simp;omega)];simp
   rw[e1,e2]
   cases post[k-pre.length-ys.length]? with
   | none=>rfl
   | some v=>simp only[Option.map_some];rw[if_neg om]
theorem qiZ (vs:List Value):vs.flatMap al.enc=vs:=by
 induction vs with
 | nil=>rfl
 | cons x xs ih=>rw[flatMap_cons,ih];rfl
theorem Sat.yd {α:Type} [Inhabited α] (enc:α->Value) {w0 w:World}{Γ:List HP}{e:TypeId}{s:Value}{xs:List α}(hw:Sat w0 w (OS al e s (xs.map enc)::Γ)) :
  (s=.slice none 0 0/\xs=[])\/∃ b off cap,s=.slice (some ⟨b,off,none⟩) xs.length cap/\xs.length<=cap/\b<w.heap.size/\Sort.Holds enc w b off xs.toArray /\
   ∀ ys:List α,ys.length=xs.length->∀ n,Sat w0 (Sort.putRow enc (Sort.ahead w n) b off ys.toArray) (OS al e s (ys.map enc)::Γ):=by
 obtain⟨h1,hs,ho,hl⟩:=hw.at 0 rfl;rcases ho with ⟨rfl,ew⟩|⟨b,off,n,cap,pre,post,rfl,aN,eW,kg,eZ,iP,hb⟩
 ·left
  refine⟨rfl,?_⟩
  cases xs with
  | nil=>rfl
  | cons x xs=>simp[al]at ew
 ·right
  simp only[cW,length_map]at hl;subst hl;rw[qiZ]at hb;have ca:=(hs b _ hb).1;refine⟨b,off,cap,rfl,kg,(Array.getElem?_eq_some_iff.1 ca).1,fun j hj=>⟨?_,frozen_of_heap ca _⟩,fun ys hy m=>?_⟩
  ·simp only[size_toArray]at hj
   rw[cell_of_heap ca,append_assoc,getElem?_append_right om,getElem?_append_left (by simp;omega),aN,show off+j-off=j by omega,getElem?_map,getElem?_eq_getElem hj];simp[hj]
  ·have e1:Sort.putRow enc (Sort.ahead w m) b off ys.toArray=dq (Sort.ahead w m) b (.cells (pre++ys.map enc++post).toArray e (0,0)):=by
    simp only[Sort.putRow,Sort.mapBlock,dq,Sort.ahead];congr 1;apply Array.ext_getElem?;intro k;have iH:=(Array.getElem?_eq_some_iff.1 ca).1;by_cases hk:b=k
    ·subst hk
     rw[Array.getElem?_modify,if_pos rfl,ca,Array.getElem?_setIfInBounds_self_of_lt iH];simp only[Option.map_some,Sort.onCells];rw[<-aN,qeA enc hy]
    ·rw[Array.getElem?_modify,if_neg hk,Array.getElem?_setIfInBounds_ne hk]
   rw[e1];refine Sat.put (hw.ahead m) fun g hg ⟨lM,rS⟩=>?_;rcases lM with ⟨hn,_⟩|⟨b',off',n',cap',pre',post',ig,mK,rC,rD,mL,rE,eY⟩
   ·cases hn
   ·cases ig
    refine⟨⟨_,eY⟩,.inr ⟨b,off,_,cap,pre,post,rfl,aN,by rw[qiZ];simp[hy,al],kg,eZ,iP,by rw[qiZ];simp[kh]⟩,by simp[cW,hy]⟩
def oV (B:Nat) (h:PH):PH:=fun b=>if b<B then h b else none
structure BL (B:Nat) (w0 w:World) (Γ:List HP):Prop where
 below:Below w0.heap.size w0 w
 sat:Ap Γ (oV B (dw w0 w))
def Rest (B:Nat) (W:World):HP:=fun h=>∀ b,B<=b->b<W.heap.size->h b=W.heap[b]?
theorem Sat.toC {w0 w:World}{Γ:List HP}(h:Sat w0 w Γ):BL w.heap.size w0 w Γ:=by
 refine⟨h.below,h.sat.sub fun b o hb=>?_⟩;have bD:b<w.heap.size:=by
  simp only[dw]at hb;split at hb
  ·cases hb
  ·exact(Array.getElem?_eq_some_iff.1 hb).1
 simp only[oV,if_pos bD];exact hb
theorem BL.tE {B:Nat}{w0 w:World}{Γ:List HP}(h:BL B w0 w Γ):Sat w0 w Γ :=
 ⟨h.below,h.sat.sub fun b o hb=>by
  simp only[oV]at hb;split at hb
  ·exact hb
  ·cases hb⟩
theorem BL.own {β:Type}{B:Nat}{w0:World}{Γ:β->List HP}(hB:w0.heap.size<=B):OwnFrom B (fun s W=>B<=W.heap.size/\BL B w0 W (Γ s)):=by
 rintro s W W' row ⟨hs,hC⟩ hg hr;have hblk:∀ k,k<B->W'.heap[k]? = W.heap[k]? := fun k hk=>hg.block k om fun e=>by
  have:=(hr k e.symm).1;omega
 refine⟨by have:=hg.size;omega,⟨hC.below.os ▸ hg.os,hC.below.tape ▸ hg.tape,hC.below.output ▸ hg.output,by have:=hg.size;have:=hC.below.size;omega,fun k hk=>?_⟩,hC.sat.sub fun b o hb=>?_⟩
 ·rw[hblk k om];exact hC.below.block k hk
 ·simp only[oV,dw]at hb ⊢
  split at hb
  ·rename_i h1
   rw[if_pos h1];split at hb
   ·cases hb
   ·rename_i h2;rw[if_neg h2,hblk b h1];exact hb
  ·cases hb
theorem BL.open {B:Nat}{w0 W:World}{Γ:List HP}(hB:w0.heap.size<=B) (h:BL B w0 W Γ):Sat w0 W (Rest B W::Γ):=by
 refine⟨h.below,fun b=>if b<B then none else W.heap[b]?,oV B (dw w0 W),fun b=>?_,fun b o hb=>?_,fun b o hb=>?_,fun b h1 h2=>?_,h.sat⟩
 ·simp only[oV]
  by_cases hb:b<B
  ·left;rw[if_pos hb]
  ·right;rw[if_neg hb]
 ·simp only at hb
  split at hb
  ·cases hb
  ·simp only[dw];rw[if_neg om];exact hb
 ·simp only[oV]at hb
  split at hb
  ·exact hb
  ·cases hb
 ·show (if b<B then none else W.heap[b]?)=W.heap[b]?
  rw[if_neg om]
theorem Sat.close {B:Nat}{w0 W W':World}{Γ:List HP}(h:Sat w0 W' (Rest B W::Γ)) (eM:W'.heap.size=W.heap.size):BL B w0 W' Γ:=by
 obtain⟨h1,h2,d,s1,s2,hr,hg⟩:=h.sat;refine⟨h.below,hg.sub fun b o hb=>?_⟩;have hn:=s2 b o hb;have bD:b<W'.heap.size:=by
  simp only[dw]at hn;split at hn
  ·cases hn
  ·exact(Array.getElem?_eq_some_iff.1 hn).1
 simp only[oV];by_cases hB:b<B
 ·rw[if_pos hB];exact hn
 ·have:=hr b om om
  rcases d b with hd|hd
  ·rw[this,Array.getElem?_eq_getElem om]at hd;cases hd
  ·rw[hb]at hd;cases hd
theorem Kept.others {w w':World}(h:Kept w w'):KeepsOthers w w':=⟨by rw[h.1];exact Nat.le_refl _,fun k o hk ho=>by
 rw[h.2 k fun cs t f e=>by rw[hk]at e;cases e;cases ho];exact hk⟩
section
variable {P:Program}{ops:Array Oper}{K:Fr->World->Prop}{r:List Oper}{ρ:Fr}{w:World}{d:Nat}{ty:TypeId}{pos:String}{af:Array Edge}
theorem qmR {x:Operand}{xs:List Operand}{ts:Array TypeId}{vs:List Value}{l m:Nat}{R:Ending->World->Prop}(hf:aG ρ x=.func (.yield l) #[] #[]) (hx:xs.map (aG ρ)=vs) (hc:YieldAt Fence.wide m P l vs.toArray w R)
  (h:∀ e w',R e w'->∃ v,e=.returned v/\opsW P ops K r (dD ρ d v) w'):opsW P ops K (⟨some d,.call { callee:=.value x,args:=xs.toArray,argTypes:=ts },ty,pos,af,none⟩::r) ρ w:=by
 refine jr rfl ?_;obtain⟨fn,tmps,assign,body,hy,hR⟩:=hc;have hr:(execOp (aG ρ) ⟨some d,.call { callee:=.value x,args:=xs.toArray,argTypes:=ts },ty,pos,af,none⟩).run P w=.ok (.round l fn tmps assign body) w:=by
  simp only[execOp,resolve,Sem.run_bind,hf,Deferred.ofValue,Sem.run_pure,Result.andThen_ok,invoke];have:#[]++Array.map (aG ρ) xs.toArray=vs.toArray:=by simp[hx]
  rw[this];exact hy
 simp only[opW,hr,bC];refine⟨hR.1,fun c cs _=>?_⟩;obtain⟨e,w',hRe,gg⟩:=hR.2 c cs (room_wide _);refine⟨e,w',?_,gg⟩;obtain⟨v,rfl,hk⟩:=h e w' hRe;exact hk
theorem qvc {a b:Act}(hs:a.tmps.size=b.tmps.size) (hf:fr a=fr b) (hd:a.defers=b.defers):a=b:=by
 obtain⟨t,d⟩:=a;obtain⟨t',d'⟩:=b;simp only at hs hd;subst hd;congr 1;apply Array.ext hs;intro i h1 h2;have:=congrFun hf i;simp only[fr]at this;rw[Array.getD_eq_getD_getElem?,Array.getD_eq_getD_getElem?,Array.getElem?_eq_getElem h1,Array.getElem?_eq_getElem h2]at this
 simpa using this
theorem qt1 {t:Array Value}{ds:List Deferred}{p q:Nat}{v u:Value}(hp:p<t.size) (hq:q<t.size):fr { tmps:=(#[p,q].zip #[v,u]).foldl (fun t (p,v)=>t.setIfInBounds p v) t,defers:=ds }=dD (dD (fr ⟨t,ds⟩) p v) q u:=by
 have h1:=te (a:=⟨t,ds⟩) (d:=some p) (v:=v) (fun _ e=>by cases e;exact hp);have h2:=te (a:=(⟨t,ds⟩:Act).put (some p) v) (d:=some q) (v:=u) (fun _ e=>by cases e;simpa [Act.put] using hq);rw[h1]at h2;have e:(#[p,q].zip #[v,u]).foldl (fun t (p,v)=>t.setIfInBounds p v) t=(t.setIfInBounds p v).setIfInBounds q u:=by simp
 rw[e];exact h2
theorem qiJ {t:Array Value}{p q:Nat}{v u:Value}:((#[p,q].zip #[v,u]).foldl (fun t (p,v)=>t.setIfInBounds p v) t).size=t.size:=by simp
theorem qdw {ro:Option Nat}{m n:Nat}{x y:Code}{Q:Exit->Act->World->Prop}{a:Act}(hm:P.follows .mixedOrders=true) (cL:fits n x=true) (hs:a.tmps.size=n) (hd:a.defers=[])
  (h:vc P x (Thn (fun ρ w=>∀ a',a'.tmps.size=n->a'.defers=[]->fr a'=ρ->y.wpIn (fw ro) m P Q a' w) (fun _ _ _=>False)) (fr a) w):(Code.seq x y).wpIn (fw ro) m P Q a w:=by
 refine wpIn_seq (wpIn_mono (tm hm x cL _ a w hs hd h) fun e a' w' hq=>?_);obtain⟨h1,h2,h3⟩:=hq
 cases e with
 | normal=>exact h3 a' h1 h2 rfl
 | _=>exact h3.elim
theorem qp2 {args:List Value}{n:Nat}:fr { tmps:=args.toArray++Array.replicate (n-args.toArray.size) undef,defers:=[] }=rj args:=by
 funext t
 simp only[fr,rj];rcases Nat.lt_or_ge t args.length with ht|ht
 ·simp[Array.getElem?_append_left,ht]
 ·simp[Array.getElem?_append_right,ht]
  rcases Nat.lt_or_ge (t-args.length) (n-args.length) with h1|h1
  ·simp[h1]
  ·simp[h1]
theorem qmS {Q:Exit->Fr->World->Prop}{w0:World}{Γ:List HP}{i:Nat}{l:List Oper}(hw:Sat w0 w Γ) (hc:my P l.toArray=true) (h:∀ w',Kept w w'->Sat w0 w' Γ->opsW P l.toArray (Q .normal) l ρ w'):vc P (.region i l.toArray true) Q ρ w :=
 .inl ⟨hc,h _ ⟨rfl,fun _ _=>rfl⟩ hw.drew⟩
theorem qfp {ro:Option Nat}{m id s:Nat}{K:Act->World->Prop}{a:Act}(hm:P.follows .mixedOrders=true) (hs:d<a.tmps.size) (hd:a.defers=[]) (h:K (a.put (some d) (fr a s)) w) :
  (Code.region id #[⟨some d,.assign (.tmp s),ty,pos,af,none⟩] false).wpIn (fw ro) m P (Exit.then K (fun _ _ _=>False)) a w:=by
 refine wpIn_mono (tm (n:=a.tmps.size) hm _ (by simp[fits,fI,hs]) (fun e ρ' w'=>e=.normal/\ρ'=dD (fr a) d (fr a s)/\w'=w) a w rfl hd ?_) fun e a' w' hq=>?_
 ·refine qu (l:=[_]) ?_
  exact eD rfl (qgK rfl) ⟨rfl,rfl,rfl⟩
 ·obtain⟨h1,h2,rfl,h3,rfl⟩:=hq
  have e:a'=a.put (some d) (fr a s):=by
   refine qvc (by rw[size_put];exact h1) ?_ (by rw[xd,hd];exact h2);rw[h3,te (fun t e=>by cases e;exact hs)];rfl
  rw[e];exact h
theorem qdY {W:World}{l:Nat}{o o':Obj}{p:Addr}{v:Value}(hl:W.heap[l]? = some o) (ho:o.isCells=false) (h:W.cell? p=some v):(W.putObj l o').cell? p=some v:=by
 have cY:l≠p.block:=fun e=>by
  subst e;simp only[World.cell?,hl]at h;cases o<;>simp_all[Obj.isCells]
 simp only[World.cell?,World.putObj]at h ⊢;rw[Array.getElem?_setIfInBounds_ne cY];exact h
theorem qj3 {α:Type}{T:Ty α}{W:World}{l:Nat}{o o':Obj}{s:Value}{xs:List α}(hl:W.heap[l]? = some o) (ho:o.isCells=false) (h:RS T W s xs):RS T (W.putObj l o') s xs:=by
 obtain⟨⟨a,n,cap,hs,h1,h2,hc⟩,h3⟩:=h;refine⟨⟨a,n,cap,hs,h1,h2,fun i v hv=>?_⟩,h3⟩;obtain⟨p,hp,iE,eS⟩:=hc i v hv;exact⟨p,hp,iE,qdY hl ho eS⟩
end
end
section
def Dr (n:Nat) (w:World):Prop:=n<=w.drawn
theorem Dr.refl (w:World):Dr w.drawn w:=Nat.le_refl _
theorem sV {w w':World}{Γ:List HP}(h:Sat w w' Γ) (hd:Dr w.drawn w'):∃ (q:Nat) (os:Array Obj),w'=Sort.grow (w.drewN q) os:=by
 obtain⟨h1,h2,h3,h4,h5⟩:=h.below;refine⟨w'.drawn-w.drawn,w'.heap.extract w.heap.size w'.heap.size,?_⟩
 cases w with
 | mk hp tp dn os out =>
  cases w' with
  | mk hp' tp' dn' os' out' =>
   simp only at h1 h2 h3 h4 h5;unfold Dr at hd;simp only at hd;subst h1 h2 h3;simp only[Sort.grow,World.drewN,World.mk.injEq,true_and,and_true];refine⟨?_,by omega⟩;apply Array.ext_getElem?;intro i;by_cases hi:i<hp.size
   ·rw[Array.getElem?_append_left hi];exact h5 i hi
   ·rw[Array.getElem?_append_right om,Array.getElem?_extract]
    split
    ·congr 1;omega
    ·rw[Array.getElem?_eq_none om]
section
variable {P:Program}{ops:Array Oper}{K:Fr->World->Prop}{Q:Exit->Fr->World->Prop}{r:List Oper}{ρ:Fr}{w w0:World}{d:Nat}{ty:TypeId}{pos:String}{af:Array Edge}{x y:Operand}{t:TypeId}{Γ:List HP}{α:Type}{N:Nat}
theorem qio {i:Nat}{l:List Oper}(is:List Item) (hw:Sat w0 w Γ) (hd:Dr N w) (hc:lI P l.toArray is=true) (h:∀ w',Sat w0 w' Γ->Dr N w'->opsD P l.toArray (Q .normal) is ρ w'):vc P (.region i l.toArray true) Q ρ w :=
 .inr (.inl ⟨is,hc,h _ hw.drew (le_succ_of_le hd)⟩)
theorem qeR {vs:List Value}(hx:aG ρ x=.agg vs.toArray) (hw:Sat w0 w Γ) (hd:Dr N w) (h:∀ p w',Sat w0 w' (Ad p t vs::Γ)->Dr N w'->opsW P ops K r (dD ρ d (.pointer (some p))) w'):opsW P ops K (⟨some d,.box t x,ty,pos,af,none⟩::r) ρ w:=by
 refine jr rfl ?_;simp only[opW,execOp,Instr.box,Sem.run_bind,Result.andThen_ok,newVar,newRow,run_newObj,Sem.run_pure,bC,hx];exact h ⟨w.heap.size,0,none⟩ _ (hw.push (o:=.cells (Value.agg vs.toArray).cells t) ⟨rfl,rfl,by simp[Value.cells]⟩) hd
theorem qck {T:Ty α}(xs:List α) (vs:List Value) {e sz by_ len:Nat}{parts:List (Nat × Operand)}{zs:List Value} [S:Ah P t e sz by_] [Z:Ai P e zs] (hp:(parts.map fun p=>(p.1,aG ρ p.2))=(vs.zipIdx 0).map fun x=>(x.2,x.1))
  (hx:vs.flatMap (·.cells.toList)=xs.flatMap T.enc) (iu:vs.all (fun v=>v.cells.size == sz)=true) (hlen:vs.length=len) (ku:xs.length=len) (sr:len*sz<=16777216) (ij:0<len*sz) (eZ:len<=16777216) (hw:Sat w0 w Γ) (hd:Dr N w)
  (h:∀ s w',Sat w0 w' (OS T e s xs::Γ)->Dr N w'->opsW P ops K r (dD ρ d s) w'):opsW P ops K (⟨some d,.buildSlice t len parts.toArray,ty,pos,af,none⟩::r) ρ w:=by
 refine jr rfl ?_;obtain⟨zv,rA,ns⟩:=Z.zero;have:(Array.map (fun x:Nat × Operand=>match x with|(i,x)=>(i,aG ρ x)) parts.toArray)=((vs.zipIdx 0).map fun x=>(x.2,x.1)).toArray:=by rw[<-hp];simp
 have h0:¬(len*sz=0):=by omega
 have h1:¬(len*sz>2 ^ 24):=by omega
 have hf:Instr.fill (fun i=>some (i*sz,sz)) ((Array.range (len*sz)).map (zs.toArray[· % zs.toArray.size]!)) ((vs.zipIdx 0).map fun x=>(x.2,x.1))=some (xs.flatMap T.enc).toArray:=by
  have:=qfP (sz:=sz) vs 0 [] ((Array.range (len*sz)).map (zs.toArray[· % zs.toArray.size]!)).toList (fun v hv=>by simpa using all_eq_true.1 iu v hv) (by simp) (by simp[hlen]);rw[hx]at this;simp only[nil_append,Array.toArray_toList]at this;exact this
 simp only[opW,execOp,this,Instr.buildSlice,Sem.run_bind,run_underlying S.eU,Result.andThen_ok,S.size,h1,if_false,h0,Sem.run_pure,ns,rA];rw[hf];simp only[Sem.run_bind,newRow,run_newObj,Result.andThen_ok,Sem.run_pure,bC];exact h _ _ (w6 (e:=e) (by simp) ku (by unfold bo;omega) rfl hw) hd
end
section
variable {P:Program}{ops:Array Oper}{K:Fr->World->Prop}{r:List Oper}{ρ:Fr}{w w0:World}{ty:TypeId}{pos:String}{af:Array Edge}{x y:Operand}{t:TypeId}{Γ:List HP}{α:Type}{T:Ty α}{s:Value}{xs:List α}
theorem qoh {i j:Nat}{e:TypeId}{x':α}(hv:(T.enc x').all Value.oneCell'=true) (hw:Sat w0 w Γ) (hi:Γ[i]? = some (OS T e s xs)) (hj:j<xs.length) :
  ∃ w',(storeCells (eX T s j) (T.enc x')).run P w=.ok () w'/\Sat w0 w' (Γ.set i (OS T e s (xs.set j x'))):=by
 obtain⟨h1,hs,ho,hl⟩:=hw.at i hi;have hlen:=T.len xs;rcases ho with ⟨rfl,ew⟩|⟨b,off,n,cap,pre,post,rfl,aN,eW,kg,eZ,iP,hb⟩
 ·simp only[cW]at hl;omega
 ·have zj:(j+1)*T.sz<=(xs.flatMap T.enc).length:=by
   rw[hlen];exact mul_le_mul_right _ hj
  rw[Nat.add_mul,Nat.one_mul]at zj;have br:=T.ok x';have ga:eX T (.slice (some ⟨b,off,none⟩) n cap) j=⟨b,off+j*T.sz,none⟩:=rfl;rw[ga];have qxd:(xs.set j x').flatMap T.enc=(xs.flatMap T.enc).take (j*T.sz)++T.enc x'++(xs.flatMap T.enc).drop (j*T.sz+T.sz):=by
   rw[set_eq_take_append_cons_drop,if_pos hj,flatMap_append,flatMap_cons,T.take,show j*T.sz+T.sz=(j+1)*T.sz by rw[Nat.add_mul,Nat.one_mul],T.drop,append_assoc]
  have fZ:((pre++xs.flatMap T.enc++post).take (off+j*T.sz+0)++T.enc x'++(pre++xs.flatMap T.enc++post).drop (off+j*T.sz+0+(T.enc x').length))=pre++(xs.set j x').flatMap T.enc++post:=by
   rw[qxd,br];have a1:(pre++xs.flatMap T.enc++post).take (off+j*T.sz+0)=pre++(xs.flatMap T.enc).take (j*T.sz):=by
    rw[append_assoc,take_append,take_of_length_le om,take_append,show off+j*T.sz+0-pre.length=j*T.sz by omega,Nat.sub_eq_zero_of_le (show j*T.sz<=(xs.flatMap T.enc).length by omega),take_zero,append_nil]
   have a2:(pre++xs.flatMap T.enc++post).drop (off+j*T.sz+0+T.sz)=(xs.flatMap T.enc).drop (j*T.sz+T.sz)++post:=by
    rw[append_assoc,drop_append,drop_eq_nil_of_le om,nil_append,drop_append,show off+j*T.sz+0+T.sz-pre.length=j*T.sz+T.sz by omega,Nat.sub_eq_zero_of_le (show j*T.sz+T.sz<=(xs.flatMap T.enc).length by omega),drop_zero]
   rw[a1,a2];simp only[append_assoc]
  refine⟨dq w b (.cells (pre++(xs.set j x').flatMap T.enc++post).toArray e (0,0)),?_,?_⟩
  ·have:=uB (P:=P) (b:=b) (bt:=e) (T.enc x') (off+j*T.sz) 0 _ w (by simpa using hv) (by simp only[length_append];omega) (hs b _ hb).1
   rw[this,<-fZ]
  ·have kD:=T.len (xs.set j x')
   refine(Sat.put (hw.focus i hi) fun g hg ⟨lM,rS⟩=>?_).back i hi;rcases lM with ⟨hn,_⟩|⟨b',off',n',cap',pre',post',ig,mK,rC,rD,mL,rE,eY⟩
   ·cases hn
   ·cases ig
    refine⟨⟨_,eY⟩,.inr ⟨b,off,n,cap,pre,post,rfl,aN,by rw[kD,length_set,<-hlen,eW],kg,eZ,iP,by simp[kh]⟩,by rw[length_set];exact hl⟩
theorem zO {j n:Nat}{e:TypeId}{x':α}{put:HP->List HP} [A:AH P t n] (hx:aG ρ x=.pointer (some (eX T s j))) (hy:aG ρ y=.agg (T.enc x').toArray) (hn:n=T.sz) (hv:(T.enc x').all Value.oneCell'=true) (hw:Sat w0 w Γ) (O:AT Γ s α T e xs put) (hj:j<xs.length)
  (h:∀ w',Sat w0 w' (put (OS T e s (xs.set j x')))->opsW P ops K r ρ w'):opsW P ops K (⟨none,.store t x y,ty,pos,af,none⟩::r) ρ w:=by
 refine jr rfl ?_;obtain⟨i,hi,cO⟩:=O.j3.ok;simp only[cO]at h;obtain⟨w',hr,hs⟩:=qoh (P:=P) hv hw hi hj;exact zk hx hy (fun w=>by rw[A.agg.2];simp[Value.cells,hn,T.ok]) (by simpa [Value.cells] using hr) (h _ hs)
end
section
variable {P:Program}{ops:Array Oper}{K:Fr->World->Prop}{r:List Oper}{ρ:Fr}{w w0:World}{ty:TypeId}{pos:String}{af:Array Edge}{x y:Operand}{t:TypeId}{Γ:List HP}{α:Type}{T:Ty α}{s:Value}{xs:List α}
theorem qsO {β:Type}(A B C:List β) (k:Nat) (hk:k<=B.length):(A++(B++C)).take (A.length+k)=A++B.take k:=by
 rw[take_append,take_of_length_le om,Nat.add_sub_cancel_left,take_append,Nat.sub_eq_zero_of_le hk,take_zero,append_nil]
theorem qsP {β:Type}(A B C:List β) (k:Nat) (hk:k<=B.length):(A++(B++C)).drop (A.length+k)=B.drop k++C:=by
 rw[drop_append,drop_eq_nil_of_le om,nil_append,Nat.add_sub_cancel_left,drop_append,Nat.sub_eq_zero_of_le hk,drop_zero]
end
end
section
open Go.RowKit (Below)
theorem qfH {α:Type} [Inhabited α] (T:Ty α) (xs:List α):Sort.flatK T.enc T.sz xs.toArray=(xs.flatMap T.enc).toArray:=by
 refine Sort.ext_get! (by simp[T.len]) fun t ht=>?_;have eF:t<xs.length*T.sz:=by simpa using ht
 have k0:0<T.sz:=by
  rcases eq_zero_or_pos T.sz with h|h
  ·rw[h]at eF;omega
  ·exact h
 have hq:t / T.sz<xs.length:=Nat.div_lt_of_lt_mul (by rwa[Nat.mul_comm]);have hg:=T.get xs (t / T.sz) (t % T.sz) hq (mod_lt _ k0);rw[show t / T.sz*T.sz+t % T.sz=t from by rw[Nat.mul_comm];exact div_add_mod t T.sz]at hg;rw[Sort.get_flatK _ _ _ _ (by simpa using eF)];have e:xs.toArray[t / T.sz]! = xs.getD (t / T.sz) T.dflt:=by simp[hq,List.getD]
 rw[e];simp only[getElem!_toArray,getElem!_eq_getElem?_getD,hg]
theorem Sat.qwT {α:Type} [Inhabited α] {T:Ty α}{w0 w:World}{Γ:List HP}{e:TypeId}{s:Value}{xs:List α}(hT:0<T.sz) (hw:Sat w0 w (OS T e s xs::Γ)) :
  (s=.slice none 0 0/\xs=[])\/∃ b off cap,s=.slice (some ⟨b,off,none⟩) xs.length cap/\xs.length<=cap/\b<w.heap.size/\Sort.HoldsK T.enc T.sz w b off xs.toArray /\
   ∀ ys:List α,ys.length=xs.length->∀ n os,Sat w0 (Go.Proofs.sortWorldK T.enc T.sz w b off n ys.toArray os) (OS T e s ys::Γ):=by
 obtain⟨h1,hs,ho,hl⟩:=hw.at 0 rfl;rcases ho with ⟨rfl,ew⟩|⟨b,off,n,cap,pre,post,rfl,aN,eW,kg,eZ,iP,hb⟩
 ·left
  refine⟨rfl,?_⟩;have:=T.len xs;rw[ew]at this;rcases eq_zero_or_pos xs.length with h|h
  ·exact eq_nil_of_length_eq_zero h
  ·have:=Nat.mul_pos h hT;simp only[length_nil]at *;omega
 ·right
  simp only[cW]at hl;subst hl;have ca:=(hs b _ hb).1;refine⟨b,off,cap,rfl,kg,(Array.getElem?_eq_some_iff.1 ca).1,fun j hj=>⟨?_,frozen_of_heap ca _⟩,fun ys hy m os=>?_⟩
  ·rw[qfH]at hj ⊢
   simp only[size_toArray]at hj;rw[cell_of_heap ca,append_assoc,getElem?_append_right om,getElem?_append_left om,aN,show off+j-off=j by omega,getElem?_eq_getElem hj];simp only[id,getElem!_toArray,getElem!_eq_getElem?_getD,getElem?_eq_getElem hj,Option.getD_some]
  ·refine Sat.grow ?_ os
   have nh:(ys.flatMap T.enc).length=(xs.flatMap T.enc).length:=by rw[T.len,T.len,hy]
   have e1:Sort.putRowK T.enc T.sz (Sort.ahead w m) b off ys.toArray=dq (Sort.ahead w m) b (.cells (pre++ys.flatMap T.enc++post).toArray e (0,0)):=by
    unfold Sort.putRowK;rw[qfH];simp only[Sort.putRow,Sort.mapBlock,dq,Sort.ahead];congr 1;apply Array.ext_getElem?;intro k;have iH:=(Array.getElem?_eq_some_iff.1 ca).1;by_cases hk:b=k
    ·subst hk
     rw[Array.getElem?_modify,if_pos rfl,ca,Array.getElem?_setIfInBounds_self_of_lt iH];have hm:=qeA id (pre:=pre) (post:=post) nh;simp only[map_id]at hm;simp only[Option.map_some,Sort.onCells];rw[<-aN,hm]
    ·rw[Array.getElem?_modify,if_neg hk,Array.getElem?_setIfInBounds_ne hk]
   rw[e1];refine Sat.put (hw.ahead m) fun g hg ⟨lM,rS⟩=>?_;rcases lM with ⟨hn,_⟩|⟨b',off',n',cap',pre',post',ig,mK,rC,rD,mL,rE,eY⟩
   ·cases hn
   ·cases ig
    refine⟨⟨_,eY⟩,.inr ⟨b,off,_,cap,pre,post,rfl,aN,by rw[T.len,hy],kg,eZ,iP,by simp[kh]⟩,by simp[cW,hy]⟩
theorem qn1 {α:Type} [Inhabited α] (enc:α->Value) (w:World) (b off:Nat) (ys:List α):Sort.putRow enc w b off ys.toArray=Sort.putRow id w b off (ys.map enc).toArray:=by
 unfold Sort.putRow;congr 1
 funext c
 apply Array.ext_getElem?;intro k;simp only[Sort.putCells,Array.getElem?_mapIdx,size_toArray,length_map]
 cases c[k]? with
 | none=>rfl
 | some v =>
  simp only[Option.map_some];split
  ·rename_i h
   have h1:k-off<ys.length:=by omega
   simp[h1]
  ·rfl
section
variable {P:Program}{ops:Array Oper}{K:Fr->World->Prop}{r:List Oper}{ρ:Fr}{w w0:World}{d:Nat}{dst:Option Nat}{ty:TypeId}{pos:String}{af:Array Edge}{x:Operand}{t:TypeId}{Γ:List HP}{α:Type}{T:Ty α}{s:Value}{xs:List α}
theorem qn2 {i j:Nat}{e:TypeId}{zs:List α}(hv:∀ v∈zs.flatMap T.enc,v.oneCell'=true) (hw:Sat w0 w Γ) (hi:Γ[i]? = some (OS T e s xs)) (h0:0<zs.length) (hj:j+zs.length<=xs.length) :
  ∃ w',(storeCells (eX T s j) (zs.flatMap T.enc)).run P w=.ok () w'/\Sat w0 w' (Γ.set i (OS T e s (xs.take j++zs++xs.drop (j+zs.length)))):=by
 obtain⟨h1,hs,ho,hl⟩:=hw.at i hi;have hlen:=T.len xs;rcases ho with ⟨rfl,ew⟩|⟨b,off,n,cap,pre,post,rfl,aN,eW,kg,eZ,iP,hb⟩
 ·simp only[cW]at hl;omega
 ·have ga:eX T (.slice (some ⟨b,off,none⟩) n cap) j=⟨b,off+j*T.sz,none⟩:=rfl
  rw[ga];have iF:xs.flatMap T.enc=(xs.take j).flatMap T.enc++((xs.drop j).take zs.length).flatMap T.enc++(xs.drop (j+zs.length)).flatMap T.enc:=by
   conv=>lhs;rw[<-take_append_drop j xs,<-take_append_drop zs.length (xs.drop j)]
   rw[flatMap_append,flatMap_append,drop_drop,append_assoc]
  have hAl:((xs.take j).flatMap T.enc).length=j*T.sz:=by rw[T.len,length_take,Nat.min_eq_left om]
  have yu:(((xs.drop j).take zs.length).flatMap T.enc).length=zs.length*T.sz:=by rw[T.len,length_take,length_drop,Nat.min_eq_left om]
  have hZl:=T.len zs;have fZ:((pre++xs.flatMap T.enc++post).take (off+j*T.sz+0)++zs.flatMap T.enc++(pre++xs.flatMap T.enc++post).drop (off+j*T.sz+0+(zs.flatMap T.enc).length))=pre++(xs.take j++zs++xs.drop (j+zs.length)).flatMap T.enc++post:=by
   have e0:pre++xs.flatMap T.enc++post=(pre++(xs.take j).flatMap T.enc)++(((xs.drop j).take zs.length).flatMap T.enc++((xs.drop (j+zs.length)).flatMap T.enc++post)):=by
    rw[iF];simp only[append_assoc]
   have e1:off+j*T.sz+0=(pre++(xs.take j).flatMap T.enc).length+0:=by rw[length_append,hAl,aN]
   have e2:off+j*T.sz+0+(zs.flatMap T.enc).length=(pre++(xs.take j).flatMap T.enc).length+(zs.length*T.sz):=by rw[length_append,hAl,aN,hZl];omega
   rw[e0,e2,e1,qsO _ _ _ _ (zero_le _),qsP _ _ _ _ om];simp only[take_zero,append_nil,flatMap_append,append_assoc];rw[drop_eq_nil_of_le om,nil_append]
  have qyo:off+j*T.sz+0+(zs.flatMap T.enc).length<=(pre++xs.flatMap T.enc++post).length:=by
   have:(j+zs.length)*T.sz<=(xs.flatMap T.enc).length:=by rw[hlen];exact mul_le_mul_right _ hj
   rw[Nat.add_mul]at this;simp only[length_append];omega
  have kD:=T.len (xs.take j++zs++xs.drop (j+zs.length));have jv:(xs.take j++zs++xs.drop (j+zs.length)).length=xs.length:=by simp only[length_append,length_take,length_drop];omega
  refine⟨dq w b (.cells (pre++(xs.take j++zs++xs.drop (j+zs.length)).flatMap T.enc++post).toArray e (0,0)),?_,?_⟩
  ·have:=uB (P:=P) (b:=b) (bt:=e) (zs.flatMap T.enc) (off+j*T.sz) 0 _ w hv qyo (hs b _ hb).1
   rw[this,<-fZ]
  ·refine(Sat.put (hw.focus i hi) fun g hg ⟨lM,rS⟩=>?_).back i hi
   rcases lM with ⟨hn,_⟩|⟨b',off',n',cap',pre',post',ig,mK,rC,rD,mL,rE,eY⟩
   ·cases hn
   ·cases ig
    refine⟨⟨_,eY⟩,.inr ⟨b,off,n,cap,pre,post,rfl,aN,by rw[kD,jv,<-hlen,eW],kg,eZ,iP,by simp[kh]⟩,by rw[jv];exact hl⟩
theorem qmJ {e sz by_ j:Nat}{zs:List Value}{z:α}{put:HP->List HP} [S:Ah P t e sz by_] [Z:Ai P e zs] (hx:aG ρ x=ssub s T.sz j xs.length) (eM:sz=T.sz) (hz:T.enc z=zs) (hv:zs.all Value.oneCell'=true) (hw:Sat w0 w Γ) (O:AT Γ s α T e xs put) (hj:j<=xs.length)
  (h:∀ w',Sat w0 w' (put (OS T e s (xs.take j++replicate (xs.length-j) z)))->opsW P ops K r (fh ρ dst (.tuple #[])) w'):opsW P ops K (⟨dst,.call { callee:=.builtin .clear,args:=#[x],argTypes:=#[t] },ty,pos,af,none⟩::r) ρ w:=by
 refine jr rfl ?_;subst eM;obtain⟨i,hi,cO⟩:=O.j3.ok;simp only[cO]at h;obtain⟨zv,vl,ns⟩:=Z.zero;obtain⟨a,cap,hs⟩:=(hw.rs i hi).shape;subst hs;simp only[opW];by_cases he:j=xs.length
 ·subst he
  have hr:(execOp (aG ρ) ⟨dst,.call { callee:=.builtin .clear,args:=#[x],argTypes:=#[t] },ty,pos,af,none⟩).run P w=.ok (.value (.tuple #[])) w:=by
   simp only[ssub,Nat.sub_self]at hx
   cases hq:(if cap=xs.length then a else Option.map (fun x=>x.add (xs.length*T.sz)) a) with
   | none=>rw[hq]at hx;simp[execOp,resolve,invoke,builtin,Builtin.clear_,hx,run_underlying S.eU]
   | some p=>rw[hq]at hx;simp[execOp,resolve,invoke,builtin,Builtin.clear_,hx,run_underlying S.eU]
  rw[hr];refine h w ?_;rw[Nat.sub_self,replicate_zero,append_nil,take_of_length_le (Nat.le_refl _)];rw[show Γ.set i (OS T e (.slice a xs.length cap) xs)=Γ from ?_]
  ·exact hw
  ·apply ext_getElem?
   intro k;by_cases hk:i=k
   ·subst hk;rw[getElem?_set_self (List.getElem?_eq_some_iff.1 hi).1,hi]
   ·rw[getElem?_set_ne hk]
 ·have hR:(replicate (xs.length-j) z).length=xs.length-j:=length_replicate
  obtain⟨w',cu,qwU⟩:=qn2 (P:=P) (T:=T) (j:=j) (zs:=replicate (xs.length-j) z) (fun v iD=>by
   obtain⟨z',rA,qwV⟩:=mem_flatMap.1 iD;rw[(mem_replicate.1 rA).2,hz]at qwV
   exact all_eq_true.1 hv v qwV) hw hi om om
  rw[hR,show j+(xs.length-j)=xs.length from by omega,drop_eq_nil_of_le (Nat.le_refl _),append_nil]at qwU;obtain⟨p,cap',iE,qQ⟩:∃ p cap',Value.slice a xs.length cap=.slice (some p) xs.length cap'/\p.spot=none:=by
   obtain⟨h1,_,ho,hl⟩:=hw.at i hi;rcases ho with ⟨hn,ew⟩|⟨b,off,n,cap2,pre,post,hn,_⟩
   ·rw[hn]at hl;simp only[cW]at hl;omega
   ·injection hn with e1 e2 e3
    subst e1;exact⟨⟨b,off,none⟩,cap,rfl,rfl⟩
  cases iE;have kg:xs.length<=cap:=by
   obtain⟨_,n,c,hh,_,⟨h1,_⟩,_⟩:=(hw.rs i hi).1;cases hh;exact h1
  have hr:(execOp (aG ρ) ⟨dst,.call { callee:=.builtin .clear,args:=#[x],argTypes:=#[t] },ty,pos,af,none⟩).run P w=.ok (.value (.tuple #[])) w':=by
   have cY:¬cap=j:=by omega
   have hx2:aG ρ x=.slice (some (p.add (j*T.sz))) (xs.length-j) (cap-j):=by rw[hx];simp[ssub,cY]
   obtain⟨m,hm⟩:∃ m,xs.length-j=m+1:=⟨xs.length-j-1,by omega⟩
   have hzc:(Builtin.zeroCells zv.cells (xs.length-j)).toList=(replicate (xs.length-j) z).flatMap T.enc:=by
    have hze:=qgz (T:=T) hz (xs.length-j);have e:T.sz=zs.toArray.size:=by rw[<-hz];simp[T.ok]
    rw[e]at hze;unfold Builtin.zeroCells;rw[vl];exact hze
   rw[hm]at hx2 hzc;have ga:p.add (j*T.sz)=eX T (.slice (some p) xs.length cap) j:=by rw[qen qQ];rfl
   rw[hm]at cu;simp only[execOp,resolve,invoke,builtin,Builtin.clear_];simp[hx2,run_underlying S.eU,ns,hzc,ga,cu]
  rw[hr];exact h w' qwU
theorem qsq (T:Ty α) (z:α) {y:Operand}{e sz by_:Nat}{n:Int}{zs:List Value} [S:Ah P t e sz by_] [Z:Ai P e zs] (hx:aG ρ x=.int .i64 n) (hy:aG ρ y=.int .i64 n) (eM:sz=T.sz) (hz:T.enc z=zs) (h0:0<=n) (hb:by_*n<=281474976710656) (hn:n<=281474976710656) (hw:Sat w0 w Γ)
  (h:∀ b w',Sat w0 w' (OS T e (.slice (some ⟨b,0,none⟩) n.toNat n.toNat) (replicate n.toNat z)::Γ)->opsW P ops K r (dD ρ d (.slice (some ⟨b,0,none⟩) n.toNat n.toNat)) w'):opsW P ops K (⟨some d,.makeSlice t x y,ty,pos,af,none⟩::r) ρ w:=by
 refine jr rfl ?_;subst eM;obtain⟨zv,rA,ns⟩:=Z.zero;obtain⟨i,hi,hs,vk⟩:=S.info;have hwr:IntKind.i64.wrap n=n:=vt om om;have tn:((n<0 || (i.bytes:Int)*n>2 ^ 48) || n<0 || n>n)=false:=by simp[vk];omega
 simp only[opW,execOp,hx,hy,Instr.makeSlice,Sem.run_bind,run_underlying S.eU,Result.andThen_ok,asInt,asIntOf,Sem.run_pure,typeInfo,run_program,hi,hwr,tn,Bool.false_eq_true,if_false,run_askRoom,S.size];have lR:∀ (z0:Array Value),(n.toNat*T.sz=0\/z0=zs.toArray)->((Array.range (n.toNat*T.sz)).map (z0[· % z0.size]!)).toList=(replicate n.toNat z).flatMap T.enc:=by
  intro z0 h;rcases h with h|h
  ·rw[h]
   have:((replicate n.toNat z).flatMap T.enc).length=0:=by rw[T.len];simpa using h
   rw[eq_nil_of_length_eq_zero this];simp
  ·rw[h];exact qgz hz n.toNat
 by_cases ml:n.toNat*T.sz=0
 ·simp only[ml,if_true,Sem.run_pure,Result.andThen_ok,newRow,Sem.run_bind,run_newObj,bC]
  have:=lR #[] (.inl ml);rw[ml]at this;exact h _ _ (w6 (T:=T) (e:=e) (by rw[this];simp) (by simp) (by unfold bo;omega) rfl hw)
 ·simp only[ml,if_false,Sem.run_bind,ns,Sem.run_pure,Result.andThen_ok,newRow,run_newObj,bC,rA]
  exact h _ _ (w6 (T:=T) (e:=e) (by rw[lR _ (.inr rfl)];simp) (by simp) (by unfold bo;omega) rfl hw)
end
end
section
def sL (P:Program) (t:Nat):Bool:=match P.underlying t with
 | some (.array 2 e)=>qz P e && (match P.underlying e with|some (.int _)=>true|_=>false) && !P.eqGuardType P.depth t
 | _=>false
class B9 (P:Program) (t:Nat):Prop where
 ok:sL P t=true
class C6 (P:Program) (t:Nat) {α:Type} [DecidableEq α] (T:Ty α):Prop where
 ok:∀ (a b:α) (w:World),(Op.equalIn 10000 t (.agg (T.enc a).toArray) (.agg (T.enc b).toArray)).run P w=.ok (decide (a=b)) w/\P.eqGuardType P.depth t=false
section
variable {P:Program}{ρ:Fr}{w:World}{ty:TypeId}{pos:String}{af:Array Edge}{g:Option (Nat × Bool)}{dst:Option Nat}{x y:Operand}{t t':TypeId}
theorem B9.run (T:B9 P t) {a b c d:Int}(w:World):(Op.equalIn 10000 t (.agg #[.int .i64 a,.int .i64 b]) (.agg #[.int .i64 c,.int .i64 d])).run P w=.ok (decide ((a,b)=(c,d))) w/\P.eqGuardType P.depth t=false:=by
 have h:=T.ok;simp only[sL]at h;split at h
 ·rename_i e hd
  simp only[Bool.and_eq_true,Bool.not_eq_true']at h;obtain⟨⟨h1,h2⟩,h3⟩:=h;have C:An P e:=⟨h1⟩
  refine⟨?_,h3⟩;split at h2
  ·rename_i kd hk
   have p1:∀ u v:Int,(part e #[.int .i64 u,.int .i64 v] 0).run P w=.ok (.int .i64 u) w:=fun u v=>by simp[part,C.plain.1]
   have p2:∀ u v:Int,(part e #[.int .i64 u,.int .i64 v] 1).run P w=.ok (.int .i64 v) w:=fun u v=>by simp[part,C.plain.1]
   have q:=fun u v:Int=>run_equalIn_int w 9998 e .i64 kd u v hk;rw[show (10000:Nat)=9999+1 from rfl];rw[show (9998+1:Nat)=9999 from rfl]at q;generalize (9999:Nat)=N at q;simp only[Op.equalIn,Sem.run_bind,run_underlying hd,Result.andThen_ok,C.plain.2,Std.Legacy.Range.forIn_eq_forIn_range',Std.Legacy.Range.size,Nat.sub_zero,Nat.add_one_sub_one,Nat.div_one];simp only[range',forIn_cons,forIn_nil,Sem.run_bind,Nat.zero_mul,Nat.zero_add,Nat.one_mul,p1,p2,Result.andThen_ok];by_cases x8:a=c<;>by_cases uT:b=d<;>simp[q,p1,p2,x8,uT]
  ·cases h2
 ·cases h
variable {α:Type} [DecidableEq α] {T:Ty α}{a b:α}
theorem qmt [E:C6 P t T] (hx:aG ρ x=.agg (T.enc a).toArray) (hy:aG ρ y=.agg (T.enc b).toArray):PureV P ⟨dst,.binOp .eql t x y t',ty,pos,af,g⟩ ρ (.bool (decide (a=b))):=fun w=>by
 obtain⟨hr,hg⟩:=E.ok a b w;simp only[execOp,hx,hy,Sem.run_bind,run_eqGuard_agg w .eql t x y _ _ hg,Result.andThen_ok,run_eql_struct,hr,Sem.run_pure]
theorem qmu [E:C6 P t T] (hx:aG ρ x=.agg (T.enc a).toArray) (hy:aG ρ y=.agg (T.enc b).toArray):PureV P ⟨dst,.binOp .neq t x y t',ty,pos,af,g⟩ ρ (.bool (!decide (a=b))):=fun w=>by
 obtain⟨hr,hg⟩:=E.ok a b w;simp only[execOp,hx,hy,Sem.run_bind,run_eqGuard_agg w .neq t x y _ _ hg,Result.andThen_ok,run_neq_struct,hr,Sem.run_pure]
end
section
variable {P:Program}{ρ:Fr}{w:World}
theorem qcd {fn:Func}{R:Value->World->Prop}{s s' s2 ty n:Nat}{p:Addr}{vs:List Value}{v' v2:Value} [A:AH P ty n] (hr:fn.results=#[.cell s ty,.tmp s',.tmp s2]) (hv:ρ s=.pointer (some p)) (iD:ρ s'=v') (pM:ρ s2=v2) (hn:vs.length=n) (hc:∀ j v,vs[j]? = some v->w.cell? (p.add j)=some v)
  (h:R (.tuple #[.agg vs.toArray,v',v2]) w):jD P fn R .ret ρ w :=
 ⟨.tuple #[.agg vs.toArray,v',v2],fun a ha=>by
  have h1:a.tmps.getD s undef=.pointer (some p):=by rw[<-hv,<-ha];rfl
  have h2:a.tmps.getD s' undef=v':=by rw[<-iD,<-ha];rfl
  have h4:a.tmps.getD s2 undef=v2:=by rw[<-pM,<-ha];rfl
  have h3:=qd0 (P:=P) (A:=A) hn hc;simp only[results,hr,mapM_toArray,mapM_cons,mapM_nil,h1,h2,h4,bind_pure_comp,map_pure]
  simp[asAddr,h3],h⟩
end
end
section
open Go.RowKit (Below)
def jf (h:PH):PH:=fun b=>(h b).filter (·.isCells)
theorem uH {h:PH}{b:Nat}{o:Obj}:jf h b=some o↔h b=some o/\o.isCells=true:=by
 unfold jf
 cases hb:h b with
 | none=>simp
 | some x =>
  simp only[Option.filter,Option.some.injEq];by_cases hx:x.isCells=true
  ·rw[if_pos hx];constructor
   ·intro e;cases e;exact⟨rfl,hx⟩
   ·rintro⟨e,_⟩;rw[e]
  ·rw[if_neg hx];constructor
   ·intro e;cases e
   ·rintro⟨e,h2⟩;subst e;exact absurd h2 hx
class CY (A:HP):Prop where
 ok:∀ h,A h->A (jf h)
class Cv (Γ:List HP):Prop where
 ok:∀ h,Ap Γ h->Ap Γ (jf h)
instance:Cv []:=⟨fun _ _=>trivial⟩
instance {A:HP}{Γ:List HP} [a:CY A] [g:Cv Γ]:Cv (A::Γ):=⟨fun h=>by
 rintro⟨h1,h2,d,s1,s2,ha,hg⟩;refine⟨jf h1,jf h2,fun b=>?_,fun b o hb=>?_,fun b o hb=>?_,a.ok _ ha,g.ok _ hg⟩
 ·rcases d b with e|e
  ·left;simp[jf,e]
  ·right;simp[jf,e]
 ·have:=uH.1 hb;exact uH.2 ⟨s1 b o this.1,this.2⟩
 ·have:=uH.1 hb;exact uH.2 ⟨s2 b o this.1,this.2⟩⟩
instance {p:Addr}{t:TypeId}{cells:List Value}:CY (Ad p t cells):=⟨fun h ⟨h1,h2,h3⟩=>⟨h1,h2,uH.2 ⟨h3,rfl⟩⟩⟩
instance {α:Type}{T:Ty α}{e:TypeId}{s:Value}{xs:List α}:CY (OS T e s xs):=⟨fun h ⟨h1,h2⟩=>by
 refine⟨?_,h2⟩;rcases h1 with h1|⟨b,off,n,cap,pre,post,a1,a2,a3,a4,a5,a6,a7⟩
 ·exact .inl h1
 ·exact .inr ⟨b,off,n,cap,pre,post,a1,a2,a3,a4,a5,a6,uH.2 ⟨a7,rfl⟩⟩⟩
structure BV (w0 w:World) (Γ:List HP):Prop where
 below:Below w0.heap.size w0 w
 sat:Ap Γ (jf (dw w0 w))
def CZ (w0 W:World):HP:=fun h=>∀ b o,w0.heap.size<=b->W.heap[b]? = some o->o.isCells=false->h b=some o
theorem Sat.toN {w0 w:World}{Γ:List HP} [c:Cv Γ] (h:Sat w0 w Γ):BV w0 w Γ:=⟨h.below,c.ok _ h.sat⟩
theorem BV.tE {w0 w:World}{Γ:List HP}(h:BV w0 w Γ):Sat w0 w Γ:=⟨h.below,h.sat.sub fun b o hb=>(uH.1 hb).1⟩
theorem BV.qw7 {B:Nat}{w0 W W':World}{row:Option Nat}{Γ:List HP}(hB:w0.heap.size<=B) (h:BV w0 W Γ) (hg:W.grownBy W' row) (hr:∀ r,row=some r->B<=r/\∃ o:Obj,W.heap[r]? = some o/\o.isCells=false):BV w0 W' Γ:=by
 have eM:=h.below.size;refine⟨⟨h.below.os ▸ hg.os,h.below.tape ▸ hg.tape,h.below.output ▸ hg.output,by have:=hg.size;omega,fun k hk=>?_⟩,h.sat.sub fun b o hb=>?_⟩
 ·rw[hg.block k om fun e=>by have:=(hr k e.symm).1;omega];exact h.below.block k hk
 ·obtain⟨h1,h2⟩:=uH.1 hb
  refine uH.2 ⟨?_,h2⟩;simp only[dw]at h1 ⊢;split at h1
  ·cases h1
  ·rename_i bD
   rw[if_neg bD];have o0:b<W.heap.size:=(Array.getElem?_eq_some_iff.1 h1).1;rw[hg.block b o0 fun e=>?_]
   ·exact h1
   ·obtain⟨_,o2,h3,h4⟩:=hr b e.symm
    rw[h1]at h3;cases h3;rw[h2]at h4;cases h4
theorem BV.open {w0 W:World}{Γ:List HP}(h:BV w0 W Γ):Sat w0 W (CZ w0 W::Γ):=by
 refine⟨h.below,fun b=>(dw w0 W b).filter (fun o => !o.isCells),jf (dw w0 W),fun b=>?_,fun b o hb=>?_,fun b o hb=>(uH.1 hb).1,fun b o h1 h2 h3=>?_,h.sat⟩
 ·show (dw w0 W b).filter _=none\/(dw w0 W b).filter _=none
  cases dw w0 W b with
  | none=>left;rfl
  | some x=>cases hc:x.isCells<;>simp[Option.filter,hc]
 ·cases hx:dw w0 W b with
  | none=>simp[hx]at hb
  | some x =>
   simp only[hx,Option.filter]at hb;split at hb
   ·exact hb
   ·cases hb
 ·have:dw w0 W b=some o:=by simp only[dw];rw[if_neg om];exact h2
  simp[this,Option.filter,h3]
theorem Sat.y8 {w0 W W':World}{Γ:List HP} [c:Cv Γ] (hb:Below w0.heap.size w0 W) (h:Sat w0 W' (CZ w0 W::Γ)) (eM:W.heap.size<=W'.heap.size):BV w0 W' Γ/\KeepsOthers W W':=by
 refine⟨h.tail.toN,eM,fun k o hk ho=>?_⟩;rcases Nat.lt_or_ge k w0.heap.size with bD|uS
 ·rw[h.below.block k bD,<-hb.block k bD];exact hk
 ·obtain⟨h1,h2,d,s1,s2,hr,hg⟩:=h.sat
  have:=s1 k o (hr k o uS hk ho);simp only[dw]at this
  rwa[if_neg om]at this
section
variable {P:Program}{ops:Array Oper}{K:Fr->World->Prop}{r:List Oper}{ρ:Fr}{w w0:World}{d:Nat}{ty:TypeId}{pos:String}{af:Array Edge}{x y z:Operand}{t t':TypeId}{Γ:List HP}{α:Type}
theorem qhk {T:Ty α}(xs:List α) (vs:List Value) {e sz by_ len:Nat}{parts:List (Nat × Operand)}{zs:List Value} [S:Ah P t e sz by_] [Z:Ai P e zs] (hp:(parts.map fun p=>(p.1,aG ρ p.2))=(vs.zipIdx 0).map fun x=>(x.2,x.1))
  (hx:vs.flatMap (·.cells.toList)=xs.flatMap T.enc) (iu:vs.all (fun v=>v.cells.size == sz)=true) (hlen:vs.length=len) (ku:xs.length=len) (sr:len*sz<=16777216) (ij:0<len*sz) (eZ:len<=16777216) (hw:Sat w0 w Γ)
  (h:∀ s w',w.heap.size<=w'.heap.size->Sat w0 w' (OS T e s xs::Γ)->opsW P ops K r (dD ρ d s) w'):opsW P ops K (⟨some d,.buildSlice t len parts.toArray,ty,pos,af,none⟩::r) ρ w:=by
 refine jr rfl ?_;obtain⟨zv,rA,ns⟩:=Z.zero;have:(Array.map (fun x:Nat × Operand=>match x with|(i,x)=>(i,aG ρ x)) parts.toArray)=((vs.zipIdx 0).map fun x=>(x.2,x.1)).toArray:=by rw[<-hp];simp
 have h0:¬(len*sz=0):=by omega
 have h1:¬(len*sz>2 ^ 24):=by omega
 have hf:Instr.fill (fun i=>some (i*sz,sz)) ((Array.range (len*sz)).map (zs.toArray[· % zs.toArray.size]!)) ((vs.zipIdx 0).map fun x=>(x.2,x.1))=some (xs.flatMap T.enc).toArray:=by
  have:=qfP (sz:=sz) vs 0 [] ((Array.range (len*sz)).map (zs.toArray[· % zs.toArray.size]!)).toList (fun v hv=>by simpa using all_eq_true.1 iu v hv) (by simp) (by simp[hlen]);rw[hx]at this;simp only[nil_append,Array.toArray_toList]at this;exact this
 simp only[opW,execOp,this,Instr.buildSlice,Sem.run_bind,run_underlying S.eU,Result.andThen_ok,S.size,h1,if_false,h0,Sem.run_pure,ns,rA];rw[hf];simp only[Sem.run_bind,newRow,run_newObj,Result.andThen_ok,Sem.run_pure,bC];exact h _ _ (by simp) (w6 (e:=e) (by simp) ku (by unfold bo;omega) rfl hw)
theorem qgp (T:Ty α) {x1:α}{e sz by_:Nat}{v:Value}{zs:List Value} [S:Ah P t e sz by_] [Z:Ai P e zs] (hp:aG ρ x=v) (hx:v.cells.toList=T.enc x1) (iu:sz=T.sz) (sr:sz<=16777216) (ij:0<sz) (hw:Sat w0 w Γ)
  (h:∀ s w',w.heap.size<=w'.heap.size->Sat w0 w' (OS T e s [x1]::Γ)->opsW P ops K r (dD ρ d s) w'):opsW P ops K (⟨some d,.buildSlice t 1 #[(0,x)],ty,pos,af,none⟩::r) ρ w:=by
 have hs:v.cells.size=sz:=by
  have:=T.ok x1;rw[<-hx,<-iu]at this
  simpa using this
 exact qhk (parts:=[(0,x)]) [x1] [v] (by simp[hp]) (by simp[hx]) (by simp[hs]) rfl rfl om om om hw h
variable {T:Ty α}{s:Value}{xs:List α}
theorem qn8 {e sz by_:Nat}{s2:Value}{ys:List α}{zs:List Value}{put:HP->List HP} [S:Ah P t e sz by_] [Z:Ai P e zs] (O:AT Γ s α T e xs put) (hx:aG ρ x=s) (hy:aG ρ y=s2) (h2:RS T w s2 ys) (eM:sz=T.sz) (uJ:zs.length=sz)
  (hone:∀ x∈ys,∀ v∈T.enc x,v.oneCell'=true) (hb:(xs.length+ys.length)*by_<=140737488355328) (hl:xs.length+ys.length<=bo) (hw:Sat w0 w Γ)
  (h:∀ s' w',w.heap.size<=w'.heap.size->Sat w0 w' (put (OS T e s' (xs++ys)))->opsW P ops K r (dD ρ d s') w'):opsW P ops K (⟨some d,.call { callee:=.builtin .append,args:=#[x,y],argTypes:=#[t,t] },ty,pos,af,none⟩::r) ρ w:=by
 refine jr rfl ?_;subst eM;obtain⟨i,hi,hp⟩:=O.j3.ok;simp only[hp]at h;obtain⟨inf,sZ,hs,vk⟩:=S.info;obtain⟨zv,vl,ns⟩:=Z.zero;have h1:=hw.rs i hi;obtain⟨ph,hph,lK⟩:=hw.at i hi;obtain⟨a2,cap2,dW⟩:=h2.shape;have iT:∀ w':World,w'.heap=w.heap->(Builtin.firstCells T.sz ys.length s2).run P w'=.ok (ys.flatMap T.enc).toArray w':=fun w' dA=>qbY h2.1 h2.2.symm w' dA;have lL:∀ w':World,w'.heap=w.heap->(Builtin.firstCells T.sz xs.length s).run P w'=.ok (xs.flatMap T.enc).toArray w':=fun w' dA=>qbY h1.1 h1.2.symm w' dA
 have kC:∀ (a:Option Addr) (cap:Nat),s=.slice a xs.length cap->cap<xs.length+ys.length ->
   (execOp (aG ρ) ⟨some d,.call { callee:=.builtin .append,args:=#[x,y],argTypes:=#[t,t] },ty,pos,af,none⟩).run P w =
   .ok (.value (.slice (some ⟨w.heap.size,0,none⟩) (xs.length+ys.length) (grownCap w (xs.length+ys.length) cap e))) (fG w.drew (.cells ((xs.flatMap T.enc).toArray++(ys.flatMap T.enc).toArray++Builtin.zeroCells zs.toArray (grownCap w (xs.length+ys.length) cap e-(xs.length+ys.length))) e)):=by
  intro a cap sd kR;have hn:¬(xs.length+ys.length<=cap):=by omega
  have pO:¬(9223372036854775807<((xs.length:Int)+(ys.length:Int))):=by unfold bo at hl;omega
  have cL:=growslice_fits (bytes:=by_) kR hb;have s5:¬(281474976710656<Builtin.nextslicecap (xs.length+ys.length) cap*by_):=by omega
  have hq:(Question.appendCap (xs.length+ys.length) cap e).forced=false:=rfl;rw[sd]at lL;rw[dW]at iT;simp[execOp,resolve,invoke,builtin,Builtin.append_,hx,hy,sd,dW,run_underlying S.eU,S.size,typeInfo,sZ,vk,Builtin.lenOf,hn,pO,s5,hq,lL,iT,ns,vl,grownCap];rw[lL w.drew rfl];simp only[Result.andThen_ok];rw[iT w.drew rfl];have oF:∀ (X Y:List Value) (Z:Array Value),X.toArray++(Y.toArray++Z)=(X++Y).toArray++Z:=fun X Y Z=>by apply Array.ext';simp only[Array.toList_append,append_assoc]
  simp only[newRow,Sem.run_bind,run_newObj,Result.andThen_ok,Sem.run_pure];rw[oF];rfl
 simp only[opW];rcases lK with ⟨lK,hlen⟩;have fZ:∀ cap,cap<xs.length+ys.length->Sat w0 (fG w.drew (.cells ((xs.flatMap T.enc).toArray++(ys.flatMap T.enc).toArray++Builtin.zeroCells zs.toArray (grownCap w (xs.length+ys.length) cap e-(xs.length+ys.length))) e)) (Γ.set i (OS T e (.slice (some ⟨w.heap.size,0,none⟩) (xs.length+ys.length) (grownCap w (xs.length+ys.length) cap e)) (xs++ys))):=by
  intro cap kR;have uS:=grownCap_ge w (xs.length+ys.length) cap e;refine Sat.renew (w:=w.drew) hw.drew hi ⟨.inr ⟨w.heap.size,0,_,_,[],(Builtin.zeroCells zs.toArray (grownCap w (xs.length+ys.length) cap e-(xs.length+ys.length))).toList,rfl,rfl,by rw[T.len];simp,uS,hl,?_,?_⟩,by simp[cW]⟩
  ·simp[size_zeroCells,uJ]
  ·simp
 rcases lK with ⟨rfl,ew⟩|⟨b,off,n,cap,pre,post,rfl,aN,kD,kg,eZ,s6,eY⟩
 ·simp only[cW]at hlen
  by_cases vm:ys.length=0
  ·have sU:=eq_nil_of_length_eq_zero vm
   subst sU;have hr:(execOp (aG ρ) ⟨some d,.call { callee:=.builtin .append,args:=#[x,y],argTypes:=#[t,t] },ty,pos,af,none⟩).run P w=.ok (.value (.slice none 0 0)) w:=by
    have eI:=iT w rfl;rw[dW]at eI;simp only[length_nil]at eI;simp[execOp,resolve,invoke,builtin,Builtin.append_,hx,hy,dW,run_underlying S.eU,S.size,Builtin.lenOf,eI]
   rw[hr];refine h _ _ (Nat.le_refl _) ?_;have:xs=[]:=eq_nil_of_length_eq_zero hlen;subst this;simp only[append_nil];rw[show Γ.set i (OS T e (.slice none 0 0) [])=Γ from ?_]
   ·exact hw
   ·apply ext_getElem?
    intro k;rw[getElem?_set];split
    ·rename_i hk;subst hk;split
     ·rw[hi]
     ·rename_i hk;rw[getElem?_eq_none om]
    ·rfl
  ·rw[kC none 0 (by rw[hlen]) om]
   exact h _ _ (by simp[fG]) (fZ 0 om)
 ·simp only[cW]at hlen
  subst hlen;by_cases kE:xs.length+ys.length<=cap
  ·have eI:=iT w rfl
   rw[dW]at eI;have oG:(xs.flatMap T.enc).length=xs.length*T.sz:=T.len xs;have s7:(ys.flatMap T.enc).length=ys.length*T.sz:=T.len ys;have hm:xs.length*T.sz+ys.length*T.sz<=xs.length*T.sz+(cap-xs.length)*T.sz:=by
    have:ys.length*T.sz<=(cap-xs.length)*T.sz:=mul_le_mul_right _ om;omega
   have cu:=uB (P:=P) (bt:=e) (ys.flatMap T.enc) (off+xs.length*T.sz) 0 (pre++xs.flatMap T.enc++post) w (by
    intro v hv;obtain⟨x',mZ,iD⟩:=mem_flatMap.1 hv
    exact hone x' mZ v iD) (by simp only[length_append,oG,s7];omega) (hph _ _ eY).1
   have hr:(execOp (aG ρ) ⟨some d,.call { callee:=.builtin .append,args:=#[x,y],argTypes:=#[t,t] },ty,pos,af,none⟩).run P w=.ok (.value (.slice (some ⟨b,off,none⟩) (xs.length+ys.length) cap)) (dq w b (.cells ((pre++xs.flatMap T.enc++post).take (off+xs.length*T.sz+0)++ys.flatMap T.enc++(pre++xs.flatMap T.enc++post).drop (off+xs.length*T.sz+0+(ys.flatMap T.enc).length)).toArray e (0,0))):=by
    simp only[execOp,resolve,invoke,builtin,Builtin.append_,hx,hy,dW,Sem.run_bind,Sem.run_pure,Result.andThen_ok,map_toArray,map_cons,map_nil,run_underlying S.eU,S.size,Builtin.lenOf];simp[eI,kE,w8,run_underlying S.eU,Builtin.lenOf,S.size];rw[cu];simp
   rw[hr];have s8:(pre++xs.flatMap T.enc++post).take (off+xs.length*T.sz+0)=pre++xs.flatMap T.enc:=by
    rw[take_append_of_le_length (by simp only[length_append,oG];omega)];exact take_of_length_le (by simp only[length_append,oG];omega)
   have vn:(pre++xs.flatMap T.enc++post).drop (off+xs.length*T.sz+0+(ys.flatMap T.enc).length)=post.drop (ys.length*T.sz):=by
    rw[drop_append,drop_eq_nil_of_le (by simp only[length_append,oG,s7];omega)];simp only[nil_append,length_append,oG,s7];congr 1;omega
   rw[s8,vn];refine h _ _ (by simp[dq]) (Sat.back i hi (Sat.put (hw.focus i hi) fun h1 kM hA=>?_));rcases hA with ⟨hA,_⟩;rcases hA with ⟨hc,_⟩|⟨b1,off1,n1,cap1,pre1,post1,jy,w9,s9,qwL,xc,ta,rV⟩
   ·cases hc
   ·cases jy
    refine⟨⟨_,rV⟩,.inr ⟨b,off,xs.length+ys.length,cap,pre,post.drop (ys.length*T.sz),rfl,aN,by rw[T.len,length_append],kE,hl,?_,?_⟩,by simp[cW]⟩
    ·simp only[length_drop]
     have:(cap-(xs.length+ys.length))*T.sz=(cap-xs.length)*T.sz-ys.length*T.sz:=by rw[<-Nat.sub_mul];congr 1;omega
     omega
    ·simp[kh]
  ·rw[kC _ cap rfl om]
   exact h _ _ (by simp[fG]) (fZ cap om)
end
section
variable {P:Program}
theorem qv3 {ops:Array Oper}{o:Oper}{r:List Oper}{K:Fr->World->Prop}{n:Nat}{ds:List Deferred}{a:Act}{w:World}(cL:∀ d,o.dst=some d->d<n)
  (hs:a.tmps.size=n) (hd:a.defers=ds) (h:opsW P ops K (o::r) (fr a) w):mN P ops o (fun a' w'=>a'.tmps.size=n/\a'.defers=ds/\opsW P ops K r (fr a') w') a w:=by
 have cO:∀ v,fr (a.put o.dst v)=fh (fr a) o.dst v:=fun v=>te fun t ht=>by rw[hs];exact cL t ht
 have bS:∀ v w',opsW P ops K r (fh (fr a) o.dst v) w'->(a.put o.dst v).tmps.size=n/\(a.put o.dst v).defers=ds/\opsW P ops K r (fr (a.put o.dst v)) w' :=
  fun v w' hk=>⟨by rw[size_put,hs],by rw[xd,hd],by rw[cO];exact hk⟩
 have bW:opV P o (fr a) w (opsW P ops K r)->eH P o a w fun a' w'=>a'.tmps.size=n/\a'.defers=ds/\opsW P ops K r (fr a') w':=by
  intro h;unfold opV at h;unfold eH;split at h
  ·obtain⟨v,hv,hk⟩:=h
   unfold PureV at hv;rw[nu]at hv;exact⟨v,hv,bS _ _ hk⟩
  ·obtain⟨v,hv,hk⟩:=h
   unfold ReadV at hv;rw[nu]at hv;exact⟨v,hv,bS _ _ hk⟩
  ·unfold opW at h;rw[nu]at h
   exact qL (fun v w' hk=>bS _ _ hk) h
 simp only[opsW]at h
 cases hg:o.guard with
 | none =>
  simp only[hg]at h;refine⟨fun _=>bW h,fun hw=>?_⟩
  simp[Region.wanted,hg]at hw
 | some g =>
  simp only[hg]at h;unfold mN;rw[qbm hg];exact⟨fun hw=>bW (h.1 hw),fun hw=>bS _ _ (h.2 hw)⟩
theorem qj6 {ro:Option Nat}{m:Nat}{id:Nat}{ops:Array Oper}{K:Fr->World->Prop}{n:Nat}{ds:List Deferred}{a:Act}{w:World}{Q:Exit->Act->World->Prop}(hQ:∀ a w,(a.tmps.size=n/\a.defers=ds/\K (fr a) w)->Q .normal a w)
  (cL:fI n ops=true) (hs:a.tmps.size=n) (hd:a.defers=ds) (h:opsW P ops K ops.toList (fr a) w):(Code.region id ops false).wpIn (fw ro) m P Q a w:=by
 refine wpIn_region ?_
 have key:∀ (l:List Oper) (k:Nat) (a:Act) (w:World),(∀ j,l[j]? = ops[k+j]?)->k+l.length=ops.size->a.tmps.size=n->a.defers=ds->opsW P ops K l (fr a) w ->
   wpOpsIn (fw ro) m P ops Q ((range' k l.length)) a w:=by
  intro l
  induction l with
  | nil=>intro k a w _ _ hs hd h;exact hQ _ _ ⟨hs,hd,h⟩
  | cons o r ih =>
   intro k a w hl hk hs hd h;have h0:ops[k]? = some o:=by simpa using (hl 0).symm
   have j2:∀ d,o.dst=some d->d<n:=by
    intro d nx;have:=Array.all_eq_true_iff_forall_mem.1 cL o (Array.mem_of_getElem? h0)
    simpa [nx] using this
   simp only[length_cons,range'_succ];rw[wpOpsIn_cons];refine qcH ?_;unfold lO;rw[h0];refine xe (fun u w' aj => ?_) (qv3 j2 hs hd h);simp only[length_cons]at hk;exact ih (k+1) _ _ (fun j=>by have:=hl (j+1);simpa [Nat.add_assoc,Nat.add_comm 1 j] using this) om aj.1 aj.2.1 aj.2.2
 have:=key ops.toList 0 a w (by simp) (by simp) hs hd h
 simpa [range_eq_range'] using this
end
end
section
section
variable {P:Program}{ρ:Fr}{w:World}
end
section
variable {P:Program}{ρ:Fr}{ty:TypeId}{pos:String}{af:Array Edge}{g:Option (Nat × Bool)}{dst:Option Nat}{x y:Operand}{t t':TypeId}
end
section
variable {α:Type}{P:Program}{ρ:Fr}{w:World}{ty:TypeId}{pos:String}{af:Array Edge}{g:Option (Nat × Bool)}{dst:Option Nat}{x y:Operand}{t:TypeId}{κ:α->Value}
theorem qfj [DecidableEq α] {k e:TypeId}{q:α}{zv:Value} [M:CI P t k e] [KT:CQ P k κ] [Z:B1 P e zv] (hx:aG ρ x=.map none) (hy:aG ρ y=κ q):ReadV P ⟨dst,.lookup t x y false,ty,pos,af,g⟩ ρ w zv:=by
 have hf:=KT.find q [] [] rfl w;have h0:fC q ([]:List (α × Value)) 0=none:=rfl;rw[h0]at hf;have ht:(#[]:Array MapEntry).toList=[]:=rfl;simp only[ReadV,execOp,hx,hy,Instr.lookup,Sem.run_bind,run_underlying M.ok,Result.andThen_ok,Sem.run_pure,KT.check,ht,hf,Z.run];rfl
end
end
end Go.Sl
