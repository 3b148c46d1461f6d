/- Several texts. -/
import Derived.Test.YtmapkjoefdgjfaaGreatDoorMSlAH
import Derived.Sort.Row
import Derived.Sort.Grow
import Derived.Laws.Cover3
import Derived.Laws.StructEq
import Derived.ChangeSame
import Derived.ChangeShapes
import Derived.ChangeSlices
import Derived.Laws.BytesString
import Derived.Laws.Strings
import Derived.Laws.Externs
import Derived.Stop.Asserts
import Derived.Lib.IfaceEq
import Derived.Lib.Builder
import Derived.Lib.UnsafeStr
import Derived.RangeFuncFrom
import Derived.RangeFuncLeaves
import Derived.Deep.Draws
import Derived.Shelf.GgSortFunc.InsertionK
set_option linter.unusedSimpArgs false
set_option linter.unusedVariables false
set_option linter.defProp false
set_option maxRecDepth 8000
set_option maxHeartbeats 16000000
open List Nat
namespace Go.Sl
variable {n i sz by_ j f c B fuel:Nat}{vs zs cs:List Value}{v u v':Value}{p:Addr}{L W':World}{k:IntKind}{h:PH}{R:Value->World->Prop}{ts:Array TypeId}{A:HP}{ys:J}{bt:TypeId}{l:List UInt8}{Δ Z':List HP}{β:Type}{ds:List Deferred}{o:Obj}{ms:Array (String × TypeId)}{b2:ByteArray}
section
section
variable {P:Program}{ρ:Fr}{w:World}
def Jr {ty:Nat}[A:fi P ty n](q:vs.length=n)(C:∀ j v,vs[j]? = some v->w.cell? (p.add j)=some v):(loadVar ty p).run P w=.ok (.agg vs.toArray) w:=by
 subst q;have:=run_loadCells_list (P:=P) (w:=w) p vs C;simp[loadVar,A.agg.1,A.agg.2,this]
def jF {fn:Func}{s q ty:Nat}[A:fi P ty n](F:fn.results=#[.cell s ty,.tmp q])(hv:ρ s=.pointer (some p))(C:ρ q=v')(S:vs.length=n)(V:∀ j v,vs[j]? = some v->w.cell? (p.add j)=some v)(h:R (.tuple #[.agg vs.toArray,v']) w):mR P fn R .ret ρ w :=
 ⟨.tuple #[.agg vs.toArray,v'],fun a D=>by
  have h1:a.tmps.getD s undef=.pointer (some p):=by rw[<-hv,<-D];rfl
  have h2:a.tmps.getD q undef=v':=by rw[<-C,<-D];rfl
  have h3:=Jr (P:=P) (A:=A) S V;simp only[results,F,CJ,Ap,Ee,h1,h2,bind_pure_comp,map_pure]
  simp[asAddr,h3],h⟩
end
end
section
open Go.RowKit (Below)
def Z.ahead {w0 w:World}{Γ:List HP}(h:Z w0 w Γ)(n:Nat):Z w0 (Sort.ahead w n) Γ:=⟨h.below.trans ⟨rfl,rfl,rfl,cP _,fun _ _=>rfl⟩,h.kP⟩
def Z.grow {w0 w:World}{Γ:List HP}(h:Z w0 w Γ)(os:Array Obj):Z w0 (Sort.grow w os) Γ:=by
 have D:=h.below.size;refine⟨h.below.trans ⟨rfl,rfl,rfl,by simp[Sort.grow],fun k hk=>?_⟩,h.kP.sub fun b o q=>?_⟩
 ·simp only[Sort.grow];rw[FD U]
 simp only[fI]at q ⊢;split at q
 ·cases q
 rename_i h1;rw[aM h1];have C:=(mw.1 q).1;simp only[Sort.grow];rw[FD C];exact q
def No (xs:J):xs.flatMap W.enc=xs.map (Value.int .i64):=by
 induction xs with
 | nil=>rfl
 | cons x xs q=>rw[pA,q];rfl
def Ξ {pre post:List Value}{xs:J}(D:ys.length=xs.length) :
  Sort.putCells (Value.int .i64) pre.length ys.toArray (pre++xs.map (Value.int .i64)++post).toArray=(pre++ys.map (Value.int .i64)++post).toArray:=by
 apply yl;intro k;simp only[Sort.putCells,Mi,Ek,Ed];by_cases h1:k<pre.length
 ·rw[fk,mu h1,fk,mu h1]
  cases pre[k]? with
  | none=>rfl
  | some v=>simp only[vk];rw[aM U]
 by_cases F:k<pre.length+ys.length
 ·have q:(pre++xs.map (Value.int .i64)++post)[k]? = some (Value.int .i64 (xs[k-pre.length]'U)):=by
   rw[fk,lP U,mu (by simp;omega),vh,mL U];rfl
  have C:(pre++ys.map (Value.int .i64)++post)[k]? = some (Value.int .i64 (ys[k-pre.length]'U)):=by
   rw[fk,lP U,mu (by simp;omega),vh,mL U];rfl
  rw[q,C];simp only[vk];rw[ba U];congr 2;simp[show k-pre.length<ys.length by omega]
 have q:(pre++xs.map (Value.int .i64)++post)[k]? = post[k-pre.length-ys.length]? := by
  rw[fk,lP U,lP (by simp;omega)];simp[D]
 have C:(pre++ys.map (Value.int .i64)++post)[k]? = post[k-pre.length-ys.length]? := by
  rw[fk,lP U,lP (by simp;omega)];simp
 rw[q,C]
 cases post[k-pre.length-ys.length]? with
 | none=>rfl
 | some v=>simp only[vk];rw[aM U]
def Z.y9 {w0 w:World}{Γ:List HP}{e:TypeId}{s:Value}{xs:J}(Y:Z w0 w (X W e s xs::Γ)) :
  (s=nS/\xs=[])\/∃ b off cap,s=.slice (some ⟨b,off,none⟩) xs.length cap/\xs.length<=cap/\b<w.heap.size/\Sort.Holds (Value.int .i64) w b off xs.toArray /\
   ∀ ys:J,ys.length=xs.length->∀ n,Z w0 (Sort.putRow (Value.int .i64) (Sort.ahead w n) b off ys.toArray) (X W e s ys::Γ):=by
 obtain⟨h1,hs,ho,hl⟩:=Y.at 0 rfl;rcases ho with ⟨rfl,D⟩|⟨b,off,n,cap,pre,post,rfl,C,_g,F,S,V,hb⟩
 ·left
  refine⟨rfl,?_⟩
  cases xs with
  | nil=>rfl
  | cons x xs=>simp[W]at D
 right;simp only[eZ]at hl;subst hl;rw[No]at hb;have q:=(hs b _ hb).1;refine⟨b,off,cap,rfl,F,(mw.1 q).1,fun j hj=>⟨?_,fO q _⟩,fun ys hy m=>?_⟩
 ·simp only[Ed]at hj
  rw[eH q,fk,lP U,mu (by simp;omega),C,show off+j-off=j by omega,vh,mL hj];simp[hj]
 have e1:Sort.putRow (Value.int .i64) (Sort.ahead w m) b off ys.toArray=fq (Sort.ahead w m) b (.cells (pre++ys.map (Value.int .i64)++post).toArray e (0,0)):=by
  simp only[Sort.putRow,Sort.mapBlock,fq,Sort.ahead];congr 1;apply yl;intro k;have j':=(mw.1 q).1;by_cases hk:b=k
  ·subst hk
   rw[xU,ba rfl,q,CG j'];simp only[vk,Sort.onCells];rw[<-C,Ξ hy]
  rw[xU,aM hk,wo hk]
 rw[e1];refine Z.put (Y.ahead m) fun g I ⟨j',H'⟩=>?_;rcases j' with ⟨hn,_⟩|⟨b',_a,n',_b,_c,J',P',R',_d,_e,T',_f,V'⟩
 ·cases hn
 cases P';refine⟨⟨_,V'⟩,.inr ⟨b,off,_,cap,pre,post,rfl,C,by rw[No];simp[hy,W],F,S,V,by rw[No];simp[oC]⟩,by rw[hy];exact H'⟩
section
variable {P:Program}{ρ:Fr}{w:World}{ty:TypeId}{pos:String}{af:Array Edge}{g:Option (Nat × Bool)}{dst:Option Nat}{x y:Operand}{t t':TypeId}
def Fg {e:Nat}{a:Option Addr}[S:bw P t e sz by_](hx:bh ρ x=.slice a n c):PureV P ⟨dst,.binOp .eql t x (.const (nS)) t',ty,pos,af,g⟩ ρ (.bool a.isNone):=fun w=>by
 have h1:=run_equal_slice_nil (P:=P) w t e a n c S.iI;simp only[execOp,eqGuard,hx];cases x<;>simp[bh,binOp,h1]
def Uw {e:Nat}{a:Option Addr}[S:bw P t e sz by_](hx:bh ρ x=.slice a n c):PureV P ⟨dst,.binOp .neq t x (.const (nS)) t',ty,pos,af,g⟩ ρ (.bool !a.isNone):=fun w=>by
 have h1:=run_neq_slice_nil (P:=P) w t e a n c S.iI;simp only[execOp,eqGuard,hx];cases x<;>simp[bh,h1]
end
end
section
def wP (P:Program)(t n:Nat):Bool:=match P.underlying t with
 | some (.struct q)=>q.size == n && (List.range n).all (fun i=>match q[i]? with|some f => !(f.name == "_") && f.offset == i && wB P f.type && (match P.underlying f.type with | some (.int _) => true | _ => false) | none => false) && !P.stoodInHeld t && !P.eqGuardType P.depth t
 | _=>false
class j9 (P:Program) (t:Nat) (n:outParam Nat):Prop where
 ok:wP P t n=true
section
variable {P:Program}{ρ:Fr}{w:World}{ty:TypeId}{pos:String}{af:Array Edge}{g:Option (Nat × Bool)}{dst:Option Nat}{x y:Operand}{t t':TypeId}
theorem UG {d:Nat}:∀ (fs:List Field) (k:Nat) (us zs:J) (xs ys:Array Value) (w:World),us.length=fs.length->zs.length=fs.length ->
  (∀ j f,fs[j]? = some f->f.name≠ "_" /\ f.offset = k + j /\ cA P f.type /\ ∃ D, P.underlying f.type = some (.int D)) ->
  (∀ j a,us[j]? = some a->xs[k+j]? = some (E a))->(∀ j a,zs[j]? = some a->ys[k+j]? = some (E a)) ->
  (Op.eqFields (d+1) xs ys fs).run P w=.ok (decide (us=zs)) w
 | [],k,[],[],xs,ys,w,_,_,_,_,_=>by simp[Op.eqFields]
 | f::fs,k,a::us,b::zs,xs,ys,w,h1,h2,V,hx,hy=>by
  obtain⟨hn,F,C,D,hk⟩:=V 0 f rfl;have ex:=hx 0 a rfl;have ey:=hy 0 b rfl;simp only[Ai]at F ex ey
  have ih:=UG (d:=d) fs (k+1) us zs xs ys w (by simpa using h1) (by simpa using h2) (fun j f' q=>by have:=V (j+1) f' (by simpa using q);rw[show k+(j+1)=k+1+j by omega]at this;exact this)
   (fun j S q=>by have:=hx (j+1) S (by simpa using q);rw[show k+(j+1)=k+1+j by omega]at this;exact this) (fun j S q=>by have:=hy (j+1) S (by simpa using q);rw[show k+(j+1)=k+1+j by omega]at this;exact this)
  have S:(part f.type xs f.offset).run P w=.ok (E a) w:=by simp[part,C.plain.1,F,ex]
  have p2:(part f.type ys f.offset).run P w=.ok (E b) w:=by simp[part,C.plain.1,F,ey]
  simp only[Op.eqFields,ne_eq,hn,not_false_eq_true,if_true,fG,S,p2,fm,run_equalIn_int w d f.type .i64 D a b hk];by_cases h:a=b
  ·subst h
   simp only[yk,pz,Ea,if_false,ih];congr 1;simp
  have hb:(a == b)=false:=by simpa using h
  rw[hb];simp[h]
def j9.run {n:Nat}(T:j9 P t n){us zs:J}(h1:us.length=n)(h2:zs.length=n)(w:World):(Op.equalIn 10000 t (.agg (us.map (Value.int .i64)).toArray) (.agg (zs.map (Value.int .i64)).toArray)).run P w=.ok (decide (us=zs)) w/\P.eqGuardType P.depth t=false:=by
 have h:=T.ok;simp only[wP]at h;split at h
 ·rename_i F hd
  simp only[Bool.and_eq_true,Aj,tW,all_eq_true,mem_range]at h;obtain⟨⟨⟨S,C⟩,V⟩,j'⟩:=h;have D:P.fieldsOf t=F:=by simp[Program.fieldsOf,hd]
  refine⟨?_,j'⟩;rw[run_equalIn_struct w 9999 t _ _ (by rw[D];exact hd) V,D];refine UG (d:=9998) F.toList 0 us zs _ _ w (by simp[h1,S]) (by simp[h2,S]) (fun j f q=>?_) (fun j a q=>by simp[q]) (fun j a q=>by simp[q]);have H':j<n:=by have:=(ym.1 q).1;simpa [S] using this
  have:=C j H';rw[show F[j]? = some f by simpa using q]at this;simp only[Bool.and_eq_true,Aj,tW]at this;obtain⟨⟨⟨a1,a2⟩,a3⟩,a4⟩:=this;refine⟨by simpa using a1,by simpa using a2,⟨a3⟩,?_⟩;split at a4
  ·rename_i kd hk;exact⟨kd,hk⟩
  cases a4
 cases h
def Ο {us zs:J}[T:j9 P t n](hx:bh ρ x=.agg (us.map (Value.int .i64)).toArray)(q:bh ρ y=.agg (zs.map (Value.int .i64)).toArray)(h1:us.length=n)(h2:zs.length=n):PureV P ⟨dst,.binOp .eql t x y t',ty,pos,af,g⟩ ρ (.bool (decide (us=zs))):=fun w=>by
 obtain⟨C,I⟩:=T.run h1 h2 w;simp only[execOp,hx,q,fG,run_eqGuard_agg w .eql t x y _ _ I,fm,run_eql_struct,C,gU]
def T7 {us zs:J}[T:j9 P t n](hx:bh ρ x=.agg (us.map (Value.int .i64)).toArray)(q:bh ρ y=.agg (zs.map (Value.int .i64)).toArray)(h1:us.length=n)(h2:zs.length=n):PureV P ⟨dst,.binOp .neq t x y t',ty,pos,af,g⟩ ρ (.bool (!decide (us=zs))):=fun w=>by
 obtain⟨C,I⟩:=T.run h1 h2 w;simp only[execOp,hx,q,fG,run_eqGuard_agg w .neq t x y _ _ I,fm,run_neq_struct,C,gU]
def DR {fn:Func}{s ty:Nat}[A:fi P ty n](q:fn.results=#[.cell s ty])(hv:ρ s=.pointer (some p))(C:vs.length=n)(D:∀ j v,vs[j]? = some v->w.cell? (p.add j)=some v)(h:R (.agg vs.toArray) w):mR P fn R .ret ρ w :=
 ⟨.agg vs.toArray,fun a F=>by
  have h1:a.tmps.getD s undef=.pointer (some p):=by rw[<-hv,<-F];rfl
  have S:=Jr (P:=P) (A:=A) C D;simp only[results,q,CJ,Ap,Ee,h1,bind_pure_comp,map_pure]
  simp[asAddr,S],h⟩
end
end
section
open Go.RowKit (Below)
section
variable {H:Type}{enc:TypeId × Value->H}{P:Program}{w:World}{fC:Nat}{spare:Nat->Bool}{held:Bool}
def Rd {α:Type}(enc:TypeId × Value->H)(P:Program)(w:World)(fC:Nat)(spare:Nat->Bool)(held:Bool)(t:TypeId)(T:Ty α)(Good:α->Prop):Prop :=
 ∀ fuel cs y,DataW.trod enc P w fC spare held fuel t cs=some y->∃ x,cs=T.enc x/\Good x
def CB {t:TypeId}(q:P.underlying t=some (.int .i64)):Rd enc P w fC spare held t W fun n => -9223372036854775808<=n/\n<=9223372036854775807:=by
 intro fuel cs y h;obtain⟨n,rfl,_,Y⟩:=DataW.trod_int q h;refine⟨n,rfl,?_⟩
 simpa [Lit.wf,IntKind.min,IntKind.max,IntKind.signed,IntKind.bits] using Y
def UH {α β:Type}{f:α->Option β}:∀ {l:List α}{r:List β},l.mapM f=some r->∀ (i:Nat) (x:α),l[i]? = some x->∃ y,f x=some y/\r[i]? = some y
 | [],r,h,i,x,hx=>by simp at hx
 | a::l,r,h,i,x,hx=>by
  simp only[Ap,Mq,Mr]at h
  cases q:f a with
  | none=>simp[q]at h
  | some b =>
   cases C:l.mapM f with
   | none=>simp[q,C]at h
   | some F =>
    simp only[q,C,An,Br]at h;subst h
    cases i with
    | zero=>simp at hx;subst hx;exact⟨b,q,rfl⟩
    | succ i=>simp at hx;obtain⟨y,h1,D⟩:=UH C i x hx;exact⟨y,h1,by simpa using D⟩
def Ρ {a:Addr}(h:w.cells? fC a n=some cs):cs.length=n/\∀ (i:Nat) v,cs[i]? = some v->w.cell? (a.add i)=some v:=by
 unfold World.cells? at h;split at h
 ·have C:cs.length=n:=by
   have:∀ {l:List Nat}{r:List Value},l.mapM (fun i=>w.cell? (a.add i))=some r->r.length=l.length:=by
    intro l
    induction l with
    | nil=>intro r h;simp at h;subst h;rfl
    | cons x l D =>
     intro r h;simp only[Ap,Mq,Mr]at h
     cases hx:w.cell? (a.add x) with
     | none=>simp[hx]at h
     | some b =>
      cases q:l.mapM (fun i=>w.cell? (a.add i)) with
      | none=>simp[hx,q]at h
      | some F=>simp only[hx,q,An,Br]at h;subst h;simp[D q]
   have:=this h;simpa using this
  refine⟨C,fun i v hv=>?_⟩;have D:=(ym.1 hv).1;obtain⟨y,h1,q⟩:=UH h i i (by rw[L7 U]);rw[hv]at q;cases q;exact h1
 cases h
def A6 (a:Addr)(i j:Nat)(q:a.spot=none):(a.add i).add j=⟨a.block,a.off+(i+j),none⟩:=by
 unfold Addr.add;obtain⟨b,o,s⟩:=a;simp only at q;subst q;split<;>split<;>simp_all<;>omega
def UI {α β:Type}{Q:Nat->α->Prop}:∀ (n:Nat),(∀ i,i<n->∃ x,Q i x)->∃ xs:List α,xs.length=n/\∀ (i:Nat) x,xs[i]? = some x->Q i x
 | 0,_=>⟨[],rfl,sm⟩
 | n+1,h=>by
  obtain⟨xs,D,hx⟩:=UI (β:=β) n fun i F=>h i U;obtain⟨x,hq⟩:=h n U;refine⟨xs++[x],by simp[D],fun i y q=>?_⟩;rcases pB i n with F|F
  ·rw[mu U]at q;exact hx i y q
  have C:=(ym.1 q).1;simp at C;have:i=n:=U;subst this;rw[lP U,D]at q;simp at q;subst q;exact hq
def CC {α:Type}{T:Ty α}{Good:α->Prop}{t e:TypeId}(ht:P.underlying t=some (.slice e))(J':P.cellsOf e=T.sz)(C:0<T.sz)(hE:Rd enc P w fC spare held e T Good) :
  Rd enc P w fC spare held t aA fun v=>∃ xs,RS T w v xs/\∀ x∈xs,Good x:=by
 intro fuel cs y h;rcases DataW.trod_slice ht h with ⟨rfl,_⟩|⟨a,len,cap,elems,rest,P',_,rfl,_,_,R',T',hlen,V',_⟩
 ·exact⟨_,rfl,[],RS.nil,sm⟩
 have j':∀ i,i<len->∃ x:α,Good x/\∀ (k:Nat) v,(T.enc x)[k]? = some v->w.cell? ((a.add (i*P.cellsOf e)).add k)=some v:=by
  intro i V;have h1:=V' i V;rw[mL U]at h1
  cases q:w.cells? fC (a.add (i*P.cellsOf e)) (P.cellsOf e) with
  | none=>simp[q]at h1
  | some cs =>
   simp only[q,An]at h1;obtain⟨x,rfl,I⟩:=hE _ cs _ h1;exact⟨x,I,(Ρ q).2⟩
 obtain⟨xs,hl,hx⟩:=UI (β:=Unit) (Q:=fun i (x:α)=>Good x/\∀ (k:Nat) v,(T.enc x)[k]? = some v->w.cell? ((a.add (i*P.cellsOf e)).add k)=some v) len j';refine⟨_,rfl,xs,⟨⟨some a,len,cap,rfl,by rw[T.len,hl],⟨R',by unfold maxLen at T';unfold cn;omega⟩,?_⟩,hl⟩,?_⟩
 ·intro i v hv
  have V:=(ym.1 hv).1;rw[T.len]at V;have hq:i / T.sz<xs.length:=(div_lt_iff_lt_mul C).2 V;have H':i % T.sz<T.sz:=DZ _ C;have q:i=i / T.sz*T.sz+i % T.sz:=by rw[Iz];exact(div_add_mod i T.sz).symm
  have h1:=T.get xs (i / T.sz) (i % T.sz) hq H';rw[<-q,hv]at h1;have _a:xs[i / T.sz]? = some (xs.getD (i / T.sz) T.dflt):=by simp[List.getD,hq]
  have D:=(hx _ _ _a).2 _ _ h1.symm;have F:a.spot=none:=by
   cases _b:a.spot with
   | none=>rfl
   | some s0 =>
    have _c:0<xs.length:=Bg (bC _) hq;have _d:0<(T.enc xs[0]).length:=by rw[T.ok];exact C
    have S:=(hx 0 xs[0] (mL _c)).2 0 (T.enc xs[0])[0] (mL _d);have:(a.add (0*P.cellsOf e)).add 0=a:=by simp[Addr.add]
    rw[this]at S;unfold World.cell? at S;split at S
    ·simp[_b]at S
    cases S
  refine⟨a,rfl,F,?_⟩;rw[A6 a _ _ F,J',<-q]at D;exact D
 intro x q;obtain⟨i,V,rfl⟩:=ga q;exact(hx i _ (mL V)).1
def UJ {t:TypeId}{fs:Array Field}(C:P.underlying t=some (.struct fs)){y:DataW H × List MemPlace}(h:DataW.trod enc P w fC spare held fuel t cs=some y) :
  cs.length=P.cellsOf t/\∀ (i:Nat) (f:Field),fs[i]? = some f->∃ n q,DataW.trod enc P w fC spare held n f.type ((cs.drop f.offset).take (P.cellsOf f.type))=some q:=by
 obtain⟨xs,n,_,_,D,hlen,F⟩:=DataW.trod_struct C h;refine⟨D,fun i f q=>?_⟩;have S:i<fs.size:=(mw.1 q).1;have:=F i f q;rw[mL U]at this;exact⟨n,_,this⟩
def w8 {t off q:Nat}(F:aS P t i off q)(D:P.cellsOf q=n){y:DataW H × List MemPlace}(h:DataW.trod enc P w fC spare held fuel t cs=some y) :
  ∃ m C,DataW.trod enc P w fC spare held m q ((cs.drop off).take n)=some C:=by
 obtain⟨fs,C,S,V,rfl,rfl,_⟩:=F.pJ;obtain⟨_,hh⟩:=UJ S h;subst D;exact hh i C V
def Ie {t off q:Nat}(F:aS P t i off q)(C:P.cellsOf t=n){y:DataW H × List MemPlace}(h:DataW.trod enc P w fC spare held fuel t cs=some y):cs.length=n:=by
 obtain⟨V,D,S,hf,rfl,rfl,_⟩:=F.pJ;subst C;exact(UJ S h).1
end
end
section
def gB:Ty Int:=⟨1,fun n=>[.int .u8 n],fun _=>rfl,0⟩
def Pe:Ty Int:=⟨1,fun n=>[.int .u16 n],fun _=>rfl,0⟩
instance:lU gB:=⟨fun _ v hv=>by rw[fU.1 hv];rfl⟩
instance:lU Pe:=⟨fun _ v hv=>by rw[fU.1 hv];rfl⟩
class s5 (P:Program) (t:Nat) (k:outParam IntKind):Prop where
 ok:P.underlying t=some (.int k)
section
variable {P:Program}{ρ:Fr}{x y:Operand}{ty:TypeId}{pos:String}{af:Array Edge}{g:Option (Nat × Bool)}{dst:Option Nat}{t t':TypeId}
def ZO {s d:Nat}{ks:IntKind}{n:Int}[S:s5 P s ks][D:s5 P d .i64](hx:bh ρ x=.int ks n)(q : -9223372036854775808<=n)(h1:n<=9223372036854775807):PureV P ⟨dst,.convert s d x,ty,pos,af,g⟩ ρ (E n):=fun w=>by
 simp only[execOp,convert,hx,fG,run_underlying S.ok,run_underlying D.ok,fm,Conv.intToInt,Aq q h1,gU]
end
section
variable {w w0:World}{Γ:List HP}
end
section
variable {H:Type}{enc:TypeId × Value->H}{P:Program}{w:World}{fC:Nat}{spare:Nat->Bool}{held:Bool}
end
section
variable {P:Program}{ρ:Fr}{x y:Operand}{ty:TypeId}{pos:String}{af:Array Edge}{g:Option (Nat × Bool)}{dst:Option Nat}{t t':TypeId}
abbrev u64 (n:Nat):Value:=.int .u64 (n:Int)
def tt (n:Nat):IntKind.u64.wrap (n:Int)=((n % 18446744073709551616:Nat):Int):=by
 simp only[IntKind.wrap,IntKind.bits,IntKind.signed];simp
def UK (h:n<18446744073709551616):IntKind.u64.wrap (n:Int)=n:=by
 rw[tt,HT h]
def Τ {z:Int}:IntKind.u64.wrap z=((z % 18446744073709551616).toNat:Int):=by
 simp only[IntKind.wrap,IntKind.bits,IntKind.signed];simp;omega
def mo {a:Nat}(h:a<18446744073709551616):(BitVec.ofInt 64 (a:Int)).toNat=a:=by
 rw[BitVec.toNat_ofInt];omega
def rQ (b:Nat):Nat:=18446744073709551615-b
def UL {b:Nat}(h:b<18446744073709551616)(i:Nat):(rQ b).testBit i=(decide (i<64) && !b.testBit i):=by
 have:rQ b=2 ^ 64-(b+1):=by unfold rQ;omega
 rw[this,R4 U]
def Np {op:BinOp}{a b:Int}{r:Nat}(q:op=.and\/op=.or\/op=.andNot)(hx:bh ρ x=.int .u64 a)(D:bh ρ y=.int .u64 b)(F:∀ w,(Op.intBits op .u64 a b).run P w=.ok (.int .u64 (IntKind.u64.wrap (r:Int))) w)(C:r<18446744073709551616) :
  PureV P ⟨dst,.binOp op t x y t',ty,pos,af,g⟩ ρ (u64 r):=by
 intro w;have h:=F w;rw[UK C]at h
 rcases q with rfl|rfl|rfl <;>
 simp only[execOp,eqGuard,binOp,hx,D,fG,gU,fm,ne_eq,not_true_eq_false,if_false,r5,if_true,h]
def zY {a b:Nat}(hx:bh ρ x=u64 a)(C:bh ρ y=u64 b)(q:a<18446744073709551616)(D:b<18446744073709551616):PureV P ⟨dst,.binOp .and t x y t',ty,pos,af,g⟩ ρ (u64 (a &&& b)):=by
 have e:(BitVec.ofInt 64 (a:Int) &&& BitVec.ofInt 64 (b:Int)).toNat=a &&& b:=by rw[Ms,mo q,mo D]
 exact Np (.inl rfl) hx C (fun w=>by rw[<-e];rfl) (Bg DE q)
def DD {a b:Nat}(hx:bh ρ x=u64 a)(D:bh ρ y=u64 b)(q:a<18446744073709551616)(C:b<18446744073709551616):PureV P ⟨dst,.binOp .or t x y t',ty,pos,af,g⟩ ρ (u64 (a ||| b)):=by
 have e:(BitVec.ofInt 64 (a:Int) ||| BitVec.ofInt 64 (b:Int)).toNat=a ||| b:=by rw[BitVec.toNat_or,mo q,mo C]
 exact Np (.inr (.inl rfl)) hx D (fun w=>by rw[<-e];rfl) (by have:=or_lt_two_pow (n:=64) q C;omega)
def QD {a b:Nat}(hx:bh ρ x=u64 a)(C:bh ρ y=u64 b)(q:a<18446744073709551616)(D:b<18446744073709551616):PureV P ⟨dst,.binOp .andNot t x y t',ty,pos,af,g⟩ ρ (u64 (a &&& rQ b)):=by
 have e:(BitVec.ofInt 64 (a:Int) &&& ~~~ BitVec.ofInt 64 (b:Int)).toNat=a &&& rQ b:=by
  rw[Ms,BitVec.toNat_not,mo q,mo D];unfold rQ;congr 1
 exact Np (.inr (.inr rfl)) hx C (fun w=>by rw[<-e];rfl) (Bg DE q)
def DF {a b:Nat}(hx:bh ρ x=u64 a)(q:bh ρ y=.int k (b:Int))(C:b<=64):PureV P ⟨dst,.binOp .shl t x y t',ty,pos,af,g⟩ ρ (u64 (a*2 ^ b % 18446744073709551616)):=fun w=>by
 have e:IntKind.u64.wrap ((a:Int)*2 ^ b)=((a*2 ^ b % 18446744073709551616:Nat):Int):=by
  rw[<-tt];congr 1
 simp[execOp,eqGuard,hx,q,binOp,shift_shl .u64 k (a:Int) (b:Int) U (by simp only[IntKind.bits];omega),e]
def KY {a b:Nat}(hx:bh ρ x=u64 a)(q:bh ρ y=.int k (b:Int))(C:b<=64):PureV P ⟨dst,.binOp .shr t x y t',ty,pos,af,g⟩ ρ (u64 (a / 2 ^ b)):=fun w=>by
 simp[execOp,eqGuard,hx,q,binOp,shift_shr .u64 k (a:Int) (b:Int) U (by simp only[IntKind.bits];omega)]
def Υ {a b:Nat}(hx:bh ρ x=u64 a)(q:bh ρ y=u64 b):PureV P ⟨dst,.binOp .add t x y t',ty,pos,af,g⟩ ρ (u64 ((a+b) % 18446744073709551616)):=fun w=>by
 have e:IntKind.u64.wrap ((a:Int)+b)=(((a+b) % 18446744073709551616:Nat):Int):=by
  rw[<-tt];congr 1
 simp[execOp,eqGuard,binOp,Op.intArith,hx,q,e]
def ZN {a b:Nat}(hx:bh ρ x=u64 a)(q:bh ρ y=u64 b):PureV P ⟨dst,.binOp .mul t x y t',ty,pos,af,g⟩ ρ (u64 (a*b % 18446744073709551616)):=fun w=>by
 have e:IntKind.u64.wrap ((a:Int)*b)=((a*b % 18446744073709551616:Nat):Int):=by
  rw[<-tt];congr 1
 simp[execOp,eqGuard,binOp,Op.intArith,hx,q,e]
def HR {a b:Nat}(hx:bh ρ x=u64 a)(q:bh ρ y=u64 b)(h:b<=a)(C:a<18446744073709551616):PureV P ⟨dst,.binOp .sub t x y t',ty,pos,af,g⟩ ρ (u64 (a-b)):=fun w=>by
 have e:IntKind.u64.wrap ((a:Int)-b)=((a-b:Nat):Int):=by
  rw[<-UK (n:=a-b) U];congr 1;omega
 simp[execOp,eqGuard,binOp,Op.intArith,hx,q,e]
def ZM {a:Nat}(hx:bh ρ x=u64 a)(q:0<a)(C:a<18446744073709551616):PureV P ⟨dst,.unOp .neg t x,ty,pos,af,g⟩ ρ (u64 (18446744073709551616-a)):=fun w=>by
 have e:IntKind.u64.wrap (0-(a:Int))=((18446744073709551616-a:Nat):Int):=by
  rw[Τ];omega
 simp only[execOp,Op.unary,hx,Op.intArith,fG,gU,fm,e]
end
section
variable {P:Program}{M:Array Oper}{K:Fr->World->Prop}{r:List Oper}{ρ:Fr}{w:World}{d:Nat}{x y:Operand}{ty:TypeId}{pos:String}{af:Array Edge}{t t':TypeId}
def ZP {a b:Nat}(hx:bh ρ x=u64 a)(q:bh ρ y=.int k (b:Int))(C:a<18446744073709551616)(D:b<=64)(h:∀ v:Nat,v<18446744073709551616->opsW P M K r (fQ ρ d (u64 v)) w) :
  opsW P M K (⟨some d,.binOp .shr t x y t',ty,pos,af,none⟩::r) ρ w:=fR rfl (KY hx q D) (h _ (Bg (div_le_self _ _) C))
def ZQ {a b:Nat}(hx:bh ρ x=u64 a)(C:bh ρ y=u64 b)(q:a<18446744073709551616)(D:b<18446744073709551616)(h:∀ v:Nat,v<18446744073709551616->opsW P M K r (fQ ρ d (u64 v)) w) :
  opsW P M K (⟨some d,.binOp .and t x y t',ty,pos,af,none⟩::r) ρ w:=fR rfl (zY hx C q D) (h _ (Bg DE q))
def ZR {a b:Nat}(hx:bh ρ x=u64 a)(q:bh ρ y=u64 b)(h:∀ v:Nat,v<18446744073709551616->opsW P M K r (fQ ρ d (u64 v)) w) :
  opsW P M K (⟨some d,.binOp .add t x y t',ty,pos,af,none⟩::r) ρ w:=fR rfl (Υ hx q) (h _ (DZ _ dc))
def ZU {s q:Nat}[S:s5 P s .u64][D:s5 P q .i64](C:eP P (.convert s q x)=.pure)(hx:bh ρ x=u64 n)(h:∀ z:Int,opsW P M K r (fQ ρ d (E z)) w) :
  opsW P M K (⟨some d,.convert s q x,ty,pos,af,none⟩::r) ρ w :=
 fR C (v:=E (IntKind.i64.wrap (n:Int))) (fun w=>by
  simp only[execOp,convert,hx,fG,run_underlying S.ok,run_underlying D.ok,fm,Conv.intToInt,gU]) (h _)
def ZV {a:Int}(hx:bh ρ x=E a)(q:bh ρ y=E 127)(h:∀ z:Int,0<=z->z<=127->opsW P M K r (fQ ρ d (E z)) w) :
  opsW P M K (⟨some d,.binOp .and t x y t',ty,pos,af,none⟩::r) ρ w:=by
 have fh:(BitVec.ofInt 64 a &&& BitVec.ofInt 64 127).toNat<=127:=by
  rw[Ms];exact rN and_le_right dc
 refine fR rfl (v:=E ((BitVec.ofInt 64 a &&& BitVec.ofInt 64 127).toNat:Int)) (fun w=>?_) (h _ U U);have C:(execOp (bh ρ) ⟨some d,.binOp .and t x y t',ty,pos,af,none⟩).run P w=.ok (.value (E (IntKind.i64.wrap ((BitVec.ofInt 64 a &&& BitVec.ofInt 64 127).toNat:Int)))) w:=by
  simp only[execOp,eqGuard,binOp,hx,q,Op.intBits,fG,gU,fm,ne_eq,not_true_eq_false,if_false,r5,if_true];rfl
 rw[C,Aq U U]
class AO (P:Program) (t:Nat) (n:outParam Nat):Prop where
 ok:∃ e,P.underlying t=some (.array n e)/\∀ w,(sizeOf e).run P w=.ok 1 w
def CE {j:Int}[A:AO P t n]{dst:Option Nat}{g:Option (Nat × Bool)}(hx:bh ρ x=.pointer (some p))(q:bh ρ y=.int k j)(C:0<=j)(h1:j<n):PureV P ⟨dst,.indexAddr t x y,ty,pos,af,g⟩ ρ (.pointer (some (p.add j.toNat))):=fun w=>by
 obtain⟨e,he,D⟩:=A.ok;simp[execOp,Instr.indexAt,Instr.sureAddr,hx,q,asIntOf,run_underlying he,C,h1,D]
end
def ed:Ty Nat:=⟨1,fun n=>[.int .u64 (n:Int)],fun _=>rfl,0⟩
instance:lU ed:=⟨fun _ v hv=>by rw[fU.1 hv];rfl⟩
section
variable {α:Type} [DecidableEq α]
def jP (x:α):List (α × Value)->Nat->Option (Nat × Value)
 | [],_=>none
 | p::l,i=>if x=p.1 then some (i,p.2) else jP x l (i+1)
def vM (kv:List (α × Value))(x:α):Option Value:=(jP x kv 0).map (·.2)
def vN (kv:List (α × Value))(x:α)(v:Value):List (α × Value):=match jP x kv 0 with|some (i,_)=>kv.set i (x,v)|none=>kv++[(x,v)]
def UM {x:α}:∀ {l:List (α × Value)}{i j:Nat}{v:Value},jP x l i=some (j,v)->i<=j/\l[j-i]? = some (x,v)
 | [],_,_,_,h=>by cases h
 | p::l,i,j,v,h=>by
  simp only[jP]at h;split at h
  ·rename_i e;cases h;subst e;exact⟨cP _,sm⟩
  obtain⟨h1,q⟩:=UM h;refine⟨U,?_⟩;rw[show j-i=(j-(i+1))+1 by omega];simpa using q
end
class yD {α:Type} [DecidableEq α] (P:Program) (k:TypeId) (κ:α->Value):Prop where
 uB:∀ e x w,(Instr.checkKey e 10000 k (κ x)).run P w=.ok () w
 yE:∀ x (es:List MapEntry) (kv:List (α × Value)),(es.map fun e=>(e.key,e.val))=kv.map (fun p=>(κ p.1,p.2))->∀ w,(Instr.findKey k (κ x) es).run P w=.ok (jP x kv 0) w
 bits:∀ x,Instr.sameBits 10000 (κ x) (κ x)=true
class sB (P:Program) (t:Nat) (zv:outParam Value):Prop where
 ok:(P.info? t).bind (·.zero)=some zv
def sB.run {P:Program}{t:Nat}{C:Value}(h:sB P t C)(w:World):(zeroValue t).run P w=.ok C w:=by
 have h:=h.ok
 cases q:P.info? t with
 | none=>simp[q]at h
 | some i =>
  simp only[q,An]at h;simp[zeroValue,typeInfo,q,h]
class xy (P:Program) (t:TypeId) (k e:outParam TypeId):Prop where
 ok:P.underlying t=some (.map k e)
section
variable {α:Type}
def tc (κ:α->Value)(m:Value)(kv:List (α × Value)):HP:=fun h=>∃ b es clock,m=.map (some b)/\h b=some (.map es clock)/\(es.toList.map fun e=>(e.key,e.val))=kv.map fun p=>(κ p.1,p.2)
class sC (Γ:List HP) (m:Value) (κ:outParam (α->Value)) (kv:outParam (List (α × Value))) (put:outParam (HP->List HP)):Prop where
 nB:wr Γ (tc κ m kv) put
instance (priority:=high) map_here {κ:α->Value}{m:Value}{kv:List (α × Value)}{Γ:List HP}:sC (tc κ m kv::Γ) m κ kv (fun A'=>A'::Γ):=⟨wr.C8⟩
instance EP {B:HP}{κ:α->Value}{m:Value}{kv:List (α × Value)}{Γ:List HP}{put:HP->List HP} [h:sC Γ m κ kv put]:sC (B::Γ) m κ kv (fun A'=>B::put A'):=⟨h.nB.yQ⟩
variable {P:Program}{M:Array Oper}{K:Fr->World->Prop}{r:List Oper}{ρ:Fr}{w w0:World}{d:Nat}{ty:TypeId}{pos:String}{af:Array Edge}{g:Option (Nat × Bool)}{dst:Option Nat}{x y z:Operand}{t:TypeId}{Γ:List HP}{κ:α->Value}{kv:List (α × Value)}{m:Value}
def Ť (κ:α->Value)(Y:Z w0 w Γ)(h:∀ m w',Z w0 w' (tc κ m []::Γ)->opsW P M K r (fQ ρ d m) w'):opsW P M K (⟨some d,.makeMap t none,ty,pos,af,none⟩::r) ρ w:=by
 refine mj rfl ?_;simp only[opW,execOp,Instr.makeMap,Option.map_none,fG,gU,fm,run_newObj,cJ];exact h (.map (some w.heap.size)) _ (Y.push (o:=.map #[] 0) ⟨w.heap.size,#[],0,rfl,sm,sm⟩)
def Nq (Y:Z w0 w Γ)(hi:Γ[i]? = some (tc κ m kv)):∃ b es clock,m=.map (some b)/\w.heap[b]? = some (.map es clock)/\(es.toList.map fun e=>(e.key,e.val))=kv.map fun p=>(κ p.1,p.2):=by
 obtain⟨h1,q,b,es,clock,hm,C,he⟩:=Y.at i hi;exact⟨b,es,clock,hm,(q b _ C).1,he⟩
def ť [DecidableEq α]{k e:TypeId}{q:α}{C:Value}{put:HP->List HP}[M':xy P t k e][KT:yD P k κ][Z':sB P e C](hx:bh ρ x=m)(D:bh ρ y=κ q)(Y:Z w0 w Γ)(F:sC Γ m κ kv put):ReadV P ⟨dst,.lookup t x y true,ty,pos,af,g⟩ ρ w (.tuple #[(vM kv q).getD C,.bool (vM kv q).isSome]):=by
 obtain⟨i,S,_⟩:=F.nB.ok;obtain⟨b,es,clock,rfl,V,he⟩:=Nq Y S;have hf:=KT.yE q es.toList kv he w;simp only[ReadV,execOp,hx,D,Instr.lookup,fG,run_underlying M'.ok,fm,gU,MapKept.run_getObj_map V,KT.uB,hf]
 cases h:jP q kv 0 with
 | none=>simp[vM,h,Z'.run]
 | some p=>simp[vM,h]
def Uj {k e:TypeId}{put:HP->List HP}[M':xy P t k e](hx:bh ρ x=m)(Y:Z w0 w Γ)(q:sC Γ m κ kv put):ReadV P ⟨dst,.call { callee:=.builtin .len,args:=#[x],argTypes:=#[t] },ty,pos,af,g⟩ ρ w (E kv.length):=by
 obtain⟨i,C,_⟩:=q.nB.ok;obtain⟨b,es,clock,rfl,D,he⟩:=Nq Y C;have F:es.size=kv.length:=by
  have:=uZ List.length he
  simpa using this
 simp[ReadV,execOp,resolve,invoke,builtin,hx,Builtin.len_,run_underlying M'.ok,MapKept.run_getObj_map D,F,goInt]
def Ŧ [DecidableEq α]{k e:TypeId}{q:α}{put:HP->List HP}[M':xy P t k e][KT:yD P k κ](hx:bh ρ x=m)(hy:bh ρ y=κ q)(hz:bh ρ z=v)(Y:Z w0 w Γ)(O':sC Γ m κ kv put)(h:∀ w',Z w0 w' (put (tc κ m (vN kv q v)))->opsW P M K r ρ w'):opsW P M K (⟨none,.mapUpdate t x y z,ty,pos,af,none⟩::r) ρ w:=by
 refine mj rfl ?_;obtain⟨i,V,D⟩:=O'.nB.ok;obtain⟨b,es,clock,rfl,hb,he⟩:=Nq Y V;have hf:=KT.yE q es.toList kv he w;simp only[opW,execOp,hx,hy,hz,Instr.mapUpdate,fG,run_underlying M'.ok,fm,MapKept.run_getObj_map hb,KT.uB,hf]
 cases hm:jP q kv 0 with
 | none =>
  simp only[MapKept.run_setObj_map _ hb,fm,gU,cJ,jq];refine h _ ?_;rw[D];refine(Y.bN i V).put (b:=b) (o':=.map (es.push { key:=κ q,val:=v,born:=clock }) (clock+1)) (A':=tc κ (.map (some b)) (vN kv q v)) ?_ |>.iD i V;rintro h1 _ ⟨b',J',C,F,S,_⟩;cases F;refine⟨⟨_,S⟩,b,es.push { key:=κ q,val:=v,born:=clock },clock+1,rfl,by simp[oC],?_⟩
  simp[vN,hm,he]
 | some p =>
  obtain⟨j,u⟩:=p;obtain⟨_,hj⟩:=UM hm;rw[L1]at hj;have P':=(ym.1 hj).1;have hlen:es.size=kv.length:=by have:=uZ List.length he;simpa using this
  have j':((es[j]?).map (·.key)).getD (κ q)=κ q:=by
   have:=uZ (fun l=>l[j]?) he;simp only[vh,hj,vk]at this;rw[Eh U];rw[R9,Eh U]at this;simp at this ⊢;exact this.1
  simp only[Instr.keyThatStays,j',KT.bits,if_true,gU,fG,fm,MapKept.run_setObj_map _ hb,cJ,jq];refine h _ ?_;rw[D];refine(Y.bN i V).put (b:=b) (o':=.map (es.modify j fun e=>{ e with key:=κ q,val:=v }) clock) (A':=tc κ (.map (some b)) (vN kv q v)) ?_ |>.iD i V;rintro h1 _ ⟨b',J',C,F,S,_⟩;cases F;refine⟨⟨_,S⟩,b,es.modify j fun e=>{ e with key:=κ q,val:=v },clock,rfl,by simp[oC],?_⟩;simp only[vN,hm];apply Al;intro a;have H':=uZ (fun l=>l[a]?) he;simp only[vh]at H';simp only[vh,Array.toList_modify,getElem?_modify,D9];by_cases e1:j=a
  ·subst e1
   rw[ba rfl,ba P',R9,Eh U];simp
  rw[aM e1];simp only[e1,if_false];rw[<-H'];cases es.toList[a]?<;>rfl
end
def Nr {α:Type}[DecidableEq α]{κ:α->Value}{d:TypeDesc}(D:∀ a b,Instr.sameNow d (κ a) (κ b)=some (decide (a=b)))(q:α):∀ (es:List MapEntry) (kv:List (α × Value)) (i:Nat),(es.map fun e=>(e.key,e.val))=kv.map (fun p=>(κ p.1,p.2))->Instr.findNow d (κ q) es i=some (jP q kv i)
 | [],kv,i,h=>by
  have:kv=[]:=by simpa using h.symm
  subst this
  rfl
 | e::es,[],i,h=>by simp at h
 | e::es,p::kv,i,h=>by
  simp only[pV,List.cons.injEq,Prod.mk.injEq]at h;obtain⟨⟨h1,F⟩,S⟩:=h;have V:=Nr D q es kv (i+1) S;simp only[Instr.findNow,h1,D,jP];by_cases C:q=p.1
  ·rw[ba C,dH C,F]
  rw[aM C,dB C];exact V
def qX (b:ByteArray):Value:=.string b
def vP (z:Int):Value:=E z
def Ns (a b:ByteArray):(a == b)=decide (a=b):=by
 cases a with
 | mk x =>
  cases b with
  | mk y =>
   have h:((ByteArray.mk x) == (ByteArray.mk y))=(x == y):=rfl;rw[h];exact Bool.eq_iff_iff.2 (by rw[tW,jV,ByteArray.mk.injEq])
def Φ (a b:ByteArray):Instr.sameNow .string (qX a) (qX b)=some (decide (a=b)):=by
 show some (a == b)=_;rw[Ns]
def Χ (a b:Int):Instr.sameNow (.int .i64) (vP a) (vP b)=some (decide (a=b)):=by
 show (if IntKind.i64=IntKind.i64 then some (a == b) else none)=_;rw[ba rfl];congr 1
instance {P:Program}{k:Nat} [S:vJ P k]:yD P k qX where
 uB:=fun e x w=>by
  unfold Instr.checkKey;simp only[fG,run_underlying S.iI,fm,qX,gU]
 yE:=fun x es kv h w=>MapKept.run_findKey S.iI (Nr Φ x es kv 0 h)
 bits:=fun x=>by
  show (x == x)=true;rw[Ns,dH rfl]
instance {P:Program}{k:Nat} [S:s5 P k .i64]:yD P k vP where
 uB:=fun e x w=>by
  unfold Instr.checkKey;simp only[fG,run_underlying S.ok,fm,vP,gU]
 yE:=fun x es kv h w=>MapKept.run_findKey S.ok (Nr Χ x es kv 0 h)
 bits:=fun x=>by simp[Instr.sameBits,vP]
section
variable {P:Program}{M:Array Oper}{K:Fr->World->Prop}{r:List Oper}{ρ:Fr}{w:World}{d:Nat}{ty:TypeId}{pos:String}{af:Array Edge}{x:Operand}
def ŝ {a b:ByteArray}{y:Operand}{t t':TypeId}{g:Option (Nat × Bool)}{dst:Option Nat}(hx:bh ρ x=.string a)(q:bh ρ y=.string b):PureV P ⟨dst,.binOp .eql t x y t',ty,pos,af,g⟩ ρ (.bool (decide (a=b))):=fun w=>by
 have h:(a.toList == b.toList)=decide (a=b):=by rw[<-beq_toListBytes,Ns]
 simp only[execOp,eqGuard,hx,q,binOp_string_eql,h];simp
end
def pd (P:Program)(t:Nat)(v:Value)(name:String)(f:Nat)(u:Value):Prop:=∀ (m:Nat) (w:World),(method (m+1) t v name).run P w=.ok (f,u) w
def zf (P:Program)(t:Nat)(name:String)(f:Nat):Bool :=
 (match P.underlying t with|some (.struct _)=>true|some (.slice _)=>true|_=>false) &&
 match P.info? t with
 | some i=>(match i.methods.find? (·.name == name) with
   | some m=>m.path.isEmpty && (match m.func with|some (g,q)=>g == f && q == false|none=>false)
   | none=>false)
 | none=>false
class rn (P:Program) (t:Nat) (name:String) (f:outParam Nat):Prop where
 ok:zf P t name f=true
section
variable {P:Program}
def rn.rows {t:Nat}{name:String}(h:rn P t name f):((∃ fs,P.underlying t=some (.struct fs))\/∃ e,P.underlying t=some (.slice e))/\∃ i m,P.info? t=some i/\i.methods.find? (·.name == name)=some m/\m.path.toList=[]/\m.path.isEmpty=true/\m.func=some (f,false):=by
 have h:=h.ok;simp only[zf,Bool.and_eq_true]at h;obtain⟨h1,C⟩:=h;refine⟨?_,?_⟩
 ·split at h1
  ·rename_i e he;exact .inl ⟨e,he⟩
  ·rename_i e he;exact .inr ⟨e,he⟩
  cases h1
 split at C
 ·rename_i i S
  split at C
  ·rename_i m hm
   simp only[Bool.and_eq_true]at C;obtain⟨F,D⟩:=C;split at D
   ·rename_i g q I
    simp at D;refine⟨i,m,S,hm,?_,F,by rw[I,D.1,D.2]⟩
    simpa using F
   cases D
  cases C
 cases C
def HH {t:Nat}{name:String}[M':rn P t name f](v:Value):pd P t v name f v:=by
 obtain⟨hu,i,m,q,hm,C,he,D⟩:=M'.rows;intro fuel w
 rcases hu with ⟨F,hu⟩|⟨e,hu⟩ <;>
 simp only[method,fG,run_typeInfo w q,fm,hm,C,follow,gU,D,receiverAt,run_underlying hu,Place.get]
def Jj {t elem:Nat}{name:String}[M':gy P t name f true elem](p:Addr):pd P t (.pointer (some p)) name f (.pointer (some p)):=fun m w=>Te M' m p w
variable {M:Array Oper}{K:Fr->World->Prop}{r:List Oper}{ρ:Fr}{w w0:World}{Γ:List HP}{d:Option Nat}{ty:TypeId}{pos:String}{af:Array Edge}{x:Operand}
def ŷ {t:Nat}{name:String}{xs:List Operand}{R:Ending->World->Prop}(M':pd P t v name f u)(C:au P f)(q:bh ρ x=.iface t v)(hx:xs.map (bh ρ)=vs)(D:Calls P f (u::vs).toArray w R)(h:∀ e w',R e w'->∃ v,e=.returned v/\opsW P M K r (jq ρ d v) w'):opsW P M K (⟨d,.call { callee:=.invoke x name,args:=xs.toArray,argTypes:=ts },ty,pos,af,none⟩::r) ρ w:=by
 refine mj rfl ?_;obtain⟨m,hm⟩:=I3 P;have q:(execOp (bh ρ) ⟨d,.call { callee:=.invoke x name,args:=xs.toArray,argTypes:=ts },ty,pos,af,none⟩).run P w=.ok (.enter f (u::vs).toArray) w:=by
  have e:(#[bh ρ x]++Array.map (bh ρ) xs.toArray)=(.iface t v::vs).toArray:=by simp[q,hx]
  simp only[execOp,resolve,fG,gU,fm,invoke,e];simp only[Ek,FK,callMethod,fG,run_program,fm,hm,M' m,C.run];congr 2;simp
 simp only[opW,q,cJ];refine wh D fun e w' F=>?_;obtain⟨v,rfl,hk⟩:=h e w' F;exact hk
end
end
section
open Go.Stop Go.Extern.Stop
section
variable {P:Program}{M:Array Oper}{K:Fr->World->Prop}{r:List Oper}{ρ:Fr}{w w0:World}{ty:TypeId}{pos:String}{af:Array Edge}{x y:Operand}{t t':TypeId}{d:Nat}{dst:Option Nat}{g:Option (Nat × Bool)}
def Ψ {xs:List Operand}(hx:xs.map (bh ρ)=vs)(q:(callFunc f vs.toArray).run P w=.ok (.value v) w)(h:opsW P M K r (fQ ρ d v) w):opsW P M K (⟨some d,.call { callee:=.value (.func f),args:=xs.toArray,argTypes:=ts },ty,pos,af,none⟩::r) ρ w:=by
 refine mj rfl ?_;have C:(execOp (bh ρ) ⟨some d,.call { callee:=.value (.func f),args:=xs.toArray,argTypes:=ts },ty,pos,af,none⟩).run P w=.ok (.value v) w:=by
  simp only[execOp,resolve,Deferred.ofValue,bh,fG,gU,fm,invoke];have:#[]++Array.map (bh ρ) xs.toArray++#[]=vs.toArray:=by simp[hx]
  rw[this,q]
 simp only[opW,C,cJ];exact h
def Ω {t:Nat}{name:String}{xs:List Operand}(M':pd P t v name f u)(q:bh ρ x=.iface t v)(hx:xs.map (bh ρ)=vs)(C:(callFunc f (u::vs).toArray).run P w=.ok (.value v') w)(h:opsW P M K r (fQ ρ d v') w):opsW P M K (⟨some d,.call { callee:=.invoke x name,args:=xs.toArray,argTypes:=ts },ty,pos,af,none⟩::r) ρ w:=by
 refine mj rfl ?_;obtain⟨m,hm⟩:=I3 P;have q:(execOp (bh ρ) ⟨some d,.call { callee:=.invoke x name,args:=xs.toArray,argTypes:=ts },ty,pos,af,none⟩).run P w=.ok (.value v') w:=by
  have e:(#[bh ρ x]++Array.map (bh ρ) xs.toArray)=(.iface t v::vs).toArray:=by simp[q,hx]
  have D:#[u]++(Value.iface t v::vs).toArray.extract 1 (Value.iface t v::vs).toArray.size=(u::vs).toArray:=sm;simp only[execOp,resolve,fG,gU,fm,invoke,e];simp only[Ek,FK,callMethod,fG,run_program,fm,hm,M' m,D,C]
 simp only[opW,q,cJ];exact h
def γ {u:TypeId}{z:Value}{want:Array (String × TypeId)}(hx:bh ρ x=.iface u v)(hu:P.underlying t=some (.interface want))(h:(P.info? u).map (fun i=>(lacking want i.methods).isEmpty)=some false)(q:(P.info? t).map (·.zero)=some (some z)) :
  PureV P ⟨dst,.typeAssert x t' t true,ty,pos,af,g⟩ ρ (.tuple #[z,.bool false]):=fun w=>by
 have:=run_typeAssert_lacksB (P:=P) hu h q v t' w;simp[execOp,hx,this]
def δ {u:TypeId}{q:IntKind}{a b:Int}(hx:bh ρ x=.iface u (.int k a))(C:bh ρ y=.iface u (.int k b))(D:P.underlying t=some (.interface ms))(F:(P.info? u).map (·.comparable)=some true)(hq:P.underlying u=some (.int q)) :
  PureV P ⟨dst,.binOp .eql t x y t',ty,pos,af,g⟩ ρ (.bool (a == b)):=fun w=>by
 have:=Go.Lib.run_eql_iface_int (P:=P) w a b (k:=k) D F hq;simp[execOp,eqGuard,hx,C,this]
def ε {u:TypeId}(hx:bh ρ x=.nilIface)(q:bh ρ y=.iface u v)(C:P.underlying t=some (.interface ms)) :
  PureV P ⟨dst,.binOp .eql t x y t',ty,pos,af,g⟩ ρ (.bool false):=fun w=>by
 have:=run_eql_iface_nil_left (P:=P) (w:=w) u v C;simp[execOp,eqGuard,hx,q,this]
end
end
section
open Go.RowKit (Below)
section
variable {P:Program}{M:Array Oper}{K:Fr->World->Prop}{r:List Oper}{ρ:Fr}{w w0:World}{d:Nat}{ty:TypeId}{pos:String}{af:Array Edge}{g:Option (Nat × Bool)}{dst:Option Nat}{x y:Operand}{t t':TypeId}{Γ:List HP}{s:Value}{xs:J}
def ζ (h:b2.data.toList.map (fun c=>(c.toNat:Int))=ys)(w:World):(Builtin.firstCells gB.sz b2.size (.string b2)).run P w=.ok (ys.flatMap gB.enc).toArray w:=by
 have e:b2.extract 0 b2.size=b2:=by
  apply ByteArray.ext;simp
 simp only[Builtin.firstCells,e,gU];congr 1;apply Ix;rw[<-h];simp only[Array.toList_map,flatMap_map]
 induction b2.data.toList with
 | nil=>rfl
 | cons c l q=>rw[pV,pA,q];rfl
def ZY {e:Nat}{u:TypeId}{put:HP->List HP}[S:bw P t e sz by_][Z':bD P e zs][U':vJ P u](O':iP Γ s Int gB e xs put)(hx:bh ρ x=s)(hy:bh ρ y=.string b2)(h2:b2.data.toList.map (fun c=>(c.toNat:Int))=ys)(_c:sz=gB.sz)(_d:zs.length=sz)(hb:(xs.length+ys.length)*by_<=140737488355328)(hl:xs.length+ys.length<=cn)(Y:Z w0 w Γ)(h:∀ s' w',Z w0 w' (put (X gB e s' (xs++ys)))->opsW P M K r (fQ ρ d s') w'):opsW P M K (⟨some d,.call { callee:=.builtin .append,args:=#[x,y],argTypes:=#[t,u] },ty,pos,af,none⟩::r) ρ w:=by
 refine mj rfl ?_;subst _c;obtain⟨i,hi,hp⟩:=O'.nB.ok;simp only[hp]at h;obtain⟨bZ,T',hs,_e⟩:=S.vH;obtain⟨zv,_f,_g⟩:=Z'.zero;have h1:=Y.rs i hi;obtain⟨ph,_h,D⟩:=Y.at i hi;have V':∀ x∈ys,∀ v∈gB.enc x,v.oneCell'=true:=fun x _ v hv=>lU.ok x v hv;have F:b2.size=ys.length:=by rw[<-h2,lA];rfl
 have C:∀ w':World,w'.heap=w.heap->(Builtin.firstCells gB.sz ys.length (.string b2)).run P w'=.ok (ys.flatMap gB.enc).toArray w':=fun w' _=>by rw[<-F];exact ζ h2 w'
 have V:∀ w':World,w'.heap=w.heap->(Builtin.firstCells gB.sz xs.length s).run P w'=.ok (xs.flatMap gB.enc).toArray w':=fun w' _i=>FX h1.1 h1.2.symm w' _i
 have j':∀ (a:Option Addr) (cap:Nat),s=.slice a xs.length cap->cap<xs.length+ys.length ->
   (execOp (bh ρ) ⟨some d,.call { callee:=.builtin .append,args:=#[x,y],argTypes:=#[t,u] },ty,pos,af,none⟩).run P w =
   .ok (.value (.slice (some ⟨w.heap.size,0,none⟩) (xs.length+ys.length) (grownCap w (xs.length+ys.length) cap e))) (jO w.drew (.cells ((xs.flatMap gB.enc).toArray++(ys.flatMap gB.enc).toArray++Builtin.zeroCells zs.toArray (grownCap w (xs.length+ys.length) cap e-(xs.length+ys.length))) e)):=by
  intro a cap J' q;have hn:¬(xs.length+ys.length<=cap):=U;have P':¬(9223372036854775807<((xs.length:Int)+(ys.length:Int))):=by unfold cn at hl;omega
  have _a:=growslice_fits (bytes:=by_) q hb;have R':¬(281474976710656<Builtin.nextslicecap (xs.length+ys.length) cap*by_):=U;have hq:(Question.appendCap (xs.length+ys.length) cap e).forced=false:=rfl;rw[J']at V;simp[execOp,resolve,invoke,builtin,Builtin.append_,hx,hy,J',run_underlying S.iI,S.size,typeInfo,T',_e,Builtin.lenOf,F,run_underlying U'.iI,hn,P',R',hq,V,C,_g,_f,grownCap];rw[V w.drew rfl];simp only[fm];rw[C w.drew rfl];have H':∀ (X' Y':List Value) (Z':Array Value),X'.toArray++(Y'.toArray++Z')=(X'++Y').toArray++Z':=fun X' Y' Z'=>by apply Ix;simp only[Mf,fk]
  simp only[newRow,fG,run_newObj,fm,gU];rw[H'];rfl
 simp only[opW];rcases D with ⟨D,hlen⟩;have P':∀ cap,cap<xs.length+ys.length->Z w0 (jO w.drew (.cells ((xs.flatMap gB.enc).toArray++(ys.flatMap gB.enc).toArray++Builtin.zeroCells zs.toArray (grownCap w (xs.length+ys.length) cap e-(xs.length+ys.length))) e)) (Γ.set i (X gB e (.slice (some ⟨w.heap.size,0,none⟩) (xs.length+ys.length) (grownCap w (xs.length+ys.length) cap e)) (xs++ys))):=by
  intro cap q;have H':=grownCap_ge w (xs.length+ys.length) cap e;refine Z.yR (w:=w.drew) Y.drew hi ⟨.inr ⟨w.heap.size,0,_,_,[],(Builtin.zeroCells zs.toArray (grownCap w (xs.length+ys.length) cap e-(xs.length+ys.length))).toList,rfl,rfl,by rw[gB.len];simp,H',hl,?_,?_⟩,by simp[eZ]⟩
  ·simp[size_zeroCells,_d]
  simp
 rcases D with ⟨rfl,_v⟩|⟨b,off,n,cap,pre,post,rfl,_a,_j,_C,_w,_k,_l⟩
 ·simp only[eZ]at hlen
  by_cases H':ys.length=0
  ·have J':=qD H'
   subst J';have hr:(execOp (bh ρ) ⟨some d,.call { callee:=.builtin .append,args:=#[x,y],argTypes:=#[t,u] },ty,pos,af,none⟩).run P w=.ok (.value (nS)) w:=by
    have q:=C w rfl;simp only[length_nil]at q;simp[execOp,resolve,invoke,builtin,Builtin.append_,hx,hy,run_underlying S.iI,S.size,Builtin.lenOf,F,run_underlying U'.iI,q]
   rw[hr];refine h _ _ ?_;have:xs=[]:=qD hlen;subst this;simp only[gj];rw[show Γ.set i (X gB e (nS) [])=Γ from ?_]
   ·exact Y
   apply Al;intro k;rw[D9];split
   ·rename_i hk;subst hk;split
    ·rw[hi]
    rename_i hk;rw[xS U]
   rfl
  rw[j' none 0 (by rw[hlen]) U];exact h _ _ (P' 0 U)
 simp only[eZ]at hlen;subst hlen;by_cases H':xs.length+ys.length<=cap
 ·have q:=C w rfl
  have J':(xs.flatMap gB.enc).length=xs.length*gB.sz:=gB.len xs;have R':(ys.flatMap gB.enc).length=ys.length*gB.sz:=gB.len ys;have hm:xs.length*gB.sz+ys.length*gB.sz<=xs.length*gB.sz+(cap-xs.length)*gB.sz:=by
   have:ys.length*gB.sz<=(cap-xs.length)*gB.sz:=wm _ U;omega
  have _m:=yo (P:=P) (bt:=e) (ys.flatMap gB.enc) (off+xs.length*gB.sz) 0 (pre++xs.flatMap gB.enc++post) w (by
   intro v hv;obtain⟨x',_b,_n⟩:=tN.1 hv
   exact V' x' _b v _n) (by simp only[length_append,J',R'];omega) (_h _ _ _l).1
  have hr:(execOp (bh ρ) ⟨some d,.call { callee:=.builtin .append,args:=#[x,y],argTypes:=#[t,u] },ty,pos,af,none⟩).run P w=.ok (.value (.slice (some ⟨b,off,none⟩) (xs.length+ys.length) cap)) (fq w b (.cells ((pre++xs.flatMap gB.enc++post).take (off+xs.length*gB.sz+0)++ys.flatMap gB.enc++(pre++xs.flatMap gB.enc++post).drop (off+xs.length*gB.sz+0+(ys.flatMap gB.enc).length)).toArray e (0,0))):=by
   simp only[execOp,resolve,invoke,builtin,Builtin.append_,hx,hy,fG,gU,fm,FE,pV,uL,run_underlying S.iI,S.size,Builtin.lenOf,F,run_underlying U'.iI];simp[q,H',Ac,run_underlying S.iI,Builtin.lenOf,F,run_underlying U'.iI,S.size];rw[_m];simp
  rw[hr];have _n:(pre++xs.flatMap gB.enc++post).take (off+xs.length*gB.sz+0)=pre++xs.flatMap gB.enc:=by
   rw[Bs (by simp only[length_append,J'];omega)];exact io (by simp only[length_append,J'];omega)
  have _o:(pre++xs.flatMap gB.enc++post).drop (off+xs.length*gB.sz+0+(ys.flatMap gB.enc).length)=post.drop (ys.length*gB.sz):=by
   rw[Am,oG (by simp only[length_append,J',R'];omega)];simp only[lQ,length_append,J',R'];congr 1;omega
  rw[_n,_o];refine h _ _ (Z.iD i hi (Z.put (Y.bN i hi) fun h1 _x hA=>?_));rcases hA with ⟨hA,_⟩;rcases hA with ⟨hc,_⟩|⟨b1,_y,n1,_z,_A,_p,_q,_r,_s,_B,_t,_b,_u⟩
  ·cases hc
  cases _q;refine⟨⟨_,_u⟩,.inr ⟨b,off,xs.length+ys.length,cap,pre,post.drop (ys.length*gB.sz),rfl,_a,by rw[gB.len,length_append],H',hl,?_,?_⟩,by simp[eZ]⟩
  ·simp only[Bq]
   have:(cap-(xs.length+ys.length))*gB.sz=(cap-xs.length)*gB.sz-ys.length*gB.sz:=by rw[<-FF];congr 1;omega
   omega
  simp[oC]
 rw[j' _ cap rfl U];exact h _ _ (P' cap U)
def Z.zn (Y:Z w0 w (am p bt (u::vs)::Γ)):Z w0 (w.setCell p v) (am p bt (v::vs)::Γ):=by
 obtain⟨h1,hs,ho,C,F⟩:=Y.at 0 rfl;obtain⟨S,po,j'⟩:=p;simp only at ho C F;subst ho C;have q:=(hs _ _ F).1;have D:w.setCell ⟨S,0,none⟩ v=fq w S (.cells (v::vs).toArray bt (0,0)):=by
  simp only[World.setCell,fq];congr 1;apply yl;intro k;have V:=(mw.1 q).1;by_cases hk:S=k
  ·subst hk;rw[xU,ba rfl,q,CG V];simp
  rw[xU,aM hk,wo hk]
 rw[D];exact Z.put Y fun h1 _ ⟨_,_,F⟩=>⟨⟨_,F⟩,rfl,rfl,by simp[oC]⟩
def Z.Dp (Y:Z w0 w (am p bt (u::vs)::Γ)):p=⟨p.block,0,none⟩/\w.cell? p=some u/\w.shape? p.block=some (bt,vs.length+1)/\w.frozen? p=false:=by
 obtain⟨h1,S,D,C,F⟩:=Y.at 0 rfl;obtain⟨pb,po,V⟩:=p;simp only at D C F;subst D C;have q:=(S _ _ F).1;exact⟨rfl,by rw[eH q];rfl,by simp[World.shape?,q],fO q _⟩
def η {a:Addr}(hx:bh ρ x=.slice (some a) n c)(q:c≠0):PureV P ⟨dst,.call { callee:=.builtin .unsafeSliceData,args:=#[x],argTypes:=#[t] },ty,pos,af,g⟩ ρ (.pointer (some a)):=fun w=>by
 simp[execOp,resolve,invoke,builtin,hx,Lib.run_unsafeSliceData_row w _ _ a n c q]
def Z0 {a:Addr}(hx:bh ρ x=.slice (some a) n c)(q:c≠0)(h:opsW P M K r (fQ ρ d (.pointer (some a))) w):opsW P M K (⟨some d,.call { callee:=.builtin .unsafeSliceData,args:=#[x],argTypes:=#[t] },ty,pos,af,none⟩::r) ρ w:=by
 refine mj rfl ?_;unfold opW;rw[η hx q w];exact h
def θ {e:TypeId}(C:P.cellsOf e=1)(count off n:Nat)(D:off+n<=count):liesAt P P.depth e count off e n=true:=by
 have q:P.depth=(2*(P.types.size+Made.depth)+1)+1:=rfl;rw[q];simp only[liesAt,sL];left;rw[q];simp[rowAt,C,D,sameLayout,mod_one]
def dq (l:List UInt8):J:=l.map fun c=>(c.toNat:Int)
def ι {pt it ty e:TypeId}(hp:P.underlying pt=some (.pointer e))(hc:P.cellsOf e=1){g off cells:Nat}(j':w.shape? g=some (e,cells))(h0:l≠[])(hn:off+l.length<=cells)(J':l.length<=9223372036854775807)(q:∀ j x,l[j]? = some x->w.cell? ((⟨g,off,none⟩:Addr).add j)=some (.int .u8 x.toNat)) :
  (Builtin.unsafeString_ #[pt,it] ty #[.pointer (some ⟨g,off,none⟩),E l.length]).run P w=.ok (.string ⟨l.toArray⟩) (w.freeze ⟨g,off,none⟩ l.length):=by
 have hl:l.length≠0:=by simpa using h0
 have H':=Lib.run_loadBytes (P:=P) w l ⟨g,off,none⟩ .empty q;have C:=θ (P:=P) hc (cells / P.cellsOf e) off l.length (by rw[hc];simpa using hn);have D:¬(9223372036854775807:Int)<(l.length:Int):=U
 have F:Builtin.unsafeString_ #[pt,it] ty #[.pointer (some ⟨g,off,none⟩),E l.length] =
   (do
    let n <-asInt (E l.length)
    if n<0 then runtimePanic (.error "unsafe.String: len out of range")
    if n>IntKind.i64.max then unsupported (.unsafePointer "String: a length above the largest int")
    if n=0 then pure (.string .empty)
    else if <-variablesAt ⟨g,off,none⟩ (<-elemOf pt) n.toNat then do
     let s <-loadBytes ⟨g,off,none⟩ .empty n.toNat
     freeze ⟨g,off,none⟩ n.toNat
     pure (.string s)
    else unsupported (.unsafePointer "String: not so many bytes at ptr")) := rfl
 rw[F];have S:IntKind.i64.max=9223372036854775807:=rfl;have V:¬(l.length:Int)<0:=U;simp[asInt,asIntOf,S,D,V,hl,variablesAt,j',elemOf,run_underlying hp,C,H']
def ν (l:List UInt8):(dq l).flatMap gB.enc=l.map fun c=>Value.int .u8 c.toNat:=by
 induction l with
 | nil=>rfl
 | cons c l q=>simp only[dq,pV,pA]at *;rw[q];rfl
def Z.bytes {e:TypeId}{s:Value}(Y:Z w0 w Γ)(hi:Γ[i]? = some (X gB e s (dq l)))(h0:l≠[]):∃ b off cap,s=.slice (some ⟨b,off,none⟩) l.length cap/\l.length<=cap/\∃ (cs:Array Value),w.heap[b]? = some (.cells cs e (0,0))/\off+l.length<=cs.size/\(∀ j x,l[j]? = some x->w.cell? ((⟨b,off,none⟩:Addr).add j)=some (.int .u8 x.toNat))/\∀ o,Z w0 (fq w b o) (Γ.set i fun _=>True):=by
 obtain⟨h1,hs,ho,D⟩:=Y.at i hi;have F:(dq l).length=l.length:=by simp[dq]
 rcases ho with ⟨rfl,R'⟩|⟨b,off,n,cap,pre,post,rfl,C,_f,_g,T',_h,hb⟩
 ·simp only[eZ]at D
  exact absurd (qD U) h0
 simp only[eZ]at D;have q:=(hs b _ hb).1;rw[ν]at q;refine⟨b,off,cap,by rw[<-D,F],U,_,q,by simp[C],fun j x hj=>?_,fun o=>?_⟩
 ·have S:=(ym.1 hj).1
  rw[Ac,eH q,fk,lP U,mu (by simp;omega),C,show off+j-off=j by omega,vh,hj];rfl
 refine(Z.put (Y.bN i hi) fun g I ⟨S,_⟩=>?_).iD i hi;rcases S with ⟨hn,_⟩|⟨b',V',n',_a,_b,V,j',H',_c,_d,J',_e,P'⟩
 ·cases hn
 cases j';exact⟨⟨_,P'⟩,az⟩
def Z1 {e:TypeId}{u:TypeId}{b off:Nat}(hp:P.underlying t=some (.pointer e))(V:P.cellsOf e=1)(hx:bh ρ x=.pointer (some ⟨b,off,none⟩))(hy:bh ρ y=E (l.length:Nat))(hs:s=.slice (some ⟨b,off,none⟩) n c)(h0:l≠[])(j':l.length<=9223372036854775807)(Y:Z w0 w Γ)(hi:Γ[i]? = some (X gB e s (dq l)))(h:∀ w',Z w0 w' (Γ.set i (fun _=>True))->opsW P M K r (fQ ρ d (.string ⟨l.toArray⟩)) w'):opsW P M K (⟨some d,.call { callee:=.builtin .unsafeString,args:=#[x,y],argTypes:=#[t,u] },ty,pos,af,none⟩::r) ρ w:=by
 refine mj rfl ?_;obtain⟨b',J',P',D,R',cs,q,F,C,S⟩:=Y.bytes hi h0;rw[hs]at D
 injection D with e1 e2 e3
 injection e1 with e1
 injection e1 with e4 e5
 subst e4 e5;have hr:=ι (P:=P) (it:=u) (ty:=ty) hp V (g:=b) (off:=off) (cells:=cs.size) (by simp[World.shape?,q]) h0 F j' C;have hf:w.freeze ⟨b,off,none⟩ l.length=fq w b (.cells cs e (off,off+l.length)):=by
  have hl:l.length≠0:=by simpa using h0
  have H':=(mw.1 q).1;simp only[World.freeze,hl,if_false,fq];congr 1;apply yl;intro k;by_cases hk:b=k
  ·subst hk;rw[xU,ba rfl,q,CG H'];simp
  rw[xU,aM hk,wo hk]
 rw[hf]at hr;simp only[opW,execOp,resolve,invoke,builtin,hx,hy,fG,gU,fm,FE,pV,uL,hr,cJ];exact h _ (S _)
def Nt {a b:ByteArray}(hx:bh ρ x=.string a)(q:bh ρ y=.string b)(C:a.size+b.size<=1099511627776):PureV P ⟨dst,.binOp .add t x y t',ty,pos,af,g⟩ ρ (.string (a++b)):=fun w=>by
 have h1:¬(((a.size+b.size:Nat):Int)>IntKind.i64.max):=by
  have:IntKind.i64.max=9223372036854775807:=rfl;omega
 simp only[execOp,eqGuard,binOp,Op.stringOp,hx,q,fG,gU,fm,h1,if_false];simp
def ξ {a b:Int}[A:AO P t 2][Z':bD P t [E 0,E 0]](hx:bh ρ x=E a)(D:bh ρ y=E b)(h:opsW P M K r (fQ ρ d (.agg #[E a,E b])) w):opsW P M K (⟨some d,.build t #[(0,x),(1,y)],ty,pos,af,none⟩::r) ρ w:=by
 refine S6 (parts:=[(0,x),(1,y)]) (vs:=[(0,E a),(1,E b)]) (by simp[hx,D]) (fun w=>?_) h;obtain⟨e,he,F⟩:=A.ok;obtain⟨S,q,C⟩:=Z'.zero;simp only[Instr.build,fG,C,q,fm,run_underlying he,F];rfl
def Z.zo {w w0:World}{Γ:List HP}{α:Type}{T:Ty α}{e:TypeId}{s:Value}{x:List α}{ss:List Value}{G:List (List α)}(h:Z w0 w (ai T e (s::ss) (x::G)::Γ)):Z w0 w (X T e s x::ai T e ss G::Γ):=by
 obtain⟨q,h⟩:=Z.vI h
 exact Z.ou (fun g I=>by
  obtain⟨h1,C,d,s1,s2,D,I⟩:=cB.split _ I
  exact⟨h1,C,d,s1,s2,⟨by simpa using q,D⟩,I⟩) (show Z w0 w (X T e s x::(zipWith (X T e) ss G++Γ)) from h)
end
end
section
class xB (Γ Δ:List HP):Prop where
 ok:∀ h,cB Γ h->cB Δ h
instance (priority:=low) selG_drop {A:HP}{Γ Δ:List HP} [s:xB Γ Δ]:xB (A::Γ) Δ:=⟨fun h q=>s.ok h q.tail⟩
instance (priority:=high) selG_rfl {Γ:List HP}:xB Γ Γ:=⟨fun _ q=>q⟩
instance EQ {A:HP}{Γ q Δ:List HP} [p:uz Γ A q] [s:xB q Δ]:xB Γ (A::Δ):=⟨fun h C=>by
 obtain⟨i,h1,D⟩:=p.ok;obtain⟨g1,g2,d,s1,s2,a,g⟩:=C.bN i h1;rw[<-D]at g
 exact⟨g1,g2,d,s1,s2,a,s.ok g2 g⟩⟩
def Z.cu {w0 w:World}{Γ:List HP}[s:xB Γ Δ](h:Z w0 w Γ):Z w0 w Δ:=⟨h.below,s.ok _ h.kP⟩
end
section
open Go.RowKit (Below)
def cB.qa {Γ:List HP}(p:Γ.Perm Δ):∀ h,cB Γ h->cB Δ h:=by
 induction p with
 | nil=>intro h q;exact q
 | cons x _ D=>rintro h ⟨h1,C,d,s1,s2,a,b⟩;exact⟨h1,C,d,s1,s2,a,D C b⟩
 | swap x y l=>intro h q;exact q.swap
 | trans _ _ i1 i2=>intro h q;exact i2 h (i1 h q)
def Z.qa {w0 w:World}{Γ Δ:List HP}(p:Γ.Perm Δ)(h:Z w0 w Γ):Z w0 w Δ:=⟨h.below,cB.qa p _ h.kP⟩
def ο {α:Type}{T:Ty α}{e:TypeId}{ss:List Value}{G:List (List α)}(q:ss.length=G.length):zipWith (X T e) ss G=(List.range G.length).map fun i=>X T e (cL ss i) (G.getD i []):=by
 apply jB (by simp[q]);intro i h1 F;simp only[getElem_zipWith,getElem_map,tI];have C:i<ss.length:=by simp at h1;omega
 have D:i<G.length:=by simp at h1;omega
 rw[qL];simp[List.getD,C,D]
def Z.zm {w0 w:World}{Γ:List HP}{α:Type}{T:Ty α}{e:TypeId}{ss:List Value}{G:List (List α)}{is:List Nat}(p:is.Perm (List.range G.length))(h:Z w0 w (ai T e ss G::Γ)):Z w0 w (ai T e (is.map (cL ss)) (is.map fun i=>G.getD i [])::Γ):=by
 obtain⟨q,h1⟩:=h.vI;rw[ο q]at h1;refine Z.o8 sm ?_;have C:zipWith (X T e) (is.map (cL ss)) (is.map fun i=>G.getD i [])=is.map fun i=>X T e (cL ss i) (G.getD i []):=by
  rw[zipWith_map]
  induction is with
  | nil=>rfl
  | cons i is _=>simp[zipWith_self]
 rw[C];exact h1.qa ((p.symm.map _).append_right _)
def UN {α:Type}[Inhabited α](enc:α->Value){pre post:List Value}{xs ys:List α}(D:ys.length=xs.length) :
  Sort.putCells enc pre.length ys.toArray (pre++xs.map enc++post).toArray=(pre++ys.map enc++post).toArray:=by
 apply yl;intro k;simp only[Sort.putCells,Mi,Ek,Ed];by_cases h1:k<pre.length
 ·rw[fk,mu h1,fk,mu h1]
  cases pre[k]? with
  | none=>rfl
  | some v=>simp only[vk];rw[aM U]
 by_cases F:k<pre.length+ys.length
 ·have q:(pre++xs.map enc++post)[k]? = some (enc (xs[k-pre.length]'U)):=by
   rw[fk,lP U,mu (by simp;omega),vh,mL U];rfl
  have C:(pre++ys.map enc++post)[k]? = some (enc (ys[k-pre.length]'U)):=by
   rw[fk,lP U,mu (by simp;omega),vh,mL U];rfl
  rw[q,C];simp only[vk];rw[ba U];congr 2;simp[show k-pre.length<ys.length by omega]
 have q:(pre++xs.map enc++post)[k]? = post[k-pre.length-ys.length]? := by
  rw[fk,lP U,lP (by simp;omega)];simp[D]
 have C:(pre++ys.map enc++post)[k]? = post[k-pre.length-ys.length]? := by
  rw[fk,lP U,lP (by simp;omega)];simp
 rw[q,C]
 cases post[k-pre.length-ys.length]? with
 | none=>rfl
 | some v=>simp only[vk];rw[aM U]
def Nu (vs:List Value):vs.flatMap aA.enc=vs:=by
 induction vs with
 | nil=>rfl
 | cons x xs q=>rw[pA,q];rfl
def Z.Dm {α:Type}[Inhabited α](enc:α->Value){w0 w:World}{Γ:List HP}{e:TypeId}{s:Value}{xs:List α}(Y:Z w0 w (X aA e s (xs.map enc)::Γ)) :
  (s=nS/\xs=[])\/∃ b off cap,s=.slice (some ⟨b,off,none⟩) xs.length cap/\xs.length<=cap/\b<w.heap.size/\Sort.Holds enc w b off xs.toArray /\
   ∀ ys:List α,ys.length=xs.length->∀ n,Z w0 (Sort.putRow enc (Sort.ahead w n) b off ys.toArray) (X aA e s (ys.map enc)::Γ):=by
 obtain⟨h1,hs,ho,hl⟩:=Y.at 0 rfl;rcases ho with ⟨rfl,D⟩|⟨b,off,n,cap,pre,post,rfl,C,_f,F,S,V,hb⟩
 ·left
  refine⟨rfl,?_⟩
  cases xs with
  | nil=>rfl
  | cons x xs=>simp[aA]at D
 right;simp only[eZ,lA]at hl;subst hl;rw[Nu]at hb;have q:=(hs b _ hb).1;refine⟨b,off,cap,rfl,F,(mw.1 q).1,fun j hj=>⟨?_,fO q _⟩,fun ys hy m=>?_⟩
 ·simp only[Ed]at hj
  rw[eH q,fk,lP U,mu (by simp;omega),C,show off+j-off=j by omega,vh,mL hj];simp[hj]
 have e1:Sort.putRow enc (Sort.ahead w m) b off ys.toArray=fq (Sort.ahead w m) b (.cells (pre++ys.map enc++post).toArray e (0,0)):=by
  simp only[Sort.putRow,Sort.mapBlock,fq,Sort.ahead];congr 1;apply yl;intro k;have j':=(mw.1 q).1;by_cases hk:b=k
  ·subst hk
   rw[xU,ba rfl,q,CG j'];simp only[vk,Sort.onCells];rw[<-C,UN enc hy]
  rw[xU,aM hk,wo hk]
 rw[e1];refine Z.put (Y.ahead m) fun g I ⟨j',_g⟩=>?_;rcases j' with ⟨hn,_⟩|⟨b',V',n',_a,_b,H',J',P',_c,_d,R',_e,T'⟩
 ·cases hn
 cases J';refine⟨⟨_,T'⟩,.inr ⟨b,off,_,cap,pre,post,rfl,C,by rw[Nu];simp[hy,aA],F,S,V,by rw[Nu];simp[oC]⟩,by simp[eZ,hy]⟩
def uf (B:Nat)(h:PH):PH:=fun b=>if b<B then h b else none
structure qi (B:Nat) (w0 w:World) (Γ:List HP):Prop where
 below:Below w0.heap.size w0 w
 kP:cB Γ (uf B (fI w0 w))
def Rest (B:Nat)(L:World):HP:=fun h=>∀ b,B<=b->b<L.heap.size->h b=L.heap[b]?
def Z.Ï {w0 w:World}{Γ:List HP}(h:Z w0 w Γ):qi w.heap.size w0 w Γ:=by
 refine⟨h.below,h.kP.sub fun b o q=>?_⟩;have C:b<w.heap.size:=by
  simp only[fI]at q;split at q
  ·cases q
  exact(mw.1 q).1
 simp only[uf,ba C];exact q
def qi.yy {w0 w:World}{Γ:List HP}(h:qi B w0 w Γ):Z w0 w Γ :=
 ⟨h.below,h.kP.sub fun b o q=>by
  simp only[uf]at q;split at q
  ·exact q
  cases q⟩
def qi.own {w0:World}{Γ:β->List HP}(S:w0.heap.size<=B):OwnFrom B (fun s L=>B<=L.heap.size/\qi B w0 L (Γ s)):=by
 rintro s L W' row ⟨V,q⟩ I D;have hblk:∀ k,k<B->W'.heap[k]? = L.heap[k]? := fun k hk=>I.block k U fun e=>by
  have:=(D k e.symm).1;omega
 refine⟨by have:=I.size;omega,⟨q.below.os ▸ I.os,q.below.tape ▸ I.tape,q.below.output ▸ I.output,by have:=I.size;have:=q.below.size;omega,fun k hk=>?_⟩,q.kP.sub fun b o C=>?_⟩
 ·rw[hblk k U];exact q.below.block k hk
 simp only[uf,fI]at C ⊢;split at C
 ·rename_i h1
  rw[ba h1];split at C
  ·cases C
  rename_i F;rw[aM F,hblk b h1];exact C
 cases C
def qi.open {w0:World}{Γ:List HP}(C:w0.heap.size<=B)(h:qi B w0 L Γ):Z w0 L (Rest B L::Γ):=by
 refine⟨h.below,fun b=>if b<B then none else L.heap[b]?,uf B (fI w0 L),fun b=>?_,fun b o q=>?_,fun b o q=>?_,fun b h1 D=>?_,h.kP⟩
 ·simp only[uf]
  by_cases q:b<B
  ·left;rw[ba q]
  right;rw[aM q]
 ·simp only at q
  split at q
  ·cases q
  simp only[fI];rw[aM U];exact q
 ·simp only[uf]at q
  split at q
  ·exact q
  cases q
 show (if b<B then none else L.heap[b]?)=L.heap[b]?;rw[aM U]
def Z.close {w0:World}{Γ:List HP}(h:Z w0 W' (Rest B L::Γ))(F:W'.heap.size=L.heap.size):qi B w0 W' Γ:=by
 obtain⟨h1,h2,d,s1,s2,S,I⟩:=h.kP;refine⟨h.below,I.sub fun b o D=>?_⟩;have q:=s2 b o D;have V:b<W'.heap.size:=by
  simp only[fI]at q;split at q
  ·cases q
  exact(mw.1 q).1
 simp only[uf];by_cases hB:b<B
 ·rw[ba hB];exact q
 have:=S b U U;rcases d b with C|C
 ·rw[this,Eh U]at C;cases C
 rw[D]at C;cases C
def qj.Dt {w w':World}(h:qj w w'):KeepsOthers w w':=⟨by rw[h.1];exact cP _,fun k o hk q=>by
 rw[h.2 k fun cs t f e=>by rw[hk]at e;cases e;cases q];exact hk⟩
section
variable {P:Program}{M:Array Oper}{K:Fr->World->Prop}{r:List Oper}{ρ:Fr}{w:World}{d:Nat}{ty:TypeId}{pos:String}{af:Array Edge}
def RL {x:Operand}{xs:List Operand}{l m:Nat}{R:Ending->World->Prop}(F:bh ρ x=.func (.yield l) #[] #[])(hx:xs.map (bh ρ)=vs)(S:YieldAt Fence.wide m P l vs.toArray w R)(h:∀ e w',R e w'->∃ v,e=.returned v/\opsW P M K r (fQ ρ d v) w'):opsW P M K (⟨some d,.call { callee:=.value x,args:=xs.toArray,argTypes:=ts },ty,pos,af,none⟩::r) ρ w:=by
 refine mj rfl ?_;obtain⟨fn,tmps,assign,body,V,D⟩:=S;have hr:(execOp (bh ρ) ⟨some d,.call { callee:=.value x,args:=xs.toArray,argTypes:=ts },ty,pos,af,none⟩).run P w=.ok (.round l fn tmps assign body) w:=by
  simp only[execOp,resolve,fG,F,Deferred.ofValue,gU,fm,invoke];have:#[]++Array.map (bh ρ) xs.toArray=vs.toArray:=by simp[hx]
  rw[this];exact V
 simp only[opW,hr,cJ];refine⟨D.1,fun c cs _=>?_⟩;obtain⟨e,w',q,C⟩:=D.2 c cs (room_wide _);refine⟨e,w',?_,C⟩;obtain⟨v,rfl,hk⟩:=h e w' q;exact hk
def ς {a b:Act}(q:a.tmps.size=b.tmps.size)(D:fr a=fr b)(C:a.defers=b.defers):a=b:=by
 obtain⟨t,d⟩:=a;obtain⟨t',S⟩:=b;simp only at q C;subst C;congr 1;apply Array.ext q;intro i h1 F;have:=congrFun D i;simp only[fr]at this;rw[Lr,Lr,Eh h1,Eh F]at this
 simpa using this
def RM {t:Array Value}{p q:Nat}(D:p<t.size)(hq:q<t.size):fr { tmps:=(#[p,q].zip #[v,u]).foldl (fun t (p,v)=>t.setIfInBounds p v) t,defers:=ds }=fQ (fQ (fr ⟨t,ds⟩) p v) q u:=by
 have h1:=yb (a:=⟨t,ds⟩) (d:=some p) (v:=v) (fun _ e=>by cases e;exact D);have C:=yb (a:=(⟨t,ds⟩:Act).put (some p) v) (d:=some q) (v:=u) (fun _ e=>by cases e;simpa [Act.put] using hq);rw[h1]at C;have e:(#[p,q].zip #[v,u]).foldl (fun t (p,v)=>t.setIfInBounds p v) t=(t.setIfInBounds p v).setIfInBounds q u:=sm;rw[e];exact C
def LW {t:Array Value}{p q:Nat}:((#[p,q].zip #[v,u]).foldl (fun t (p,v)=>t.setIfInBounds p v) t).size=t.size:=sm
def HY {ro:Option Nat}{m:Nat}{x y:Code}{Q:Exit->Act->World->Prop}{a:Act}(hm:P.follows .mixedOrders=true)(C:oR n x=true)(F:a.tmps.size=n)(S:a.defers=[])(h:vc P x (Thn (fun ρ w=>∀ q,q.tmps.size=n->q.defers=[]->fr q=ρ->y.wpIn (fw ro) m P Q q w) (fun _ _ _=>False)) (fr a) w):(Code.seq x y).wpIn (fw ro) m P Q a w:=by
 refine wpIn_seq (wpIn_mono (yc hm x C _ a w F S h) fun e q w' hq=>?_);obtain⟨h1,V,D⟩:=hq
 cases e with
 | normal=>exact D q h1 V rfl
 | _=>exact D.elim
def QY {args:List Value}:fr { tmps:=args.toArray++Array.replicate (n-args.toArray.size) undef,defers:=[] }=xw args:=by
 funext t
 simp only[fr,xw];rcases pB t args.length with q|q
 ·simp[FD,q]
 simp[Me,q];rcases pB (t-args.length) (n-args.length) with h1|h1
 ·simp[h1]
 simp[h1]
def RO {Q:Exit->Fr->World->Prop}{w0:World}{Γ:List HP}{l:List Oper}(Y:Z w0 w Γ)(q:sA P l.toArray=true)(h:∀ w',qj w w'->Z w0 w' Γ->opsW P l.toArray (Q .normal) l ρ w'):vc P (.region i l.toArray true) Q ρ w :=
 .inl ⟨q,h _ ⟨rfl,fun _ _=>rfl⟩ Y.drew⟩
def Q1 {ro:Option Nat}{m id s:Nat}{K:Act->World->Prop}{a:Act}(hm:P.follows .mixedOrders=true)(C:d<a.tmps.size)(D:a.defers=[])(h:K (a.put (some d) (fr a s)) w) :
  (Code.region id #[⟨some d,.assign (.tmp s),ty,pos,af,none⟩] false).wpIn (fw ro) m P (Exit.then K (fun _ _ _=>False)) a w:=by
 refine wpIn_mono (yc (n:=a.tmps.size) hm _ (by simp[oR,jR,C]) (fun e q w'=>e=.normal/\q=fQ (fr a) d (fr a s)/\w'=w) a w rfl D ?_) fun e F w' hq=>?_
 ·refine ve (l:=[_]) ?_
  exact fR rfl (MD rfl) ⟨rfl,rfl,rfl⟩
 obtain⟨h1,S,rfl,V,rfl⟩:=hq;have e:F=a.put (some d) (fr a s):=by
  refine ς (by rw[fN];exact h1) ?_ (by rw[Bi,D];exact S);rw[V,yb (fun t e=>by cases e;exact C)];rfl
 rw[e];exact h
def Lq {l:Nat}{o':Obj}(C:L.heap[l]? = some o)(D:o.isCells=false)(h:L.cell? p=some v):(L.putObj l o').cell? p=some v:=by
 have q:l≠p.block:=fun e=>by
  subst e;simp only[World.cell?,C]at h;cases o<;>simp_all[Obj.isCells]
 simp only[World.cell?,World.putObj]at h ⊢;rw[wo q];exact h
def QZ {α:Type}{T:Ty α}{l:Nat}{o':Obj}{s:Value}{xs:List α}(D:L.heap[l]? = some o)(F:o.isCells=false)(h:RS T L s xs):RS T (L.putObj l o') s xs:=by
 obtain⟨⟨a,n,cap,S,h1,V,hc⟩,h3⟩:=h;refine⟨⟨a,n,cap,S,h1,V,fun i v hv=>?_⟩,h3⟩;obtain⟨p,hp,C,q⟩:=hc i v hv;exact⟨p,hp,C,Lq D F q⟩
end
end
section
def Dr (n:Nat)(w:World):Prop:=n<=w.drawn
def Dr.refl (w:World):Dr w.drawn w:=cP _
def yT {w w':World}{Γ:List HP}(h:Z w w' Γ)(C:Dr w.drawn w'):∃ (q:Nat) (os:Array Obj),w'=Sort.grow (w.drewN q) os:=by
 obtain⟨h1,D,F,h4,S⟩:=h.below;refine⟨w'.drawn-w.drawn,w'.heap.extract w.heap.size w'.heap.size,?_⟩
 cases w with
 | mk hp tp dn os out =>
  cases w' with
  | mk j' H' J' P' V =>
   simp only at h1 D F h4 S;unfold Dr at C;simp only at C;subst h1 D F;simp only[Sort.grow,World.drewN,World.mk.injEq,true_and,Iv];refine⟨?_,U⟩;apply yl;intro i;by_cases hi:i<hp.size
   ·rw[FD hi];exact S i hi
   rw[Me U,Array.getElem?_extract];split
   ·congr 1;omega
   rw[vj U]
section
variable {P:Program}{M:Array Oper}{K:Fr->World->Prop}{Q:Exit->Fr->World->Prop}{r:List Oper}{ρ:Fr}{w w0:World}{d:Nat}{ty:TypeId}{pos:String}{af:Array Edge}{x y:Operand}{t:TypeId}{Γ:List HP}{α:Type}{N:Nat}
def M4 {l:List Oper}(is:List cV)(Y:Z w0 w Γ)(q:Dr N w)(C:ri P l.toArray is=true)(h:∀ w',Z w0 w' Γ->Dr N w'->opsD P l.toArray (Q .normal) is ρ w'):vc P (.region i l.toArray true) Q ρ w :=
 .inr (.inl ⟨is,C,h _ Y.drew (le_succ_of_le q)⟩)
def Ey (hx:bh ρ x=.agg vs.toArray)(Y:Z w0 w Γ)(q:Dr N w)(h:∀ p w',Z w0 w' (am p t vs::Γ)->Dr N w'->opsW P M K r (fQ ρ d (.pointer (some p))) w'):opsW P M K (⟨some d,.box t x,ty,pos,af,none⟩::r) ρ w:=by
 refine mj rfl ?_;simp only[opW,execOp,Instr.box,fG,fm,newVar,newRow,run_newObj,gU,cJ,hx];exact h ⟨w.heap.size,0,none⟩ _ (Y.push (o:=.cells (Value.agg vs.toArray).cells t) ⟨rfl,rfl,by simp[Value.cells]⟩) q
def M5 {T:Ty α}(xs:List α)(vs:List Value){e len:Nat}{parts:List (Nat × Operand)}[S:bw P t e sz by_][Z':bD P e zs](hp:(parts.map fun p=>(p.1,bh ρ p.2))=(vs.zipIdx 0).map fun x=>(x.2,x.1))(hx:vs.flatMap (·.cells.toList)=xs.flatMap T.enc)(q:vs.all (fun v=>v.cells.size == sz)=true)(hlen:vs.length=len)(C:xs.length=len)(H':len*sz<=16777216)(V:0<len*sz)(j':len<=16777216)(Y:Z w0 w Γ)(hd:Dr N w)(h:∀ s w',Z w0 w' (X T e s xs::Γ)->Dr N w'->opsW P M K r (fQ ρ d s) w'):opsW P M K (⟨some d,.buildSlice t len parts.toArray,ty,pos,af,none⟩::r) ρ w:=by
 refine mj rfl ?_;obtain⟨zv,D,F⟩:=Z'.zero;have:(Array.map (fun x:Nat × Operand=>match x with|(i,x)=>(i,bh ρ x)) parts.toArray)=((vs.zipIdx 0).map fun x=>(x.2,x.1)).toArray:=by rw[<-hp];simp
 have h0:¬(len*sz=0):=U;have h1:¬(len*sz>2 ^ 24):=U;have hf:Instr.fill (fun i=>some (i*sz,sz)) ((Array.range (len*sz)).map (zs.toArray[· % zs.toArray.size]!)) ((vs.zipIdx 0).map fun x=>(x.2,x.1))=some (xs.flatMap T.enc).toArray:=by
  have:=I1 (sz:=sz) vs 0 [] ((Array.range (len*sz)).map (zs.toArray[· % zs.toArray.size]!)).toList (fun v hv=>by simpa using all_eq_true.1 q v hv) sm (by simp[hlen]);rw[hx]at this;simp only[lQ,Iw]at this;exact this
 simp only[opW,execOp,this,Instr.buildSlice,fG,run_underlying S.iI,fm,S.size,h1,if_false,h0,gU,F,D];rw[hf];simp only[fG,newRow,run_newObj,fm,gU,cJ];exact h _ _ (BA (e:=e) sm C (by unfold cn;omega) rfl Y) hd
end
section
variable {P:Program}{M:Array Oper}{K:Fr->World->Prop}{r:List Oper}{ρ:Fr}{w w0:World}{ty:TypeId}{pos:String}{af:Array Edge}{x y:Operand}{t:TypeId}{Γ:List HP}{α:Type}{T:Ty α}{s:Value}{xs:List α}
def τ {e:TypeId}{x':α}(hv:(T.enc x').all Value.oneCell'=true)(Y:Z w0 w Γ)(hi:Γ[i]? = some (X T e s xs))(hj:j<xs.length) :
  ∃ w',(storeCells (iZ T s j) (T.enc x')).run P w=.ok () w'/\Z w0 w' (Γ.set i (X T e s (xs.set j x'))):=by
 obtain⟨h1,hs,ho,hl⟩:=Y.at i hi;have hlen:=T.len xs;rcases ho with ⟨rfl,_d⟩|⟨b,off,n,cap,pre,post,rfl,D,H',J',F,P',hb⟩
 ·simp only[eZ]at hl;omega
 have S:(j+1)*T.sz<=(xs.flatMap T.enc).length:=by
  rw[hlen];exact wm _ hj
 rw[r8,x8]at S;have bX:=T.ok x';have V:iZ T (.slice (some ⟨b,off,none⟩) n cap) j=⟨b,off+j*T.sz,none⟩:=rfl;rw[V];have q:(xs.set j x').flatMap T.enc=(xs.flatMap T.enc).take (j*T.sz)++T.enc x'++(xs.flatMap T.enc).drop (j*T.sz+T.sz):=by
  rw[FM,ba hj,ya,pA,T.take,show j*T.sz+T.sz=(j+1)*T.sz by rw[r8,x8],T.drop,fk]
 have j':((pre++xs.flatMap T.enc++post).take (off+j*T.sz+0)++T.enc x'++(pre++xs.flatMap T.enc++post).drop (off+j*T.sz+0+(T.enc x').length))=pre++(xs.set j x').flatMap T.enc++post:=by
  rw[q,bX];have C:(pre++xs.flatMap T.enc++post).take (off+j*T.sz+0)=pre++(xs.flatMap T.enc).take (j*T.sz):=by
   rw[fk,FG,io U,FG,show off+j*T.sz+0-pre.length=j*T.sz by omega,IE (show j*T.sz<=(xs.flatMap T.enc).length by omega),yn,gj]
  have a2:(pre++xs.flatMap T.enc++post).drop (off+j*T.sz+0+T.sz)=(xs.flatMap T.enc).drop (j*T.sz+T.sz)++post:=by
   rw[fk,Am,oG U,lQ,Am,show off+j*T.sz+0+T.sz-pre.length=j*T.sz+T.sz by omega,IE (show j*T.sz+T.sz<=(xs.flatMap T.enc).length by omega),FL]
  rw[C,a2];simp only[fk]
 refine⟨fq w b (.cells (pre++(xs.set j x').flatMap T.enc++post).toArray e (0,0)),?_,?_⟩
 ·have:=yo (P:=P) (b:=b) (bt:=e) (T.enc x') (off+j*T.sz) 0 _ w (by simpa using hv) (by simp only[length_append];omega) (hs b _ hb).1
  rw[this,<-j']
 have C:=T.len (xs.set j x');refine(Z.put (Y.bN i hi) fun g I ⟨R',_k⟩=>?_).iD i hi;rcases R' with ⟨hn,_⟩|⟨b',_e,n',_f,_g,T',V',_a,_h,_i,_b,_j,_c⟩
 ·cases hn
 cases V';refine⟨⟨_,_c⟩,.inr ⟨b,off,n,cap,pre,post,rfl,D,by rw[C,iU,<-hlen,H'],J',F,P',by simp[oC]⟩,by rw[iU];exact hl⟩
def vW {e:TypeId}{x':α}{put:HP->List HP}[A:fi P t n](hx:bh ρ x=.pointer (some (iZ T s j)))(C:bh ρ y=.agg (T.enc x').toArray)(D:n=T.sz)(hv:(T.enc x').all Value.oneCell'=true)(Y:Z w0 w Γ)(F:iP Γ s α T e xs put)(S:j<xs.length)(h:∀ w',Z w0 w' (put (X T e s (xs.set j x')))->opsW P M K r ρ w'):opsW P M K (⟨none,.store t x y,ty,pos,af,none⟩::r) ρ w:=by
 refine mj rfl ?_;obtain⟨i,V,q⟩:=F.nB.ok;simp only[q]at h;obtain⟨w',hr,hs⟩:=τ (P:=P) hv Y V S;exact By hx C (fun w=>by rw[A.agg.2];simp[Value.cells,D,T.ok]) (by simpa [Value.cells] using hr) (h _ hs)
end
section
variable {P:Program}{M:Array Oper}{K:Fr->World->Prop}{r:List Oper}{ρ:Fr}{w w0:World}{ty:TypeId}{pos:String}{af:Array Edge}{x y:Operand}{t:TypeId}{Γ:List HP}{α:Type}{T:Ty α}{s:Value}{xs:List α}
def υ (A B C:List β)(k:Nat)(hk:k<=B.length):(A++(B++C)).take (A.length+k)=A++B.take k:=by
 rw[FG,io U,Mb,FG,IE hk,yn,gj]
def ω (A B C:List β)(k:Nat)(hk:k<=B.length):(A++(B++C)).drop (A.length+k)=B.drop k++C:=by
 rw[Am,oG U,lQ,Mb,Am,IE hk,FL]
end
end
section
open Go.RowKit (Below)
def Js {α:Type}[Inhabited α](T:Ty α)(xs:List α):Sort.flatK T.enc T.sz xs.toArray=(xs.flatMap T.enc).toArray:=by
 refine Sort.ext_get! (by simp[T.len]) fun t C=>?_;have q:t<xs.length*T.sz:=by simpa using C
 have D:0<T.sz:=by
  rcases wg T.sz with h|h
  ·rw[h]at q;omega
  exact h
 have hq:t / T.sz<xs.length:=Rx (by rwa[Iz]);have I:=T.get xs (t / T.sz) (t % T.sz) hq (DZ _ D);rw[show t / T.sz*T.sz+t % T.sz=t from by rw[Iz];exact div_add_mod t T.sz]at I;rw[Sort.get_flatK _ _ _ _ (by simpa using q)];have e:xs.toArray[t / T.sz]! = xs.getD (t / T.sz) T.dflt:=by simp[hq,List.getD]
 rw[e];simp only[getElem!_toArray,RX,I]
def Z.GW {α:Type}[Inhabited α]{T:Ty α}{w0 w:World}{Γ:List HP}{e:TypeId}{s:Value}{xs:List α}(hT:0<T.sz)(Y:Z w0 w (X T e s xs::Γ)) :
  (s=nS/\xs=[])\/∃ b off cap,s=.slice (some ⟨b,off,none⟩) xs.length cap/\xs.length<=cap/\b<w.heap.size/\Sort.HoldsK T.enc T.sz w b off xs.toArray /\
   ∀ ys:List α,ys.length=xs.length->∀ n os,Z w0 (Go.Proofs.sortWorldK T.enc T.sz w b off n ys.toArray os) (X T e s ys::Γ):=by
 obtain⟨h1,hs,ho,hl⟩:=Y.at 0 rfl;rcases ho with ⟨rfl,D⟩|⟨b,off,n,cap,pre,post,rfl,C,_h,F,S,j',hb⟩
 ·left
  refine⟨rfl,?_⟩;have:=T.len xs;rw[D]at this;rcases wg xs.length with h|h
  ·exact qD h
  have:=Nat.mul_pos h hT;simp only[length_nil]at *;omega
 right;simp only[eZ]at hl;subst hl;have q:=(hs b _ hb).1;refine⟨b,off,cap,rfl,F,(mw.1 q).1,fun j V=>⟨?_,fO q _⟩,fun ys hy m os=>?_⟩
 ·rw[Js]at V ⊢
  simp only[Ed]at V;rw[eH q,fk,lP U,mu U,C,show off+j-off=j by omega,mL V];simp only[id,getElem!_toArray,RX,mL V,Option.getD_some]
 refine Z.grow ?_ os;have H':(ys.flatMap T.enc).length=(xs.flatMap T.enc).length:=by rw[T.len,T.len,hy]
 have e1:Sort.putRowK T.enc T.sz (Sort.ahead w m) b off ys.toArray=fq (Sort.ahead w m) b (.cells (pre++ys.flatMap T.enc++post).toArray e (0,0)):=by
  unfold Sort.putRowK;rw[Js];simp only[Sort.putRow,Sort.mapBlock,fq,Sort.ahead];congr 1;apply yl;intro k;have J':=(mw.1 q).1;by_cases hk:b=k
  ·subst hk
   rw[xU,ba rfl,q,CG J'];have hm:=UN id (pre:=pre) (post:=post) H';simp only[map_id]at hm;simp only[vk,Sort.onCells];rw[<-C,hm]
  rw[xU,aM hk,wo hk]
 rw[e1];refine Z.put (Y.ahead m) fun g I ⟨J',_i⟩=>?_;rcases J' with ⟨hn,_⟩|⟨b',_b,n',_c,_d,P',R',T',_e,_f,V',_g,_a⟩
 ·cases hn
 cases R';refine⟨⟨_,_a⟩,.inr ⟨b,off,_,cap,pre,post,rfl,C,by rw[T.len,hy],F,S,j',by simp[oC]⟩,by simp[eZ,hy]⟩
def ϊ {α:Type}[Inhabited α](enc:α->Value)(w:World)(b off:Nat)(ys:List α):Sort.putRow enc w b off ys.toArray=Sort.putRow id w b off (ys.map enc).toArray:=by
 unfold Sort.putRow;congr 1
 funext c
 apply yl;intro k;simp only[Sort.putCells,Mi,Ed,lA]
 cases c[k]? with
 | none=>rfl
 | some v =>
  simp only[vk];split
  ·rename_i h
   have h1:k-off<ys.length:=U;simp[h1]
  rfl
section
variable {P:Program}{M:Array Oper}{K:Fr->World->Prop}{r:List Oper}{ρ:Fr}{w w0:World}{d:Nat}{dst:Option Nat}{ty:TypeId}{pos:String}{af:Array Edge}{x:Operand}{t:TypeId}{Γ:List HP}{α:Type}{T:Ty α}{s:Value}{xs:List α}
def ϋ {e:TypeId}{zs:List α}(hv:∀ v∈zs.flatMap T.enc,v.oneCell'=true)(Y:Z w0 w Γ)(hi:Γ[i]? = some (X T e s xs))(h0:0<zs.length)(hj:j+zs.length<=xs.length) :
  ∃ w',(storeCells (iZ T s j) (zs.flatMap T.enc)).run P w=.ok () w'/\Z w0 w' (Γ.set i (X T e s (xs.take j++zs++xs.drop (j+zs.length)))):=by
 obtain⟨h1,hs,ho,hl⟩:=Y.at i hi;have hlen:=T.len xs;rcases ho with ⟨rfl,_g⟩|⟨b,off,n,cap,pre,post,rfl,q,P',R',F,T',hb⟩
 ·simp only[eZ]at hl;omega
 have S:iZ T (.slice (some ⟨b,off,none⟩) n cap) j=⟨b,off+j*T.sz,none⟩:=rfl;rw[S];have C:xs.flatMap T.enc=(xs.take j).flatMap T.enc++((xs.drop j).take zs.length).flatMap T.enc++(xs.drop (j+zs.length)).flatMap T.enc:=by
  conv=>lhs;rw[<-Ak j xs,<-Ak zs.length (xs.drop j)]
  rw[ya,ya,drop_drop,fk]
 have V:((xs.take j).flatMap T.enc).length=j*T.sz:=by rw[T.len,jC,Nat.min_eq_left U]
 have _n:(((xs.drop j).take zs.length).flatMap T.enc).length=zs.length*T.sz:=by rw[T.len,jC,Bq,Nat.min_eq_left U]
 have V':=T.len zs;have j':((pre++xs.flatMap T.enc++post).take (off+j*T.sz+0)++zs.flatMap T.enc++(pre++xs.flatMap T.enc++post).drop (off+j*T.sz+0+(zs.flatMap T.enc).length))=pre++(xs.take j++zs++xs.drop (j+zs.length)).flatMap T.enc++post:=by
  have D:pre++xs.flatMap T.enc++post=(pre++(xs.take j).flatMap T.enc)++(((xs.drop j).take zs.length).flatMap T.enc++((xs.drop (j+zs.length)).flatMap T.enc++post)):=by
   rw[C];simp only[fk]
  have e1:off+j*T.sz+0=(pre++(xs.take j).flatMap T.enc).length+0:=by rw[length_append,V,q]
  have e2:off+j*T.sz+0+(zs.flatMap T.enc).length=(pre++(xs.take j).flatMap T.enc).length+(zs.length*T.sz):=by rw[length_append,V,q,V'];omega
  rw[D,e2,e1,υ _ _ _ _ (bC _),ω _ _ _ _ U];simp only[yn,gj,ya,fk];rw[oG U,lQ]
 have H':off+j*T.sz+0+(zs.flatMap T.enc).length<=(pre++xs.flatMap T.enc++post).length:=by
  have:(j+zs.length)*T.sz<=(xs.flatMap T.enc).length:=by rw[hlen];exact wm _ hj
  rw[r8]at this;simp only[length_append];omega
 have D:=T.len (xs.take j++zs++xs.drop (j+zs.length));have J':(xs.take j++zs++xs.drop (j+zs.length)).length=xs.length:=by simp only[length_append,jC,Bq];omega
 refine⟨fq w b (.cells (pre++(xs.take j++zs++xs.drop (j+zs.length)).flatMap T.enc++post).toArray e (0,0)),?_,?_⟩
 ·have:=yo (P:=P) (b:=b) (bt:=e) (zs.flatMap T.enc) (off+j*T.sz) 0 _ w hv H' (hs b _ hb).1
  rw[this,<-j']
 refine(Z.put (Y.bN i hi) fun g I ⟨_a,_o⟩=>?_).iD i hi;rcases _a with ⟨hn,_⟩|⟨b',_h,n',_i,_j,_b,_c,_d,_k,_l,_e,_m,_f⟩
 ·cases hn
 cases _c;refine⟨⟨_,_f⟩,.inr ⟨b,off,n,cap,pre,post,rfl,q,by rw[D,J',<-hlen,P'],R',F,T',by simp[oC]⟩,by rw[J'];exact hl⟩
def TG {e:Nat}{z:α}{put:HP->List HP}[S:bw P t e sz by_][Z':bD P e zs](hx:bh ρ x=ssub s T.sz j xs.length)(R':sz=T.sz)(hz:T.enc z=zs)(hv:zs.all Value.oneCell'=true)(Y:Z w0 w Γ)(O':iP Γ s α T e xs put)(hj:j<=xs.length)(h:∀ w',Z w0 w' (put (X T e s (xs.take j++replicate (xs.length-j) z)))->opsW P M K r (jq ρ dst (.tuple #[])) w'):opsW P M K (⟨dst,.call { callee:=.builtin .clear,args:=#[x],argTypes:=#[t] },ty,pos,af,none⟩::r) ρ w:=by
 refine mj rfl ?_;subst R';obtain⟨i,F,V⟩:=O'.nB.ok;simp only[V]at h;obtain⟨zv,T',V'⟩:=Z'.zero;obtain⟨a,cap,hs⟩:=(Y.rs i F).shape;subst hs;simp only[opW];by_cases he:j=xs.length
 ·subst he
  have hr:(execOp (bh ρ) ⟨dst,.call { callee:=.builtin .clear,args:=#[x],argTypes:=#[t] },ty,pos,af,none⟩).run P w=.ok (.value (.tuple #[])) w:=by
   simp only[ssub,pW]at hx
   cases hq:(if cap=xs.length then a else Option.map (fun x=>x.add (xs.length*T.sz)) a) with
   | none=>rw[hq]at hx;simp[execOp,resolve,invoke,builtin,Builtin.clear_,hx,run_underlying S.iI]
   | some p=>rw[hq]at hx;simp[execOp,resolve,invoke,builtin,Builtin.clear_,hx,run_underlying S.iI]
  rw[hr];refine h w ?_;rw[pW,Bk,gj,io (cP _),show Γ.set i (X T e (.slice a xs.length cap) xs)=Γ from ?_]
  ·exact Y
  apply Al;intro k;by_cases hk:i=k
  ·subst hk;rw[CH (ym.1 F).1,F]
  rw[uO hk]
 have hR:(replicate (xs.length-j) z).length=xs.length-j:=mp
 obtain⟨w',j',q⟩:=ϋ (P:=P) (T:=T) (j:=j) (zs:=replicate (xs.length-j) z) (fun v _a=>by
  obtain⟨z',D,C⟩:=tN.1 _a;rw[(mem_replicate.1 D).2,hz]at C
  exact all_eq_true.1 hv v C) Y F U U
 rw[hR,show j+(xs.length-j)=xs.length from by omega,oG (cP _),gj]at q;obtain⟨p,C,_b,D⟩:∃ p C,Value.slice a xs.length cap=.slice (some p) xs.length C/\p.spot=none:=by
  obtain⟨h1,_,ho,hl⟩:=Y.at i F;rcases ho with ⟨hn,H'⟩|⟨b,off,n,J',pre,post,hn,_⟩
  ·rw[hn]at hl;simp only[eZ]at hl;omega
  injection hn with e1 e2 e3
  subst e1;exact⟨⟨b,off,none⟩,cap,rfl,rfl⟩
 cases _b;have _d:xs.length<=cap:=by
  obtain⟨_,n,c,hh,_,⟨h1,_⟩,_⟩:=(Y.rs i F).1;cases hh;exact h1
 have hr:(execOp (bh ρ) ⟨dst,.call { callee:=.builtin .clear,args:=#[x],argTypes:=#[t] },ty,pos,af,none⟩).run P w=.ok (.value (.tuple #[])) w':=by
  have _c:¬cap=j:=U;have H':bh ρ x=.slice (some (p.add (j*T.sz))) (xs.length-j) (cap-j):=by rw[hx];simp[ssub,_c]
  obtain⟨m,hm⟩:∃ m,xs.length-j=m+1:=⟨xs.length-j-1,U⟩
  have J':(Builtin.zeroCells zv.cells (xs.length-j)).toList=(replicate (xs.length-j) z).flatMap T.enc:=by
   have P':=MM (T:=T) hz (xs.length-j);have e:T.sz=zs.toArray.size:=by rw[<-hz];simp[T.ok]
   rw[e]at P';unfold Builtin.zeroCells;rw[T'];exact P'
  rw[hm]at H' J';have P':p.add (j*T.sz)=iZ T (.slice (some p) xs.length cap) j:=by rw[I2 D];rfl
  rw[hm]at j';simp only[execOp,resolve,invoke,builtin,Builtin.clear_];simp[H',run_underlying S.iI,V',J',P',j']
 rw[hr];exact h w' q
def ĝ (T:Ty α)(z:α){y:Operand}{e:Nat}{n:Int}[S:bw P t e sz by_][Z':bD P e zs](hx:bh ρ x=E n)(hy:bh ρ y=E n)(F:sz=T.sz)(hz:T.enc z=zs)(h0:0<=n)(hb:by_*n<=281474976710656)(hn:n<=281474976710656)(Y:Z w0 w Γ)(h:∀ b w',Z w0 w' (X T e (.slice (some ⟨b,0,none⟩) n.toNat n.toNat) (replicate n.toNat z)::Γ)->opsW P M K r (fQ ρ d (.slice (some ⟨b,0,none⟩) n.toNat n.toNat)) w'):opsW P M K (⟨some d,.makeSlice t x y,ty,pos,af,none⟩::r) ρ w:=by
 refine mj rfl ?_;subst F;obtain⟨zv,V,j'⟩:=Z'.zero;obtain⟨i,hi,hs,H'⟩:=S.vH;have J':IntKind.i64.wrap n=n:=Aq U U;have D:((n<0 || (i.bytes:Int)*n>2 ^ 48) || n<0 || n>n)=false:=by simp[H'];omega
 simp only[opW,execOp,hx,hy,Instr.makeSlice,fG,run_underlying S.iI,fm,asInt,asIntOf,gU,typeInfo,run_program,hi,J',D,Ea,if_false,run_askRoom,S.size];have q:∀ (z0:Array Value),(n.toNat*T.sz=0\/z0=zs.toArray)->((Array.range (n.toNat*T.sz)).map (z0[· % z0.size]!)).toList=(replicate n.toNat z).flatMap T.enc:=by
  intro z0 h;rcases h with h|h
  ·rw[h]
   have:((replicate n.toNat z).flatMap T.enc).length=0:=by rw[T.len];simpa using h
   rw[qD this];simp
  rw[h];exact MM hz n.toNat
 by_cases C:n.toNat*T.sz=0
 ·simp only[C,if_true,gU,fm,newRow,fG,run_newObj,cJ]
  have:=q #[] (.inl C);rw[C]at this;exact h _ _ (BA (T:=T) (e:=e) (by rw[this];simp) sm (by unfold cn;omega) rfl Y)
 simp only[C,if_false,fG,j',gU,fm,newRow,run_newObj,cJ,V];exact h _ _ (BA (T:=T) (e:=e) (by rw[q _ (.inr rfl)];simp) sm (by unfold cn;omega) rfl Y)
end
end
section
def zh (P:Program)(t:Nat):Bool:=match P.underlying t with
 | some (.array 2 e)=>wB P e && (match P.underlying e with|some (.int _)=>true|_=>false) && !P.eqGuardType P.depth t
 | _=>false
class tu (P:Program) (t:Nat):Prop where
 ok:zh P t=true
class AU (P:Program) (t:Nat) {α:Type} [DecidableEq α] (T:Ty α):Prop where
 ok:∀ (a b:α) (w:World),(Op.equalIn 10000 t (.agg (T.enc a).toArray) (.agg (T.enc b).toArray)).run P w=.ok (decide (a=b)) w/\P.eqGuardType P.depth t=false
section
variable {P:Program}{ρ:Fr}{w:World}{ty:TypeId}{pos:String}{af:Array Edge}{g:Option (Nat × Bool)}{dst:Option Nat}{x y:Operand}{t t':TypeId}
def tu.run (T:tu P t){a b c d:Int}(w:World):(Op.equalIn 10000 t (.agg #[E a,E b]) (.agg #[E c,E d])).run P w=.ok (decide ((a,b)=(c,d))) w/\P.eqGuardType P.depth t=false:=by
 have h:=T.ok;simp only[zh]at h;split at h
 ·rename_i e hd
  simp only[Bool.and_eq_true,Aj]at h;obtain⟨⟨h1,S⟩,h3⟩:=h;have C:cA P e:=⟨h1⟩
  refine⟨?_,h3⟩;split at S
  ·rename_i kd hk
   have V:∀ u v:Int,(part e #[E u,E v] 0).run P w=.ok (E u) w:=fun u v=>by simp[part,C.plain.1]
   have p2:∀ u v:Int,(part e #[E u,E v] 1).run P w=.ok (E v) w:=fun u v=>by simp[part,C.plain.1]
   have q:=fun u v:Int=>run_equalIn_int w 9998 e .i64 kd u v hk;rw[show (10000:Nat)=9999+1 from rfl];rw[show (9998+1:Nat)=9999 from rfl]at q;generalize (9999:Nat)=N at q;simp only[Op.equalIn,fG,run_underlying hd,fm,C.plain.2,Std.Legacy.Range.forIn_eq_forIn_range',Std.Legacy.Range.size,L1,Nat.add_one_sub_one,Nat.div_one];simp only[range',forIn_cons,forIn_nil,fG,Ir,xT,x8,V,p2,fm];by_cases D:a=c<;>by_cases F:b=d<;>simp[q,V,p2,D,F]
  cases S
 cases h
variable {α:Type} [DecidableEq α] {T:Ty α}{a b:α}
def TE [E_:AU P t T](hx:bh ρ x=.agg (T.enc a).toArray)(q:bh ρ y=.agg (T.enc b).toArray):PureV P ⟨dst,.binOp .eql t x y t',ty,pos,af,g⟩ ρ (.bool (decide (a=b))):=fun w=>by
 obtain⟨C,I⟩:=E_.ok a b w;simp only[execOp,hx,q,fG,run_eqGuard_agg w .eql t x y _ _ I,fm,run_eql_struct,C,gU]
def TF [E_:AU P t T](hx:bh ρ x=.agg (T.enc a).toArray)(q:bh ρ y=.agg (T.enc b).toArray):PureV P ⟨dst,.binOp .neq t x y t',ty,pos,af,g⟩ ρ (.bool (!decide (a=b))):=fun w=>by
 obtain⟨C,I⟩:=E_.ok a b w;simp only[execOp,hx,q,fG,run_eqGuard_agg w .neq t x y _ _ I,fm,run_neq_struct,C,gU]
end
section
variable {P:Program}{ρ:Fr}{w:World}
def Jt {fn:Func}{s q s2 ty:Nat}{v2:Value}[A:fi P ty n](S:fn.results=#[.cell s ty,.tmp q,.tmp s2])(hv:ρ s=.pointer (some p))(C:ρ q=v')(D:ρ s2=v2)(V:vs.length=n)(hc:∀ j v,vs[j]? = some v->w.cell? (p.add j)=some v)(h:R (.tuple #[.agg vs.toArray,v',v2]) w):mR P fn R .ret ρ w :=
 ⟨.tuple #[.agg vs.toArray,v',v2],fun a F=>by
  have h1:a.tmps.getD s undef=.pointer (some p):=by rw[<-hv,<-F];rfl
  have h2:a.tmps.getD q undef=v':=by rw[<-C,<-F];rfl
  have h4:a.tmps.getD s2 undef=v2:=by rw[<-D,<-F];rfl
  have h3:=Jr (P:=P) (A:=A) V hc;simp only[results,S,CJ,Ap,Ee,h1,h2,h4,bind_pure_comp,map_pure]
  simp[asAddr,h3],h⟩
end
end
section
open Go.RowKit (Below)
def mU (h:PH):PH:=fun b=>(h b).filter (·.isCells)
def zP {b:Nat}:mU h b=some o↔h b=some o/\o.isCells=true:=by
 unfold mU
 cases C:h b with
 | none=>simp
 | some x =>
  simp only[Option.filter,Br];by_cases hx:x.isCells=true
  ·rw[ba hx];constructor
   ·intro e;cases e;exact⟨rfl,hx⟩
   rintro⟨e,_⟩;rw[e]
  rw[aM hx];constructor
  ·intro e;cases e
  rintro⟨e,q⟩;subst e;exact absurd q hx
class yU (A:HP):Prop where
 ok:∀ h,A h->A (mU h)
class uC (Γ:List HP):Prop where
 ok:∀ h,cB Γ h->cB Γ (mU h)
instance:uC []:=⟨fun _ _=>trivial⟩
instance {A:HP}{Γ:List HP} [a:yU A] [g:uC Γ]:uC (A::Γ):=⟨fun h=>by
 rintro⟨h1,C,d,s1,s2,D,I⟩;refine⟨mU h1,mU C,fun b=>?_,fun b o q=>?_,fun b o q=>?_,a.ok _ D,g.ok _ I⟩
 ·rcases d b with e|e
  ·left;simp[mU,e]
  right;simp[mU,e]
 ·have:=zP.1 q;exact zP.2 ⟨s1 b o this.1,this.2⟩
 have:=zP.1 q;exact zP.2 ⟨s2 b o this.1,this.2⟩⟩
instance {p:Addr}{t:TypeId}{cells:List Value}:yU (am p t cells):=⟨fun h ⟨h1,q,C⟩=>⟨h1,q,zP.2 ⟨C,rfl⟩⟩⟩
instance {α:Type}{T:Ty α}{e:TypeId}{s:Value}{xs:List α}:yU (X T e s xs):=⟨fun h ⟨h1,q⟩=>by
 refine⟨?_,q⟩;rcases h1 with h1|⟨b,off,n,cap,pre,post,C,a2,a3,a4,a5,D,F⟩
 ·exact .inl h1
 exact .inr ⟨b,off,n,cap,pre,post,C,a2,a3,a4,a5,D,zP.2 ⟨F,rfl⟩⟩⟩
structure qO (w0 w:World) (Γ:List HP):Prop where
 below:Below w0.heap.size w0 w
 kP:cB Γ (mU (fI w0 w))
def yM (w0 L:World):HP:=fun h=>∀ b o,w0.heap.size<=b->L.heap[b]? = some o->o.isCells=false->h b=some o
def Z.Q0 {w0 w:World}{Γ:List HP}[c:uC Γ](h:Z w0 w Γ):qO w0 w Γ:=⟨h.below,c.ok _ h.kP⟩
def qO.yy {w0 w:World}{Γ:List HP}(h:qO w0 w Γ):Z w0 w Γ:=⟨h.below,h.kP.sub fun b o q=>(zP.1 q).1⟩
def qO.GM {w0:World}{row:Option Nat}{Γ:List HP}(hB:w0.heap.size<=B)(h:qO w0 L Γ)(I:L.grownBy W' row)(D:∀ r,row=some r->B<=r/\∃ o:Obj,L.heap[r]? = some o/\o.isCells=false):qO w0 W' Γ:=by
 have j':=h.below.size;refine⟨⟨h.below.os ▸ I.os,h.below.tape ▸ I.tape,h.below.output ▸ I.output,by have:=I.size;omega,fun k hk=>?_⟩,h.kP.sub fun b o hb=>?_⟩
 ·rw[I.block k U fun e=>by have:=(D k e.symm).1;omega];exact h.below.block k hk
 obtain⟨h1,F⟩:=zP.1 hb;refine zP.2 ⟨?_,F⟩;simp only[fI]at h1 ⊢;split at h1
 ·cases h1
 rename_i q;rw[aM q];have C:b<L.heap.size:=(mw.1 h1).1;rw[I.block b C fun e=>?_]
 ·exact h1
 obtain⟨_,o2,S,V⟩:=D b e.symm;rw[h1]at S;cases S;rw[F]at V;cases V
def qO.open {w0:World}{Γ:List HP}(h:qO w0 L Γ):Z w0 L (yM w0 L::Γ):=by
 refine⟨h.below,fun b=>(fI w0 L b).filter (fun o => !o.isCells),mU (fI w0 L),fun b=>?_,fun b o q=>?_,fun b o q=>(zP.1 q).1,fun b o h1 C D=>?_,h.kP⟩
 ·show (fI w0 L b).filter _=none\/(fI w0 L b).filter _=none
  cases fI w0 L b with
  | none=>left;rfl
  | some x=>cases F:x.isCells<;>simp[Option.filter,F]
 ·cases hx:fI w0 L b with
  | none=>simp[hx]at q
  | some x =>
   simp only[hx,Option.filter]at q;split at q
   ·exact q
   cases q
 have:fI w0 L b=some o:=by simp only[fI];rw[aM U];exact C
 simp[this,Option.filter,D]
def Z.Dn {w0:World}{Γ:List HP}[c:uC Γ](F:Below w0.heap.size w0 L)(h:Z w0 W' (yM w0 L::Γ))(C:L.heap.size<=W'.heap.size):qO w0 W' Γ/\KeepsOthers L W':=by
 refine⟨h.tail.Q0,C,fun k o hk S=>?_⟩;rcases pB k w0.heap.size with q|D
 ·rw[h.below.block k q,<-F.block k q];exact hk
 obtain⟨h1,h2,d,s1,s2,V,I⟩:=h.kP;have:=s1 k o (V k o D hk S);simp only[fI]at this
 rwa[aM U]at this
section
variable {P:Program}{M:Array Oper}{K:Fr->World->Prop}{r:List Oper}{ρ:Fr}{w w0:World}{d:Nat}{ty:TypeId}{pos:String}{af:Array Edge}{x y z:Operand}{t t':TypeId}{Γ:List HP}{α:Type}
def ό {T:Ty α}(xs:List α)(vs:List Value){e len:Nat}{parts:List (Nat × Operand)}[S:bw P t e sz by_][Z':bD P e zs](hp:(parts.map fun p=>(p.1,bh ρ p.2))=(vs.zipIdx 0).map fun x=>(x.2,x.1))(hx:vs.flatMap (·.cells.toList)=xs.flatMap T.enc)(q:vs.all (fun v=>v.cells.size == sz)=true)(hlen:vs.length=len)(C:xs.length=len)(H':len*sz<=16777216)(V:0<len*sz)(j':len<=16777216)(Y:Z w0 w Γ)(h:∀ s w',w.heap.size<=w'.heap.size->Z w0 w' (X T e s xs::Γ)->opsW P M K r (fQ ρ d s) w'):opsW P M K (⟨some d,.buildSlice t len parts.toArray,ty,pos,af,none⟩::r) ρ w:=by
 refine mj rfl ?_;obtain⟨zv,D,F⟩:=Z'.zero;have:(Array.map (fun x:Nat × Operand=>match x with|(i,x)=>(i,bh ρ x)) parts.toArray)=((vs.zipIdx 0).map fun x=>(x.2,x.1)).toArray:=by rw[<-hp];simp
 have h0:¬(len*sz=0):=U;have h1:¬(len*sz>2 ^ 24):=U;have hf:Instr.fill (fun i=>some (i*sz,sz)) ((Array.range (len*sz)).map (zs.toArray[· % zs.toArray.size]!)) ((vs.zipIdx 0).map fun x=>(x.2,x.1))=some (xs.flatMap T.enc).toArray:=by
  have:=I1 (sz:=sz) vs 0 [] ((Array.range (len*sz)).map (zs.toArray[· % zs.toArray.size]!)).toList (fun v hv=>by simpa using all_eq_true.1 q v hv) sm (by simp[hlen]);rw[hx]at this;simp only[lQ,Iw]at this;exact this
 simp only[opW,execOp,this,Instr.buildSlice,fG,run_underlying S.iI,fm,S.size,h1,if_false,h0,gU,F,D];rw[hf];simp only[fG,newRow,run_newObj,fm,gU,cJ];exact h _ _ sm (BA (e:=e) sm C (by unfold cn;omega) rfl Y)
def YE (T:Ty α){x1:α}{e:Nat}[S:bw P t e sz by_][Z':bD P e zs](D:bh ρ x=v)(hx:v.cells.toList=T.enc x1)(q:sz=T.sz)(F:sz<=16777216)(C:0<sz)(Y:Z w0 w Γ)(h:∀ s w',w.heap.size<=w'.heap.size->Z w0 w' (X T e s [x1]::Γ)->opsW P M K r (fQ ρ d s) w'):opsW P M K (⟨some d,.buildSlice t 1 #[(0,x)],ty,pos,af,none⟩::r) ρ w:=by
 have V:v.cells.size=sz:=by
  have:=T.ok x1;rw[<-hx,<-q]at this
  simpa using this
 exact ό (parts:=[(0,x)]) [x1] [v] (by simp[D]) (by simp[hx]) (by simp[V]) rfl rfl U U U Y h
variable {T:Ty α}{s:Value}{xs:List α}
def YF {e:Nat}{s2:Value}{ys:List α}{put:HP->List HP}[S:bw P t e sz by_][Z':bD P e zs](O':iP Γ s α T e xs put)(hx:bh ρ x=s)(hy:bh ρ y=s2)(h2:RS T w s2 ys)(_c:sz=T.sz)(_d:zs.length=sz)(hone:∀ x∈ys,∀ v∈T.enc x,v.oneCell'=true)(hb:(xs.length+ys.length)*by_<=140737488355328)(hl:xs.length+ys.length<=cn)(Y:Z w0 w Γ)(h:∀ s' w',w.heap.size<=w'.heap.size->Z w0 w' (put (X T e s' (xs++ys)))->opsW P M K r (fQ ρ d s') w'):opsW P M K (⟨some d,.call { callee:=.builtin .append,args:=#[x,y],argTypes:=#[t,t] },ty,pos,af,none⟩::r) ρ w:=by
 refine mj rfl ?_;subst _c;obtain⟨i,hi,hp⟩:=O'.nB.ok;simp only[hp]at h;obtain⟨bZ,V',hs,_e⟩:=S.vH;obtain⟨zv,_f,_g⟩:=Z'.zero;have h1:=Y.rs i hi;obtain⟨ph,_h,F⟩:=Y.at i hi;obtain⟨a2,_u,D⟩:=h2.shape;have C:∀ w':World,w'.heap=w.heap->(Builtin.firstCells T.sz ys.length s2).run P w'=.ok (ys.flatMap T.enc).toArray w':=fun w' R'=>FX h2.1 h2.2.symm w' R';have V:∀ w':World,w'.heap=w.heap->(Builtin.firstCells T.sz xs.length s).run P w'=.ok (xs.flatMap T.enc).toArray w':=fun w' R'=>FX h1.1 h1.2.symm w' R'
 have j':∀ (a:Option Addr) (cap:Nat),s=.slice a xs.length cap->cap<xs.length+ys.length ->
   (execOp (bh ρ) ⟨some d,.call { callee:=.builtin .append,args:=#[x,y],argTypes:=#[t,t] },ty,pos,af,none⟩).run P w =
   .ok (.value (.slice (some ⟨w.heap.size,0,none⟩) (xs.length+ys.length) (grownCap w (xs.length+ys.length) cap e))) (jO w.drew (.cells ((xs.flatMap T.enc).toArray++(ys.flatMap T.enc).toArray++Builtin.zeroCells zs.toArray (grownCap w (xs.length+ys.length) cap e-(xs.length+ys.length))) e)):=by
  intro a cap J' q;have hn:¬(xs.length+ys.length<=cap):=U;have P':¬(9223372036854775807<((xs.length:Int)+(ys.length:Int))):=by unfold cn at hl;omega
  have _a:=growslice_fits (bytes:=by_) q hb;have T':¬(281474976710656<Builtin.nextslicecap (xs.length+ys.length) cap*by_):=U;have hq:(Question.appendCap (xs.length+ys.length) cap e).forced=false:=rfl;rw[J']at V;rw[D]at C;simp[execOp,resolve,invoke,builtin,Builtin.append_,hx,hy,J',D,run_underlying S.iI,S.size,typeInfo,V',_e,Builtin.lenOf,hn,P',T',hq,V,C,_g,_f,grownCap];rw[V w.drew rfl];simp only[fm];rw[C w.drew rfl];have H':∀ (X' Y':List Value) (Z':Array Value),X'.toArray++(Y'.toArray++Z')=(X'++Y').toArray++Z':=fun X' Y' Z'=>by apply Ix;simp only[Mf,fk]
  simp only[newRow,fG,run_newObj,fm,gU];rw[H'];rfl
 simp only[opW];rcases F with ⟨F,hlen⟩;have P':∀ cap,cap<xs.length+ys.length->Z w0 (jO w.drew (.cells ((xs.flatMap T.enc).toArray++(ys.flatMap T.enc).toArray++Builtin.zeroCells zs.toArray (grownCap w (xs.length+ys.length) cap e-(xs.length+ys.length))) e)) (Γ.set i (X T e (.slice (some ⟨w.heap.size,0,none⟩) (xs.length+ys.length) (grownCap w (xs.length+ys.length) cap e)) (xs++ys))):=by
  intro cap q;have H':=grownCap_ge w (xs.length+ys.length) cap e;refine Z.yR (w:=w.drew) Y.drew hi ⟨.inr ⟨w.heap.size,0,_,_,[],(Builtin.zeroCells zs.toArray (grownCap w (xs.length+ys.length) cap e-(xs.length+ys.length))).toList,rfl,rfl,by rw[T.len];simp,H',hl,?_,?_⟩,by simp[eZ]⟩
  ·simp[size_zeroCells,_d]
  simp
 rcases F with ⟨rfl,_v⟩|⟨b,off,n,cap,pre,post,rfl,_a,_i,_C,_w,_j,_k⟩
 ·simp only[eZ]at hlen
  by_cases H':ys.length=0
  ·have J':=qD H'
   subst J';have hr:(execOp (bh ρ) ⟨some d,.call { callee:=.builtin .append,args:=#[x,y],argTypes:=#[t,t] },ty,pos,af,none⟩).run P w=.ok (.value (nS)) w:=by
    have q:=C w rfl;rw[D]at q;simp only[length_nil]at q;simp[execOp,resolve,invoke,builtin,Builtin.append_,hx,hy,D,run_underlying S.iI,S.size,Builtin.lenOf,q]
   rw[hr];refine h _ _ (cP _) ?_;have:xs=[]:=qD hlen;subst this;simp only[gj];rw[show Γ.set i (X T e (nS) [])=Γ from ?_]
   ·exact Y
   apply Al;intro k;rw[D9];split
   ·rename_i hk;subst hk;split
    ·rw[hi]
    rename_i hk;rw[xS U]
   rfl
  rw[j' none 0 (by rw[hlen]) U];exact h _ _ (by simp[jO]) (P' 0 U)
 simp only[eZ]at hlen;subst hlen;by_cases H':xs.length+ys.length<=cap
 ·have q:=C w rfl
  rw[D]at q;have J':(xs.flatMap T.enc).length=xs.length*T.sz:=T.len xs;have T':(ys.flatMap T.enc).length=ys.length*T.sz:=T.len ys;have hm:xs.length*T.sz+ys.length*T.sz<=xs.length*T.sz+(cap-xs.length)*T.sz:=by
   have:ys.length*T.sz<=(cap-xs.length)*T.sz:=wm _ U;omega
  have _l:=yo (P:=P) (bt:=e) (ys.flatMap T.enc) (off+xs.length*T.sz) 0 (pre++xs.flatMap T.enc++post) w (by
   intro v hv;obtain⟨x',_b,_m⟩:=tN.1 hv
   exact hone x' _b v _m) (by simp only[length_append,J',T'];omega) (_h _ _ _k).1
  have hr:(execOp (bh ρ) ⟨some d,.call { callee:=.builtin .append,args:=#[x,y],argTypes:=#[t,t] },ty,pos,af,none⟩).run P w=.ok (.value (.slice (some ⟨b,off,none⟩) (xs.length+ys.length) cap)) (fq w b (.cells ((pre++xs.flatMap T.enc++post).take (off+xs.length*T.sz+0)++ys.flatMap T.enc++(pre++xs.flatMap T.enc++post).drop (off+xs.length*T.sz+0+(ys.flatMap T.enc).length)).toArray e (0,0))):=by
   simp only[execOp,resolve,invoke,builtin,Builtin.append_,hx,hy,D,fG,gU,fm,FE,pV,uL,run_underlying S.iI,S.size,Builtin.lenOf];simp[q,H',Ac,run_underlying S.iI,Builtin.lenOf,S.size];rw[_l];simp
  rw[hr];have _m:(pre++xs.flatMap T.enc++post).take (off+xs.length*T.sz+0)=pre++xs.flatMap T.enc:=by
   rw[Bs (by simp only[length_append,J'];omega)];exact io (by simp only[length_append,J'];omega)
  have _n:(pre++xs.flatMap T.enc++post).drop (off+xs.length*T.sz+0+(ys.flatMap T.enc).length)=post.drop (ys.length*T.sz):=by
   rw[Am,oG (by simp only[length_append,J',T'];omega)];simp only[lQ,length_append,J',T'];congr 1;omega
  rw[_m,_n];refine h _ _ (by simp[fq]) (Z.iD i hi (Z.put (Y.bN i hi) fun h1 _x hA=>?_));rcases hA with ⟨hA,_⟩;rcases hA with ⟨hc,_⟩|⟨b1,_y,n1,_z,_A,_o,_p,_q,_r,_B,_s,_b,_t⟩
  ·cases hc
  cases _p;refine⟨⟨_,_t⟩,.inr ⟨b,off,xs.length+ys.length,cap,pre,post.drop (ys.length*T.sz),rfl,_a,by rw[T.len,length_append],H',hl,?_,?_⟩,by simp[eZ]⟩
  ·simp only[Bq]
   have:(cap-(xs.length+ys.length))*T.sz=(cap-xs.length)*T.sz-ys.length*T.sz:=by rw[<-FF];congr 1;omega
   omega
  simp[oC]
 rw[j' _ cap rfl U];exact h _ _ (by simp[jO]) (P' cap U)
end
section
variable {P:Program}
def ύ {M:Array Oper}{o:Oper}{r:List Oper}{K:Fr->World->Prop}{a:Act}{w:World}(D:∀ d,o.dst=some d->d<n)(V:a.tmps.size=n)(hd:a.defers=ds)(h:opsW P M K (o::r) (fr a) w):r9 P M o (fun C w'=>C.tmps.size=n/\C.defers=ds/\opsW P M K r (fr C) w') a w:=by
 have F:∀ v,fr (a.put o.dst v)=jq (fr a) o.dst v:=fun v=>yb fun t ht=>by rw[V];exact D t ht
 have q:∀ v w',opsW P M K r (jq (fr a) o.dst v) w'->(a.put o.dst v).tmps.size=n/\(a.put o.dst v).defers=ds/\opsW P M K r (fr (a.put o.dst v)) w' :=
  fun v w' hk=>⟨by rw[fN,V],by rw[Bi,hd],by rw[F];exact hk⟩
 have S:opV P o (fr a) w (opsW P M K r)->ix P o a w fun C w'=>C.tmps.size=n/\C.defers=ds/\opsW P M K r (fr C) w':=by
  intro h;unfold opV at h;unfold ix;split at h
  ·obtain⟨v,hv,hk⟩:=h
   unfold PureV at hv;rw[sJ]at hv;exact⟨v,hv,q _ _ hk⟩
  ·obtain⟨v,hv,hk⟩:=h
   unfold ReadV at hv;rw[sJ]at hv;exact⟨v,hv,q _ _ hk⟩
  unfold opW at h;rw[sJ]at h;exact wq (fun v w' hk=>q _ _ hk) h
 simp only[opsW]at h
 cases I:o.guard with
 | none =>
  simp only[I]at h;refine⟨fun _=>S h,fun Y=>?_⟩
  simp[Region.wanted,I]at Y
 | some g =>
  simp only[I]at h;unfold r9;rw[FO I];exact⟨fun Y=>S (h.1 Y),fun Y=>q _ _ (h.2 Y)⟩
def YG {ro:Option Nat}{m:Nat}{id:Nat}{M:Array Oper}{K:Fr->World->Prop}{a:Act}{w:World}{Q:Exit->Act->World->Prop}(hQ:∀ a w,(a.tmps.size=n/\a.defers=ds/\K (fr a) w)->Q .normal a w)(q:jR n M=true)(C:a.tmps.size=n)(D:a.defers=ds)(h:opsW P M K M.toList (fr a) w):(Code.region id M false).wpIn (fw ro) m P Q a w:=by
 refine wpIn_region ?_
 have key:∀ (l:List Oper) (k:Nat) (a:Act) (w:World),(∀ j,l[j]? = M[k+j]?)->k+l.length=M.size->a.tmps.size=n->a.defers=ds->opsW P M K l (fr a) w ->
   wpOpsIn (fw ro) m P M Q ((range' k l.length)) a w:=by
  intro l
  induction l with
  | nil=>intro k a w _ _ C D h;exact hQ _ _ ⟨C,D,h⟩
  | cons o r ih =>
   intro k a w V hk C D h;have h0:M[k]? = some o:=by simpa using (V 0).symm
   have F:∀ d,o.dst=some d->d<n:=by
    intro d S;have:=xV.1 q o (Ao h0)
    simpa [S] using this
   simp only[length_cons,range'_succ];rw[wpOpsIn_cons];refine IH ?_;unfold qS;rw[h0];refine Bv (fun u w' aw => ?_) (ύ F C D h);simp only[length_cons]at hk;exact ih (k+1) _ _ (fun j=>by have:=V (j+1);simpa [Bt,Iy 1 j] using this) U aw.1 aw.2.1 aw.2.2
 have:=key M.toList 0 a w sm sm C D h
 simpa [range_eq_range'] using this
end
end
section
section
variable {P:Program}{ρ:Fr}{w:World}
end
section
variable {P:Program}{ρ:Fr}{ty:TypeId}{pos:String}{af:Array Edge}{g:Option (Nat × Bool)}{dst:Option Nat}{x y:Operand}{t t':TypeId}
def ώ (w:World)(t:TypeId)(p:Option Addr)(h:P.underlying t=some (.pointer (P.pointee t))) :
  (Op.equal t (.pointer none) (.pointer p)).run P w=.ok p.isNone w:=by
 have key:∀ d,(Op.equalIn (d+1) t (.pointer none) (.pointer p)).run P w=.ok p.isNone w:=fun d=>by
  cases p<;>simp[Op.equalIn,run_underlying h]
 exact key 9999
def Ϗ {a:Option Addr}[T:oT P t](hx:bh ρ x=.pointer none)(q:bh ρ y=.pointer a):PureV P ⟨dst,.binOp .eql t x y t',ty,pos,af,g⟩ ρ (.bool a.isNone):=fun w=>by
 have h1:=ώ (P:=P) w t a T.iI;simp only[execOp,eqGuard,hx,q];simp only[binOp];simp[h1]
end
section
variable {w0 w:World}{Γ:List HP}{α:Type}{T:Ty α}{e:TypeId}{ss:List Value}{G:List (List α)}
def Rn {α:Type}{l:List α}{a:α}(h:l[j]? = some a):l.set j a=l:=by
 apply Al;intro k;by_cases hk:j=k
 ·subst hk
  rw[CH (ym.1 h).1,h]
 rw[uO hk]
def UO (hi:Z'[i]? = some A)(C:cB Z' h):cB [A,kR (Z'.eraseIdx i)] h:=by
 obtain⟨h1,q,d,s1,s2,a,g⟩:=C.bN i hi;exact⟨h1,q,d,s1,s2,a,q,fun _=>none,fun b=>.inr rfl,rO.refl _,(fun b o D=>by cases D),g,az⟩
def UP (q:cB [A,kR Δ] h):cB (A::Δ) h:=by
 obtain⟨h1,C,d,s1,s2,a,F,S,d2,D,V,g,_⟩:=q;exact⟨h1,C,d,s1,s2,a,cB.sub D g⟩
def ϐ {B:HP}(hi:Z'[i]? = some A)(q:(Z'.eraseIdx i)[j]? = some B)(C:cB Z' h):cB [A,B,kR ((Z'.eraseIdx i).eraseIdx j)] h:=by
 obtain⟨h1,D,d,s1,s2,a,g⟩:=C.bN i hi;exact⟨h1,D,d,s1,s2,a,UO q g⟩
def ϑ {A' B:HP}(hi:Z'[i]? = some A)(q:(Z'.eraseIdx i)[j]? = some B)(D:cB [A',B,kR ((Z'.eraseIdx i).eraseIdx j)] h):cB (Z'.set i A') h:=by
 obtain⟨h1,F,d,s1,s2,a,g⟩:=D;have C:=cB.iD j (A':=B) q (UP g);rw[Rn q]at C;exact cB.iD i hi ⟨h1,F,d,s1,s2,a,C⟩
def Ju (q:ss.length=G.length)(hi:i<G.length):(zipWith (X T e) ss G)[i]? = some (X T e (cL ss i) (G.getD i [])):=by
 simp[qL,Bu,List.getD,mL (show i<ss.length by omega),mL hi]
def UQ {q:List α}(C:ss.length=G.length)(hi:i<G.length):(zipWith (X T e) ss G).set i (X T e (cL ss i) q)=zipWith (X T e) ss (G.set i q):=by
 apply Al;intro k;by_cases hk:i=k
 ·subst hk
  rw[CH (by simp;omega),Bu,CH U,mL (show i<ss.length by omega)];simp[qL,List.getD,mL (show i<ss.length by omega)]
 rw[uO hk,Bu,Bu,uO hk]
def Z.tk (hi:i<G.length)(h:Z w0 w (ai T e ss G::Γ)):∃ Δ,Z w0 w (X T e (cL ss i) (G.getD i [])::kR Δ::Γ)/\∀ {w':World}{q:List α}{C:List HP},Z w0 w' (X T e (cL ss i) q::kR Δ::C)->Z w0 w' (ai T e ss (G.set i q)::C):=by
 obtain⟨D,h1⟩:=h.vI;have F:=Ju (T:=T) (e:=e) D hi;refine⟨_,Z.tq ((Z.AP h1).mono fun g I=>UO F I),fun {w' q C} S=>?_⟩;refine Z.o8 (by simp[D]) ?_;rw[<-UQ D hi];exact Z.tq ((Z.AP (Δ:=[_,_]) S).mono fun g I=>cB.iD i F (UP I))
def Z.Do {r:Nat}(hi:i<G.length)(V:r<G.length)(j':i≠r)(h:Z w0 w (ai T e ss G::Γ)):∃ Δ,Z w0 w (X T e (cL ss i) (G.getD i [])::X T e (cL ss r) (G.getD r [])::kR Δ::Γ)/\∀ {w':World}{q:List α}{C:List HP},Z w0 w' (X T e (cL ss i) q::X T e (cL ss r) (G.getD r [])::kR Δ::C)->Z w0 w' (ai T e ss (G.set i q)::C):=by
 obtain⟨D,h1⟩:=h.vI;have hz:=Ju (T:=T) (e:=e) D hi;have F:∃ j:Nat,((zipWith (X T e) ss G).eraseIdx i)[j]? = some (X T e (cL ss r) (G.getD r [])):=by
  by_cases S:r<i
  ·exact⟨r,by rw[getElem?_eraseIdx,ba S];exact Ju D V⟩
  exact⟨r-1,by rw[getElem?_eraseIdx,aM U,show r-1+1=r by omega];exact Ju D V⟩
 obtain⟨j,F⟩:=F;refine⟨_,Z.tq ((Z.AP h1).mono fun g I=>ϐ hz F I),fun {w' q C} S=>?_⟩;refine Z.o8 (by simp[D]) ?_;rw[<-UQ D hi];exact Z.tq ((Z.AP (Δ:=[_,_,_]) S).mono fun g I=>ϑ hz F I)
end
section
variable {P:Program}{M:Array Oper}{K:Fr->World->Prop}{r:List Oper}{ρ:Fr}{w w0:World}{ty:TypeId}{pos:String}{af:Array Edge}{x y:Operand}{t:TypeId}{Γ:List HP}
def Rp {k:Nat}{cells cells':List Value}{put:HP->List HP}[A:fi P t n](hx:bh ρ x=.pointer (some (p.add k)))(hy:bh ρ y=.agg vs.toArray)(Y:Z w0 w Γ)(B:iC Γ p bt cells put)(hn:vs.length=n)(hl:k+n<=cells.length)(hv:vs.all Value.oneCell'=true)(hc:cells'=cells.take k++vs++cells.drop (k+n))(h:∀ w',Z w0 w' (put (am p bt cells'))->opsW P M K r ρ w'):opsW P M K (⟨none,.store t x y,ty,pos,af,none⟩::r) ρ w:=by
 refine mj rfl ?_;obtain⟨i,F,q⟩:=B.nB.ok;simp only[q]at h;obtain⟨h1,hs,ho,C,D⟩:=Y.at i F;obtain⟨S,po,j'⟩:=p;simp only at ho C D;subst ho C;have V:bh ρ x=.pointer (some ⟨S,k,none⟩):=by rw[hx,Ac,xT]
 refine By V hy (fun w=>by rw[A.agg.2];simp[Value.cells,hn]) (w':=fq w S (.cells cells'.toArray bt (0,0))) ?_ ?_
 ·have:=yo (P:=P) (b:=S) vs k 0 cells w (by simpa using hv) U (hs _ _ D).1
  simp only[Value.cells];rw[this,hc,Ai,hn]
 exact h _ ((Z.put (Y.bN i F) fun h1 _ ⟨_,_,D⟩=>⟨⟨_,D⟩,rfl,rfl,by simp[oC]⟩).iD i F)
end
section
variable {P:Program}{ρ:Fr}{w:World}
def Ge {fn:Func}{s s2 C D ty:Nat}{v2 v3 v4:Value}[A:fi P ty n](hr:fn.results=#[.cell s ty,.tmp s2,.tmp C,.tmp D])(hv:ρ s=.pointer (some p))(F:ρ s2=v2)(S:ρ C=v3)(V:ρ D=v4)(hn:vs.length=n)(hc:∀ j v,vs[j]? = some v->w.cell? (p.add j)=some v)(h:R (.tuple #[.agg vs.toArray,v2,v3,v4]) w):mR P fn R .ret ρ w :=
 ⟨.tuple #[.agg vs.toArray,v2,v3,v4],fun a q=>by
  have h1:a.tmps.getD s undef=.pointer (some p):=by rw[<-hv,<-q];rfl
  have h2:a.tmps.getD s2 undef=v2:=by rw[<-F,<-q];rfl
  have h4:a.tmps.getD C undef=v3:=by rw[<-S,<-q];rfl
  have h5:a.tmps.getD D undef=v4:=by rw[<-V,<-q];rfl
  have h3:=Jr (P:=P) (A:=A) hn hc;simp only[results,hr,CJ,Ap,Ee,h1,h2,h4,h5,bind_pure_comp,map_pure]
  simp[asAddr,h3],h⟩
end
section
variable {α:Type}{P:Program}{ρ:Fr}{w:World}{ty:TypeId}{pos:String}{af:Array Edge}{g:Option (Nat × Bool)}{dst:Option Nat}{x y:Operand}{t:TypeId}{κ:α->Value}
def UR [DecidableEq α]{k e:TypeId}{q:α}{C:Value}[M':xy P t k e][KT:yD P k κ][Z':sB P e C](hx:bh ρ x=.map none)(F:bh ρ y=κ q):ReadV P ⟨dst,.lookup t x y false,ty,pos,af,g⟩ ρ w C:=by
 have D:=KT.yE q [] [] rfl w;have S:jP q ([]:List (α × Value)) 0=none:=rfl;rw[S]at D;have V:(#[]:Array MapEntry).toList=[]:=rfl;simp only[ReadV,execOp,hx,F,Instr.lookup,fG,run_underlying M'.ok,fm,gU,KT.uB,V,D,Z'.run];rfl
end
section
variable {P:Program}{ρ:Fr}{ty:TypeId}{pos:String}{af:Array Edge}{x:Operand}
end
end
end Go.Sl
