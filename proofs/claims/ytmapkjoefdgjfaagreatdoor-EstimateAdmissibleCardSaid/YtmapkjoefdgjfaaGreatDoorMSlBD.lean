/- Several texts. -/
import Derived.Test.YtmapkjoefdgjfaaGreatDoorMSlAD
import Derived.Sort.Row
import Derived.Sort.Grow
import Derived.Laws.Cover3
import Derived.Laws.StructEq
import Derived.ChangeSame
import Derived.ChangeShapes
import Derived.ChangeSlices
import Derived.Laws.BytesString
import Derived.Laws.Strings
import Derived.Laws.Externs
import Derived.Stop.Asserts
import Derived.Lib.IfaceEq
import Derived.Lib.Builder
import Derived.Lib.UnsafeStr
import Derived.RangeFuncFrom
import Derived.RangeFuncLeaves
import Derived.Deep.Draws
import Derived.Shelf.GgSortFunc.InsertionK
set_option linter.unusedSimpArgs false
set_option linter.unusedVariables false
set_option linter.defProp false
set_option maxRecDepth 8000
set_option maxHeartbeats 16000000
open List Nat
namespace Go.Sl
variable {n i sz by_ f c B j fuel:Nat}{vs zs cs:List Value}{v u v':Value}{p:Addr}{L W':World}{k:IntKind}{ts:Array TypeId}{R:Value->World->Prop}{ys:J}{l:List UInt8}{Δ:List HP}{β:Type}{ds:List Deferred}{o:Obj}{h:PH}{ms:Array (String × TypeId)}{b2:ByteArray}
section
section
variable {P:Program}{ρ:Fr}{w:World}
def K8 {ty:Nat}[A:eT P ty n](q:vs.length=n)(C:∀ j v,vs[j]? = some v->w.cell? (p.add j)=some v):(loadVar ty p).run P w=.ok (.agg vs.toArray) w:=by
 subst q;have:=run_loadCells_list (P:=P) (w:=w) p vs C;simp[loadVar,A.agg.1,A.agg.2,this]
def lO {fn:Func}{s q ty:Nat}[A:eT P ty n](F:fn.results=#[.cell s ty,.tmp q])(hv:ρ s=.pointer (some p))(C:ρ q=v')(S:vs.length=n)(V:∀ j v,vs[j]? = some v->w.cell? (p.add j)=some v)(h:R (.tuple #[.agg vs.toArray,v']) w):mz P fn R .ret ρ w :=
 ⟨.tuple #[.agg vs.toArray,v'],fun a D=>by
  have h1:a.tmps.getD s undef=.pointer (some p):=by rw[<-hv,<-D];rfl
  have h2:a.tmps.getD q undef=v':=by rw[<-C,<-D];rfl
  have h3:=K8 (P:=P) (A:=A) S V;simp only[results,F,Cx,zU,DI,h1,h2,bind_pure_comp,map_pure]
  simp[asAddr,h3],h⟩
end
end
section
open Go.RowKit (Below)
def M.ahead {w0 w:World}{Γ:List HP}(h:M w0 w Γ)(n:Nat):M w0 (Sort.ahead w n) Γ:=⟨h.below.trans ⟨rfl,rfl,rfl,cz _,fun _ _=>rfl⟩,h.jM⟩
def M.grow {w0 w:World}{Γ:List HP}(h:M w0 w Γ)(os:Array Obj):M w0 (Sort.grow w os) Γ:=by
 have C:=h.below.size;refine⟨h.below.trans ⟨rfl,rfl,rfl,by simp[Sort.grow],fun k hk=>?_⟩,h.jM.sub fun b o q=>?_⟩
 ·simp only[Sort.grow];rw[DF U]
 simp only[eS]at q ⊢;split at q
 ·cases q
 rename_i h1;rw[aH h1];have A:=(kV.1 q).1;simp only[Sort.grow];rw[DF A];exact q
def K9 (xs:J):xs.flatMap O.enc=xs.map (Value.int .i64):=by
 induction xs with
 | nil=>rfl
 | cons x xs q=>rw[kQ,q];rfl
def ZJ {pre post:List Value}{xs:J}(C:ys.length=xs.length) :
  Sort.putCells (Value.int .i64) pre.length ys.toArray (pre++xs.map (Value.int .i64)++post).toArray=(pre++ys.map (Value.int .i64)++post).toArray:=by
 apply wH;intro k;simp only[Sort.putCells,J5,CB,Cv];by_cases h1:k<pre.length
 ·rw[fG,js h1,fG,js h1]
  cases pre[k]? with
  | none=>rfl
  | some v=>simp only[tJ];rw[aH U]
 by_cases D:k<pre.length+ys.length
 ·have q:(pre++xs.map (Value.int .i64)++post)[k]? = some (Value.int .i64 (xs[k-pre.length]'U)):=by
   rw[fG,kp U,js (by simp;omega),tq,kP U];rfl
  have A:(pre++ys.map (Value.int .i64)++post)[k]? = some (Value.int .i64 (ys[k-pre.length]'U)):=by
   rw[fG,kp U,js (by simp;omega),tq,kP U];rfl
  rw[q,A];simp only[tJ];rw[aP U];congr 2;simp[show k-pre.length<ys.length by omega]
 have q:(pre++xs.map (Value.int .i64)++post)[k]? = post[k-pre.length-ys.length]? := by
  rw[fG,kp U,kp (by simp;omega)];simp[C]
 have A:(pre++ys.map (Value.int .i64)++post)[k]? = post[k-pre.length-ys.length]? := by
  rw[fG,kp U,kp (by simp;omega)];simp
 rw[q,A]
 cases post[k-pre.length-ys.length]? with
 | none=>rfl
 | some v=>simp only[tJ];rw[aH U]
def M.xw {w0 w:World}{Γ:List HP}{e:TypeId}{s:Value}{xs:J}(Y:M w0 w (X O e s xs::Γ)) :
  (s=nS/\xs=[])\/∃ b off cap,s=.slice (some ⟨b,off,none⟩) xs.length cap/\xs.length<=cap/\b<w.heap.size/\Sort.Holds (Value.int .i64) w b off xs.toArray /\
   ∀ ys:J,ys.length=xs.length->∀ n,M w0 (Sort.putRow (Value.int .i64) (Sort.ahead w n) b off ys.toArray) (X O e s ys::Γ):=by
 obtain⟨h1,hs,ho,hl⟩:=Y.at 0 rfl;rcases ho with ⟨rfl,C⟩|⟨b,off,n,cap,pre,post,rfl,A,_g,D,F,S,hb⟩
 ·left
  refine⟨rfl,?_⟩
  cases xs with
  | nil=>rfl
  | cons x xs=>simp[O]at C
 right;simp only[ee]at hl;subst hl;rw[K9]at hb;have q:=(hs b _ hb).1;refine⟨b,off,cap,rfl,D,(kV.1 q).1,fun j V=>⟨?_,e8 q _⟩,fun ys hy m=>?_⟩
 ·simp only[Cv]at V
  rw[dI q,fG,kp U,js (by simp;omega),A,show off+j-off=j by omega,tq,kP V];simp[V]
 have e1:Sort.putRow (Value.int .i64) (Sort.ahead w m) b off ys.toArray=eP (Sort.ahead w m) b (.cells (pre++ys.map (Value.int .i64)++post).toArray e (0,0)):=by
  simp only[Sort.putRow,Sort.mapBlock,eP,Sort.ahead];congr 1;apply wH;intro k;have j':=(kV.1 q).1;by_cases hk:b=k
  ·subst hk
   rw[wk,aP rfl,q,Bi j'];simp only[tJ,Sort.onCells];rw[<-A,ZJ hy]
  rw[wk,aH hk,uG hk]
 rw[e1];refine M.put (Y.ahead m) fun g I ⟨j',H'⟩=>?_;rcases j' with ⟨hn,_⟩|⟨b',_a,n',_b,_c,J',P',R',_d,_e,T',_f,V'⟩
 ·cases hn
 cases P';refine⟨⟨_,V'⟩,.inr ⟨b,off,_,cap,pre,post,rfl,A,by rw[K9];simp[hy,O],D,F,S,by rw[K9];simp[mN]⟩,by rw[hy];exact H'⟩
section
variable {P:Program}{ρ:Fr}{w:World}{ty:TypeId}{pos:String}{af:Array Edge}{g:Option (Nat × Bool)}{dst:Option Nat}{x y:Operand}{t t':TypeId}
def F6 {e:Nat}{a:Option Addr}[S:bh P t e sz by_](hx:aX ρ x=.slice a n c):PureV P ⟨dst,.binOp .eql t x (.const (nS)) t',ty,pos,af,g⟩ ρ (.bool a.isNone):=fun w=>by
 have h1:=run_equal_slice_nil (P:=P) w t e a n c S.gI;simp only[execOp,eqGuard,hx];cases x<;>simp[aX,binOp,h1]
def RC {e:Nat}{a:Option Addr}[S:bh P t e sz by_](hx:aX ρ x=.slice a n c):PureV P ⟨dst,.binOp .neq t x (.const (nS)) t',ty,pos,af,g⟩ ρ (.bool !a.isNone):=fun w=>by
 have h1:=run_neq_slice_nil (P:=P) w t e a n c S.gI;simp only[execOp,eqGuard,hx];cases x<;>simp[aX,h1]
end
end
section
def vg (P:Program)(t n:Nat):Bool:=match P.underlying t with
 | some (.struct q)=>q.size == n && (List.range n).all (fun i=>match q[i]? with|some f => !(f.name == "_") && f.offset == i && uS P f.type && (match P.underlying f.type with | some (.int _) => true | _ => false) | none => false) && !P.stoodInHeld t && !P.eqGuardType P.depth t
 | _=>false
class jd (P:Program) (t:Nat) (n:outParam Nat):Prop where
 ok:vg P t n=true
section
variable {P:Program}{ρ:Fr}{w:World}{ty:TypeId}{pos:String}{af:Array Edge}{g:Option (Nat × Bool)}{dst:Option Nat}{x y:Operand}{t t':TypeId}
theorem RM {d:Nat}:∀ (fs:List Field) (k:Nat) (us zs:J) (xs ys:Array Value) (w:World),us.length=fs.length->zs.length=fs.length ->
  (∀ j f,fs[j]? = some f->f.name≠ "_" /\ f.offset = k + j /\ bY P f.type /\ ∃ A, P.underlying f.type = some (.int A)) ->
  (∀ j a,us[j]? = some a->xs[k+j]? = some (E a))->(∀ j a,zs[j]? = some a->ys[k+j]? = some (E a)) ->
  (Op.eqFields (d+1) xs ys fs).run P w=.ok (decide (us=zs)) w
 | [],k,[],[],xs,ys,w,_,_,_,_,_=>by simp[Op.eqFields]
 | f::fs,k,a::us,b::zs,xs,ys,w,h1,h2,S,hx,V=>by
  obtain⟨hn,D,C,A,hk⟩:=S 0 f rfl;have ex:=hx 0 a rfl;have ey:=V 0 b rfl;simp only[zQ]at D ex ey
  have ih:=RM (d:=d) fs (k+1) us zs xs ys w (by simpa using h1) (by simpa using h2) (fun j f' q=>by have:=S (j+1) f' (by simpa using q);rw[show k+(j+1)=k+1+j by omega]at this;exact this)
   (fun j F q=>by have:=hx (j+1) F (by simpa using q);rw[show k+(j+1)=k+1+j by omega]at this;exact this) (fun j F q=>by have:=V (j+1) F (by simpa using q);rw[show k+(j+1)=k+1+j by omega]at this;exact this)
  have F:(part f.type xs f.offset).run P w=.ok (E a) w:=by simp[part,C.plain.1,D,ex]
  have p2:(part f.type ys f.offset).run P w=.ok (E b) w:=by simp[part,C.plain.1,D,ey]
  simp only[Op.eqFields,ne_eq,hn,not_false_eq_true,if_true,eR,F,p2,eF,run_equalIn_int w d f.type .i64 A a b hk];by_cases h:a=b
  ·subst h
   simp only[wF,nq,Cr,if_false,ih];congr 1;simp
  have hb:(a == b)=false:=by simpa using h
  rw[hb];simp[h]
def jd.run {n:Nat}(T:jd P t n){us zs:J}(h1:us.length=n)(h2:zs.length=n)(w:World):(Op.equalIn 10000 t (.agg (us.map (Value.int .i64)).toArray) (.agg (zs.map (Value.int .i64)).toArray)).run P w=.ok (decide (us=zs)) w/\P.eqGuardType P.depth t=false:=by
 have h:=T.ok;simp only[vg]at h;split at h
 ·rename_i D hd
  simp only[Bool.and_eq_true,xT,sq,all_eq_true,mem_range]at h;obtain⟨⟨⟨F,A⟩,S⟩,V⟩:=h;have C:P.fieldsOf t=D:=by simp[Program.fieldsOf,hd]
  refine⟨?_,V⟩;rw[run_equalIn_struct w 9999 t _ _ (by rw[C];exact hd) S,C];refine RM (d:=9998) D.toList 0 us zs _ _ w (by simp[h1,F]) (by simp[h2,F]) (fun j f q=>?_) (fun j a q=>by simp[q]) (fun j a q=>by simp[q]);have j':j<n:=by have:=(xW.1 q).1;simpa [F] using this
  have:=A j j';rw[show D[j]? = some f by simpa using q]at this;simp only[Bool.and_eq_true,xT,sq]at this;obtain⟨⟨⟨a1,a2⟩,a3⟩,a4⟩:=this;refine⟨by simpa using a1,by simpa using a2,⟨a3⟩,?_⟩;split at a4
  ·rename_i kd hk;exact⟨kd,hk⟩
  cases a4
 cases h
def ZK {us zs:J}[T:jd P t n](hx:aX ρ x=.agg (us.map (Value.int .i64)).toArray)(q:aX ρ y=.agg (zs.map (Value.int .i64)).toArray)(h1:us.length=n)(h2:zs.length=n):PureV P ⟨dst,.binOp .eql t x y t',ty,pos,af,g⟩ ρ (.bool (decide (us=zs))):=fun w=>by
 obtain⟨A,I⟩:=T.run h1 h2 w;simp only[execOp,hx,q,eR,run_eqGuard_agg w .eql t x y _ _ I,eF,run_eql_struct,A,ga]
def Ri {us zs:J}[T:jd P t n](hx:aX ρ x=.agg (us.map (Value.int .i64)).toArray)(q:aX ρ y=.agg (zs.map (Value.int .i64)).toArray)(h1:us.length=n)(h2:zs.length=n):PureV P ⟨dst,.binOp .neq t x y t',ty,pos,af,g⟩ ρ (.bool (!decide (us=zs))):=fun w=>by
 obtain⟨A,I⟩:=T.run h1 h2 w;simp only[execOp,hx,q,eR,run_eqGuard_agg w .neq t x y _ _ I,eF,run_neq_struct,A,ga]
def Cl {fn:Func}{s ty:Nat}[A:eT P ty n](q:fn.results=#[.cell s ty])(hv:ρ s=.pointer (some p))(C:vs.length=n)(D:∀ j v,vs[j]? = some v->w.cell? (p.add j)=some v)(h:R (.agg vs.toArray) w):mz P fn R .ret ρ w :=
 ⟨.agg vs.toArray,fun a F=>by
  have h1:a.tmps.getD s undef=.pointer (some p):=by rw[<-hv,<-F];rfl
  have S:=K8 (P:=P) (A:=A) C D;simp only[results,q,Cx,zU,DI,h1,bind_pure_comp,map_pure]
  simp[asAddr,S],h⟩
end
end
section
open Go.RowKit (Below)
section
variable {H:Type}{enc:TypeId × Value->H}{P:Program}{w:World}{eO:Nat}{spare:Nat->Bool}{held:Bool}
def Rd {α:Type}(enc:TypeId × Value->H)(P:Program)(w:World)(eO:Nat)(spare:Nat->Bool)(held:Bool)(t:TypeId)(T:Ty α)(Good:α->Prop):Prop :=
 ∀ fuel cs y,DataW.trod enc P w eO spare held fuel t cs=some y->∃ x,cs=T.enc x/\Good x
def Bc {t:TypeId}(q:P.underlying t=some (.int .i64)):Rd enc P w eO spare held t O fun n => -9223372036854775808<=n/\n<=9223372036854775807:=by
 intro fuel cs y h;obtain⟨n,rfl,_,Y⟩:=DataW.trod_int q h;refine⟨n,rfl,?_⟩
 simpa [Lit.wf,IntKind.min,IntKind.max,IntKind.signed,IntKind.bits] using Y
def RN {α β:Type}{f:α->Option β}:∀ {l:List α}{r:List β},l.mapM f=some r->∀ (i:Nat) (x:α),l[i]? = some x->∃ y,f x=some y/\r[i]? = some y
 | [],r,h,i,x,hx=>by simp at hx
 | a::l,r,h,i,x,hx=>by
  simp only[zU,Kb,Kc]at h
  cases q:f a with
  | none=>simp[q]at h
  | some b =>
   cases A:l.mapM f with
   | none=>simp[q,A]at h
   | some D =>
    simp only[q,A,yE,zR]at h;subst h
    cases i with
    | zero=>simp at hx;subst hx;exact⟨b,q,rfl⟩
    | succ i=>simp at hx;obtain⟨y,h1,C⟩:=RN A i x hx;exact⟨y,h1,by simpa using C⟩
def ZL {a:Addr}(h:w.cells? eO a n=some cs):cs.length=n/\∀ (i:Nat) v,cs[i]? = some v->w.cell? (a.add i)=some v:=by
 unfold World.cells? at h;split at h
 ·have A:cs.length=n:=by
   have:∀ {l:List Nat}{r:List Value},l.mapM (fun i=>w.cell? (a.add i))=some r->r.length=l.length:=by
    intro l
    induction l with
    | nil=>intro r h;simp at h;subst h;rfl
    | cons x l C =>
     intro r h;simp only[zU,Kb,Kc]at h
     cases hx:w.cell? (a.add x) with
     | none=>simp[hx]at h
     | some b =>
      cases q:l.mapM (fun i=>w.cell? (a.add i)) with
      | none=>simp[hx,q]at h
      | some D=>simp only[hx,q,yE,zR]at h;subst h;simp[C q]
   have:=this h;simpa using this
  refine⟨A,fun i v hv=>?_⟩;have C:=(xW.1 hv).1;obtain⟨y,h1,q⟩:=RN h i i (by rw[GA U]);rw[hv]at q;cases q;exact h1
 cases h
def zp (a:Addr)(i j:Nat)(q:a.spot=none):(a.add i).add j=⟨a.block,a.off+(i+j),none⟩:=by
 unfold Addr.add;obtain⟨b,o,s⟩:=a;simp only at q;subst q;split<;>split<;>simp_all<;>omega
def RO {α β:Type}{Q:Nat->α->Prop}:∀ (n:Nat),(∀ i,i<n->∃ x,Q i x)->∃ xs:List α,xs.length=n/\∀ (i:Nat) x,xs[i]? = some x->Q i x
 | 0,_=>⟨[],rfl,sm⟩
 | n+1,h=>by
  obtain⟨xs,C,hx⟩:=RO (β:=β) n fun i D=>h i U;obtain⟨x,hq⟩:=h n U;refine⟨xs++[x],by simp[C],fun i y q=>?_⟩;rcases ns i n with D|D
  ·rw[js U]at q;exact hx i y q
  have A:=(xW.1 q).1;simp at A;have:i=n:=U;subst this;rw[kp U,C]at q;simp at q;subst q;exact hq
def Bd {α:Type}{T:Ty α}{Good:α->Prop}{t e:TypeId}(ht:P.underlying t=some (.slice e))(H':P.cellsOf e=T.sz)(A:0<T.sz)(hE:Rd enc P w eO spare held e T Good) :
  Rd enc P w eO spare held t ar fun v=>∃ xs,RS T w v xs/\∀ x∈xs,Good x:=by
 intro fuel cs y h;rcases DataW.trod_slice ht h with ⟨rfl,_⟩|⟨a,len,cap,elems,rest,J',_,rfl,_,_,P',R',hlen,T',_⟩
 ·exact⟨_,rfl,[],RS.nil,sm⟩
 have V:∀ i,i<len->∃ x:α,Good x/\∀ (k:Nat) v,(T.enc x)[k]? = some v->w.cell? ((a.add (i*P.cellsOf e)).add k)=some v:=by
  intro i S;have h1:=T' i S;rw[kP U]at h1
  cases q:w.cells? eO (a.add (i*P.cellsOf e)) (P.cellsOf e) with
  | none=>simp[q]at h1
  | some cs =>
   simp only[q,yE]at h1;obtain⟨x,rfl,I⟩:=hE _ cs _ h1;exact⟨x,I,(ZL q).2⟩
 obtain⟨xs,hl,hx⟩:=RO (β:=Unit) (Q:=fun i (x:α)=>Good x/\∀ (k:Nat) v,(T.enc x)[k]? = some v->w.cell? ((a.add (i*P.cellsOf e)).add k)=some v) len V;refine⟨_,rfl,xs,⟨⟨some a,len,cap,rfl,by rw[T.len,hl],⟨P',by unfold maxLen at R';unfold bT;omega⟩,?_⟩,hl⟩,?_⟩
 ·intro i v hv
  have S:=(xW.1 hv).1;rw[T.len]at S;have hq:i / T.sz<xs.length:=(div_lt_iff_lt_mul A).2 S;have j':i % T.sz<T.sz:=Cm _ A;have q:i=i / T.sz*T.sz+i % T.sz:=by rw[GJ];exact(div_add_mod i T.sz).symm
  have h1:=T.get xs (i / T.sz) (i % T.sz) hq j';rw[<-q,hv]at h1;have V':xs[i / T.sz]? = some (xs.getD (i / T.sz) T.dflt):=by simp[List.getD,hq]
  have C:=(hx _ _ V').2 _ _ h1.symm;have D:a.spot=none:=by
   cases _a:a.spot with
   | none=>rfl
   | some s0 =>
    have _b:0<xs.length:=zI (br _) hq;have _c:0<(T.enc xs[0]).length:=by rw[T.ok];exact A
    have F:=(hx 0 xs[0] (kP _b)).2 0 (T.enc xs[0])[0] (kP _c);have:(a.add (0*P.cellsOf e)).add 0=a:=by simp[Addr.add]
    rw[this]at F;unfold World.cell? at F;split at F
    ·simp[_a]at F
    cases F
  refine⟨a,rfl,D,?_⟩;rw[zp a _ _ D,H',<-q]at C;exact C
 intro x q;obtain⟨i,S,rfl⟩:=fF q;exact(hx i _ (kP S)).1
def RP {t:TypeId}{fs:Array Field}(A:P.underlying t=some (.struct fs)){y:DataW H × List MemPlace}(h:DataW.trod enc P w eO spare held fuel t cs=some y) :
  cs.length=P.cellsOf t/\∀ (i:Nat) (f:Field),fs[i]? = some f->∃ n q,DataW.trod enc P w eO spare held n f.type ((cs.drop f.offset).take (P.cellsOf f.type))=some q:=by
 obtain⟨xs,n,_,_,C,hlen,D⟩:=DataW.trod_struct A h;refine⟨C,fun i f q=>?_⟩;have F:i<fs.size:=(kV.1 q).1;have:=D i f q;rw[kP U]at this;exact⟨n,_,this⟩
def vu {t off q:Nat}(F:aN P t i off q)(C:P.cellsOf q=n){y:DataW H × List MemPlace}(h:DataW.trod enc P w eO spare held fuel t cs=some y) :
  ∃ m A,DataW.trod enc P w eO spare held m q ((cs.drop off).take n)=some A:=by
 obtain⟨fs,A,D,S,rfl,rfl,_⟩:=F.nA;obtain⟨_,V⟩:=RP D h;subst C;exact V i A S
def Gg {t off q:Nat}(F:aN P t i off q)(A:P.cellsOf t=n){y:DataW H × List MemPlace}(h:DataW.trod enc P w eO spare held fuel t cs=some y):cs.length=n:=by
 obtain⟨S,C,D,V,rfl,rfl,_⟩:=F.nA;subst A;exact(RP D h).1
end
end
section
def fH:Ty Int:=⟨1,fun n=>[.int .u8 n],fun _=>rfl,0⟩
def MP:Ty Int:=⟨1,fun n=>[.int .u16 n],fun _=>rfl,0⟩
instance:ku fH:=⟨fun _ v hv=>by rw[dp.1 hv];rfl⟩
instance:ku MP:=⟨fun _ v hv=>by rw[dp.1 hv];rfl⟩
class rh (P:Program) (t:Nat) (k:outParam IntKind):Prop where
 ok:P.underlying t=some (.int k)
section
variable {P:Program}{ρ:Fr}{x y:Operand}{ty:TypeId}{pos:String}{af:Array Edge}{g:Option (Nat × Bool)}{dst:Option Nat}{t t':TypeId}
def Wr {s d:Nat}{ks:IntKind}{n:Int}[S:rh P s ks][D:rh P d .i64](hx:aX ρ x=.int ks n)(q : -9223372036854775808<=n)(h1:n<=9223372036854775807):PureV P ⟨dst,.convert s d x,ty,pos,af,g⟩ ρ (E n):=fun w=>by
 simp only[execOp,convert,hx,eR,run_underlying S.ok,run_underlying D.ok,eF,Conv.intToInt,yH q h1,ga]
end
section
variable {w w0:World}{Γ:List HP}
end
section
variable {H:Type}{enc:TypeId × Value->H}{P:Program}{w:World}{eO:Nat}{spare:Nat->Bool}{held:Bool}
end
section
variable {P:Program}{ρ:Fr}{x y:Operand}{ty:TypeId}{pos:String}{af:Array Edge}{g:Option (Nat × Bool)}{dst:Option Nat}{t t':TypeId}
abbrev u64 (n:Nat):Value:=.int .u64 (n:Int)
def rI (n:Nat):IntKind.u64.wrap (n:Int)=((n % 18446744073709551616:Nat):Int):=by
 simp only[IntKind.wrap,IntKind.bits,IntKind.signed];simp
def RQ (h:n<18446744073709551616):IntKind.u64.wrap (n:Int)=n:=by
 rw[rI,FT h]
def ZM {z:Int}:IntKind.u64.wrap z=((z % 18446744073709551616).toNat:Int):=by
 simp only[IntKind.wrap,IntKind.bits,IntKind.signed];simp;omega
def kT {a:Nat}(h:a<18446744073709551616):(BitVec.ofInt 64 (a:Int)).toNat=a:=by
 rw[BitVec.toNat_ofInt];omega
def pZ (b:Nat):Nat:=18446744073709551615-b
def RR {b:Nat}(h:b<18446744073709551616)(i:Nat):(pZ b).testBit i=(decide (i<64) && !b.testBit i):=by
 have:pZ b=2 ^ 64-(b+1):=by unfold pZ;omega
 rw[this,Pj U]
def La {op:BinOp}{a b:Int}{r:Nat}(q:op=.and\/op=.or\/op=.andNot)(hx:aX ρ x=.int .u64 a)(C:aX ρ y=.int .u64 b)(D:∀ w,(Op.intBits op .u64 a b).run P w=.ok (.int .u64 (IntKind.u64.wrap (r:Int))) w)(A:r<18446744073709551616) :
  PureV P ⟨dst,.binOp op t x y t',ty,pos,af,g⟩ ρ (u64 r):=by
 intro w;have h:=D w;rw[RQ A]at h
 rcases q with rfl|rfl|rfl <;>
 simp only[execOp,eqGuard,binOp,hx,C,eR,ga,eF,ne_eq,not_true_eq_false,if_false,qy,if_true,h]
def yn {a b:Nat}(hx:aX ρ x=u64 a)(A:aX ρ y=u64 b)(q:a<18446744073709551616)(C:b<18446744073709551616):PureV P ⟨dst,.binOp .and t x y t',ty,pos,af,g⟩ ρ (u64 (a &&& b)):=by
 have e:(BitVec.ofInt 64 (a:Int) &&& BitVec.ofInt 64 (b:Int)).toNat=a &&& b:=by rw[Kd,kT q,kT C]
 exact La (.inl rfl) hx A (fun w=>by rw[<-e];rfl) (zI B9 q)
def B8 {a b:Nat}(hx:aX ρ x=u64 a)(C:aX ρ y=u64 b)(q:a<18446744073709551616)(A:b<18446744073709551616):PureV P ⟨dst,.binOp .or t x y t',ty,pos,af,g⟩ ρ (u64 (a ||| b)):=by
 have e:(BitVec.ofInt 64 (a:Int) ||| BitVec.ofInt 64 (b:Int)).toNat=a ||| b:=by rw[BitVec.toNat_or,kT q,kT A]
 exact La (.inr (.inl rfl)) hx C (fun w=>by rw[<-e];rfl) (by have:=or_lt_two_pow (n:=64) q A;omega)
def Oc {a b:Nat}(hx:aX ρ x=u64 a)(A:aX ρ y=u64 b)(q:a<18446744073709551616)(C:b<18446744073709551616):PureV P ⟨dst,.binOp .andNot t x y t',ty,pos,af,g⟩ ρ (u64 (a &&& pZ b)):=by
 have e:(BitVec.ofInt 64 (a:Int) &&& ~~~ BitVec.ofInt 64 (b:Int)).toNat=a &&& pZ b:=by
  rw[Kd,BitVec.toNat_not,kT q,kT C];unfold pZ;congr 1
 exact La (.inr (.inr rfl)) hx A (fun w=>by rw[<-e];rfl) (zI B9 q)
def Ca {a b:Nat}(hx:aX ρ x=u64 a)(q:aX ρ y=.int k (b:Int))(A:b<=64):PureV P ⟨dst,.binOp .shl t x y t',ty,pos,af,g⟩ ρ (u64 (a*2 ^ b % 18446744073709551616)):=fun w=>by
 have e:IntKind.u64.wrap ((a:Int)*2 ^ b)=((a*2 ^ b % 18446744073709551616:Nat):Int):=by
  rw[<-rI];congr 1
 simp[execOp,eqGuard,hx,q,binOp,shift_shl .u64 k (a:Int) (b:Int) U (by simp only[IntKind.bits];omega),e]
def I3 {a b:Nat}(hx:aX ρ x=u64 a)(q:aX ρ y=.int k (b:Int))(A:b<=64):PureV P ⟨dst,.binOp .shr t x y t',ty,pos,af,g⟩ ρ (u64 (a / 2 ^ b)):=fun w=>by
 simp[execOp,eqGuard,hx,q,binOp,shift_shr .u64 k (a:Int) (b:Int) U (by simp only[IntKind.bits];omega)]
def ZN {a b:Nat}(hx:aX ρ x=u64 a)(q:aX ρ y=u64 b):PureV P ⟨dst,.binOp .add t x y t',ty,pos,af,g⟩ ρ (u64 ((a+b) % 18446744073709551616)):=fun w=>by
 have e:IntKind.u64.wrap ((a:Int)+b)=(((a+b) % 18446744073709551616:Nat):Int):=by
  rw[<-rI];congr 1
 simp[execOp,eqGuard,binOp,Op.intArith,hx,q,e]
def Wq {a b:Nat}(hx:aX ρ x=u64 a)(q:aX ρ y=u64 b):PureV P ⟨dst,.binOp .mul t x y t',ty,pos,af,g⟩ ρ (u64 (a*b % 18446744073709551616)):=fun w=>by
 have e:IntKind.u64.wrap ((a:Int)*b)=((a*b % 18446744073709551616:Nat):Int):=by
  rw[<-rI];congr 1
 simp[execOp,eqGuard,binOp,Op.intArith,hx,q,e]
def FR {a b:Nat}(hx:aX ρ x=u64 a)(q:aX ρ y=u64 b)(h:b<=a)(A:a<18446744073709551616):PureV P ⟨dst,.binOp .sub t x y t',ty,pos,af,g⟩ ρ (u64 (a-b)):=fun w=>by
 have e:IntKind.u64.wrap ((a:Int)-b)=((a-b:Nat):Int):=by
  rw[<-RQ (n:=a-b) U];congr 1;omega
 simp[execOp,eqGuard,binOp,Op.intArith,hx,q,e]
def Wp {a:Nat}(hx:aX ρ x=u64 a)(q:0<a)(A:a<18446744073709551616):PureV P ⟨dst,.unOp .neg t x,ty,pos,af,g⟩ ρ (u64 (18446744073709551616-a)):=fun w=>by
 have e:IntKind.u64.wrap (0-(a:Int))=((18446744073709551616-a:Nat):Int):=by
  rw[ZM];omega
 simp only[execOp,Op.unary,hx,Op.intArith,eR,ga,eF,e]
end
section
variable {P:Program}{Z:Array Oper}{K:Fr->World->Prop}{r:List Oper}{ρ:Fr}{w:World}{d:Nat}{x y:Operand}{ty:TypeId}{pos:String}{af:Array Edge}{t t':TypeId}
def Ws {a b:Nat}(hx:aX ρ x=u64 a)(q:aX ρ y=.int k (b:Int))(A:a<18446744073709551616)(C:b<=64)(h:∀ v:Nat,v<18446744073709551616->opsW P Z K r (fa ρ d (u64 v)) w) :
  opsW P Z K (⟨some d,.binOp .shr t x y t',ty,pos,af,none⟩::r) ρ w:=fi rfl (I3 hx q C) (h _ (zI (div_le_self _ _) A))
def Wt {a b:Nat}(hx:aX ρ x=u64 a)(A:aX ρ y=u64 b)(q:a<18446744073709551616)(C:b<18446744073709551616)(h:∀ v:Nat,v<18446744073709551616->opsW P Z K r (fa ρ d (u64 v)) w) :
  opsW P Z K (⟨some d,.binOp .and t x y t',ty,pos,af,none⟩::r) ρ w:=fi rfl (yn hx A q C) (h _ (zI B9 q))
def Wu {a b:Nat}(hx:aX ρ x=u64 a)(q:aX ρ y=u64 b)(h:∀ v:Nat,v<18446744073709551616->opsW P Z K r (fa ρ d (u64 v)) w) :
  opsW P Z K (⟨some d,.binOp .add t x y t',ty,pos,af,none⟩::r) ρ w:=fi rfl (ZN hx q) (h _ (Cm _ dc))
def Wv {s q:Nat}[S:rh P s .u64][D:rh P q .i64](A:dQ P (.convert s q x)=.pure)(hx:aX ρ x=u64 n)(h:∀ z:Int,opsW P Z K r (fa ρ d (E z)) w) :
  opsW P Z K (⟨some d,.convert s q x,ty,pos,af,none⟩::r) ρ w :=
 fi A (v:=E (IntKind.i64.wrap (n:Int))) (fun w=>by
  simp only[execOp,convert,hx,eR,run_underlying S.ok,run_underlying D.ok,eF,Conv.intToInt,ga]) (h _)
def Ww {a:Int}(hx:aX ρ x=E a)(q:aX ρ y=E 127)(h:∀ z:Int,0<=z->z<=127->opsW P Z K r (fa ρ d (E z)) w) :
  opsW P Z K (⟨some d,.binOp .and t x y t',ty,pos,af,none⟩::r) ρ w:=by
 have eH:(BitVec.ofInt 64 a &&& BitVec.ofInt 64 127).toNat<=127:=by
  rw[Kd];exact oD and_le_right dc
 refine fi rfl (v:=E ((BitVec.ofInt 64 a &&& BitVec.ofInt 64 127).toNat:Int)) (fun w=>?_) (h _ U U);have A:(execOp (aX ρ) ⟨some d,.binOp .and t x y t',ty,pos,af,none⟩).run P w=.ok (.value (E (IntKind.i64.wrap ((BitVec.ofInt 64 a &&& BitVec.ofInt 64 127).toNat:Int)))) w:=by
  simp only[execOp,eqGuard,binOp,hx,q,Op.intBits,eR,ga,eF,ne_eq,not_true_eq_false,if_false,qy,if_true];rfl
 rw[A,yH U U]
class y8 (P:Program) (t:Nat) (n:outParam Nat):Prop where
 ok:∃ e,P.underlying t=some (.array n e)/\∀ w,(sizeOf e).run P w=.ok 1 w
def Bf {j:Int}[A:y8 P t n]{dst:Option Nat}{g:Option (Nat × Bool)}(hx:aX ρ x=.pointer (some p))(q:aX ρ y=.int k j)(C:0<=j)(h1:j<n):PureV P ⟨dst,.indexAddr t x y,ty,pos,af,g⟩ ρ (.pointer (some (p.add j.toNat))):=fun w=>by
 obtain⟨e,he,D⟩:=A.ok;simp[execOp,Instr.indexAt,Instr.sureAddr,hx,q,asIntOf,run_underlying he,C,h1,D]
end
def cT:Ty Nat:=⟨1,fun n=>[.int .u64 (n:Int)],fun _=>rfl,0⟩
instance:ku cT:=⟨fun _ v hv=>by rw[dp.1 hv];rfl⟩
section
variable {α:Type} [DecidableEq α]
def iK (x:α):List (α × Value)->Nat->Option (Nat × Value)
 | [],_=>none
 | p::l,i=>if x=p.1 then some (i,p.2) else iK x l (i+1)
def uf (kv:List (α × Value))(x:α):Option Value:=(iK x kv 0).map (·.2)
def uh (kv:List (α × Value))(x:α)(v:Value):List (α × Value):=match iK x kv 0 with|some (i,_)=>kv.set i (x,v)|none=>kv++[(x,v)]
def RT {x:α}:∀ {l:List (α × Value)}{i j:Nat}{v:Value},iK x l i=some (j,v)->i<=j/\l[j-i]? = some (x,v)
 | [],_,_,_,h=>by cases h
 | p::l,i,j,v,h=>by
  simp only[iK]at h;split at h
  ·rename_i e;cases h;subst e;exact⟨cz _,sm⟩
  obtain⟨h1,q⟩:=RT h;refine⟨U,?_⟩;rw[show j-i=(j-(i+1))+1 by omega];simpa using q
end
class wV {α:Type} [DecidableEq α] (P:Program) (k:TypeId) (κ:α->Value):Prop where
 s7:∀ e x w,(Instr.checkKey e 10000 k (κ x)).run P w=.ok () w
 wW:∀ x (es:List MapEntry) (kv:List (α × Value)),(es.map fun e=>(e.key,e.val))=kv.map (fun p=>(κ p.1,p.2))->∀ w,(Instr.findKey k (κ x) es).run P w=.ok (iK x kv 0) w
 bits:∀ x,Instr.sameBits 10000 (κ x) (κ x)=true
class qO (P:Program) (t:Nat) (zv:outParam Value):Prop where
 ok:(P.info? t).bind (·.zero)=some zv
def qO.run {P:Program}{t:Nat}{A:Value}(h:qO P t A)(w:World):(zeroValue t).run P w=.ok A w:=by
 have h:=h.ok
 cases q:P.info? t with
 | none=>simp[q]at h
 | some i =>
  simp only[q,yE]at h;simp[zeroValue,typeInfo,q,h]
class vM (P:Program) (t:TypeId) (k e:outParam TypeId):Prop where
 ok:P.underlying t=some (.map k e)
section
variable {α:Type}
def rr (κ:α->Value)(m:Value)(kv:List (α × Value)):HP:=fun h=>∃ b es clock,m=.map (some b)/\h b=some (.map es clock)/\(es.toList.map fun e=>(e.key,e.val))=kv.map fun p=>(κ p.1,p.2)
class qP (Γ:List HP) (m:Value) (κ:outParam (α->Value)) (kv:outParam (List (α × Value))) (put:outParam (HP->List HP)):Prop where
 mK:uI Γ (rr κ m kv) put
instance (priority:=high) map_here {κ:α->Value}{m:Value}{kv:List (α × Value)}{Γ:List HP}:qP (rr κ m kv::Γ) m κ kv (fun A'=>A'::Γ):=⟨uI.BF⟩
instance C9 {B:HP}{κ:α->Value}{m:Value}{kv:List (α × Value)}{Γ:List HP}{put:HP->List HP} [h:qP Γ m κ kv put]:qP (B::Γ) m κ kv (fun A'=>B::put A'):=⟨h.mK.xd⟩
variable {P:Program}{Z:Array Oper}{K:Fr->World->Prop}{r:List Oper}{ρ:Fr}{w w0:World}{d:Nat}{ty:TypeId}{pos:String}{af:Array Edge}{g:Option (Nat × Bool)}{dst:Option Nat}{x y z:Operand}{t:TypeId}{Γ:List HP}{κ:α->Value}{kv:List (α × Value)}{m:Value}
def Zh (κ:α->Value)(Y:M w0 w Γ)(h:∀ m w',M w0 w' (rr κ m []::Γ)->opsW P Z K r (fa ρ d m) w'):opsW P Z K (⟨some d,.makeMap t none,ty,pos,af,none⟩::r) ρ w:=by
 refine kW rfl ?_;simp only[opW,execOp,Instr.makeMap,Option.map_none,eR,ga,eF,run_newObj,cn];exact h (.map (some w.heap.size)) _ (Y.push (o:=.map #[] 0) ⟨w.heap.size,#[],0,rfl,sm,sm⟩)
def Lb (Y:M w0 w Γ)(hi:Γ[i]? = some (rr κ m kv)):∃ b es clock,m=.map (some b)/\w.heap[b]? = some (.map es clock)/\(es.toList.map fun e=>(e.key,e.val))=kv.map fun p=>(κ p.1,p.2):=by
 obtain⟨h1,q,b,es,clock,hm,A,he⟩:=Y.at i hi;exact⟨b,es,clock,hm,(q b _ A).1,he⟩
def Zi [DecidableEq α]{k e:TypeId}{q:α}{A:Value}{put:HP->List HP}[M':vM P t k e][KT:wV P k κ][Z':qO P e A](hx:aX ρ x=m)(C:aX ρ y=κ q)(Y:M w0 w Γ)(D:qP Γ m κ kv put):ReadV P ⟨dst,.lookup t x y true,ty,pos,af,g⟩ ρ w (.tuple #[(uf kv q).getD A,.bool (uf kv q).isSome]):=by
 obtain⟨i,F,_⟩:=D.mK.ok;obtain⟨b,es,clock,rfl,S,he⟩:=Lb Y F;have V:=KT.wW q es.toList kv he w;simp only[ReadV,execOp,hx,C,Instr.lookup,eR,run_underlying M'.ok,eF,ga,MapKept.run_getObj_map S,KT.s7,V]
 cases h:iK q kv 0 with
 | none=>simp[uf,h,Z'.run]
 | some p=>simp[uf,h]
def Rv {k e:TypeId}{put:HP->List HP}[M':vM P t k e](hx:aX ρ x=m)(Y:M w0 w Γ)(q:qP Γ m κ kv put):ReadV P ⟨dst,.call { callee:=.builtin .len,args:=#[x],argTypes:=#[t] },ty,pos,af,g⟩ ρ w (E kv.length):=by
 obtain⟨i,A,_⟩:=q.mK.ok;obtain⟨b,es,clock,rfl,C,he⟩:=Lb Y A;have D:es.size=kv.length:=by
  have:=qq List.length he
  simpa using this
 simp[ReadV,execOp,resolve,invoke,builtin,hx,Builtin.len_,run_underlying M'.ok,MapKept.run_getObj_map C,D,goInt]
def Zj [DecidableEq α]{k e:TypeId}{q:α}{put:HP->List HP}[M':vM P t k e][KT:wV P k κ](hx:aX ρ x=m)(hy:aX ρ y=κ q)(hz:aX ρ z=v)(Y:M w0 w Γ)(O':qP Γ m κ kv put)(h:∀ w',M w0 w' (put (rr κ m (uh kv q v)))->opsW P Z K r ρ w'):opsW P Z K (⟨none,.mapUpdate t x y z,ty,pos,af,none⟩::r) ρ w:=by
 refine kW rfl ?_;obtain⟨i,S,C⟩:=O'.mK.ok;obtain⟨b,es,clock,rfl,hb,he⟩:=Lb Y S;have hf:=KT.wW q es.toList kv he w;simp only[opW,execOp,hx,hy,hz,Instr.mapUpdate,eR,run_underlying M'.ok,eF,MapKept.run_getObj_map hb,KT.s7,hf]
 cases hm:iK q kv 0 with
 | none =>
  simp only[MapKept.run_setObj_map _ hb,eF,ga,cn,io];refine h _ ?_;rw[C];refine(Y.bJ i S).put (b:=b) (o':=.map (es.push { key:=κ q,val:=v,born:=clock }) (clock+1)) (A':=rr κ (.map (some b)) (uh kv q v)) ?_ |>.iq i S;rintro h1 _ ⟨b',H',A,D,F,_⟩;cases D;refine⟨⟨_,F⟩,b,es.push { key:=κ q,val:=v,born:=clock },clock+1,rfl,by simp[mN],?_⟩
  simp[uh,hm,he]
 | some p =>
  obtain⟨j,u⟩:=p;obtain⟨_,hj⟩:=RT hm;rw[JU]at hj;have J':=(xW.1 hj).1;have hlen:es.size=kv.length:=by have:=qq List.length he;simpa using this
  have V:((es[j]?).map (·.key)).getD (κ q)=κ q:=by
   have:=qq (fun l=>l[j]?) he;simp only[tq,hj,tJ]at this;rw[Cz U];rw[Po,Cz U]at this;simp at this ⊢;exact this.1
  simp only[Instr.keyThatStays,V,KT.bits,if_true,ga,eR,eF,MapKept.run_setObj_map _ hb,cn,io];refine h _ ?_;rw[C];refine(Y.bJ i S).put (b:=b) (o':=.map (es.modify j fun e=>{ e with key:=κ q,val:=v }) clock) (A':=rr κ (.map (some b)) (uh kv q v)) ?_ |>.iq i S;rintro h1 _ ⟨b',H',A,D,F,_⟩;cases D;refine⟨⟨_,F⟩,b,es.modify j fun e=>{ e with key:=κ q,val:=v },clock,rfl,by simp[mN],?_⟩;simp only[uh,hm];apply zS;intro a;have j':=qq (fun l=>l[a]?) he;simp only[tq]at j';simp only[tq,Array.toList_modify,getElem?_modify,vq];by_cases e1:j=a
  ·subst e1
   rw[aP rfl,aP J',Po,Cz U];simp
  rw[aH e1];simp only[e1,if_false];rw[<-j'];cases es.toList[a]?<;>rfl
end
def Lc {α:Type}[DecidableEq α]{κ:α->Value}{d:TypeDesc}(C:∀ a b,Instr.sameNow d (κ a) (κ b)=some (decide (a=b)))(q:α):∀ (es:List MapEntry) (kv:List (α × Value)) (i:Nat),(es.map fun e=>(e.key,e.val))=kv.map (fun p=>(κ p.1,p.2))->Instr.findNow d (κ q) es i=some (iK q kv i)
 | [],kv,i,h=>by
  have:kv=[]:=by simpa using h.symm
  subst this
  rfl
 | e::es,[],i,h=>by simp at h
 | e::es,p::kv,i,h=>by
  simp only[l8,List.cons.injEq,Prod.mk.injEq]at h;obtain⟨⟨h1,D⟩,F⟩:=h;have S:=Lc C q es kv (i+1) F;simp only[Instr.findNow,h1,C,iK];by_cases A:q=p.1
  ·rw[aP A,dY A,D]
  rw[aH A,eA A];exact S
def oN (b:ByteArray):Value:=.string b
def uj (z:Int):Value:=E z
def Ld (a b:ByteArray):(a == b)=decide (a=b):=by
 cases a with
 | mk x =>
  cases b with
  | mk y =>
   have h:((ByteArray.mk x) == (ByteArray.mk y))=(x == y):=rfl;rw[h];exact Kf.2 (by rw[sq,gR,ByteArray.mk.injEq])
def ZO (a b:ByteArray):Instr.sameNow .string (oN a) (oN b)=some (decide (a=b)):=by
 show some (a == b)=_;rw[Ld]
def ZP (a b:Int):Instr.sameNow (.int .i64) (uj a) (uj b)=some (decide (a=b)):=by
 show (if IntKind.i64=IntKind.i64 then some (a == b) else none)=_;rw[aP rfl];congr 1
instance {P:Program}{k:Nat} [S:ua P k]:wV P k oN where
 s7:=fun e x w=>by
  unfold Instr.checkKey;simp only[eR,run_underlying S.gI,eF,oN,ga]
 wW:=fun x es kv h w=>MapKept.run_findKey S.gI (Lc ZO x es kv 0 h)
 bits:=fun x=>by
  show (x == x)=true;rw[Ld,dY rfl]
instance {P:Program}{k:Nat} [S:rh P k .i64]:wV P k uj where
 s7:=fun e x w=>by
  unfold Instr.checkKey;simp only[eR,run_underlying S.ok,eF,uj,ga]
 wW:=fun x es kv h w=>MapKept.run_findKey S.ok (Lc ZP x es kv 0 h)
 bits:=fun x=>by simp[Instr.sameBits,uj]
section
variable {P:Program}{Z:Array Oper}{K:Fr->World->Prop}{r:List Oper}{ρ:Fr}{w:World}{d:Nat}{ty:TypeId}{pos:String}{af:Array Edge}{x:Operand}
def Za {a b:ByteArray}{y:Operand}{t t':TypeId}{g:Option (Nat × Bool)}{dst:Option Nat}(hx:aX ρ x=.string a)(q:aX ρ y=.string b):PureV P ⟨dst,.binOp .eql t x y t',ty,pos,af,g⟩ ρ (.bool (decide (a=b))):=fun w=>by
 have h:(a.toList == b.toList)=decide (a=b):=by rw[<-beq_toListBytes,Ld]
 simp only[execOp,eqGuard,hx,q,binOp_string_eql,h];simp
end
def nh (P:Program)(t:Nat)(v:Value)(name:String)(f:Nat)(u:Value):Prop:=∀ (m:Nat) (w:World),(method (m+1) t v name).run P w=.ok (f,u) w
def xC (P:Program)(t:Nat)(name:String)(f:Nat):Bool :=
 (match P.underlying t with|some (.struct _)=>true|some (.slice _)=>true|_=>false) &&
 match P.info? t with
 | some i=>(match i.methods.find? (·.name == name) with
   | some m=>m.path.isEmpty && (match m.func with|some (g,q)=>g == f && q == false|none=>false)
   | none=>false)
 | none=>false
class pu (P:Program) (t:Nat) (name:String) (f:outParam Nat):Prop where
 ok:xC P t name f=true
section
variable {P:Program}
def pu.fu {t:Nat}{name:String}(h:pu P t name f):((∃ fs,P.underlying t=some (.struct fs))\/∃ e,P.underlying t=some (.slice e))/\∃ i m,P.info? t=some i/\i.methods.find? (·.name == name)=some m/\m.path.toList=[]/\m.path.isEmpty=true/\m.func=some (f,false):=by
 have h:=h.ok;simp only[xC,Bool.and_eq_true]at h;obtain⟨h1,A⟩:=h;refine⟨?_,?_⟩
 ·split at h1
  ·rename_i e he;exact .inl ⟨e,he⟩
  ·rename_i e he;exact .inr ⟨e,he⟩
  cases h1
 split at A
 ·rename_i i F
  split at A
  ·rename_i m hm
   simp only[Bool.and_eq_true]at A;obtain⟨D,C⟩:=A;split at C
   ·rename_i g q I
    simp at C;refine⟨i,m,F,hm,?_,D,by rw[I,C.1,C.2]⟩
    simpa using D
   cases C
  cases A
 cases A
def FH {t:Nat}{name:String}[M':pu P t name f](v:Value):nh P t v name f v:=by
 obtain⟨hu,i,m,q,hm,A,he,C⟩:=M'.fu;intro fuel w
 rcases hu with ⟨D,hu⟩|⟨e,hu⟩ <;>
 simp only[method,eR,run_typeInfo w q,eF,hm,A,follow,ga,C,receiverAt,run_underlying hu,Place.get]
def Hv {t elem:Nat}{name:String}[M':fE P t name f true elem](p:Addr):nh P t (.pointer (some p)) name f (.pointer (some p)):=fun m w=>Qp M' m p w
variable {Z:Array Oper}{K:Fr->World->Prop}{r:List Oper}{ρ:Fr}{w w0:World}{Γ:List HP}{d:Option Nat}{ty:TypeId}{pos:String}{af:Array Edge}{x:Operand}
def Zl {t:Nat}{name:String}{xs:List Operand}{R:Ending->World->Prop}(M':nh P t v name f u)(C:ap P f)(q:aX ρ x=.iface t v)(hx:xs.map (aX ρ)=vs)(A:Calls P f (u::vs).toArray w R)(h:∀ e w',R e w'->∃ v,e=.returned v/\opsW P Z K r (io ρ d v) w'):opsW P Z K (⟨d,.call { callee:=.invoke x name,args:=xs.toArray,argTypes:=ts },ty,pos,af,none⟩::r) ρ w:=by
 refine kW rfl ?_;obtain⟨m,hm⟩:=Hd P;have q:(execOp (aX ρ) ⟨d,.call { callee:=.invoke x name,args:=xs.toArray,argTypes:=ts },ty,pos,af,none⟩).run P w=.ok (.enter f (u::vs).toArray) w:=by
  have e:(#[aX ρ x]++Array.map (aX ρ) xs.toArray)=(.iface t v::vs).toArray:=by simp[q,hx]
  simp only[execOp,resolve,eR,ga,eF,invoke,e];simp only[CB,DP,callMethod,eR,run_program,eF,hm,M' m,C.run];congr 2;simp
 simp only[opW,q,cn];refine uD A fun e w' D=>?_;obtain⟨v,rfl,hk⟩:=h e w' D;exact hk
end
end
section
open Go.Stop Go.Extern.Stop
section
variable {P:Program}{Z:Array Oper}{K:Fr->World->Prop}{r:List Oper}{ρ:Fr}{w w0:World}{ty:TypeId}{pos:String}{af:Array Edge}{x y:Operand}{t t':TypeId}{d:Nat}{dst:Option Nat}{g:Option (Nat × Bool)}
def ZQ {xs:List Operand}(hx:xs.map (aX ρ)=vs)(q:(callFunc f vs.toArray).run P w=.ok (.value v) w)(h:opsW P Z K r (fa ρ d v) w):opsW P Z K (⟨some d,.call { callee:=.value (.func f),args:=xs.toArray,argTypes:=ts },ty,pos,af,none⟩::r) ρ w:=by
 refine kW rfl ?_;have A:(execOp (aX ρ) ⟨some d,.call { callee:=.value (.func f),args:=xs.toArray,argTypes:=ts },ty,pos,af,none⟩).run P w=.ok (.value v) w:=by
  simp only[execOp,resolve,Deferred.ofValue,aX,eR,ga,eF,invoke];have:#[]++Array.map (aX ρ) xs.toArray++#[]=vs.toArray:=by simp[hx]
  rw[this,q]
 simp only[opW,A,cn];exact h
def ZR {t:Nat}{name:String}{xs:List Operand}(M':nh P t v name f u)(q:aX ρ x=.iface t v)(hx:xs.map (aX ρ)=vs)(A:(callFunc f (u::vs).toArray).run P w=.ok (.value v') w)(h:opsW P Z K r (fa ρ d v') w):opsW P Z K (⟨some d,.call { callee:=.invoke x name,args:=xs.toArray,argTypes:=ts },ty,pos,af,none⟩::r) ρ w:=by
 refine kW rfl ?_;obtain⟨m,hm⟩:=Hd P;have q:(execOp (aX ρ) ⟨some d,.call { callee:=.invoke x name,args:=xs.toArray,argTypes:=ts },ty,pos,af,none⟩).run P w=.ok (.value v') w:=by
  have e:(#[aX ρ x]++Array.map (aX ρ) xs.toArray)=(.iface t v::vs).toArray:=by simp[q,hx]
  have C:#[u]++(Value.iface t v::vs).toArray.extract 1 (Value.iface t v::vs).toArray.size=(u::vs).toArray:=sm;simp only[execOp,resolve,eR,ga,eF,invoke,e];simp only[CB,DP,callMethod,eR,run_program,eF,hm,M' m,C,A]
 simp only[opW,q,cn];exact h
def ZU {u:TypeId}{z:Value}{want:Array (String × TypeId)}(hx:aX ρ x=.iface u v)(hu:P.underlying t=some (.interface want))(h:(P.info? u).map (fun i=>(lacking want i.methods).isEmpty)=some false)(q:(P.info? t).map (·.zero)=some (some z)) :
  PureV P ⟨dst,.typeAssert x t' t true,ty,pos,af,g⟩ ρ (.tuple #[z,.bool false]):=fun w=>by
 have:=run_typeAssert_lacksB (P:=P) hu h q v t' w;simp[execOp,hx,this]
def ZV {u:TypeId}{q:IntKind}{a b:Int}(hx:aX ρ x=.iface u (.int k a))(A:aX ρ y=.iface u (.int k b))(C:P.underlying t=some (.interface ms))(D:(P.info? u).map (·.comparable)=some true)(hq:P.underlying u=some (.int q)) :
  PureV P ⟨dst,.binOp .eql t x y t',ty,pos,af,g⟩ ρ (.bool (a == b)):=fun w=>by
 have:=Go.Lib.run_eql_iface_int (P:=P) w a b (k:=k) C D hq;simp[execOp,eqGuard,hx,A,this]
def ZW {u:TypeId}(hx:aX ρ x=.nilIface)(q:aX ρ y=.iface u v)(A:P.underlying t=some (.interface ms)) :
  PureV P ⟨dst,.binOp .eql t x y t',ty,pos,af,g⟩ ρ (.bool false):=fun w=>by
 have:=run_eql_iface_nil_left (P:=P) (w:=w) u v A;simp[execOp,eqGuard,hx,q,this]
end
end
section
open Go.RowKit (Below)
section
variable {P:Program}{Z:Array Oper}{K:Fr->World->Prop}{r:List Oper}{ρ:Fr}{w w0:World}{d:Nat}{ty:TypeId}{pos:String}{af:Array Edge}{g:Option (Nat × Bool)}{dst:Option Nat}{x y:Operand}{t t':TypeId}{Γ:List HP}{s:Value}{xs:J}
def ZX (h:b2.data.toList.map (fun c=>(c.toNat:Int))=ys)(w:World):(Builtin.firstCells fH.sz b2.size (.string b2)).run P w=.ok (ys.flatMap fH.enc).toArray w:=by
 have e:b2.extract 0 b2.size=b2:=by
  apply ByteArray.ext;simp
 simp only[Builtin.firstCells,e,ga];congr 1;apply GH;rw[<-h];simp only[Array.toList_map,flatMap_map]
 induction b2.data.toList with
 | nil=>rfl
 | cons c l q=>rw[l8,kQ,q];rfl
def Wz {e:Nat}{u:TypeId}{put:HP->List HP}[S:bh P t e sz by_][Z':bn P e zs][U':ua P u](O':gP Γ s Int fH e xs put)(hx:aX ρ x=s)(hy:aX ρ y=.string b2)(h2:b2.data.toList.map (fun c=>(c.toNat:Int))=ys)(_b:sz=fH.sz)(_c:zs.length=sz)(hb:(xs.length+ys.length)*by_<=140737488355328)(hl:xs.length+ys.length<=bT)(Y:M w0 w Γ)(h:∀ s' w',M w0 w' (put (X fH e s' (xs++ys)))->opsW P Z K r (fa ρ d s') w'):opsW P Z K (⟨some d,.call { callee:=.builtin .append,args:=#[x,y],argTypes:=#[t,u] },ty,pos,af,none⟩::r) ρ w:=by
 refine kW rfl ?_;subst _b;obtain⟨i,hi,hp⟩:=O'.mK.ok;simp only[hp]at h;obtain⟨bD,R',hs,_d⟩:=S.tZ;obtain⟨zv,_e,_f⟩:=Z'.zero;have h1:=Y.rs i hi;obtain⟨ph,_g,C⟩:=Y.at i hi;have T':∀ x∈ys,∀ v∈fH.enc x,v.oneCell'=true:=fun x _ v hv=>ku.ok x v hv;have D:b2.size=ys.length:=by rw[<-h2,iW];rfl
 have A:∀ w':World,w'.heap=w.heap->(Builtin.firstCells fH.sz ys.length (.string b2)).run P w'=.ok (ys.flatMap fH.enc).toArray w':=fun w' _=>by rw[<-D];exact ZX h2 w'
 have F:∀ w':World,w'.heap=w.heap->(Builtin.firstCells fH.sz xs.length s).run P w'=.ok (xs.flatMap fH.enc).toArray w':=fun w' _h=>D2 h1.1 h1.2.symm w' _h
 have V:∀ (a:Option Addr) (cap:Nat),s=.slice a xs.length cap->cap<xs.length+ys.length ->
   (execOp (aX ρ) ⟨some d,.call { callee:=.builtin .append,args:=#[x,y],argTypes:=#[t,u] },ty,pos,af,none⟩).run P w =
   .ok (.value (.slice (some ⟨w.heap.size,0,none⟩) (xs.length+ys.length) (grownCap w (xs.length+ys.length) cap e))) (iJ w.drew (.cells ((xs.flatMap fH.enc).toArray++(ys.flatMap fH.enc).toArray++Builtin.zeroCells zs.toArray (grownCap w (xs.length+ys.length) cap e-(xs.length+ys.length))) e)):=by
  intro a cap H' q;have hn:¬(xs.length+ys.length<=cap):=U;have J':¬(9223372036854775807<((xs.length:Int)+(ys.length:Int))):=by unfold bT at hl;omega
  have V':=growslice_fits (bytes:=by_) q hb;have P':¬(281474976710656<Builtin.nextslicecap (xs.length+ys.length) cap*by_):=U;have hq:(Question.appendCap (xs.length+ys.length) cap e).forced=false:=rfl;rw[H']at F;simp[execOp,resolve,invoke,builtin,Builtin.append_,hx,hy,H',run_underlying S.gI,S.size,typeInfo,R',_d,Builtin.lenOf,D,run_underlying U'.gI,hn,J',P',hq,F,A,_f,_e,grownCap];rw[F w.drew rfl];simp only[eF];rw[A w.drew rfl];have j':∀ (X' Y':List Value) (Z':Array Value),X'.toArray++(Y'.toArray++Z')=(X'++Y').toArray++Z':=fun X' Y' Z'=>by apply GH;simp only[J2,fG]
  simp only[newRow,eR,run_newObj,eF,ga];rw[j'];rfl
 simp only[opW];rcases C with ⟨C,hlen⟩;have J':∀ cap,cap<xs.length+ys.length->M w0 (iJ w.drew (.cells ((xs.flatMap fH.enc).toArray++(ys.flatMap fH.enc).toArray++Builtin.zeroCells zs.toArray (grownCap w (xs.length+ys.length) cap e-(xs.length+ys.length))) e)) (Γ.set i (X fH e (.slice (some ⟨w.heap.size,0,none⟩) (xs.length+ys.length) (grownCap w (xs.length+ys.length) cap e)) (xs++ys))):=by
  intro cap q;have j':=grownCap_ge w (xs.length+ys.length) cap e;refine M.xe (w:=w.drew) Y.drew hi ⟨.inr ⟨w.heap.size,0,_,_,[],(Builtin.zeroCells zs.toArray (grownCap w (xs.length+ys.length) cap e-(xs.length+ys.length))).toList,rfl,rfl,by rw[fH.len];simp,j',hl,?_,?_⟩,by simp[ee]⟩
  ·simp[size_zeroCells,_c]
  simp
 rcases C with ⟨rfl,_u⟩|⟨b,off,n,cap,pre,post,rfl,V',_i,_B,_v,_j,_k⟩
 ·simp only[ee]at hlen
  by_cases j':ys.length=0
  ·have H':=nY j'
   subst H';have hr:(execOp (aX ρ) ⟨some d,.call { callee:=.builtin .append,args:=#[x,y],argTypes:=#[t,u] },ty,pos,af,none⟩).run P w=.ok (.value (nS)) w:=by
    have q:=A w rfl;simp only[length_nil]at q;simp[execOp,resolve,invoke,builtin,Builtin.append_,hx,hy,run_underlying S.gI,S.size,Builtin.lenOf,D,run_underlying U'.gI,q]
   rw[hr];refine h _ _ ?_;have:xs=[]:=nY hlen;subst this;simp only[fI];rw[show Γ.set i (X fH e (nS) [])=Γ from ?_]
   ·exact Y
   apply zS;intro k;rw[vq];split
   ·rename_i hk;subst hk;split
    ·rw[hi]
    rename_i hk;rw[uE U]
   rfl
  rw[V none 0 (by rw[hlen]) U];exact h _ _ (J' 0 U)
 simp only[ee]at hlen;subst hlen;by_cases j':xs.length+ys.length<=cap
 ·have q:=A w rfl
  have H':(xs.flatMap fH.enc).length=xs.length*fH.sz:=fH.len xs;have P':(ys.flatMap fH.enc).length=ys.length*fH.sz:=fH.len ys;have hm:xs.length*fH.sz+ys.length*fH.sz<=xs.length*fH.sz+(cap-xs.length)*fH.sz:=by
   have:ys.length*fH.sz<=(cap-xs.length)*fH.sz:=uF _ U;omega
  have _l:=xX (P:=P) (bt:=e) (ys.flatMap fH.enc) (off+xs.length*fH.sz) 0 (pre++xs.flatMap fH.enc++post) w (by
   intro v hv;obtain⟨x',_a,_m⟩:=tm.1 hv
   exact T' x' _a v _m) (by simp only[length_append,H',P'];omega) (_g _ _ _k).1
  have hr:(execOp (aX ρ) ⟨some d,.call { callee:=.builtin .append,args:=#[x,y],argTypes:=#[t,u] },ty,pos,af,none⟩).run P w=.ok (.value (.slice (some ⟨b,off,none⟩) (xs.length+ys.length) cap)) (eP w b (.cells ((pre++xs.flatMap fH.enc++post).take (off+xs.length*fH.sz+0)++ys.flatMap fH.enc++(pre++xs.flatMap fH.enc++post).drop (off+xs.length*fH.sz+0+(ys.flatMap fH.enc).length)).toArray e (0,0))):=by
   simp only[execOp,resolve,invoke,builtin,Builtin.append_,hx,hy,eR,ga,eF,DG,l8,tD,run_underlying S.gI,S.size,Builtin.lenOf,D,run_underlying U'.gI];simp[q,j',zN,run_underlying S.gI,Builtin.lenOf,D,run_underlying U'.gI,S.size];rw[_l];simp
  rw[hr];have _m:(pre++xs.flatMap fH.enc++post).take (off+xs.length*fH.sz+0)=pre++xs.flatMap fH.enc:=by
   rw[yk (by simp only[length_append,H'];omega)];exact gH (by simp only[length_append,H'];omega)
  have _n:(pre++xs.flatMap fH.enc++post).drop (off+xs.length*fH.sz+0+(ys.flatMap fH.enc).length)=post.drop (ys.length*fH.sz):=by
   rw[yD,qz (by simp only[length_append,H',P'];omega)];simp only[kq,length_append,H',P'];congr 1;omega
  rw[_m,_n];refine h _ _ (M.iq i hi (M.put (Y.bJ i hi) fun h1 _w hA=>?_));rcases hA with ⟨hA,_⟩;rcases hA with ⟨hc,_⟩|⟨b1,_x,n1,_y,_z,_o,_p,_q,_r,_A,_s,_a,_t⟩
  ·cases hc
  cases _p;refine⟨⟨_,_t⟩,.inr ⟨b,off,xs.length+ys.length,cap,pre,post.drop (ys.length*fH.sz),rfl,V',by rw[fH.len,length_append],j',hl,?_,?_⟩,by simp[ee]⟩
  ·simp only[Bg]
   have:(cap-(xs.length+ys.length))*fH.sz=(cap-xs.length)*fH.sz-ys.length*fH.sz:=by rw[<-DH];congr 1;omega
   omega
  simp[mN]
 rw[V _ cap rfl U];exact h _ _ (J' cap U)
def M.xI {bt:TypeId}(Y:M w0 w (ak p bt (u::vs)::Γ)):M w0 (w.setCell p v) (ak p bt (v::vs)::Γ):=by
 obtain⟨h1,hs,V,A,D⟩:=Y.at 0 rfl;obtain⟨F,po,j'⟩:=p;simp only at V A D;subst V A;have q:=(hs _ _ D).1;have C:w.setCell ⟨F,0,none⟩ v=eP w F (.cells (v::vs).toArray bt (0,0)):=by
  simp only[World.setCell,eP];congr 1;apply wH;intro k;have S:=(kV.1 q).1;by_cases hk:F=k
  ·subst hk;rw[wk,aP rfl,q,Bi S];simp
  rw[wk,aH hk,uG hk]
 rw[C];exact M.put Y fun h1 _ ⟨_,_,D⟩=>⟨⟨_,D⟩,rfl,rfl,by simp[mN]⟩
def M.BX {bt:TypeId}(Y:M w0 w (ak p bt (u::vs)::Γ)):p=⟨p.block,0,none⟩/\w.cell? p=some u/\w.shape? p.block=some (bt,vs.length+1)/\w.frozen? p=false:=by
 obtain⟨h1,F,C,A,D⟩:=Y.at 0 rfl;obtain⟨V,po,S⟩:=p;simp only at C A D;subst C A;have q:=(F _ _ D).1;exact⟨rfl,by rw[dI q];rfl,by simp[World.shape?,q],e8 q _⟩
def ZY {a:Addr}(hx:aX ρ x=.slice (some a) n c)(q:c≠0):PureV P ⟨dst,.call { callee:=.builtin .unsafeSliceData,args:=#[x],argTypes:=#[t] },ty,pos,af,g⟩ ρ (.pointer (some a)):=fun w=>by
 simp[execOp,resolve,invoke,builtin,hx,Lib.run_unsafeSliceData_row w _ _ a n c q]
def WB {a:Addr}(hx:aX ρ x=.slice (some a) n c)(q:c≠0)(h:opsW P Z K r (fa ρ d (.pointer (some a))) w):opsW P Z K (⟨some d,.call { callee:=.builtin .unsafeSliceData,args:=#[x],argTypes:=#[t] },ty,pos,af,none⟩::r) ρ w:=by
 refine kW rfl ?_;unfold opW;rw[ZY hx q w];exact h
def ZZ {e:TypeId}(A:P.cellsOf e=1)(count off n:Nat)(C:off+n<=count):liesAt P P.depth e count off e n=true:=by
 have q:P.depth=(2*(P.types.size+Made.depth)+1)+1:=rfl;rw[q];simp only[liesAt,pO];left;rw[q];simp[rowAt,A,C,sameLayout,mod_one]
def cL (l:List UInt8):J:=l.map fun c=>(c.toNat:Int)
def Z0 {V it ty e:TypeId}(hp:P.underlying V=some (.pointer e))(hc:P.cellsOf e=1){g off cells:Nat}(j':w.shape? g=some (e,cells))(h0:l≠[])(hn:off+l.length<=cells)(J':l.length<=9223372036854775807)(q:∀ j x,l[j]? = some x->w.cell? ((⟨g,off,none⟩:Addr).add j)=some (.int .u8 x.toNat)) :
  (Builtin.unsafeString_ #[V,it] ty #[.pointer (some ⟨g,off,none⟩),E l.length]).run P w=.ok (.string ⟨l.toArray⟩) (w.freeze ⟨g,off,none⟩ l.length):=by
 have hl:l.length≠0:=by simpa using h0
 have H':=Lib.run_loadBytes (P:=P) w l ⟨g,off,none⟩ .empty q;have A:=ZZ (P:=P) hc (cells / P.cellsOf e) off l.length (by rw[hc];simpa using hn);have C:¬(9223372036854775807:Int)<(l.length:Int):=U
 have D:Builtin.unsafeString_ #[V,it] ty #[.pointer (some ⟨g,off,none⟩),E l.length] =
   (do
    let n <-asInt (E l.length)
    if n<0 then runtimePanic (.error "unsafe.String: len out of range")
    if n>IntKind.i64.max then unsupported (.unsafePointer "String: a length above the largest int")
    if n=0 then pure (.string .empty)
    else if <-variablesAt ⟨g,off,none⟩ (<-elemOf V) n.toNat then do
     let s <-loadBytes ⟨g,off,none⟩ .empty n.toNat
     freeze ⟨g,off,none⟩ n.toNat
     pure (.string s)
    else unsupported (.unsafePointer "String: not so many bytes at ptr")) := rfl
 rw[D];have F:IntKind.i64.max=9223372036854775807:=rfl;have S:¬(l.length:Int)<0:=U;simp[asInt,asIntOf,F,C,S,hl,variablesAt,j',elemOf,run_underlying hp,A,H']
def Z1 (l:List UInt8):(cL l).flatMap fH.enc=l.map fun c=>Value.int .u8 c.toNat:=by
 induction l with
 | nil=>rfl
 | cons c l q=>simp only[cL,l8,kQ]at *;rw[q];rfl
def M.bytes {e:TypeId}{s:Value}(Y:M w0 w Γ)(hi:Γ[i]? = some (X fH e s (cL l)))(h0:l≠[]):∃ b off cap,s=.slice (some ⟨b,off,none⟩) l.length cap/\l.length<=cap/\∃ (cs:Array Value),w.heap[b]? = some (.cells cs e (0,0))/\off+l.length<=cs.size/\(∀ j x,l[j]? = some x->w.cell? ((⟨b,off,none⟩:Addr).add j)=some (.int .u8 x.toNat))/\∀ o,M w0 (eP w b o) (Γ.set i fun _=>True):=by
 obtain⟨h1,hs,ho,C⟩:=Y.at i hi;have D:(cL l).length=l.length:=by simp[cL]
 rcases ho with ⟨rfl,P'⟩|⟨b,off,n,cap,pre,post,rfl,A,_e,_f,R',_g,hb⟩
 ·simp only[ee]at C
  exact absurd (nY U) h0
 simp only[ee]at C;have q:=(hs b _ hb).1;rw[Z1]at q;refine⟨b,off,cap,by rw[<-C,D],U,_,q,by simp[A],fun j x hj=>?_,fun o=>?_⟩
 ·have F:=(xW.1 hj).1
  rw[zN,dI q,fG,kp U,js (by simp;omega),A,show off+j-off=j by omega,tq,hj];rfl
 refine(M.put (Y.bJ i hi) fun g I ⟨F,_⟩=>?_).iq i hi;rcases F with ⟨hn,_⟩|⟨b',T',n',V',_a,S,V,j',_b,_c,H',_d,J'⟩
 ·cases hn
 cases V;exact⟨⟨_,J'⟩,au⟩
def WC {e:TypeId}{u:TypeId}{b off:Nat}(hp:P.underlying t=some (.pointer e))(S:P.cellsOf e=1)(hx:aX ρ x=.pointer (some ⟨b,off,none⟩))(hy:aX ρ y=E (l.length:Nat))(hs:s=.slice (some ⟨b,off,none⟩) n c)(V:l≠[])(j':l.length<=9223372036854775807)(Y:M w0 w Γ)(hi:Γ[i]? = some (X fH e s (cL l)))(h:∀ w',M w0 w' (Γ.set i (fun _=>True))->opsW P Z K r (fa ρ d (.string ⟨l.toArray⟩)) w'):opsW P Z K (⟨some d,.call { callee:=.builtin .unsafeString,args:=#[x,y],argTypes:=#[t,u] },ty,pos,af,none⟩::r) ρ w:=by
 refine kW rfl ?_;obtain⟨b',J',P',C,R',cs,q,D,A,F⟩:=Y.bytes hi V;rw[hs]at C
 injection C with e1 e2 e3
 injection e1 with e1
 injection e1 with e4 e5
 subst e4 e5;have hr:=Z0 (P:=P) (it:=u) (ty:=ty) hp S (g:=b) (off:=off) (cells:=cs.size) (by simp[World.shape?,q]) V D j' A;have hf:w.freeze ⟨b,off,none⟩ l.length=eP w b (.cells cs e (off,off+l.length)):=by
  have hl:l.length≠0:=by simpa using V
  have H':=(kV.1 q).1;simp only[World.freeze,hl,if_false,eP];congr 1;apply wH;intro k;by_cases hk:b=k
  ·subst hk;rw[wk,aP rfl,q,Bi H'];simp
  rw[wk,aH hk,uG hk]
 rw[hf]at hr;simp only[opW,execOp,resolve,invoke,builtin,hx,hy,eR,ga,eF,DG,l8,tD,hr,cn];exact h _ (F _)
def Le {a b:ByteArray}(hx:aX ρ x=.string a)(q:aX ρ y=.string b)(A:a.size+b.size<=1099511627776):PureV P ⟨dst,.binOp .add t x y t',ty,pos,af,g⟩ ρ (.string (a++b)):=fun w=>by
 have h1:¬(((a.size+b.size:Nat):Int)>IntKind.i64.max):=by
  have:IntKind.i64.max=9223372036854775807:=rfl;omega
 simp only[execOp,eqGuard,binOp,Op.stringOp,hx,q,eR,ga,eF,h1,if_false];simp
def Z2 {a b:Int}[A:y8 P t 2][Z':bn P t [E 0,E 0]](hx:aX ρ x=E a)(D:aX ρ y=E b)(h:opsW P Z K r (fa ρ d (.agg #[E a,E b])) w):opsW P Z K (⟨some d,.build t #[(0,x),(1,y)],ty,pos,af,none⟩::r) ρ w:=by
 refine Qh (parts:=[(0,x),(1,y)]) (vs:=[(0,E a),(1,E b)]) (by simp[hx,D]) (fun w=>?_) h;obtain⟨e,he,F⟩:=A.ok;obtain⟨S,q,C⟩:=Z'.zero;simp only[Instr.build,eR,C,q,eF,run_underlying he,F];rfl
def M.xJ {w w0:World}{Γ:List HP}{α:Type}{T:Ty α}{e:TypeId}{s:Value}{x:List α}{ss:List Value}{G:List (List α)}(h:M w0 w (ai T e (s::ss) (x::G)::Γ)):M w0 w (X T e s x::ai T e ss G::Γ):=by
 obtain⟨q,h⟩:=M.vL h
 exact M.mI (fun g I=>by
  obtain⟨h1,A,d,s1,s2,C,I⟩:=ca.split _ I
  exact⟨h1,A,d,s1,s2,⟨by simpa using q,C⟩,I⟩) (show M w0 w (X T e s x::(zipWith (X T e) ss G++Γ)) from h)
end
end
section
class vO (Γ Δ:List HP):Prop where
 ok:∀ h,ca Γ h->ca Δ h
instance (priority:=low) selG_drop {A:HP}{Γ Δ:List HP} [s:vO Γ Δ]:vO (A::Γ) Δ:=⟨fun h q=>s.ok h q.tail⟩
instance (priority:=high) selG_rfl {Γ:List HP}:vO Γ Γ:=⟨fun _ q=>q⟩
instance Da {A:HP}{Γ q Δ:List HP} [p:sY Γ A q] [s:vO q Δ]:vO Γ (A::Δ):=⟨fun h C=>by
 obtain⟨i,h1,D⟩:=p.ok;obtain⟨g1,g2,d,s1,s2,a,g⟩:=C.bJ i h1;rw[<-D]at g
 exact⟨g1,g2,d,s1,s2,a,s.ok g2 g⟩⟩
def M.cq {w0 w:World}{Γ:List HP}[s:vO Γ Δ](h:M w0 w Γ):M w0 w Δ:=⟨h.below,s.ok _ h.jM⟩
end
section
open Go.RowKit (Below)
def ca.nK {Γ:List HP}(p:Γ.Perm Δ):∀ h,ca Γ h->ca Δ h:=by
 induction p with
 | nil=>intro h q;exact q
 | cons x _ C=>rintro h ⟨h1,A,d,s1,s2,a,b⟩;exact⟨h1,A,d,s1,s2,a,C A b⟩
 | swap x y l=>intro h q;exact q.swap
 | trans _ _ i1 i2=>intro h q;exact i2 h (i1 h q)
def M.nK {w0 w:World}{Γ Δ:List HP}(p:Γ.Perm Δ)(h:M w0 w Γ):M w0 w Δ:=⟨h.below,ca.nK p _ h.jM⟩
def Z3 {α:Type}{T:Ty α}{e:TypeId}{ss:List Value}{G:List (List α)}(q:ss.length=G.length):zipWith (X T e) ss G=(List.range G.length).map fun i=>X T e (cF ss i) (G.getD i []):=by
 apply iA (by simp[q]);intro i h1 D;simp only[getElem_zipWith,mL,qW];have A:i<ss.length:=by simp at h1;omega
 have C:i<G.length:=by simp at h1;omega
 rw[l9];simp[List.getD,A,C]
def M.xH {w0 w:World}{Γ:List HP}{α:Type}{T:Ty α}{e:TypeId}{ss:List Value}{G:List (List α)}{is:List Nat}(p:is.Perm (List.range G.length))(h:M w0 w (ai T e ss G::Γ)):M w0 w (ai T e (is.map (cF ss)) (is.map fun i=>G.getD i [])::Γ):=by
 obtain⟨q,h1⟩:=h.vL;rw[Z3 q]at h1;refine M.pH sm ?_;have A:zipWith (X T e) (is.map (cF ss)) (is.map fun i=>G.getD i [])=is.map fun i=>X T e (cF ss i) (G.getD i []):=by
  rw[zipWith_map]
  induction is with
  | nil=>rfl
  | cons i is _=>simp[zipWith_self]
 rw[A];exact h1.nK ((p.symm.map _).append_right _)
def RU {α:Type}[Inhabited α](enc:α->Value){pre post:List Value}{xs ys:List α}(C:ys.length=xs.length) :
  Sort.putCells enc pre.length ys.toArray (pre++xs.map enc++post).toArray=(pre++ys.map enc++post).toArray:=by
 apply wH;intro k;simp only[Sort.putCells,J5,CB,Cv];by_cases h1:k<pre.length
 ·rw[fG,js h1,fG,js h1]
  cases pre[k]? with
  | none=>rfl
  | some v=>simp only[tJ];rw[aH U]
 by_cases D:k<pre.length+ys.length
 ·have q:(pre++xs.map enc++post)[k]? = some (enc (xs[k-pre.length]'U)):=by
   rw[fG,kp U,js (by simp;omega),tq,kP U];rfl
  have A:(pre++ys.map enc++post)[k]? = some (enc (ys[k-pre.length]'U)):=by
   rw[fG,kp U,js (by simp;omega),tq,kP U];rfl
  rw[q,A];simp only[tJ];rw[aP U];congr 2;simp[show k-pre.length<ys.length by omega]
 have q:(pre++xs.map enc++post)[k]? = post[k-pre.length-ys.length]? := by
  rw[fG,kp U,kp (by simp;omega)];simp[C]
 have A:(pre++ys.map enc++post)[k]? = post[k-pre.length-ys.length]? := by
  rw[fG,kp U,kp (by simp;omega)];simp
 rw[q,A]
 cases post[k-pre.length-ys.length]? with
 | none=>rfl
 | some v=>simp only[tJ];rw[aH U]
def Lf (vs:List Value):vs.flatMap ar.enc=vs:=by
 induction vs with
 | nil=>rfl
 | cons x xs q=>rw[kQ,q];rfl
def M.BV {α:Type}[Inhabited α](enc:α->Value){w0 w:World}{Γ:List HP}{e:TypeId}{s:Value}{xs:List α}(Y:M w0 w (X ar e s (xs.map enc)::Γ)) :
  (s=nS/\xs=[])\/∃ b off cap,s=.slice (some ⟨b,off,none⟩) xs.length cap/\xs.length<=cap/\b<w.heap.size/\Sort.Holds enc w b off xs.toArray /\
   ∀ ys:List α,ys.length=xs.length->∀ n,M w0 (Sort.putRow enc (Sort.ahead w n) b off ys.toArray) (X ar e s (ys.map enc)::Γ):=by
 obtain⟨h1,hs,ho,hl⟩:=Y.at 0 rfl;rcases ho with ⟨rfl,C⟩|⟨b,off,n,cap,pre,post,rfl,A,_f,D,F,S,hb⟩
 ·left
  refine⟨rfl,?_⟩
  cases xs with
  | nil=>rfl
  | cons x xs=>simp[ar]at C
 right;simp only[ee,iW]at hl;subst hl;rw[Lf]at hb;have q:=(hs b _ hb).1;refine⟨b,off,cap,rfl,D,(kV.1 q).1,fun j V=>⟨?_,e8 q _⟩,fun ys hy m=>?_⟩
 ·simp only[Cv]at V
  rw[dI q,fG,kp U,js (by simp;omega),A,show off+j-off=j by omega,tq,kP V];simp[V]
 have e1:Sort.putRow enc (Sort.ahead w m) b off ys.toArray=eP (Sort.ahead w m) b (.cells (pre++ys.map enc++post).toArray e (0,0)):=by
  simp only[Sort.putRow,Sort.mapBlock,eP,Sort.ahead];congr 1;apply wH;intro k;have j':=(kV.1 q).1;by_cases hk:b=k
  ·subst hk
   rw[wk,aP rfl,q,Bi j'];simp only[tJ,Sort.onCells];rw[<-A,RU enc hy]
  rw[wk,aH hk,uG hk]
 rw[e1];refine M.put (Y.ahead m) fun g I ⟨j',_g⟩=>?_;rcases j' with ⟨hn,_⟩|⟨b',V',n',_a,_b,H',J',P',_c,_d,R',_e,T'⟩
 ·cases hn
 cases J';refine⟨⟨_,T'⟩,.inr ⟨b,off,_,cap,pre,post,rfl,A,by rw[Lf];simp[hy,ar],D,F,S,by rw[Lf];simp[mN]⟩,by simp[ee,hy]⟩
def sJ (B:Nat)(h:PH):PH:=fun b=>if b<B then h b else none
structure nN (B:Nat) (w0 w:World) (Γ:List HP):Prop where
 below:Below w0.heap.size w0 w
 jM:ca Γ (sJ B (eS w0 w))
def Rest (B:Nat)(L:World):HP:=fun h=>∀ b,B<=b->b<L.heap.size->h b=L.heap[b]?
def M.WJ {w0 w:World}{Γ:List HP}(h:M w0 w Γ):nN w.heap.size w0 w Γ:=by
 refine⟨h.below,h.jM.sub fun b o q=>?_⟩;have A:b<w.heap.size:=by
  simp only[eS]at q;split at q
  ·cases q
  exact(kV.1 q).1
 simp only[sJ,aP A];exact q
def nN.wP {w0 w:World}{Γ:List HP}(h:nN B w0 w Γ):M w0 w Γ :=
 ⟨h.below,h.jM.sub fun b o q=>by
  simp only[sJ]at q;split at q
  ·exact q
  cases q⟩
def nN.own {w0:World}{Γ:β->List HP}(F:w0.heap.size<=B):OwnFrom B (fun s L=>B<=L.heap.size/\nN B w0 L (Γ s)):=by
 rintro s L W' row ⟨S,q⟩ I C;have hblk:∀ k,k<B->W'.heap[k]? = L.heap[k]? := fun k hk=>I.block k U fun e=>by
  have:=(C k e.symm).1;omega
 refine⟨by have:=I.size;omega,⟨q.below.os ▸ I.os,q.below.tape ▸ I.tape,q.below.output ▸ I.output,by have:=I.size;have:=q.below.size;omega,fun k hk=>?_⟩,q.jM.sub fun b o A=>?_⟩
 ·rw[hblk k U];exact q.below.block k hk
 simp only[sJ,eS]at A ⊢;split at A
 ·rename_i h1
  rw[aP h1];split at A
  ·cases A
  rename_i D;rw[aH D,hblk b h1];exact A
 cases A
def nN.open {w0:World}{Γ:List HP}(A:w0.heap.size<=B)(h:nN B w0 L Γ):M w0 L (Rest B L::Γ):=by
 refine⟨h.below,fun b=>if b<B then none else L.heap[b]?,sJ B (eS w0 L),fun b=>?_,fun b o q=>?_,fun b o q=>?_,fun b h1 C=>?_,h.jM⟩
 ·simp only[sJ]
  by_cases q:b<B
  ·left;rw[aP q]
  right;rw[aH q]
 ·simp only at q
  split at q
  ·cases q
  simp only[eS];rw[aH U];exact q
 ·simp only[sJ]at q
  split at q
  ·exact q
  cases q
 show (if b<B then none else L.heap[b]?)=L.heap[b]?;rw[aH U]
def M.close {w0:World}{Γ:List HP}(h:M w0 W' (Rest B L::Γ))(D:W'.heap.size=L.heap.size):nN B w0 W' Γ:=by
 obtain⟨h1,h2,d,s1,s2,F,I⟩:=h.jM;refine⟨h.below,I.sub fun b o C=>?_⟩;have q:=s2 b o C;have S:b<W'.heap.size:=by
  simp only[eS]at q;split at q
  ·cases q
  exact(kV.1 q).1
 simp only[sJ];by_cases V:b<B
 ·rw[aP V];exact q
 have:=F b U U;rcases d b with A|A
 ·rw[this,Cz U]at A;cases A
 rw[C]at A;cases A
def nO.BY {w w':World}(h:nO w w'):KeepsOthers w w':=⟨by rw[h.1];exact cz _,fun k o hk q=>by
 rw[h.2 k fun cs t f e=>by rw[hk]at e;cases e;cases q];exact hk⟩
section
variable {P:Program}{Z:Array Oper}{K:Fr->World->Prop}{r:List Oper}{ρ:Fr}{w:World}{d:Nat}{ty:TypeId}{pos:String}{af:Array Edge}
def O0 {x:Operand}{xs:List Operand}{l m:Nat}{R:Ending->World->Prop}(D:aX ρ x=.func (.yield l) #[] #[])(hx:xs.map (aX ρ)=vs)(F:YieldAt Fence.wide m P l vs.toArray w R)(h:∀ e w',R e w'->∃ v,e=.returned v/\opsW P Z K r (fa ρ d v) w'):opsW P Z K (⟨some d,.call { callee:=.value x,args:=xs.toArray,argTypes:=ts },ty,pos,af,none⟩::r) ρ w:=by
 refine kW rfl ?_;obtain⟨fn,tmps,assign,body,S,C⟩:=F;have V:(execOp (aX ρ) ⟨some d,.call { callee:=.value x,args:=xs.toArray,argTypes:=ts },ty,pos,af,none⟩).run P w=.ok (.round l fn tmps assign body) w:=by
  simp only[execOp,resolve,eR,D,Deferred.ofValue,ga,eF,invoke];have:#[]++Array.map (aX ρ) xs.toArray=vs.toArray:=by simp[hx]
  rw[this];exact S
 simp only[opW,V,cn];refine⟨C.1,fun c cs _=>?_⟩;obtain⟨e,w',q,A⟩:=C.2 c cs (room_wide _);refine⟨e,w',?_,A⟩;obtain⟨v,rfl,hk⟩:=h e w' q;exact hk
def Z4 {a b:Act}(q:a.tmps.size=b.tmps.size)(C:fr a=fr b)(A:a.defers=b.defers):a=b:=by
 obtain⟨t,d⟩:=a;obtain⟨t',F⟩:=b;simp only at q A;subst A;congr 1;apply Array.ext q;intro i h1 D;have:=congrFun C i;simp only[fr]at this;rw[Jw,Jw,Cz h1,Cz D]at this
 simpa using this
def O1 {t:Array Value}{p q:Nat}(C:p<t.size)(hq:q<t.size):fr { tmps:=(#[p,q].zip #[v,u]).foldl (fun t (p,v)=>t.setIfInBounds p v) t,defers:=ds }=fa (fa (fr ⟨t,ds⟩) p v) q u:=by
 have h1:=wz (a:=⟨t,ds⟩) (d:=some p) (v:=v) (fun _ e=>by cases e;exact C);have A:=wz (a:=(⟨t,ds⟩:Act).put (some p) v) (d:=some q) (v:=u) (fun _ e=>by cases e;simpa [Act.put] using hq);rw[h1]at A;have e:(#[p,q].zip #[v,u]).foldl (fun t (p,v)=>t.setIfInBounds p v) t=(t.setIfInBounds p v).setIfInBounds q u:=sm;rw[e];exact A
def JM {t:Array Value}{p q:Nat}:((#[p,q].zip #[v,u]).foldl (fun t (p,v)=>t.setIfInBounds p v) t).size=t.size:=sm
def F3 {ro:Option Nat}{m:Nat}{x y:Code}{Q:Exit->Act->World->Prop}{a:Act}(hm:P.follows .mixedOrders=true)(A:mV n x=true)(D:a.tmps.size=n)(F:a.defers=[])(h:vc P x (Thn (fun ρ w=>∀ q,q.tmps.size=n->q.defers=[]->fr q=ρ->y.wpIn (fw ro) m P Q q w) (fun _ _ _=>False)) (fr a) w):(Code.seq x y).wpIn (fw ro) m P Q a w:=by
 refine wpIn_seq (wpIn_mono (wA hm x A _ a w D F h) fun e q w' hq=>?_);obtain⟨h1,S,C⟩:=hq
 cases e with
 | normal=>exact C q h1 S rfl
 | _=>exact C.elim
def OB {args:List Value}:fr { tmps:=args.toArray++Array.replicate (n-args.toArray.size) undef,defers:=[] }=vK args:=by
 funext t
 simp only[fr,vK];rcases ns t args.length with q|q
 ·simp[DF,q]
 simp[J1,q];rcases ns (t-args.length) (n-args.length) with h1|h1
 ·simp[h1]
 simp[h1]
def O3 {Q:Exit->Fr->World->Prop}{w0:World}{Γ:List HP}{l:List Oper}(Y:M w0 w Γ)(q:qL P l.toArray=true)(h:∀ w',nO w w'->M w0 w' Γ->opsW P l.toArray (Q .normal) l ρ w'):vc P (.region i l.toArray true) Q ρ w :=
 .inl ⟨q,h _ ⟨rfl,fun _ _=>rfl⟩ Y.drew⟩
def OE {ro:Option Nat}{m id s:Nat}{K:Act->World->Prop}{a:Act}(hm:P.follows .mixedOrders=true)(A:d<a.tmps.size)(C:a.defers=[])(h:K (a.put (some d) (fr a s)) w) :
  (Code.region id #[⟨some d,.assign (.tmp s),ty,pos,af,none⟩] false).wpIn (fw ro) m P (Exit.then K (fun _ _ _=>False)) a w:=by
 refine wpIn_mono (wA (n:=a.tmps.size) hm _ (by simp[mV,iM,A]) (fun e q w'=>e=.normal/\q=fa (fr a) d (fr a s)/\w'=w) a w rfl C ?_) fun e D w' hq=>?_
 ·refine tF (l:=[_]) ?_
  exact fi rfl (Ko rfl) ⟨rfl,rfl,rfl⟩
 obtain⟨h1,F,rfl,S,rfl⟩:=hq;have e:D=a.put (some d) (fr a s):=by
  refine Z4 (by rw[eZ];exact h1) ?_ (by rw[zL,C];exact F);rw[S,wz (fun t e=>by cases e;exact A)];rfl
 rw[e];exact h
def Jv {l:Nat}{o':Obj}(A:L.heap[l]? = some o)(C:o.isCells=false)(h:L.cell? p=some v):(L.putObj l o').cell? p=some v:=by
 have q:l≠p.block:=fun e=>by
  subst e;simp only[World.cell?,A]at h;cases o<;>simp_all[Obj.isCells]
 simp only[World.cell?,World.putObj]at h ⊢;rw[uG q];exact h
def OC {α:Type}{T:Ty α}{l:Nat}{o':Obj}{s:Value}{xs:List α}(C:L.heap[l]? = some o)(D:o.isCells=false)(h:RS T L s xs):RS T (L.putObj l o') s xs:=by
 obtain⟨⟨a,n,cap,F,h1,S,V⟩,h3⟩:=h;refine⟨⟨a,n,cap,F,h1,S,fun i v hv=>?_⟩,h3⟩;obtain⟨p,hp,A,q⟩:=V i v hv;exact⟨p,hp,A,Jv C D q⟩
end
end
section
def Dr (n:Nat)(w:World):Prop:=n<=w.drawn
def Dr.refl (w:World):Dr w.drawn w:=cz _
def xg {w w':World}{Γ:List HP}(h:M w w' Γ)(A:Dr w.drawn w'):∃ (q:Nat) (os:Array Obj),w'=Sort.grow (w.drewN q) os:=by
 obtain⟨h1,C,D,h4,F⟩:=h.below;refine⟨w'.drawn-w.drawn,w'.heap.extract w.heap.size w'.heap.size,?_⟩
 cases w with
 | mk hp tp dn os out =>
  cases w' with
  | mk j' H' J' P' S =>
   simp only at h1 C D h4 F;unfold Dr at A;simp only at A;subst h1 C D;simp only[Sort.grow,World.drewN,World.mk.injEq,true_and,GF];refine⟨?_,U⟩;apply wH;intro i;by_cases V:i<hp.size
   ·rw[DF V];exact F i V
   rw[J1 U,Array.getElem?_extract];split
   ·congr 1;omega
   rw[tI U]
section
variable {P:Program}{Z:Array Oper}{K:Fr->World->Prop}{Q:Exit->Fr->World->Prop}{r:List Oper}{ρ:Fr}{w w0:World}{d:Nat}{ty:TypeId}{pos:String}{af:Array Edge}{x y:Operand}{t:TypeId}{Γ:List HP}{α:Type}{N:Nat}
def KP {l:List Oper}(is:List cB)(Y:M w0 w Γ)(q:Dr N w)(A:o9 P l.toArray is=true)(h:∀ w',M w0 w' Γ->Dr N w'->opsD P l.toArray (Q .normal) is ρ w'):vc P (.region i l.toArray true) Q ρ w :=
 .inr (.inl ⟨is,A,h _ Y.drew (le_succ_of_le q)⟩)
def CN (hx:aX ρ x=.agg vs.toArray)(Y:M w0 w Γ)(q:Dr N w)(h:∀ p w',M w0 w' (ak p t vs::Γ)->Dr N w'->opsW P Z K r (fa ρ d (.pointer (some p))) w'):opsW P Z K (⟨some d,.box t x,ty,pos,af,none⟩::r) ρ w:=by
 refine kW rfl ?_;simp only[opW,execOp,Instr.box,eR,eF,newVar,newRow,run_newObj,ga,cn,hx];exact h ⟨w.heap.size,0,none⟩ _ (Y.push (o:=.cells (Value.agg vs.toArray).cells t) ⟨rfl,rfl,by simp[Value.cells]⟩) q
def KQ {T:Ty α}(xs:List α)(vs:List Value){e len:Nat}{parts:List (Nat × Operand)}[S:bh P t e sz by_][Z':bn P e zs](hp:(parts.map fun p=>(p.1,aX ρ p.2))=(vs.zipIdx 0).map fun x=>(x.2,x.1))(hx:vs.flatMap (·.cells.toList)=xs.flatMap T.enc)(q:vs.all (fun v=>v.cells.size == sz)=true)(hlen:vs.length=len)(A:xs.length=len)(j':len*sz<=16777216)(F:0<len*sz)(V:len<=16777216)(Y:M w0 w Γ)(hd:Dr N w)(h:∀ s w',M w0 w' (X T e s xs::Γ)->Dr N w'->opsW P Z K r (fa ρ d s) w'):opsW P Z K (⟨some d,.buildSlice t len parts.toArray,ty,pos,af,none⟩::r) ρ w:=by
 refine kW rfl ?_;obtain⟨zv,C,D⟩:=Z'.zero;have:(Array.map (fun x:Nat × Operand=>match x with|(i,x)=>(i,aX ρ x)) parts.toArray)=((vs.zipIdx 0).map fun x=>(x.2,x.1)).toArray:=by rw[<-hp];simp
 have h0:¬(len*sz=0):=U;have h1:¬(len*sz>2 ^ 24):=U;have hf:Instr.fill (fun i=>some (i*sz,sz)) ((Array.range (len*sz)).map (zs.toArray[· % zs.toArray.size]!)) ((vs.zipIdx 0).map fun x=>(x.2,x.1))=some (xs.flatMap T.enc).toArray:=by
  have:=Hb (sz:=sz) vs 0 [] ((Array.range (len*sz)).map (zs.toArray[· % zs.toArray.size]!)).toList (fun v hv=>by simpa using all_eq_true.1 q v hv) sm (by simp[hlen]);rw[hx]at this;simp only[kq,GG]at this;exact this
 simp only[opW,execOp,this,Instr.buildSlice,eR,run_underlying S.gI,eF,S.size,h1,if_false,h0,ga,D,C];rw[hf];simp only[eR,newRow,run_newObj,eF,ga,cn];exact h _ _ (z6 (e:=e) sm A (by unfold bT;omega) rfl Y) hd
end
section
variable {P:Program}{Z:Array Oper}{K:Fr->World->Prop}{r:List Oper}{ρ:Fr}{w w0:World}{ty:TypeId}{pos:String}{af:Array Edge}{x y:Operand}{t:TypeId}{Γ:List HP}{α:Type}{T:Ty α}{s:Value}{xs:List α}
def Z5 {e:TypeId}{x':α}(hv:(T.enc x').all Value.oneCell'=true)(Y:M w0 w Γ)(hi:Γ[i]? = some (X T e s xs))(hj:j<xs.length) :
  ∃ w',(storeCells (gU T s j) (T.enc x')).run P w=.ok () w'/\M w0 w' (Γ.set i (X T e s (xs.set j x'))):=by
 obtain⟨h1,hs,ho,hl⟩:=Y.at i hi;have hlen:=T.len xs;rcases ho with ⟨rfl,_c⟩|⟨b,off,n,cap,pre,post,rfl,C,j',H',D,J',hb⟩
 ·simp only[ee]at hl;omega
 have F:(j+1)*T.sz<=(xs.flatMap T.enc).length:=by
  rw[hlen];exact uF _ hj
 rw[qB,ww]at F;have bI:=T.ok x';have S:gU T (.slice (some ⟨b,off,none⟩) n cap) j=⟨b,off+j*T.sz,none⟩:=rfl;rw[S];have q:(xs.set j x').flatMap T.enc=(xs.flatMap T.enc).take (j*T.sz)++T.enc x'++(xs.flatMap T.enc).drop (j*T.sz+T.sz):=by
  rw[DS,aP hj,wy,kQ,T.take,show j*T.sz+T.sz=(j+1)*T.sz by rw[qB,ww],T.drop,fG]
 have V:((pre++xs.flatMap T.enc++post).take (off+j*T.sz+0)++T.enc x'++(pre++xs.flatMap T.enc++post).drop (off+j*T.sz+0+(T.enc x').length))=pre++(xs.set j x').flatMap T.enc++post:=by
  rw[q,bI];have A:(pre++xs.flatMap T.enc++post).take (off+j*T.sz+0)=pre++(xs.flatMap T.enc).take (j*T.sz):=by
   rw[fG,DK,gH U,DK,show off+j*T.sz+0-pre.length=j*T.sz by omega,GN (show j*T.sz<=(xs.flatMap T.enc).length by omega),wI,fI]
  have a2:(pre++xs.flatMap T.enc++post).drop (off+j*T.sz+0+T.sz)=(xs.flatMap T.enc).drop (j*T.sz+T.sz)++post:=by
   rw[fG,yD,qz U,kq,yD,show off+j*T.sz+0+T.sz-pre.length=j*T.sz+T.sz by omega,GN (show j*T.sz+T.sz<=(xs.flatMap T.enc).length by omega),DQ]
  rw[A,a2];simp only[fG]
 refine⟨eP w b (.cells (pre++(xs.set j x').flatMap T.enc++post).toArray e (0,0)),?_,?_⟩
 ·have:=xX (P:=P) (b:=b) (bt:=e) (T.enc x') (off+j*T.sz) 0 _ w (by simpa using hv) (by simp only[length_append];omega) (hs b _ hb).1
  rw[this,<-V]
 have A:=T.len (xs.set j x');refine(M.put (Y.bJ i hi) fun g I ⟨P',_j⟩=>?_).iq i hi;rcases P' with ⟨hn,_⟩|⟨b',_d,n',_e,_f,R',T',V',_g,_h,_a,_i,_b⟩
 ·cases hn
 cases T';refine⟨⟨_,_b⟩,.inr ⟨b,off,n,cap,pre,post,rfl,C,by rw[A,gS,<-hlen,j'],H',D,J',by simp[mN]⟩,by rw[gS];exact hl⟩
def B5 {e:TypeId}{x':α}{put:HP->List HP}[A:eT P t n](hx:aX ρ x=.pointer (some (gU T s j)))(C:aX ρ y=.agg (T.enc x').toArray)(D:n=T.sz)(hv:(T.enc x').all Value.oneCell'=true)(Y:M w0 w Γ)(F:gP Γ s α T e xs put)(S:j<xs.length)(h:∀ w',M w0 w' (put (X T e s (xs.set j x')))->opsW P Z K r ρ w'):opsW P Z K (⟨none,.store t x y,ty,pos,af,none⟩::r) ρ w:=by
 refine kW rfl ?_;obtain⟨i,V,q⟩:=F.mK.ok;simp only[q]at h;obtain⟨w',hr,hs⟩:=Z5 (P:=P) hv Y V S;exact Bn hx C (fun w=>by rw[A.agg.2];simp[Value.cells,D,T.ok]) (by simpa [Value.cells] using hr) (h _ hs)
end
section
variable {P:Program}{Z:Array Oper}{K:Fr->World->Prop}{r:List Oper}{ρ:Fr}{w w0:World}{ty:TypeId}{pos:String}{af:Array Edge}{x y:Operand}{t:TypeId}{Γ:List HP}{α:Type}{T:Ty α}{s:Value}{xs:List α}
def Z6 (A B C:List β)(k:Nat)(hk:k<=B.length):(A++(B++C)).take (A.length+k)=A++B.take k:=by
 rw[DK,gH U,JY,DK,GN hk,wI,fI]
def Z7 (A B C:List β)(k:Nat)(hk:k<=B.length):(A++(B++C)).drop (A.length+k)=B.drop k++C:=by
 rw[yD,qz U,kq,JY,yD,GN hk,DQ]
end
end
section
open Go.RowKit (Below)
def HD {α:Type}[Inhabited α](T:Ty α)(xs:List α):Sort.flatK T.enc T.sz xs.toArray=(xs.flatMap T.enc).toArray:=by
 refine Sort.ext_get! (by simp[T.len]) fun t A=>?_;have q:t<xs.length*T.sz:=by simpa using A
 have C:0<T.sz:=by
  rcases uC T.sz with h|h
  ·rw[h]at q;omega
  exact h
 have hq:t / T.sz<xs.length:=OX (by rwa[GJ]);have I:=T.get xs (t / T.sz) (t % T.sz) hq (Cm _ C);rw[show t / T.sz*T.sz+t % T.sz=t from by rw[GJ];exact div_add_mod t T.sz]at I;rw[Sort.get_flatK _ _ _ _ (by simpa using q)];have e:xs.toArray[t / T.sz]! = xs.getD (t / T.sz) T.dflt:=by simp[hq,List.getD]
 rw[e];simp only[getElem!_toArray,Pe,I]
def M.ES {α:Type}[Inhabited α]{T:Ty α}{w0 w:World}{Γ:List HP}{e:TypeId}{s:Value}{xs:List α}(hT:0<T.sz)(Y:M w0 w (X T e s xs::Γ)) :
  (s=nS/\xs=[])\/∃ b off cap,s=.slice (some ⟨b,off,none⟩) xs.length cap/\xs.length<=cap/\b<w.heap.size/\Sort.HoldsK T.enc T.sz w b off xs.toArray /\
   ∀ ys:List α,ys.length=xs.length->∀ n os,M w0 (Go.Proofs.sortWorldK T.enc T.sz w b off n ys.toArray os) (X T e s ys::Γ):=by
 obtain⟨h1,hs,ho,hl⟩:=Y.at 0 rfl;rcases ho with ⟨rfl,C⟩|⟨b,off,n,cap,pre,post,rfl,A,_g,D,F,V,hb⟩
 ·left
  refine⟨rfl,?_⟩;have:=T.len xs;rw[C]at this;rcases uC xs.length with h|h
  ·exact nY h
  have:=Nat.mul_pos h hT;simp only[length_nil]at *;omega
 right;simp only[ee]at hl;subst hl;have q:=(hs b _ hb).1;refine⟨b,off,cap,rfl,D,(kV.1 q).1,fun j S=>⟨?_,e8 q _⟩,fun ys hy m os=>?_⟩
 ·rw[HD]at S ⊢
  simp only[Cv]at S;rw[dI q,fG,kp U,js U,A,show off+j-off=j by omega,kP S];simp only[id,getElem!_toArray,Pe,kP S,Option.getD_some]
 refine M.grow ?_ os;have j':(ys.flatMap T.enc).length=(xs.flatMap T.enc).length:=by rw[T.len,T.len,hy]
 have e1:Sort.putRowK T.enc T.sz (Sort.ahead w m) b off ys.toArray=eP (Sort.ahead w m) b (.cells (pre++ys.flatMap T.enc++post).toArray e (0,0)):=by
  unfold Sort.putRowK;rw[HD];simp only[Sort.putRow,Sort.mapBlock,eP,Sort.ahead];congr 1;apply wH;intro k;have H':=(kV.1 q).1;by_cases hk:b=k
  ·subst hk
   rw[wk,aP rfl,q,Bi H'];have hm:=RU id (pre:=pre) (post:=post) j';simp only[map_id]at hm;simp only[tJ,Sort.onCells];rw[<-A,hm]
  rw[wk,aH hk,uG hk]
 rw[e1];refine M.put (Y.ahead m) fun g I ⟨H',_h⟩=>?_;rcases H' with ⟨hn,_⟩|⟨b',_a,n',_b,_c,J',P',R',_d,_e,T',_f,V'⟩
 ·cases hn
 cases P';refine⟨⟨_,V'⟩,.inr ⟨b,off,_,cap,pre,post,rfl,A,by rw[T.len,hy],D,F,V,by simp[mN]⟩,by simp[ee,hy]⟩
def Z8 {α:Type}[Inhabited α](enc:α->Value)(w:World)(b off:Nat)(ys:List α):Sort.putRow enc w b off ys.toArray=Sort.putRow id w b off (ys.map enc).toArray:=by
 unfold Sort.putRow;congr 1
 funext c
 apply wH;intro k;simp only[Sort.putCells,J5,Cv,iW]
 cases c[k]? with
 | none=>rfl
 | some v =>
  simp only[tJ];split
  ·rename_i h
   have h1:k-off<ys.length:=U;simp[h1]
  rfl
section
variable {P:Program}{Z:Array Oper}{K:Fr->World->Prop}{r:List Oper}{ρ:Fr}{w w0:World}{d:Nat}{dst:Option Nat}{ty:TypeId}{pos:String}{af:Array Edge}{x:Operand}{t:TypeId}{Γ:List HP}{α:Type}{T:Ty α}{s:Value}{xs:List α}
def Z9 {e:TypeId}{zs:List α}(hv:∀ v∈zs.flatMap T.enc,v.oneCell'=true)(Y:M w0 w Γ)(hi:Γ[i]? = some (X T e s xs))(h0:0<zs.length)(hj:j+zs.length<=xs.length) :
  ∃ w',(storeCells (gU T s j) (zs.flatMap T.enc)).run P w=.ok () w'/\M w0 w' (Γ.set i (X T e s (xs.take j++zs++xs.drop (j+zs.length)))):=by
 obtain⟨h1,hs,ho,hl⟩:=Y.at i hi;have hlen:=T.len xs;rcases ho with ⟨rfl,_f⟩|⟨b,off,n,cap,pre,post,rfl,q,J',P',D,R',hb⟩
 ·simp only[ee]at hl;omega
 have F:gU T (.slice (some ⟨b,off,none⟩) n cap) j=⟨b,off+j*T.sz,none⟩:=rfl;rw[F];have A:xs.flatMap T.enc=(xs.take j).flatMap T.enc++((xs.drop j).take zs.length).flatMap T.enc++(xs.drop (j+zs.length)).flatMap T.enc:=by
  conv=>lhs;rw[<-yC j xs,<-yC zs.length (xs.drop j)]
  rw[wy,wy,drop_drop,fG]
 have S:((xs.take j).flatMap T.enc).length=j*T.sz:=by rw[T.len,jf,Nat.min_eq_left U]
 have _m:(((xs.drop j).take zs.length).flatMap T.enc).length=zs.length*T.sz:=by rw[T.len,jf,Bg,Nat.min_eq_left U]
 have T':=T.len zs;have V:((pre++xs.flatMap T.enc++post).take (off+j*T.sz+0)++zs.flatMap T.enc++(pre++xs.flatMap T.enc++post).drop (off+j*T.sz+0+(zs.flatMap T.enc).length))=pre++(xs.take j++zs++xs.drop (j+zs.length)).flatMap T.enc++post:=by
  have C:pre++xs.flatMap T.enc++post=(pre++(xs.take j).flatMap T.enc)++(((xs.drop j).take zs.length).flatMap T.enc++((xs.drop (j+zs.length)).flatMap T.enc++post)):=by
   rw[A];simp only[fG]
  have e1:off+j*T.sz+0=(pre++(xs.take j).flatMap T.enc).length+0:=by rw[length_append,S,q]
  have e2:off+j*T.sz+0+(zs.flatMap T.enc).length=(pre++(xs.take j).flatMap T.enc).length+(zs.length*T.sz):=by rw[length_append,S,q,T'];omega
  rw[C,e2,e1,Z6 _ _ _ _ (br _),Z7 _ _ _ _ U];simp only[wI,fI,wy,fG];rw[qz U,kq]
 have j':off+j*T.sz+0+(zs.flatMap T.enc).length<=(pre++xs.flatMap T.enc++post).length:=by
  have:(j+zs.length)*T.sz<=(xs.flatMap T.enc).length:=by rw[hlen];exact uF _ hj
  rw[qB]at this;simp only[length_append];omega
 have C:=T.len (xs.take j++zs++xs.drop (j+zs.length));have H':(xs.take j++zs++xs.drop (j+zs.length)).length=xs.length:=by simp only[length_append,jf,Bg];omega
 refine⟨eP w b (.cells (pre++(xs.take j++zs++xs.drop (j+zs.length)).flatMap T.enc++post).toArray e (0,0)),?_,?_⟩
 ·have:=xX (P:=P) (b:=b) (bt:=e) (zs.flatMap T.enc) (off+j*T.sz) 0 _ w hv j' (hs b _ hb).1
  rw[this,<-V]
 refine(M.put (Y.bJ i hi) fun g I ⟨V',_n⟩=>?_).iq i hi;rcases V' with ⟨hn,_⟩|⟨b',_g,n',_h,_i,_a,_b,_c,_j,_k,_d,_l,_e⟩
 ·cases hn
 cases _b;refine⟨⟨_,_e⟩,.inr ⟨b,off,n,cap,pre,post,rfl,q,by rw[C,H',<-hlen,J'],P',D,R',by simp[mN]⟩,by rw[H'];exact hl⟩
def QM {e:Nat}{z:α}{put:HP->List HP}[S:bh P t e sz by_][Z':bn P e zs](hx:aX ρ x=ssub s T.sz j xs.length)(P':sz=T.sz)(hz:T.enc z=zs)(hv:zs.all Value.oneCell'=true)(Y:M w0 w Γ)(O':gP Γ s α T e xs put)(hj:j<=xs.length)(h:∀ w',M w0 w' (put (X T e s (xs.take j++replicate (xs.length-j) z)))->opsW P Z K r (io ρ dst (.tuple #[])) w'):opsW P Z K (⟨dst,.call { callee:=.builtin .clear,args:=#[x],argTypes:=#[t] },ty,pos,af,none⟩::r) ρ w:=by
 refine kW rfl ?_;subst P';obtain⟨i,D,F⟩:=O'.mK.ok;simp only[F]at h;obtain⟨zv,R',T'⟩:=Z'.zero;obtain⟨a,cap,hs⟩:=(Y.rs i D).shape;subst hs;simp only[opW];by_cases he:j=xs.length
 ·subst he
  have hr:(execOp (aX ρ) ⟨dst,.call { callee:=.builtin .clear,args:=#[x],argTypes:=#[t] },ty,pos,af,none⟩).run P w=.ok (.value (.tuple #[])) w:=by
   simp only[ssub,rZ]at hx
   cases hq:(if cap=xs.length then a else Option.map (fun x=>x.add (xs.length*T.sz)) a) with
   | none=>rw[hq]at hx;simp[execOp,resolve,invoke,builtin,Builtin.clear_,hx,run_underlying S.gI]
   | some p=>rw[hq]at hx;simp[execOp,resolve,invoke,builtin,Builtin.clear_,hx,run_underlying S.gI]
  rw[hr];refine h w ?_;rw[rZ,Cq,fI,gH (cz _),show Γ.set i (X T e (.slice a xs.length cap) xs)=Γ from ?_]
  ·exact Y
  apply zS;intro k;by_cases hk:i=k
  ·subst hk;rw[Cw (xW.1 D).1,D]
  rw[tn hk]
 have hR:(replicate (xs.length-j) z).length=xs.length-j:=np
 obtain⟨w',V,q⟩:=Z9 (P:=P) (T:=T) (j:=j) (zs:=replicate (xs.length-j) z) (fun v V'=>by
  obtain⟨z',C,A⟩:=tm.1 V';rw[(mem_replicate.1 C).2,hz]at A
  exact all_eq_true.1 hv v A) Y D U U
 rw[hR,show j+(xs.length-j)=xs.length from by omega,qz (cz _),fI]at q;obtain⟨p,A,_a,C⟩:∃ p A,Value.slice a xs.length cap=.slice (some p) xs.length A/\p.spot=none:=by
  obtain⟨h1,_,ho,hl⟩:=Y.at i D;rcases ho with ⟨hn,j'⟩|⟨b,off,n,H',pre,post,hn,_⟩
  ·rw[hn]at hl;simp only[ee]at hl;omega
  injection hn with e1 e2 e3
  subst e1;exact⟨⟨b,off,none⟩,cap,rfl,rfl⟩
 cases _a;have _c:xs.length<=cap:=by
  obtain⟨_,n,c,hh,_,⟨h1,_⟩,_⟩:=(Y.rs i D).1;cases hh;exact h1
 have hr:(execOp (aX ρ) ⟨dst,.call { callee:=.builtin .clear,args:=#[x],argTypes:=#[t] },ty,pos,af,none⟩).run P w=.ok (.value (.tuple #[])) w':=by
  have _b:¬cap=j:=U;have j':aX ρ x=.slice (some (p.add (j*T.sz))) (xs.length-j) (cap-j):=by rw[hx];simp[ssub,_b]
  obtain⟨m,hm⟩:∃ m,xs.length-j=m+1:=⟨xs.length-j-1,U⟩
  have H':(Builtin.zeroCells zv.cells (xs.length-j)).toList=(replicate (xs.length-j) z).flatMap T.enc:=by
   have J':=Kw (T:=T) hz (xs.length-j);have e:T.sz=zs.toArray.size:=by rw[<-hz];simp[T.ok]
   rw[e]at J';unfold Builtin.zeroCells;rw[R'];exact J'
  rw[hm]at j' H';have J':p.add (j*T.sz)=gU T (.slice (some p) xs.length cap) j:=by rw[Hc C];rfl
  rw[hm]at V;simp only[execOp,resolve,invoke,builtin,Builtin.clear_];simp[j',run_underlying S.gI,T',H',J',V]
 rw[hr];exact h w' q
def X2 (T:Ty α)(z:α){y:Operand}{e:Nat}{n:Int}[S:bh P t e sz by_][Z':bn P e zs](hx:aX ρ x=E n)(hy:aX ρ y=E n)(D:sz=T.sz)(hz:T.enc z=zs)(h0:0<=n)(hb:by_*n<=281474976710656)(hn:n<=281474976710656)(Y:M w0 w Γ)(h:∀ b w',M w0 w' (X T e (.slice (some ⟨b,0,none⟩) n.toNat n.toNat) (replicate n.toNat z)::Γ)->opsW P Z K r (fa ρ d (.slice (some ⟨b,0,none⟩) n.toNat n.toNat)) w'):opsW P Z K (⟨some d,.makeSlice t x y,ty,pos,af,none⟩::r) ρ w:=by
 refine kW rfl ?_;subst D;obtain⟨zv,F,V⟩:=Z'.zero;obtain⟨i,hi,hs,j'⟩:=S.tZ;have H':IntKind.i64.wrap n=n:=yH U U;have C:((n<0 || (i.bytes:Int)*n>2 ^ 48) || n<0 || n>n)=false:=by simp[j'];omega
 simp only[opW,execOp,hx,hy,Instr.makeSlice,eR,run_underlying S.gI,eF,asInt,asIntOf,ga,typeInfo,run_program,hi,H',C,Cr,if_false,run_askRoom,S.size];have q:∀ (z0:Array Value),(n.toNat*T.sz=0\/z0=zs.toArray)->((Array.range (n.toNat*T.sz)).map (z0[· % z0.size]!)).toList=(replicate n.toNat z).flatMap T.enc:=by
  intro z0 h;rcases h with h|h
  ·rw[h]
   have:((replicate n.toNat z).flatMap T.enc).length=0:=by rw[T.len];simpa using h
   rw[nY this];simp
  rw[h];exact Kw hz n.toNat
 by_cases A:n.toNat*T.sz=0
 ·simp only[A,if_true,ga,eF,newRow,eR,run_newObj,cn]
  have:=q #[] (.inl A);rw[A]at this;exact h _ _ (z6 (T:=T) (e:=e) (by rw[this];simp) sm (by unfold bT;omega) rfl Y)
 simp only[A,if_false,eR,V,ga,eF,newRow,run_newObj,cn,F];exact h _ _ (z6 (T:=T) (e:=e) (by rw[q _ (.inr rfl)];simp) sm (by unfold bT;omega) rfl Y)
end
end
section
def xD (P:Program)(t:Nat):Bool:=match P.underlying t with
 | some (.array 2 e)=>uS P e && (match P.underlying e with|some (.int _)=>true|_=>false) && !P.eqGuardType P.depth t
 | _=>false
class rJ (P:Program) (t:Nat):Prop where
 ok:xD P t=true
class zb (P:Program) (t:Nat) {α:Type} [DecidableEq α] (T:Ty α):Prop where
 ok:∀ (a b:α) (w:World),(Op.equalIn 10000 t (.agg (T.enc a).toArray) (.agg (T.enc b).toArray)).run P w=.ok (decide (a=b)) w/\P.eqGuardType P.depth t=false
section
variable {P:Program}{ρ:Fr}{w:World}{ty:TypeId}{pos:String}{af:Array Edge}{g:Option (Nat × Bool)}{dst:Option Nat}{x y:Operand}{t t':TypeId}
def rJ.run (T:rJ P t){a b c d:Int}(w:World):(Op.equalIn 10000 t (.agg #[E a,E b]) (.agg #[E c,E d])).run P w=.ok (decide ((a,b)=(c,d))) w/\P.eqGuardType P.depth t=false:=by
 have h:=T.ok;simp only[xD]at h;split at h
 ·rename_i e hd
  simp only[Bool.and_eq_true,xT]at h;obtain⟨⟨h1,F⟩,h3⟩:=h;have C:bY P e:=⟨h1⟩
  refine⟨?_,h3⟩;split at F
  ·rename_i kd hk
   have S:∀ u v:Int,(part e #[E u,E v] 0).run P w=.ok (E u) w:=fun u v=>by simp[part,C.plain.1]
   have V:∀ u v:Int,(part e #[E u,E v] 1).run P w=.ok (E v) w:=fun u v=>by simp[part,C.plain.1]
   have q:=fun u v:Int=>run_equalIn_int w 9998 e .i64 kd u v hk;rw[show (10000:Nat)=9999+1 from rfl];rw[show (9998+1:Nat)=9999 from rfl]at q;generalize (9999:Nat)=N at q;simp only[Op.equalIn,eR,run_underlying hd,eF,C.plain.2,Std.Legacy.Range.forIn_eq_forIn_range',Std.Legacy.Range.size,JU,Nat.add_one_sub_one,Nat.div_one];simp only[range',forIn_cons,forIn_nil,eR,Gw,xU,ww,S,V,eF];by_cases A:a=c<;>by_cases D:b=d<;>simp[q,S,V,A,D]
  cases F
 cases h
variable {α:Type} [DecidableEq α] {T:Ty α}{a b:α}
def QK [E_:zb P t T](hx:aX ρ x=.agg (T.enc a).toArray)(q:aX ρ y=.agg (T.enc b).toArray):PureV P ⟨dst,.binOp .eql t x y t',ty,pos,af,g⟩ ρ (.bool (decide (a=b))):=fun w=>by
 obtain⟨A,I⟩:=E_.ok a b w;simp only[execOp,hx,q,eR,run_eqGuard_agg w .eql t x y _ _ I,eF,run_eql_struct,A,ga]
def QL [E_:zb P t T](hx:aX ρ x=.agg (T.enc a).toArray)(q:aX ρ y=.agg (T.enc b).toArray):PureV P ⟨dst,.binOp .neq t x y t',ty,pos,af,g⟩ ρ (.bool (!decide (a=b))):=fun w=>by
 obtain⟨A,I⟩:=E_.ok a b w;simp only[execOp,hx,q,eR,run_eqGuard_agg w .neq t x y _ _ I,eF,run_neq_struct,A,ga]
end
section
variable {P:Program}{ρ:Fr}{w:World}
def HE {fn:Func}{s q s2 ty:Nat}{v2:Value}[A:eT P ty n](S:fn.results=#[.cell s ty,.tmp q,.tmp s2])(hv:ρ s=.pointer (some p))(C:ρ q=v')(D:ρ s2=v2)(V:vs.length=n)(hc:∀ j v,vs[j]? = some v->w.cell? (p.add j)=some v)(h:R (.tuple #[.agg vs.toArray,v',v2]) w):mz P fn R .ret ρ w :=
 ⟨.tuple #[.agg vs.toArray,v',v2],fun a F=>by
  have h1:a.tmps.getD s undef=.pointer (some p):=by rw[<-hv,<-F];rfl
  have h2:a.tmps.getD q undef=v':=by rw[<-C,<-F];rfl
  have h4:a.tmps.getD s2 undef=v2:=by rw[<-D,<-F];rfl
  have h3:=K8 (P:=P) (A:=A) V hc;simp only[results,S,Cx,zU,DI,h1,h2,h4,bind_pure_comp,map_pure]
  simp[asAddr,h3],h⟩
end
end
section
open Go.RowKit (Below)
def lJ (h:PH):PH:=fun b=>(h b).filter (·.isCells)
def ya {b:Nat}:lJ h b=some o↔h b=some o/\o.isCells=true:=by
 unfold lJ
 cases A:h b with
 | none=>simp
 | some x =>
  simp only[Option.filter,zR];by_cases hx:x.isCells=true
  ·rw[aP hx];constructor
   ·intro e;cases e;exact⟨rfl,hx⟩
   rintro⟨e,_⟩;rw[e]
  rw[aH hx];constructor
  ·intro e;cases e
  rintro⟨e,q⟩;subst e;exact absurd q hx
class xh (A:HP):Prop where
 ok:∀ h,A h->A (lJ h)
class s8 (Γ:List HP):Prop where
 ok:∀ h,ca Γ h->ca Γ (lJ h)
instance:s8 []:=⟨fun _ _=>trivial⟩
instance {A:HP}{Γ:List HP} [a:xh A] [g:s8 Γ]:s8 (A::Γ):=⟨fun h=>by
 rintro⟨h1,C,d,s1,s2,D,I⟩;refine⟨lJ h1,lJ C,fun b=>?_,fun b o q=>?_,fun b o q=>?_,a.ok _ D,g.ok _ I⟩
 ·rcases d b with e|e
  ·left;simp[lJ,e]
  right;simp[lJ,e]
 ·have:=ya.1 q;exact ya.2 ⟨s1 b o this.1,this.2⟩
 have:=ya.1 q;exact ya.2 ⟨s2 b o this.1,this.2⟩⟩
instance {p:Addr}{t:TypeId}{cells:List Value}:xh (ak p t cells):=⟨fun h ⟨h1,q,A⟩=>⟨h1,q,ya.2 ⟨A,rfl⟩⟩⟩
instance {α:Type}{T:Ty α}{e:TypeId}{s:Value}{xs:List α}:xh (X T e s xs):=⟨fun h ⟨h1,q⟩=>by
 refine⟨?_,q⟩;rcases h1 with h1|⟨b,off,n,cap,pre,post,A,a2,a3,a4,a5,C,D⟩
 ·exact .inl h1
 exact .inr ⟨b,off,n,cap,pre,post,A,a2,a3,a4,a5,C,ya.2 ⟨D,rfl⟩⟩⟩
structure oF (w0 w:World) (Γ:List HP):Prop where
 below:Below w0.heap.size w0 w
 jM:ca Γ (lJ (eS w0 w))
def w8 (w0 L:World):HP:=fun h=>∀ b o,w0.heap.size<=b->L.heap[b]? = some o->o.isCells=false->h b=some o
def M.OD {w0 w:World}{Γ:List HP}[c:s8 Γ](h:M w0 w Γ):oF w0 w Γ:=⟨h.below,c.ok _ h.jM⟩
def oF.wP {w0 w:World}{Γ:List HP}(h:oF w0 w Γ):M w0 w Γ:=⟨h.below,h.jM.sub fun b o q=>(ya.1 q).1⟩
def oF.EK {w0:World}{row:Option Nat}{Γ:List HP}(hB:w0.heap.size<=B)(h:oF w0 L Γ)(I:L.grownBy W' row)(C:∀ r,row=some r->B<=r/\∃ o:Obj,L.heap[r]? = some o/\o.isCells=false):oF w0 W' Γ:=by
 have V:=h.below.size;refine⟨⟨h.below.os ▸ I.os,h.below.tape ▸ I.tape,h.below.output ▸ I.output,by have:=I.size;omega,fun k hk=>?_⟩,h.jM.sub fun b o hb=>?_⟩
 ·rw[I.block k U fun e=>by have:=(C k e.symm).1;omega];exact h.below.block k hk
 obtain⟨h1,D⟩:=ya.1 hb;refine ya.2 ⟨?_,D⟩;simp only[eS]at h1 ⊢;split at h1
 ·cases h1
 rename_i q;rw[aH q];have A:b<L.heap.size:=(kV.1 h1).1;rw[I.block b A fun e=>?_]
 ·exact h1
 obtain⟨_,o2,F,S⟩:=C b e.symm;rw[h1]at F;cases F;rw[D]at S;cases S
def oF.open {w0:World}{Γ:List HP}(h:oF w0 L Γ):M w0 L (w8 w0 L::Γ):=by
 refine⟨h.below,fun b=>(eS w0 L b).filter (fun o => !o.isCells),lJ (eS w0 L),fun b=>?_,fun b o q=>?_,fun b o q=>(ya.1 q).1,fun b o h1 A C=>?_,h.jM⟩
 ·show (eS w0 L b).filter _=none\/(eS w0 L b).filter _=none
  cases eS w0 L b with
  | none=>left;rfl
  | some x=>cases D:x.isCells<;>simp[Option.filter,D]
 ·cases hx:eS w0 L b with
  | none=>simp[hx]at q
  | some x =>
   simp only[hx,Option.filter]at q;split at q
   ·exact q
   cases q
 have:eS w0 L b=some o:=by simp only[eS];rw[aH U];exact A
 simp[this,Option.filter,C]
def M.BW {w0:World}{Γ:List HP}[c:s8 Γ](D:Below w0.heap.size w0 L)(h:M w0 W' (w8 w0 L::Γ))(A:L.heap.size<=W'.heap.size):oF w0 W' Γ/\KeepsOthers L W':=by
 refine⟨h.tail.OD,A,fun k o hk F=>?_⟩;rcases ns k w0.heap.size with q|C
 ·rw[h.below.block k q,<-D.block k q];exact hk
 obtain⟨h1,V,d,s1,s2,S,I⟩:=h.jM;have:=s1 k o (S k o C hk F);simp only[eS]at this
 rwa[aH U]at this
section
variable {P:Program}{Z:Array Oper}{K:Fr->World->Prop}{r:List Oper}{ρ:Fr}{w w0:World}{d:Nat}{ty:TypeId}{pos:String}{af:Array Edge}{x y z:Operand}{t t':TypeId}{Γ:List HP}{α:Type}
def Á {T:Ty α}(xs:List α)(vs:List Value){e len:Nat}{parts:List (Nat × Operand)}[S:bh P t e sz by_][Z':bn P e zs](hp:(parts.map fun p=>(p.1,aX ρ p.2))=(vs.zipIdx 0).map fun x=>(x.2,x.1))(hx:vs.flatMap (·.cells.toList)=xs.flatMap T.enc)(q:vs.all (fun v=>v.cells.size == sz)=true)(hlen:vs.length=len)(A:xs.length=len)(j':len*sz<=16777216)(F:0<len*sz)(V:len<=16777216)(Y:M w0 w Γ)(h:∀ s w',w.heap.size<=w'.heap.size->M w0 w' (X T e s xs::Γ)->opsW P Z K r (fa ρ d s) w'):opsW P Z K (⟨some d,.buildSlice t len parts.toArray,ty,pos,af,none⟩::r) ρ w:=by
 refine kW rfl ?_;obtain⟨zv,C,D⟩:=Z'.zero;have:(Array.map (fun x:Nat × Operand=>match x with|(i,x)=>(i,aX ρ x)) parts.toArray)=((vs.zipIdx 0).map fun x=>(x.2,x.1)).toArray:=by rw[<-hp];simp
 have h0:¬(len*sz=0):=U;have h1:¬(len*sz>2 ^ 24):=U;have hf:Instr.fill (fun i=>some (i*sz,sz)) ((Array.range (len*sz)).map (zs.toArray[· % zs.toArray.size]!)) ((vs.zipIdx 0).map fun x=>(x.2,x.1))=some (xs.flatMap T.enc).toArray:=by
  have:=Hb (sz:=sz) vs 0 [] ((Array.range (len*sz)).map (zs.toArray[· % zs.toArray.size]!)).toList (fun v hv=>by simpa using all_eq_true.1 q v hv) sm (by simp[hlen]);rw[hx]at this;simp only[kq,GG]at this;exact this
 simp only[opW,execOp,this,Instr.buildSlice,eR,run_underlying S.gI,eF,S.size,h1,if_false,h0,ga,D,C];rw[hf];simp only[eR,newRow,run_newObj,eF,ga,cn];exact h _ _ sm (z6 (e:=e) sm A (by unfold bT;omega) rfl Y)
def VD (T:Ty α){x1:α}{e:Nat}[S:bh P t e sz by_][Z':bn P e zs](C:aX ρ x=v)(hx:v.cells.toList=T.enc x1)(q:sz=T.sz)(D:sz<=16777216)(A:0<sz)(Y:M w0 w Γ)(h:∀ s w',w.heap.size<=w'.heap.size->M w0 w' (X T e s [x1]::Γ)->opsW P Z K r (fa ρ d s) w'):opsW P Z K (⟨some d,.buildSlice t 1 #[(0,x)],ty,pos,af,none⟩::r) ρ w:=by
 have F:v.cells.size=sz:=by
  have:=T.ok x1;rw[<-hx,<-q]at this
  simpa using this
 exact Á (parts:=[(0,x)]) [x1] [v] (by simp[C]) (by simp[hx]) (by simp[F]) rfl rfl U U U Y h
variable {T:Ty α}{s:Value}{xs:List α}
def VE {e:Nat}{s2:Value}{ys:List α}{put:HP->List HP}[S:bh P t e sz by_][Z':bn P e zs](O':gP Γ s α T e xs put)(hx:aX ρ x=s)(hy:aX ρ y=s2)(h2:RS T w s2 ys)(_b:sz=T.sz)(_c:zs.length=sz)(hone:∀ x∈ys,∀ v∈T.enc x,v.oneCell'=true)(hb:(xs.length+ys.length)*by_<=140737488355328)(hl:xs.length+ys.length<=bT)(Y:M w0 w Γ)(h:∀ s' w',w.heap.size<=w'.heap.size->M w0 w' (put (X T e s' (xs++ys)))->opsW P Z K r (fa ρ d s') w'):opsW P Z K (⟨some d,.call { callee:=.builtin .append,args:=#[x,y],argTypes:=#[t,t] },ty,pos,af,none⟩::r) ρ w:=by
 refine kW rfl ?_;subst _b;obtain⟨i,hi,hp⟩:=O'.mK.ok;simp only[hp]at h;obtain⟨bD,T',hs,_d⟩:=S.tZ;obtain⟨zv,_e,_f⟩:=Z'.zero;have h1:=Y.rs i hi;obtain⟨ph,_g,D⟩:=Y.at i hi;obtain⟨a2,_t,C⟩:=h2.shape;have A:∀ w':World,w'.heap=w.heap->(Builtin.firstCells T.sz ys.length s2).run P w'=.ok (ys.flatMap T.enc).toArray w':=fun w' P'=>D2 h2.1 h2.2.symm w' P';have F:∀ w':World,w'.heap=w.heap->(Builtin.firstCells T.sz xs.length s).run P w'=.ok (xs.flatMap T.enc).toArray w':=fun w' P'=>D2 h1.1 h1.2.symm w' P'
 have V:∀ (a:Option Addr) (cap:Nat),s=.slice a xs.length cap->cap<xs.length+ys.length ->
   (execOp (aX ρ) ⟨some d,.call { callee:=.builtin .append,args:=#[x,y],argTypes:=#[t,t] },ty,pos,af,none⟩).run P w =
   .ok (.value (.slice (some ⟨w.heap.size,0,none⟩) (xs.length+ys.length) (grownCap w (xs.length+ys.length) cap e))) (iJ w.drew (.cells ((xs.flatMap T.enc).toArray++(ys.flatMap T.enc).toArray++Builtin.zeroCells zs.toArray (grownCap w (xs.length+ys.length) cap e-(xs.length+ys.length))) e)):=by
  intro a cap H' q;have hn:¬(xs.length+ys.length<=cap):=U;have J':¬(9223372036854775807<((xs.length:Int)+(ys.length:Int))):=by unfold bT at hl;omega
  have V':=growslice_fits (bytes:=by_) q hb;have R':¬(281474976710656<Builtin.nextslicecap (xs.length+ys.length) cap*by_):=U;have hq:(Question.appendCap (xs.length+ys.length) cap e).forced=false:=rfl;rw[H']at F;rw[C]at A;simp[execOp,resolve,invoke,builtin,Builtin.append_,hx,hy,H',C,run_underlying S.gI,S.size,typeInfo,T',_d,Builtin.lenOf,hn,J',R',hq,F,A,_f,_e,grownCap];rw[F w.drew rfl];simp only[eF];rw[A w.drew rfl];have j':∀ (X' Y':List Value) (Z':Array Value),X'.toArray++(Y'.toArray++Z')=(X'++Y').toArray++Z':=fun X' Y' Z'=>by apply GH;simp only[J2,fG]
  simp only[newRow,eR,run_newObj,eF,ga];rw[j'];rfl
 simp only[opW];rcases D with ⟨D,hlen⟩;have J':∀ cap,cap<xs.length+ys.length->M w0 (iJ w.drew (.cells ((xs.flatMap T.enc).toArray++(ys.flatMap T.enc).toArray++Builtin.zeroCells zs.toArray (grownCap w (xs.length+ys.length) cap e-(xs.length+ys.length))) e)) (Γ.set i (X T e (.slice (some ⟨w.heap.size,0,none⟩) (xs.length+ys.length) (grownCap w (xs.length+ys.length) cap e)) (xs++ys))):=by
  intro cap q;have j':=grownCap_ge w (xs.length+ys.length) cap e;refine M.xe (w:=w.drew) Y.drew hi ⟨.inr ⟨w.heap.size,0,_,_,[],(Builtin.zeroCells zs.toArray (grownCap w (xs.length+ys.length) cap e-(xs.length+ys.length))).toList,rfl,rfl,by rw[T.len];simp,j',hl,?_,?_⟩,by simp[ee]⟩
  ·simp[size_zeroCells,_c]
  simp
 rcases D with ⟨rfl,_u⟩|⟨b,off,n,cap,pre,post,rfl,V',_h,_B,_v,_i,_j⟩
 ·simp only[ee]at hlen
  by_cases j':ys.length=0
  ·have H':=nY j'
   subst H';have hr:(execOp (aX ρ) ⟨some d,.call { callee:=.builtin .append,args:=#[x,y],argTypes:=#[t,t] },ty,pos,af,none⟩).run P w=.ok (.value (nS)) w:=by
    have q:=A w rfl;rw[C]at q;simp only[length_nil]at q;simp[execOp,resolve,invoke,builtin,Builtin.append_,hx,hy,C,run_underlying S.gI,S.size,Builtin.lenOf,q]
   rw[hr];refine h _ _ (cz _) ?_;have:xs=[]:=nY hlen;subst this;simp only[fI];rw[show Γ.set i (X T e (nS) [])=Γ from ?_]
   ·exact Y
   apply zS;intro k;rw[vq];split
   ·rename_i hk;subst hk;split
    ·rw[hi]
    rename_i hk;rw[uE U]
   rfl
  rw[V none 0 (by rw[hlen]) U];exact h _ _ (by simp[iJ]) (J' 0 U)
 simp only[ee]at hlen;subst hlen;by_cases j':xs.length+ys.length<=cap
 ·have q:=A w rfl
  rw[C]at q;have H':(xs.flatMap T.enc).length=xs.length*T.sz:=T.len xs;have R':(ys.flatMap T.enc).length=ys.length*T.sz:=T.len ys;have hm:xs.length*T.sz+ys.length*T.sz<=xs.length*T.sz+(cap-xs.length)*T.sz:=by
   have:ys.length*T.sz<=(cap-xs.length)*T.sz:=uF _ U;omega
  have _k:=xX (P:=P) (bt:=e) (ys.flatMap T.enc) (off+xs.length*T.sz) 0 (pre++xs.flatMap T.enc++post) w (by
   intro v hv;obtain⟨x',_a,_l⟩:=tm.1 hv
   exact hone x' _a v _l) (by simp only[length_append,H',R'];omega) (_g _ _ _j).1
  have hr:(execOp (aX ρ) ⟨some d,.call { callee:=.builtin .append,args:=#[x,y],argTypes:=#[t,t] },ty,pos,af,none⟩).run P w=.ok (.value (.slice (some ⟨b,off,none⟩) (xs.length+ys.length) cap)) (eP w b (.cells ((pre++xs.flatMap T.enc++post).take (off+xs.length*T.sz+0)++ys.flatMap T.enc++(pre++xs.flatMap T.enc++post).drop (off+xs.length*T.sz+0+(ys.flatMap T.enc).length)).toArray e (0,0))):=by
   simp only[execOp,resolve,invoke,builtin,Builtin.append_,hx,hy,C,eR,ga,eF,DG,l8,tD,run_underlying S.gI,S.size,Builtin.lenOf];simp[q,j',zN,run_underlying S.gI,Builtin.lenOf,S.size];rw[_k];simp
  rw[hr];have _l:(pre++xs.flatMap T.enc++post).take (off+xs.length*T.sz+0)=pre++xs.flatMap T.enc:=by
   rw[yk (by simp only[length_append,H'];omega)];exact gH (by simp only[length_append,H'];omega)
  have _m:(pre++xs.flatMap T.enc++post).drop (off+xs.length*T.sz+0+(ys.flatMap T.enc).length)=post.drop (ys.length*T.sz):=by
   rw[yD,qz (by simp only[length_append,H',R'];omega)];simp only[kq,length_append,H',R'];congr 1;omega
  rw[_l,_m];refine h _ _ (by simp[eP]) (M.iq i hi (M.put (Y.bJ i hi) fun h1 _w hA=>?_));rcases hA with ⟨hA,_⟩;rcases hA with ⟨hc,_⟩|⟨b1,_x,n1,_y,_z,_n,_o,_p,_q,_A,_r,_a,_s⟩
  ·cases hc
  cases _o;refine⟨⟨_,_s⟩,.inr ⟨b,off,xs.length+ys.length,cap,pre,post.drop (ys.length*T.sz),rfl,V',by rw[T.len,length_append],j',hl,?_,?_⟩,by simp[ee]⟩
  ·simp only[Bg]
   have:(cap-(xs.length+ys.length))*T.sz=(cap-xs.length)*T.sz-ys.length*T.sz:=by rw[<-DH];congr 1;omega
   omega
  simp[mN]
 rw[V _ cap rfl U];exact h _ _ (by simp[iJ]) (J' cap U)
end
section
variable {P:Program}
def Â {Z:Array Oper}{o:Oper}{r:List Oper}{K:Fr->World->Prop}{a:Act}{w:World}(C:∀ d,o.dst=some d->d<n)(S:a.tmps.size=n)(V:a.defers=ds)(h:opsW P Z K (o::r) (fr a) w):qC P Z o (fun A w'=>A.tmps.size=n/\A.defers=ds/\opsW P Z K r (fr A) w') a w:=by
 have D:∀ v,fr (a.put o.dst v)=io (fr a) o.dst v:=fun v=>wz fun t ht=>by rw[S];exact C t ht
 have q:∀ v w',opsW P Z K r (io (fr a) o.dst v) w'->(a.put o.dst v).tmps.size=n/\(a.put o.dst v).defers=ds/\opsW P Z K r (fr (a.put o.dst v)) w' :=
  fun v w' hk=>⟨by rw[eZ,S],by rw[zL,V],by rw[D];exact hk⟩
 have F:opV P o (fr a) w (opsW P Z K r)->gq P o a w fun A w'=>A.tmps.size=n/\A.defers=ds/\opsW P Z K r (fr A) w':=by
  intro h;unfold opV at h;unfold gq;split at h
  ·obtain⟨v,hv,hk⟩:=h
   unfold PureV at hv;rw[qZ]at hv;exact⟨v,hv,q _ _ hk⟩
  ·obtain⟨v,hv,hk⟩:=h
   unfold ReadV at hv;rw[qZ]at hv;exact⟨v,hv,q _ _ hk⟩
  unfold opW at h;rw[qZ]at h;exact uH (fun v w' hk=>q _ _ hk) h
 simp only[opsW]at h
 cases I:o.guard with
 | none =>
  simp only[I]at h;refine⟨fun _=>F h,fun Y=>?_⟩
  simp[Region.wanted,I]at Y
 | some g =>
  simp only[I]at h;unfold qC;rw[DT I];exact⟨fun Y=>F (h.1 Y),fun Y=>q _ _ (h.2 Y)⟩
def VF {ro:Option Nat}{m:Nat}{id:Nat}{Z:Array Oper}{K:Fr->World->Prop}{a:Act}{w:World}{Q:Exit->Act->World->Prop}(hQ:∀ a w,(a.tmps.size=n/\a.defers=ds/\K (fr a) w)->Q .normal a w)(q:iM n Z=true)(A:a.tmps.size=n)(C:a.defers=ds)(h:opsW P Z K Z.toList (fr a) w):(Code.region id Z false).wpIn (fw ro) m P Q a w:=by
 refine wpIn_region ?_
 have key:∀ (l:List Oper) (k:Nat) (a:Act) (w:World),(∀ j,l[j]? = Z[k+j]?)->k+l.length=Z.size->a.tmps.size=n->a.defers=ds->opsW P Z K l (fr a) w ->
   wpOpsIn (fw ro) m P Z Q ((range' k l.length)) a w:=by
  intro l
  induction l with
  | nil=>intro k a w _ _ A C h;exact hQ _ _ ⟨A,C,h⟩
  | cons o r ih =>
   intro k a w S hk A C h;have V:Z[k]? = some o:=by simpa using (S 0).symm
   have D:∀ d,o.dst=some d->d<n:=by
    intro d F;have:=wm.1 q o (yF V)
    simpa [F] using this
   simp only[length_cons,range'_succ];rw[wpOpsIn_cons];refine GR ?_;unfold oJ;rw[V];refine zW (fun u w' an => ?_) (Â D A C h);simp only[length_cons]at hk;exact ih (k+1) _ _ (fun j=>by have:=S (j+1);simpa [zT,GI 1 j] using this) U an.1 an.2.1 an.2.2
 have:=key Z.toList 0 a w sm sm A C h
 simpa [range_eq_range'] using this
end
end
section
section
variable {P:Program}{ρ:Fr}{w:World}
end
section
variable {P:Program}{ρ:Fr}{ty:TypeId}{pos:String}{af:Array Edge}{g:Option (Nat × Bool)}{dst:Option Nat}{x y:Operand}{t t':TypeId}
def Ã (w:World)(t:TypeId)(p:Option Addr)(h:P.underlying t=some (.pointer (P.pointee t))) :
  (Op.equal t (.pointer none) (.pointer p)).run P w=.ok p.isNone w:=by
 have key:∀ d,(Op.equalIn (d+1) t (.pointer none) (.pointer p)).run P w=.ok p.isNone w:=fun d=>by
  cases p<;>simp[Op.equalIn,run_underlying h]
 exact key 9999
def Ä {a:Option Addr}[T:mW P t](hx:aX ρ x=.pointer none)(q:aX ρ y=.pointer a):PureV P ⟨dst,.binOp .eql t x y t',ty,pos,af,g⟩ ρ (.bool a.isNone):=fun w=>by
 have h1:=Ã (P:=P) w t a T.gI;simp only[execOp,eqGuard,hx,q];simp only[binOp];simp[h1]
end
section
variable {w0 w:World}{Γ:List HP}{α:Type}{T:Ty α}{e:TypeId}{ss:List Value}{G:List (List α)}
def Å {q:List HP}{A:HP}(hi:q[i]? = some A)(D:ca q h):ca [A,ub (q.eraseIdx i)] h:=by
 obtain⟨h1,C,d,s1,s2,a,g⟩:=D.bJ i hi;exact⟨h1,C,d,s1,s2,a,C,fun _=>none,fun b=>.inr rfl,pY.refl _,(fun b o F=>by cases F),g,au⟩
def Æ {A:HP}(q:ca [A,ub Δ] h):ca (A::Δ) h:=by
 obtain⟨h1,C,d,s1,s2,a,F,S,d2,D,V,g,_⟩:=q;exact⟨h1,C,d,s1,s2,a,ca.sub D g⟩
def Ç (q:ss.length=G.length)(hi:i<G.length):(zipWith (X T e) ss G)[i]? = some (X T e (cF ss i) (G.getD i [])):=by
 simp[l9,zV,List.getD,kP (show i<ss.length by omega),kP hi]
def È {q:List α}(A:ss.length=G.length)(hi:i<G.length):(zipWith (X T e) ss G).set i (X T e (cF ss i) q)=zipWith (X T e) ss (G.set i q):=by
 apply zS;intro k;by_cases hk:i=k
 ·subst hk
  rw[Cw (by simp;omega),zV,Cw U,kP (show i<ss.length by omega)];simp[l9,List.getD,kP (show i<ss.length by omega)]
 rw[tn hk,zV,zV,tn hk]
def M.xE (hi:i<G.length)(h:M w0 w (ai T e ss G::Γ)):∃ Δ,M w0 w (X T e (cF ss i) (G.getD i [])::ub Δ::Γ)/\∀ {w':World}{q:List α}{A:List HP},M w0 w' (X T e (cF ss i) q::ub Δ::A)->M w0 w' (ai T e ss (G.set i q)::A):=by
 obtain⟨C,h1⟩:=h.vL;have D:=Ç (T:=T) (e:=e) C hi;refine⟨_,M.xB ((M.EO h1).mono fun g I=>Å D I),fun {w' q A} F=>?_⟩;refine M.pH (by simp[C]) ?_;rw[<-È C hi];exact M.xB ((M.EO (Δ:=[_,_]) F).mono fun g I=>ca.iq i D (Æ I))
end
section
variable {P:Program}{Z:Array Oper}{K:Fr->World->Prop}{r:List Oper}{ρ:Fr}{w w0:World}{ty:TypeId}{pos:String}{af:Array Edge}{x y:Operand}{t:TypeId}{Γ:List HP}
end
section
variable {P:Program}{ρ:Fr}{w:World}
end
section
variable {α:Type}{P:Program}{ρ:Fr}{w:World}{ty:TypeId}{pos:String}{af:Array Edge}{g:Option (Nat × Bool)}{dst:Option Nat}{x y:Operand}{t:TypeId}{κ:α->Value}
def RV [DecidableEq α]{k e:TypeId}{q:α}{A:Value}[M':vM P t k e][KT:wV P k κ][Z':qO P e A](hx:aX ρ x=.map none)(D:aX ρ y=κ q):ReadV P ⟨dst,.lookup t x y false,ty,pos,af,g⟩ ρ w A:=by
 have C:=KT.wW q [] [] rfl w;have F:iK q ([]:List (α × Value)) 0=none:=rfl;rw[F]at C;have S:(#[]:Array MapEntry).toList=[]:=rfl;simp only[ReadV,execOp,hx,D,Instr.lookup,eR,run_underlying M'.ok,eF,ga,KT.s7,S,C,Z'.run];rfl
end
end
end Go.Sl
