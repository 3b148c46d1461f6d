/- Several texts. -/
import Derived.Test.YtmapkjoefdgjfaaGreatDoorMW10
set_option linter.unusedSimpArgs false
set_option linter.unusedVariables false
set_option maxRecDepth 8000
set_option maxHeartbeats 16000000
open List Nat
namespace Go.Proofs.YtmapkjoefdgjfaaGreatDoor
section
open Go.Sl Go
attribute [local irreducible] vc opsW opsD opV opW PureV ReadV Thn Blk
def De (t:Aa) (L:List Int) (i:Nat):Prop:=∃ e∈(t.ops.getD i aO).aw,e.var∈L
instance (t:Aa) (L:List Int) (i:Nat):Decidable (De t L i):=by unfold De;infer_instance
end
section
open Go.Sl Go
theorem qjv {α:Type} [DecidableEq α] {l:List α}:∀ {m:List α},l.Nodup->(∀ x∈l,x∈m)->l.length<=m.length:=by
 induction l with
 | nil=>intro m _ _;simp
 | cons x l ih =>
  intro m hn hs;rw[nodup_cons]at hn;have hx:=hs x (by simp);have h1:=ih (m:=m.erase x) hn.2 fun y hy=>by
   have cY:y≠x:=fun e=>hn.1 (by rw[<-e];exact hy);exact(mem_erase_of_ne cY).2 (hs y (by simp[hy]))
  rw[length_erase_of_mem hx]at h1;have:=length_pos_of_mem hx;simp only[length_cons];omega
def mQ {α:Type}(g:α->Int) (l:List α) (n:Nat):Nat:=(l.filter fun s=>decide (0<=g s/\g s<n)).length
def atI {α:Type}(g:α->Int) (l:List α) (n:Nat):Nat:=(l.filter fun s=>decide (g s=n)).length
theorem qhq {α:Type}(g:α->Int) (n:Nat):∀ l:List α,mQ g l (n+1)=mQ g l n+atI g l n
 | []=>rfl
 | x::l=>by
  have ih:=qhq g n l;simp only[mQ,atI,filter_cons]at ih ⊢;by_cases h1:0<=g x/\g x<(n:Int)
  ·rw[if_pos (by simp;omega),if_pos (by simpa using h1),if_neg (by simp;omega)]
   simp only[length_cons];omega
  ·by_cases h2:g x=(n:Int)
   ·rw[if_pos (by simp;omega),if_neg (by simpa using h1),if_pos (by simpa using h2)]
    simp only[length_cons];omega
   ·rw[if_neg (by simp;omega),if_neg (by simpa using h1),if_neg (by simpa using h2)]
    exact ih
theorem quy (t:Aa) (p:List Int) (a:Nat) (op:Nat):(mb t p a op).length<=atI (bj t.vars p) (aB t.vars) a:=by
 have h1:=qjv (l:=mb t p a op) (m:=((aB t.vars).filter fun s=>decide (bj t.vars p s=(a:Int))).map fun s=>bj t.vars p (bm t s op)) ((qet _ _).imp fun h e=>by omega) fun b hb=>by
  obtain⟨_,s,hs,ha,_,hb⟩:=wx.1 hb;exact mem_map.2 ⟨s,mem_filter.2 ⟨qcC.2 hs,by simpa using ha⟩,hb⟩
 simpa [atI] using h1
theorem qo1 (t:Aa) (p:List Int) (a:Nat):∀ j,(gi t p a j).length<=j*atI (bj t.vars p) (aB t.vars) a
 | 0=>by simp[gi]
 | j+1=>by
  have h1:=qo1 t p a j;have h2:=quy t p a j;rw[qeE,length_append,qjf,succ_mul];omega
theorem qo2 (t:Aa) (p:List Int):∀ k,(fA t p k).length<=t.ops.length*mQ (bj t.vars p) (aB t.vars) k
 | 0=>by simp[fA]
 | k+1=>by
  have h1:=qo2 t p k;have h2:=qo1 t p k t.ops.length;rw[qeF,length_append,qhq,Nat.mul_add];omega
theorem qjw (t:Aa) (p:List Int):(aZ t p).length<=t.ops.length*(aB t.vars).length :=
 Nat.le_trans (qo2 t p _) (mul_le_mul_left _ (length_filter_le _ _))
theorem zD {t:Aa}{p:List Int}(h:AB t) (hp:A5 t.vars p):bM t p=0/\jg t p=0:=by
 have hc:=qgO.2 ⟨h.cr,hp.pat⟩;have h1:=zC h.cr.pos hp;have h2:=h.many;have h3:=qjw t p;have h4:(aB t.vars).length<=512:=by rw[uc h.cr.pos];omega
 have h5:t.ops.length*(aB t.vars).length<=20*512:=Nat.mul_le_mul h.ops h4;refine⟨?_,hc⟩;rw[qlP hc,gV,if_neg om,if_neg (qwo h.cr.pos om),if_neg om]
theorem qiD (t:Aa) (L:List Int):gD t L 0=cj t L:=if_pos rfl
theorem qpR (t:Aa) (L:List Int) (cv ev gv:Value):bN (cj t L) cv ev gv=.agg #[.int .i64 (aL t.vars L),.int .i64 (bj t.vars L t.init),cv,ev,gv]:=rfl
section
variable {t:Aa}{p q:List Int}
end
theorem getD_set_ne {l:List Int}{i j:Nat}{v:Int}(h:i≠j):(l.set i v).getD j aa.dflt=l.getD j aa.dflt:=by
 simp only[getD_eq_getElem?_getD];rw[getElem?_set_ne h]
section
variable {E:List Au}{c c':List Int}{G:Int->Prop}{n:Nat}{D D':List Int}{C:Int}
inductive Ba (E:List Au) (c:List Int) (G:Int->Prop) (S:List Int):Int->Int->Prop
 | goal {a:Int}:a∈S->G a->Ba E c G S a 0
 | step {e:Au}{k:Int}:e∈E->e.src∈S->Ba E c G S e.dst k->Ba E c G S e.src (fB c e+k)
def pY (a:Int) (S:List Int):List Int:=S.filter fun x=>decide (x≠a)
theorem qiK {a x:Int}{S:List Int}:x∈pY a S↔x∈S/\x≠a:=by simp[pY]
theorem qsL {a:Int}{S:List Int}(h:a∈S):(pY a S).length<S.length:=by
 unfold pY;rw[length_filter_lt_length_iff_exists];exact⟨a,h,by simp⟩
theorem qj5 (hE:BO E c n) {S:List Int}(a:Int) {x k:Int}(h:Ba E c G S x k) :
  Ba E c G (pY a S) x k\/G a\/∃ e k',e∈E/\e.src=a/\Ba E c G (pY a S) e.dst k'/\fB c e+k'<=k:=by
 induction h with
 | @goal b hb hg =>
  by_cases e:b=a
  ·subst e;exact .inr (.inl hg)
  ·exact .inl (.goal (qiK.2 ⟨hb,e⟩) hg)
 | @step e k he hs _ ih =>
  have hc:=(hE.fB he).1;rcases ih with ih|ih|⟨e',k',h1,h2,h3,h4⟩
  ·by_cases ea:e.src=a
   ·exact .inr (.inr ⟨e,k,he,ea,ih,Int.le_refl _⟩)
   ·exact .inl (.step he (qiK.2 ⟨hs,ea⟩) ih)
  ·exact .inr (.inl ih)
  ·exact .inr (.inr ⟨e',k',h1,h2,h3,by omega⟩)
theorem Ba.walk {S:List Int}{x k:Int}(h:Ba E c G S x k):x∈S/\Bt E c G x k:=by
 induction h with
 | goal h hg=>exact⟨h,.goal hg⟩
 | step he hs _ ih=>exact⟨hs,.step he ih.2⟩
theorem Bt.within (hE:BO E c n) {x k:Int}(h:Bt E c G x k):0<=x->x<n->Ba E c G (lT (n:Int)) x k:=by
 induction h with
 | goal hg=>intro h0 h1;exact .goal (qiz.2 ⟨h0,h1⟩) hg
 | step he _ ih=>intro h0 h1;have:=hE.dst _ he;exact .step he (qiz.2 ⟨h0,h1⟩) (ih this.1 this.2)
theorem qfq (hE:BO E c n) (h0:0<=C) (hC:∀ x∈c,x<=C):∀ (m:Nat) (S:List Int),S.length<=m->∀ x k,Ba E c G S x k->∃ k',k'<=k/\k'<=m*C/\Bt E c G x k'
 | 0,S,hl,x,k,h=>by
  have:=h.walk.1;have:S=[]:=eq_nil_of_length_eq_zero om
  subst this;simp at *
 | m+1,S,hl,x,k,h=>by
  have hx:=h.walk.1;have hk:=h.walk.2.y7 hE;have hm:0<=(m:Int)*C:=Int.mul_nonneg om h0;have e1:((m+1:Nat):Int)*C=(m:Int)*C+C:=by rw[Int.natCast_add,Int.add_mul];simp
  rcases qj5 hE x h with h1|h1|⟨e,k',he,hs,hw,hle⟩
  ·exact absurd rfl (qiK.1 h1.walk.1).2
  ·exact⟨0,hk,by omega,.goal h1⟩
  ·obtain⟨k2,a1,a2,a3⟩:=qfq hE h0 hC m (pY x S) (by have:=qsL hx;omega) _ _ hw
   have hc:fB c e<=C:=hC _ (bY aa.dflt (by have:=hE.bI e he;omega));exact⟨fB c e+k2,by omega,by omega,hs ▸ .step he a3⟩
theorem As.short (hE:BO E c n) (h0:0<=C) (hC:∀ x∈c,x<=C) (h:As E c G n D) {i:Nat}{k:Int}(hi:i<n) (hw:Bt E c G i k):dg D i<=n*C:=by
 obtain⟨k',_,h2,h3⟩:=qfq hE h0 hC n (lT (n:Int)) (by simp[lT]) _ _ (hw.within hE om om);exact Int.le_trans (h.low i hi _ h3) h2
theorem As.fin (hE:BO E c n) (h0:0<=C) (hC:∀ x∈c,x<=C) (hB:n*C<inf) (h:As E c G n D) {i:Nat}(hi:i<n):dg D i<inf↔∃ k,Bt E c G i k :=
 ⟨fun hl=>⟨_,h.sP i hi hl⟩,fun⟨_,hw⟩=>by have:=h.short hE h0 hC hi hw;omega⟩
theorem As.bound (hE:BO E c n) (h0:0<=C) (hC:∀ x∈c,x<=C) (h:As E c G n D) {i:Nat}(hi:i<n) (hl:dg D i<inf):dg D i<=n*C:=h.short hE h0 hC hi (h.sP i hi hl)
def iG (D l:List Int) (e:Au):List Int:=if dg D e.src<inf/\dg D e.dst<inf then l.set e.bI.toNat (if dg D e.src-dg D e.dst>fB l e then dg D e.src-dg D e.dst else fB l e) else l
def j5 (E:List Au) (D:List Int) (m k:Nat):List Int:=(E.take k).foldl (iG D) (replicate m 0)
def kI (E:List Au) (D:List Int) (m:Nat):List Int:=j5 E D m E.length
theorem qp3 (E:List Au) (D:List Int) (m:Nat):j5 E D m 0=replicate m 0:=rfl
theorem qgm {m k:Nat}(hk:k<E.length):j5 E D m (k+1)=iG D (j5 E D m k) (E.getD k ax.dflt):=by
 rw[j5,dJ ax.dflt hk,foldl_append];rfl
theorem qly (D l:List Int) (e:Au):(iG D l e).length=l.length:=by unfold iG;split<;>simp
theorem qiL {m:Nat}:∀ k,k<=E.length->(j5 E D m k).length=m
 | 0,_=>by simp[j5]
 | k+1,h=>by rw[qgm om,qly,qiL k om]
theorem qsM {m:Nat}:(kI E D m).length=m:=qiL _ (Nat.le_refl _)
structure B3 (E:List Au) (D:List Int) (m:Nat) (l:List Int):Prop where
 len:l.length=m
 nn:∀ i:Nat,i<m->0<=l.getD i aa.dflt
 low:∀ e∈E,dg D e.src<inf->dg D e.dst<inf->dg D e.src-dg D e.dst<=fB l e
 sP:∀ i:Nat,i<m->l.getD i aa.dflt=0\/∃ e∈E,e.bI=i/\dg D e.src<inf/\dg D e.dst<inf/\l.getD i aa.dflt=dg D e.src-dg D e.dst
theorem qp4 {m:Nat}(tH:∀ e∈E,0<=e.bI/\e.bI<m):∀ k,k<=E.length->B3 (E.take k) D m (j5 E D m k)
 | 0,_=>⟨by simp[j5],fun i hi=>by simp[j5,List.getD,hi],fun e he=>by simp at he,fun i hi=>.inl (by simp[j5,List.getD,hi])⟩
 | k+1,h=>by
  have hk:k<E.length:=by omega
  obtain⟨h1,h2,h3,h4⟩:=qp4 tH k om;have he:=bY ax.dflt hk;have hl:=tH _ he;rw[qgm hk,dJ ax.dflt hk];generalize j5 E D m k=l at h1 h2 h3 h4;generalize E.getD k ax.dflt=e at he hl;have hg:∀ (i:Int) (v:Int),0<=i->(l.set e.bI.toNat v).getD i.toNat aa.dflt=if i=e.bI then v else l.getD i.toNat aa.dflt:=fun i v hi=>qhK hi hl.1 om
  unfold iG;split
  ·rename_i hf
   have oC:∀ i:Int,0<=i->l.getD i.toNat aa.dflt<=(l.set e.bI.toNat (if dg D e.src-dg D e.dst>fB l e then dg D e.src-dg D e.dst else fB l e)).getD i.toNat aa.dflt:=by
    intro i hi;rw[hg i _ hi];split
    ·rename_i ei;subst ei;show fB l e<=_;split<;>omega
    ·exact Int.le_refl _
   refine⟨by rw[length_set];exact h1,fun i hi=>?_,fun e' nD a b=>?_,fun i hi=>?_⟩
   ·have:=oC i om;rw[Int.toNat_natCast]at this;have:=h2 i hi;omega
   ·rcases mem_append.1 nD with nD|nD
    ·have rS:=tH e' (mem_of_mem_take nD)
     exact Int.le_trans (h3 e' nD a b) (oC e'.bI rS.1)
    ·rw[mem_singleton.1 nD]
     show _<=(l.set e.bI.toNat _).getD e.bI.toNat aa.dflt;rw[hg _ _ hl.1,if_pos rfl];split<;>omega
   ·have hgi:=hg i (if dg D e.src-dg D e.dst>fB l e then dg D e.src-dg D e.dst else fB l e) om
    rw[Int.toNat_natCast]at hgi;rw[hgi];split
    ·rename_i ei
     split
     ·exact .inr ⟨e,by simp,ei.symm,hf.1,hf.2,rfl⟩
     ·have e1:fB l e=l.getD i aa.dflt:=by show l.getD e.bI.toNat aa.dflt=_;rw[<-ei];rfl
      rw[e1];rcases h4 i hi with h|⟨e',a,b⟩
      ·exact .inl h
      ·exact .inr ⟨e',mem_append_left _ a,b⟩
    ·rcases h4 i hi with h|⟨e',a,b⟩
     ·exact .inl h
     ·exact .inr ⟨e',mem_append_left _ a,b⟩
  ·rename_i hf
   refine⟨h1,h2,fun e' nD a b=>?_,fun i hi=>?_⟩
   ·rcases mem_append.1 nD with nD|nD
    ·exact h3 e' nD a b
    ·rw[mem_singleton.1 nD]at a b;exact absurd ⟨a,b⟩ hf
   ·rcases h4 i hi with h|⟨e',a,b⟩
    ·exact .inl h
    ·exact .inr ⟨e',mem_append_left _ a,b⟩
theorem qp5 {m:Nat}(tH:∀ e∈E,0<=e.bI/\e.bI<m):B3 E D m (kI E D m):=by
 have:=qp4 (D:=D) tH E.length (Nat.le_refl _)
 rwa[take_length]at this
theorem B3.le {l:List Int}(hE:BO E c n) (hd:As E c G n D) (hs:B3 E D c.length l) {i:Nat}(hi:i<c.length):0<=l.getD i aa.dflt/\l.getD i aa.dflt<=c.getD i aa.dflt:=by
 refine⟨hs.nn i hi,?_⟩;rcases hs.sP i hi with h|⟨e,he,hl,h1,h2,h3⟩
 ·rw[h];exact(hE.cost _ (bY _ hi)).1
 ·rw[h3]
  have:=hd.qw6 hE he h2;have e1:fB c e=c.getD i aa.dflt:=by show c.getD e.bI.toNat aa.dflt=_;rw[hl];rfl
  omega
end
theorem qv1 {t:Aa}{L c D:List Int}(hL:A5 t.vars L) (h:As (aZ t L) c (AG t L) (aL t.vars L).toNat D) {s:List Int}(hs:Ac t.vars s) (hh:Aq s t.goal):dg D (bj t.vars L s)=0:=by
 have hb:=k9 hs hL.mem;have:=h.goal (i:=(bj t.vars L s).toNat) om (by rw[Int.toNat_of_nonneg hb.1];exact qpd hL hs hh)
 rwa[Int.toNat_of_nonneg hb.1]at this
theorem qiM {t:Aa}{L c D:List Int}(hL:A5 t.vars L) (h:As (aZ t L) c (AG t L) (aL t.vars L).toNat D) {s:List Int}(hs:Ac t.vars s):0<=dg D (bj t.vars L s)/\dg D (bj t.vars L s)<=inf:=by
 have hb:=k9 hs hL.mem;have:=h.cC (bj t.vars L s).toNat om
 rwa[Int.toNat_of_nonneg hb.1]at this
end
end Go.Proofs.YtmapkjoefdgjfaaGreatDoor
