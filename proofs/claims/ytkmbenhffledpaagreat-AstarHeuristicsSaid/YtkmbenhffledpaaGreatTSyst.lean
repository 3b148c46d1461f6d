/-
  The systematic patterns, in plain Lean: the causal graph's arcs, connected patterns, nested loops.
-/
import Derived.Test.YtkmbenhffledpaaGreatTPat
set_option linter.unusedSimpArgs false
set_option linter.unusedVariables false
namespace Go.Proofs.YtkmbenhffledpaaGreat
open Go.Sl
def seg {α:Type}(g:Nat→List α) (lo hi:Nat):List α:=(List.range' lo (hi-lo)).flatMap g
theorem qbI {α:Type}{g:Nat→List α}{lo hi:Nat}(h:hi≤lo):seg g lo hi=[]:=by
 unfold seg;rw [show hi-lo=0 by omega];rfl
theorem qaN {α:Type}{g:Nat→List α}{lo hi:Nat}(h:lo≤hi):seg g lo (hi+1)=seg g lo hi++g hi:=by
 unfold seg
 rw [show hi+1-lo=hi-lo+1 by omega,List.range'_concat,List.flatMap_append]
 simp [show lo+(hi-lo)=hi by omega]
theorem qgD {α:Type}{g:Nat→List α}{lo hi:Nat}{x:α}:x∈seg g lo hi↔∃ k,lo≤k∧k<hi∧x∈g k:=by
 unfold seg
 simp only [List.mem_flatMap,List.mem_range'_1]
 constructor
 ·rintro⟨k,hk,hx⟩;exact⟨k,hk.1,by omega,hx⟩
 ·rintro⟨k,h1,h2,hx⟩;exact⟨k,⟨h1,by omega⟩,hx⟩
theorem qbA {α:Type}{g g':Nat→List α}{lo hi:Nat}(h:∀ k,lo≤k→k<hi→g k=g' k):seg g lo hi=seg g' lo hi:=by
 unfold seg
 have key:∀ l:List Nat,(∀ k∈l,g k=g' k)→l.flatMap g=l.flatMap g':=by
  intro l
  induction l with
  | nil=>intro _;rfl
  | cons x l ih=>intro hl;rw [List.flatMap_cons,List.flatMap_cons,hl x List.mem_cons_self,ih fun k hk=>hl k (List.mem_cons_of_mem _ hk)]
 exact key _ fun k hk=>by
  rw [List.mem_range'_1] at hk
  exact h k hk.1 (by omega)
theorem qb9 {α:Type}{g:Nat→List α}{lo hi:Nat}(p:α→Bool):(seg g lo hi).filter p=seg (fun k=>(g k).filter p) lo hi:=by
 unfold seg
 generalize List.range' lo (hi-lo)=l
 induction l with
 | nil=>rfl
 | cons x l ih=>rw [List.flatMap_cons,List.flatMap_cons,List.filter_append,ih]
theorem qdT {α β:Type}{g:Nat→List α}{lo hi:Nat}(f:α→List β):(seg g lo hi).flatMap f=seg (fun k=>(g k).flatMap f) lo hi:=by
 unfold seg
 rw [List.flatMap_assoc]
theorem qk1 {α:Type}{g:Nat→List α}{lo b:Nat}(hb:∀ k,(g k).length≤b):∀ {hi:Nat},(seg g lo hi).length≤(hi-lo)*b
 | 0=>by rw [qbI (Nat.zero_le _)];exact Nat.zero_le _
 | hi+1=>by
  by_cases h:lo≤hi
  ·have ih:=qk1 (g:=g) (lo:=lo) hb (hi:=hi)
   have:=hb hi
   rw [qaN h,List.length_append,show hi+1-lo=hi-lo+1 by omega,Nat.succ_mul]
   omega
  ·rw [qbI (by omega)];exact Nat.zero_le _
def hasV (l:List Fact) (u:Int):Prop:=∃ f∈l,f.var=u
def arcO (o:TOp) (u v:Int):Prop:=∃ e∈o.effs,e.var=v∧(hasV o.pre u∨hasV e.when u∨∃ d∈o.effs,d.var=u)
def arcT (t:TTask) (u v:Int):Prop:=u≠v∧∃ op,op<t.ops.length∧arcO (t.ops.getD op dOp) u v
def nearT (t:TTask) (u v:Int):Prop:=arcT t u v∨arcT t v u
theorem nearT.symm {t:TTask}{u v:Int}(h:nearT t u v):nearT t v u:=Or.symm h
def goalP (t:TTask) (p:List Int):Prop:=∃ v∈p,∃ f∈t.goal,f.var=v
inductive CR (t:TTask) (p:List Int):Nat→Prop
 | base:CR t p 0
 | step {i j:Nat}:CR t p i→i<p.length→j<p.length→nearT t (p.getD i tInt.dflt) (p.getD j tInt.dflt)→CR t p j
def connP (t:TTask) (p:List Int):Prop:=∀ i,i<p.length→CR t p i
theorem qrE {t:TTask}{a:Int}:connP t [a]:=fun i hi=>by
 have:i=0:=by simpa using hi
 subst this;exact .base
theorem qrF {t:TTask}{a b:Int}:connP t [a,b]↔nearT t a b:=by
 constructor
 ·intro h
  have key:∀ j,CR t [a,b] j→j=1→nearT t a b:=by
   intro j hj
   induction hj with
   | base=>intro h;cases h
   | @step i j _ hi hj hn ih =>
    intro hj1
    subst hj1
    have:i=0∨i=1:=by simp at hi;omega
    rcases this with rfl|rfl
    ·exact hn
    ·exact ih rfl
  exact key 1 (h 1 (by simp)) rfl
 ·intro h i hi
  have:i=0∨i=1:=by simp at hi;omega
  rcases this with rfl|rfl
  ·exact .base
  ·exact .step .base (by simp) (by simp) h
theorem qnd {t:TTask}{a b c:Int}:connP t [a,b,c]↔(nearT t a b∧nearT t b c)∨(nearT t a b∧nearT t a c)∨(nearT t a c∧nearT t b c):=by
 constructor
 ·intro h
  by_cases hab:nearT t a b
  ·by_cases hbc:nearT t b c
   ·exact .inl ⟨hab,hbc⟩
   ·by_cases hac:nearT t a c
    ·exact .inr (.inl ⟨hab,hac⟩)
    ·exfalso
     have key:∀ j,CR t [a,b,c] j→j≠2:=by
      intro j hj
      induction hj with
      | base=>decide
      | @step i j _ hi hj hn ih =>
       rintro rfl
       have:i=0∨i=1:=by simp at hi;omega
       rcases this with rfl|rfl
       ·exact hac hn
       ·exact hbc hn
     exact key 2 (h 2 (by simp)) rfl
  ·by_cases hac:nearT t a c
   ·by_cases hbc:nearT t b c
    ·exact .inr (.inr ⟨hac,hbc⟩)
    ·exfalso
     have key:∀ j,CR t [a,b,c] j→j≠1:=by
      intro j hj
      induction hj with
      | base=>decide
      | @step i j _ hi hj hn ih =>
       rintro rfl
       have:i=0∨i=2:=by simp at hi;omega
       rcases this with rfl|rfl
       ·exact hab hn
       ·exact hbc hn.symm
     exact key 1 (h 1 (by simp)) rfl
   ·exfalso
    have key:∀ j,CR t [a,b,c] j→j=0:=by
     intro j hj
     induction hj with
     | base=>rfl
     | @step i j _ hi hj hn ih =>
      subst ih
      have:j=0∨j=1∨j=2:=by simp at hj;omega
      rcases this with rfl|rfl|rfl
      ·rfl
      ·exact absurd hn hab
      ·exact absurd hn hac
    have:=key 1 (h 1 (by simp))
    omega
 ·intro h i hi
  have:i=0∨i=1∨i=2:=by simp at hi;omega
  have s01:nearT t a b→CR t [a,b,c] 1:=fun h=>.step .base (by simp) (by simp) h
  have s02:nearT t a c→CR t [a,b,c] 2:=fun h=>.step .base (by simp) (by simp) h
  rcases this with rfl|rfl|rfl
  ·exact .base
  ·rcases h with h|h|h
   ·exact s01 h.1
   ·exact s01 h.1
   ·exact .step (s02 h.1) (by simp) (by simp) h.2.symm
  ·rcases h with h|h|h
   ·exact .step (s01 h.1) (by simp) (by simp) h.2
   ·exact s02 h.2
   ·exact s02 h.1
def sysP (t:TTask) (p:List Int):Prop:=goalP t p∧connP t p
open Classical in
noncomputable def ifP (t:TTask) (p:List Int):List (List Int):=if sysP t p then [p] else []
theorem qpD {t:TTask}{p:List Int}(h:sysP t p):ifP t p=[p]:=if_pos h
theorem qk2 {t:TTask}{p:List Int}(h:¬sysP t p):ifP t p=[]:=if_neg h
noncomputable def s1K (t:TTask) (k:Nat):List (List Int):=seg (fun a=>ifP t [(a:Int)]) 0 k
noncomputable def s2B (t:TTask) (a k:Nat):List (List Int):=seg (fun b=>ifP t [(a:Int),(b:Int)]) (a+1) k
noncomputable def s2K (t:TTask) (n k:Nat):List (List Int):=seg (fun a=>s2B t a n) 0 k
noncomputable def s3C (t:TTask) (a b k:Nat):List (List Int):=seg (fun c=>ifP t [(a:Int),(b:Int),(c:Int)]) (b+1) k
noncomputable def s3B (t:TTask) (n a k:Nat):List (List Int):=seg (fun b=>s3C t a b n) (a+1) k
noncomputable def s3K (t:TTask) (n k:Nat):List (List Int):=seg (fun a=>s3B t n a n) 0 k
def frstP (p:List Int):Nat:=(p.getLastD (-1)+1).toNat
def grR (n:Nat) (p:List Int) (k:Nat):List (List Int):=seg (fun v=>[p++[(v:Int)]]) (frstP p) k
def grL (n:Nat):Nat→List (List Int)
 | 0=>[[]]
 | m+1=>(grL n m).flatMap fun p=>grR n p n
open Classical in
noncomputable def sysK (t:TTask) (m:Nat):List (List Int):=(grL t.vars.length m).filter fun p=>decide (sysP t p)
noncomputable def sysL (t:TTask) (k:Nat):List (List Int):=seg (fun m=>sysK t m) 1 (k+1)
theorem qpE (n:Nat):grL n 1=seg (fun v=>[[(v:Int)]]) 0 n:=by
 show (grL n 0).flatMap _=_
 rw [grL,List.flatMap_cons,List.flatMap_nil,List.append_nil]
 rfl
theorem qdU (p:List Int) (a:Nat):frstP (p++[(a:Int)])=a+1:=by
 unfold frstP
 rw [List.getLastD_concat]
 omega
theorem qne (a:Nat):frstP [(a:Int)]=a+1:=qdU [] a
theorem qnf (a b:Nat):frstP [(a:Int),(b:Int)]=b+1:=qdU [(a:Int)] b
theorem qpF (n:Nat):grL n 2=seg (fun a=>seg (fun b=>[[(a:Int),(b:Int)]]) (a+1) n) 0 n:=by
 show (grL n 1).flatMap _=_
 rw [qpE,qdT]
 refine qbA fun a _ _ => ?_
 rw [List.flatMap_cons,List.flatMap_nil,List.append_nil]
 unfold grR
 rw [qne]
 rfl
theorem qpG (n:Nat):grL n 3=seg (fun a=>seg (fun b=>seg (fun c=>[[(a:Int),(b:Int),(c:Int)]]) (b+1) n) (a+1) n) 0 n:=by
 show (grL n 2).flatMap _=_
 rw [qpF,qdT]
 refine qbA fun a _ _ => ?_
 rw [qdT]
 refine qbA fun b _ _ => ?_
 rw [List.flatMap_cons,List.flatMap_nil,List.append_nil]
 unfold grR
 rw [qnf]
 rfl
open Classical in
theorem qgE (t:TTask) (p:List Int):([p]:List (List Int)).filter (fun p=>decide (sysP t p))=ifP t p:=by
 unfold ifP
 by_cases h:sysP t p
 ·rw [if_pos h];simp [h]
 ·rw [if_neg h];simp [h]
theorem qiW (t:TTask):sysK t 1=s1K t t.vars.length:=by
 unfold sysK s1K
 rw [qpE,qb9]
 exact qbA fun a _ _=>qgE t _
theorem qiX (t:TTask):sysK t 2=s2K t t.vars.length t.vars.length:=by
 unfold sysK s2K s2B
 rw [qpF,qb9]
 refine qbA fun a _ _ => ?_
 rw [qb9]
 exact qbA fun b _ _=>qgE t _
theorem qeW (t:TTask):sysK t 3=s3K t t.vars.length t.vars.length:=by
 unfold sysK s3K s3B s3C
 rw [qpG,qb9]
 refine qbA fun a _ _ => ?_
 rw [qb9]
 refine qbA fun b _ _ => ?_
 rw [qb9]
 exact qbA fun c _ _=>qgE t _
theorem qrG (t:TTask):sysL t 1=sysK t 1:=by
 unfold sysL;rw [qaN (by decide),qbI (by decide),List.nil_append]
theorem qrH (t:TTask):sysL t 2=sysK t 1++sysK t 2:=by
 unfold sysL;rw [qaN (by decide),qaN (by decide),qbI (by decide),List.nil_append]
theorem qng (t:TTask):sysL t 3=sysK t 1++sysK t 2++sysK t 3:=by
 unfold sysL;rw [qaN (by decide),qaN (by decide),qaN (by decide),qbI (by decide),List.nil_append]
theorem qpH:∀ n,n<13→(grL n 1).length≤12∧(grL n 2).length≤66∧(grL n 3).length≤220:=by decide +kernel
theorem qfA {t:TTask}(m:Nat):(sysK t m).length≤(grL t.vars.length m).length:=List.length_filter_le _ _
theorem qgF {t:TTask}(hn:t.vars.length≤12):(sysK t 1).length≤12∧(sysK t 2).length≤66∧(sysK t 3).length≤220:=by
 have h:=qpH t.vars.length (by omega)
 have h1:=qfA (t:=t) 1
 have h2:=qfA (t:=t) 2
 have h3:=qfA (t:=t) 3
 exact⟨by omega,by omega,by omega⟩
theorem qdB {α:Type}{g:Nat→List α}{lo hi hi':Nat}(h:hi≤hi'):(seg g lo hi).length≤(seg g lo hi').length:=by
 induction hi' with
 | zero=>rw [show hi=0 by omega];exact Nat.le_refl _
 | succ m ih =>
  by_cases e:hi=m+1
  ·rw [e];exact Nat.le_refl _
  ·have:=ih (by omega)
   by_cases hl:lo≤m
   ·rw [qaN hl,List.length_append];omega
   ·rw [qbI (by omega)];exact Nat.zero_le _
theorem qiY {α:Type}{g:Nat→List α}{lo a hi:Nat}(h0:lo≤a) (h:a<hi):(seg g lo a).length+(g a).length≤(seg g lo hi).length:=by
 have:=qdB (g:=g) (lo:=lo) (show a+1≤hi from h)
 rw [qaN h0,List.length_append] at this
 exact this
theorem qpI {t:TTask}(hn:t.vars.length≤12) {k:Nat}(hk:k≤t.vars.length):(s1K t k).length≤12:=by
 have:=(qgF hn).1
 rw [qiW] at this
 have:=qdB (g:=fun a=>ifP t [(a:Int)]) (lo:=0) hk
 unfold s1K at *
 omega
theorem qsj {t:TTask}(hn:t.vars.length≤12) {a b:Nat}(ha:a<t.vars.length) (hb:b≤t.vars.length):(s2K t t.vars.length a).length+(s2B t a b).length≤66:=by
 have h:=(qgF hn).2.1
 rw [qiX] at h
 have h1:=qiY (g:=fun a=>s2B t a t.vars.length) (lo:=0) (Nat.zero_le a) ha
 have h2:=qdB (g:=fun b=>ifP t [(a:Int),(b:Int)]) (lo:=a+1) hb
 unfold s2K at *
 unfold s2B at *
 omega
theorem qtw {t:TTask}(hn:t.vars.length≤12) {a b c:Nat}(ha:a<t.vars.length) (hab:a+1≤b) (hb:b<t.vars.length) (hc:c≤t.vars.length):(s3K t t.vars.length a).length+(s3B t t.vars.length a b).length+(s3C t a b c).length≤220:=by
 have h:=(qgF hn).2.2
 rw [qeW] at h
 have h1:=qiY (g:=fun a=>s3B t t.vars.length a t.vars.length) (lo:=0) (Nat.zero_le a) ha
 have h2:=qiY (g:=fun b=>s3C t a b t.vars.length) (lo:=a+1) hab hb
 have h3:=qdB (g:=fun c=>ifP t [(a:Int),(b:Int),(c:Int)]) (lo:=b+1) hc
 unfold s3K at *
 unfold s3B at *
 unfold s3C at *
 omega
structure MI (M:List (List Bool)) (n:Nat) (Q:Nat→Nat→Prop):Prop where
 len:M.length=n
 row:∀ v,v<n→(M.getD v []).length=n
 at_:∀ v u,v<n→u<n→((M.getD v []).getD u false=true↔Q v u)
def setM (M:List (List Bool)) (v u:Nat) (b:Bool):List (List Bool):=M.set v ((M.getD v []).set u b)
theorem qcg {α:Type}{l:List α}{i j:Nat}{x d:α}:(l.set i x).getD j d=if i=j∧j<l.length then x else l.getD j d:=by
 simp only [List.getD,List.getElem?_set]
 by_cases h:i=j
 ·subst h
  by_cases h2:i<l.length
  ·simp [h2]
  ·simp [h2]
 ·simp [h]
theorem MI.congr {M:List (List Bool)}{n:Nat}{Q Q':Nat→Nat→Prop}(h:MI M n Q) (e:∀ v u,v<n→u<n→(Q v u↔Q' v u)):MI M n Q':=⟨h.len,h.row,fun v u hv hu=>(h.at_ v u hv hu).trans (e v u hv hu)⟩
theorem MI.setT {M:List (List Bool)}{n:Nat}{Q:Nat→Nat→Prop}(h:MI M n Q) {v u:Nat}(hv:v<n) (hu:u<n):MI (setM M v u true) n (fun x y=>Q x y∨(x=v∧y=u)):=by
 refine⟨by simp [setM,h.len],fun x hx => ?_,fun x y hx hy => ?_⟩
 ·rw [setM,qcg]
  split
  ·rw [List.length_set];exact h.row v hv
  ·exact h.row x hx
 ·rw [setM,qcg]
  by_cases e:v=x
  ·subst e
   rw [if_pos ⟨rfl,by rw [h.len];exact hv⟩,qcg]
   by_cases e2:u=y
   ·subst e2
    rw [if_pos ⟨rfl,by rw [h.row v hv];exact hu⟩]
    simp
   ·rw [if_neg (by simp [e2]),h.at_ v y hv hy]
    exact⟨.inl,fun hh=>hh.elim id fun hh=>absurd hh.2.symm e2⟩
  ·rw [if_neg (by simp [e]),h.at_ x y hx hy]
   exact⟨.inl,fun hh=>hh.elim id fun hh=>absurd hh.1.symm e⟩
theorem MI.setF {M:List (List Bool)}{n:Nat}{Q:Nat→Nat→Prop}(h:MI M n Q) {v u:Nat}(hv:v<n) (hu:u<n):MI (setM M v u false) n (fun x y=>Q x y∧¬(x=v∧y=u)):=by
 refine⟨by simp [setM,h.len],fun x hx => ?_,fun x y hx hy => ?_⟩
 ·rw [setM,qcg]
  split
  ·rw [List.length_set];exact h.row v hv
  ·exact h.row x hx
 ·rw [setM,qcg]
  by_cases e:v=x
  ·subst e
   rw [if_pos ⟨rfl,by rw [h.len];exact hv⟩,qcg]
   by_cases e2:u=y
   ·subst e2
    rw [if_pos ⟨rfl,by rw [h.row v hv];exact hu⟩]
    simp
   ·rw [if_neg (by simp [e2]),h.at_ v y hv hy]
    exact⟨fun hh=>⟨hh,fun hh=>e2 hh.2.symm⟩,fun hh=>hh.1⟩
  ·rw [if_neg (by simp [e]),h.at_ x y hx hy]
   exact⟨fun hh=>⟨hh,fun hh=>e hh.1.symm⟩,fun hh=>hh.1⟩
theorem MI.rep (n:Nat):MI (List.replicate n (List.replicate n false)) n (fun _ _=>False):=by
 refine⟨List.length_replicate,fun v hv => ?_,fun v u hv hu => ?_⟩
 ·have e:(List.replicate n (List.replicate n false)).getD v []=List.replicate n false:=by rw [List.getD_eq_getElem?_getD,List.getElem?_replicate,if_pos hv];rfl
  rw [e,List.length_replicate]
 ·have e:(List.replicate n (List.replicate n false)).getD v []=List.replicate n false:=by rw [List.getD_eq_getElem?_getD,List.getElem?_replicate,if_pos hv];rfl
  rw [e]
  simp [List.getD_eq_getElem?_getD,List.getElem?_replicate,hu]
def mkR (n k:Nat):List (List Bool):=(List.range n).map fun i=>if i<k then List.replicate n false else []
theorem qpJ (n k:Nat):(mkR n k).length=n:=by simp [mkR]
theorem qmr (n:Nat):mkR n 0=List.replicate n []:=by
 apply List.ext_getElem (by simp [mkR])
 intro i h1 h2;simp [mkR]
theorem qpK (n:Nat):mkR n n=List.replicate n (List.replicate n false):=by
 apply List.ext_getElem (by simp [mkR])
 intro i h1 h2
 have:i<n:=by simpa [mkR] using h1
 simp [mkR,this]
theorem qpL {n k:Nat}:(mkR n k).set k (List.replicate n false)=mkR n (k+1):=by
 apply List.ext_getElem (by simp [mkR])
 intro i h1 h2
 rw [List.getElem_set]
 simp only [mkR,List.getElem_map,List.getElem_range]
 split
 ·rename_i e;subst e;rw [if_pos (by omega)]
 ·by_cases h:i<k
  ·rw [if_pos h,if_pos (by omega)]
  ·rw [if_neg h,if_neg (by omega)]
structure VI (L:List Bool) (n:Nat) (Q:Nat→Prop):Prop where
 len:L.length=n
 at_:∀ u,u<n→(L.getD u false=true↔Q u)
theorem VI.rep (n:Nat):VI (List.replicate n false) n (fun _=>False):=⟨List.length_replicate,fun u hu=>by simp [List.getD_eq_getElem?_getD,List.getElem?_replicate,hu]⟩
theorem VI.congr {L:List Bool}{n:Nat}{Q Q':Nat→Prop}(h:VI L n Q) (e:∀ u,u<n→(Q u↔Q' u)):VI L n Q':=⟨h.len,fun u hu=>(h.at_ u hu).trans (e u hu)⟩
theorem VI.setT {L:List Bool}{n:Nat}{Q:Nat→Prop}(h:VI L n Q) {u:Nat}(hu:u<n):VI (L.set u true) n (fun y=>Q y∨y=u):=by
 refine⟨by rw [List.length_set];exact h.len,fun y hy => ?_⟩
 rw [qcg]
 by_cases e:u=y
 ·subst e
  rw [if_pos ⟨rfl,by rw [h.len];exact hu⟩];simp
 ·rw [if_neg (by simp [e]),h.at_ y hy]
  exact⟨.inl,fun hh=>hh.elim id fun hh=>absurd hh.symm e⟩
noncomputable def arcRow (t:TTask) (u k:Nat):List Arc:=open Classical in seg (fun v=>if arcT t (u:Int) (v:Int) then [⟨(u:Int),(v:Int),1⟩] else []) 0 k
noncomputable def arcAll (t:TTask) (k:Nat):List Arc:=seg (fun u=>arcRow t u t.vars.length) 0 k
theorem qdC {t:TTask}{a:Arc}:a∈arcAll t t.vars.length↔∃ u v:Nat,u<t.vars.length∧v<t.vars.length∧arcT t (u:Int) (v:Int)∧a=⟨(u:Int),(v:Int),1⟩:=by
 unfold arcAll arcRow
 rw [qgD]
 constructor
 ·rintro⟨u,_,hu,h⟩
  obtain⟨v,_,hv,h⟩:=qgD.1 h
  split at h
  ·rename_i hh;exact⟨u,v,hu,hv,hh,List.mem_singleton.1 h⟩
  ·simp at h
 ·rintro⟨u,v,hu,hv,hh,rfl⟩
  exact⟨u,Nat.zero_le _,hu,qgD.2 ⟨v,Nat.zero_le _,hv,by rw [if_pos hh];exact List.mem_singleton_self _⟩⟩
theorem qhQ (t:TTask) (u k:Nat):(arcRow t u k).length≤k:=by
 have:=qk1 (g:=fun v=>open Classical in if arcT t (u:Int) (v:Int) then [(⟨(u:Int),(v:Int),1⟩:Arc)] else []) (lo:=0) (b:=1) (fun k=>by split <;> simp) (hi:=k)
 unfold arcRow
 omega
theorem qhR (t:TTask) (k:Nat):(arcAll t k).length≤k*t.vars.length:=by
 have:=qk1 (g:=fun u=>arcRow t u t.vars.length) (lo:=0) (b:=t.vars.length) (fun u=>qhQ t u _) (hi:=k)
 unfold arcAll
 exact this
end Go.Proofs.YtkmbenhffledpaaGreat
