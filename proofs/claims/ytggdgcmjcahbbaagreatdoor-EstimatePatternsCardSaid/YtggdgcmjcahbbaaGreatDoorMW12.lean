/-
  Several texts as one: TSyst, WCaus, WSyst, WSyst2.
-/
import Derived.Test.YtggdgcmjcahbbaaGreatDoorMW10
import Derived.Test.YtggdgcmjcahbbaaGreatDoorMW11
set_option linter.unusedSimpArgs false
set_option linter.unusedVariables false
/-
  The systematic patterns, in plain Lean: the causal graph's arcs, connected patterns, nested loops.
-/
namespace Go.Proofs.YtggdgcmjcahbbaaGreatDoor
open Go.Sl
def seg {α:Type}(g:Nat→List α) (lo hi:Nat):List α:=(List.range' lo (hi-lo)).flatMap g
theorem qbf {α:Type}{g:Nat→List α}{lo hi:Nat}(h:hi≤lo):seg g lo hi=[]:=by
 unfold seg;rw [show hi-lo=0 by omega];rfl
theorem qaz {α:Type}{g:Nat→List α}{lo hi:Nat}(h:lo≤hi):seg g lo (hi+1)=seg g lo hi++g hi:=by
 unfold seg
 rw [show hi+1-lo=hi-lo+1 by omega,List.range'_concat,List.flatMap_append]
 simp [show lo+(hi-lo)=hi by omega]
theorem qe4 {α:Type}{g:Nat→List α}{lo hi:Nat}{x:α}:x∈seg g lo hi↔∃ k,lo≤k∧k<hi∧x∈g k:=by
 unfold seg
 simp only [List.mem_flatMap,List.mem_range'_1]
 constructor
 ·rintro⟨k,hk,hx⟩;exact⟨k,hk.1,by omega,hx⟩
 ·rintro⟨k,h1,h2,hx⟩;exact⟨k,⟨h1,by omega⟩,hx⟩
theorem qba {α:Type}{g g':Nat→List α}{lo hi:Nat}(h:∀ k,lo≤k→k<hi→g k=g' k):seg g lo hi=seg g' lo hi:=by
 unfold seg
 have key:∀ l:List Nat,(∀ k∈l,g k=g' k)→l.flatMap g=l.flatMap g':=by
  intro l
  induction l with
  | nil=>intro _;rfl
  | cons x l ih=>intro hl;rw [List.flatMap_cons,List.flatMap_cons,hl x List.mem_cons_self,ih fun k hk=>hl k (List.mem_cons_of_mem _ hk)]
 exact key _ fun k hk=>by
  rw [List.mem_range'_1] at hk
  exact h k hk.1 (by omega)
theorem qbw {α:Type}{g:Nat→List α}{lo hi:Nat}(p:α→Bool):(seg g lo hi).filter p=seg (fun k=>(g k).filter p) lo hi:=by
 unfold seg
 generalize List.range' lo (hi-lo)=l
 induction l with
 | nil=>rfl
 | cons x l ih=>rw [List.flatMap_cons,List.flatMap_cons,List.filter_append,ih]
theorem qcR {α β:Type}{g:Nat→List α}{lo hi:Nat}(f:α→List β):(seg g lo hi).flatMap f=seg (fun k=>(g k).flatMap f) lo hi:=by
 unfold seg
 rw [List.flatMap_assoc]
theorem qiH {α:Type}{g:Nat→List α}{lo b:Nat}(hb:∀ k,(g k).length≤b):∀ {hi:Nat},(seg g lo hi).length≤(hi-lo)*b
 | 0=>by rw [qbf (Nat.zero_le _)];exact Nat.zero_le _
 | hi+1=>by
  by_cases h:lo≤hi
  ·have ih:=qiH (g:=g) (lo:=lo) hb (hi:=hi)
   have:=hb hi
   rw [qaz h,List.length_append,show hi+1-lo=hi-lo+1 by omega,Nat.succ_mul]
   omega
  ·rw [qbf (by omega)];exact Nat.zero_le _
def hasV (l:List Fact) (u:Int):Prop:=∃ f∈l,f.var=u
def arcO (o:TOp) (u v:Int):Prop:=∃ e∈o.effs,e.var=v∧(hasV o.pre u∨hasV e.when u∨∃ d∈o.effs,d.var=u)
def arcT (t:TTask) (u v:Int):Prop:=u≠v∧∃ op,op<t.ops.length∧arcO (t.ops.getD op dOp) u v
def nearT (t:TTask) (u v:Int):Prop:=arcT t u v∨arcT t v u
theorem nearT.symm {t:TTask}{u v:Int}(h:nearT t u v):nearT t v u:=Or.symm h
def goalP (t:TTask) (p:List Int):Prop:=∃ v∈p,∃ f∈t.goal,f.var=v
inductive CR (t:TTask) (p:List Int):Nat→Prop
 | base:CR t p 0
 | step {i j:Nat}:CR t p i→i<p.length→j<p.length→nearT t (p.getD i tInt.dflt) (p.getD j tInt.dflt)→CR t p j
def connP (t:TTask) (p:List Int):Prop:=∀ i,i<p.length→CR t p i
theorem qnX {t:TTask}{a:Int}:connP t [a]:=fun i hi=>by
 have:i=0:=by simpa using hi
 subst this;exact .base
theorem qnY {t:TTask}{a b:Int}:connP t [a,b]↔nearT t a b:=by
 constructor
 ·intro h
  have key:∀ j,CR t [a,b] j→j=1→nearT t a b:=by
   intro j hj
   induction hj with
   | base=>intro h;cases h
   | @step i j _ hi hj hn ih =>
    intro hj1
    subst hj1
    have:i=0∨i=1:=by simp at hi;omega
    rcases this with rfl|rfl
    ·exact hn
    ·exact ih rfl
  exact key 1 (h 1 (by simp)) rfl
 ·intro h i hi
  have:i=0∨i=1:=by simp at hi;omega
  rcases this with rfl|rfl
  ·exact .base
  ·exact .step .base (by simp) (by simp) h
theorem qkt {t:TTask}{a b c:Int}:connP t [a,b,c]↔(nearT t a b∧nearT t b c)∨(nearT t a b∧nearT t a c)∨(nearT t a c∧nearT t b c):=by
 constructor
 ·intro h
  by_cases hab:nearT t a b
  ·by_cases hbc:nearT t b c
   ·exact .inl ⟨hab,hbc⟩
   ·by_cases hac:nearT t a c
    ·exact .inr (.inl ⟨hab,hac⟩)
    ·exfalso
     have key:∀ j,CR t [a,b,c] j→j≠2:=by
      intro j hj
      induction hj with
      | base=>decide
      | @step i j _ hi hj hn ih =>
       rintro rfl
       have:i=0∨i=1:=by simp at hi;omega
       rcases this with rfl|rfl
       ·exact hac hn
       ·exact hbc hn
     exact key 2 (h 2 (by simp)) rfl
  ·by_cases hac:nearT t a c
   ·by_cases hbc:nearT t b c
    ·exact .inr (.inr ⟨hac,hbc⟩)
    ·exfalso
     have key:∀ j,CR t [a,b,c] j→j≠1:=by
      intro j hj
      induction hj with
      | base=>decide
      | @step i j _ hi hj hn ih =>
       rintro rfl
       have:i=0∨i=2:=by simp at hi;omega
       rcases this with rfl|rfl
       ·exact hab hn
       ·exact hbc hn.symm
     exact key 1 (h 1 (by simp)) rfl
   ·exfalso
    have key:∀ j,CR t [a,b,c] j→j=0:=by
     intro j hj
     induction hj with
     | base=>rfl
     | @step i j _ hi hj hn ih =>
      subst ih
      have:j=0∨j=1∨j=2:=by simp at hj;omega
      rcases this with rfl|rfl|rfl
      ·rfl
      ·exact absurd hn hab
      ·exact absurd hn hac
    have:=key 1 (h 1 (by simp))
    omega
 ·intro h i hi
  have:i=0∨i=1∨i=2:=by simp at hi;omega
  have s01:nearT t a b→CR t [a,b,c] 1:=fun h=>.step .base (by simp) (by simp) h
  have s02:nearT t a c→CR t [a,b,c] 2:=fun h=>.step .base (by simp) (by simp) h
  rcases this with rfl|rfl|rfl
  ·exact .base
  ·rcases h with h|h|h
   ·exact s01 h.1
   ·exact s01 h.1
   ·exact .step (s02 h.1) (by simp) (by simp) h.2.symm
  ·rcases h with h|h|h
   ·exact .step (s01 h.1) (by simp) (by simp) h.2
   ·exact s02 h.2
   ·exact s02 h.1
def sysP (t:TTask) (p:List Int):Prop:=goalP t p∧connP t p
open Classical in
noncomputable def ifP (t:TTask) (p:List Int):List (List Int):=if sysP t p then [p] else []
theorem ql8 {t:TTask}{p:List Int}(h:sysP t p):ifP t p=[p]:=if_pos h
theorem qiI {t:TTask}{p:List Int}(h:¬sysP t p):ifP t p=[]:=if_neg h
noncomputable def s1K (t:TTask) (k:Nat):List (List Int):=seg (fun a=>ifP t [(a:Int)]) 0 k
noncomputable def s2B (t:TTask) (a k:Nat):List (List Int):=seg (fun b=>ifP t [(a:Int),(b:Int)]) (a+1) k
noncomputable def s2K (t:TTask) (n k:Nat):List (List Int):=seg (fun a=>s2B t a n) 0 k
noncomputable def s3C (t:TTask) (a b k:Nat):List (List Int):=seg (fun c=>ifP t [(a:Int),(b:Int),(c:Int)]) (b+1) k
noncomputable def s3B (t:TTask) (n a k:Nat):List (List Int):=seg (fun b=>s3C t a b n) (a+1) k
noncomputable def s3K (t:TTask) (n k:Nat):List (List Int):=seg (fun a=>s3B t n a n) 0 k
def frstP (p:List Int):Nat:=(p.getLastD (-1)+1).toNat
def grR (n:Nat) (p:List Int) (k:Nat):List (List Int):=seg (fun v=>[p++[(v:Int)]]) (frstP p) k
def grL (n:Nat):Nat→List (List Int)
 | 0=>[[]]
 | m+1=>(grL n m).flatMap fun p=>grR n p n
open Classical in
noncomputable def sysK (t:TTask) (m:Nat):List (List Int):=(grL t.vars.length m).filter fun p=>decide (sysP t p)
noncomputable def sysL (t:TTask) (k:Nat):List (List Int):=seg (fun m=>sysK t m) 1 (k+1)
theorem ql9 (n:Nat):grL n 1=seg (fun v=>[[(v:Int)]]) 0 n:=by
 show (grL n 0).flatMap _=_
 rw [grL,List.flatMap_cons,List.flatMap_nil,List.append_nil]
 rfl
theorem qcS (p:List Int) (a:Nat):frstP (p++[(a:Int)])=a+1:=by
 unfold frstP
 rw [List.getLastD_concat]
 omega
theorem qku (a:Nat):frstP [(a:Int)]=a+1:=qcS [] a
theorem qkv (a b:Nat):frstP [(a:Int),(b:Int)]=b+1:=qcS [(a:Int)] b
theorem qma (n:Nat):grL n 2=seg (fun a=>seg (fun b=>[[(a:Int),(b:Int)]]) (a+1) n) 0 n:=by
 show (grL n 1).flatMap _=_
 rw [ql9,qcR]
 refine qba fun a _ _ => ?_
 rw [List.flatMap_cons,List.flatMap_nil,List.append_nil]
 unfold grR
 rw [qku]
 rfl
theorem qmb (n:Nat):grL n 3=seg (fun a=>seg (fun b=>seg (fun c=>[[(a:Int),(b:Int),(c:Int)]]) (b+1) n) (a+1) n) 0 n:=by
 show (grL n 2).flatMap _=_
 rw [qma,qcR]
 refine qba fun a _ _ => ?_
 rw [qcR]
 refine qba fun b _ _ => ?_
 rw [List.flatMap_cons,List.flatMap_nil,List.append_nil]
 unfold grR
 rw [qkv]
 rfl
open Classical in
theorem qe5 (t:TTask) (p:List Int):([p]:List (List Int)).filter (fun p=>decide (sysP t p))=ifP t p:=by
 unfold ifP
 by_cases h:sysP t p
 ·rw [if_pos h];simp [h]
 ·rw [if_neg h];simp [h]
theorem qgG (t:TTask):sysK t 1=s1K t t.vars.length:=by
 unfold sysK s1K
 rw [ql9,qbw]
 exact qba fun a _ _=>qe5 t _
theorem qgH (t:TTask):sysK t 2=s2K t t.vars.length t.vars.length:=by
 unfold sysK s2K s2B
 rw [qma,qbw]
 refine qba fun a _ _ => ?_
 rw [qbw]
 exact qba fun b _ _=>qe5 t _
theorem qdL (t:TTask):sysK t 3=s3K t t.vars.length t.vars.length:=by
 unfold sysK s3K s3B s3C
 rw [qmb,qbw]
 refine qba fun a _ _ => ?_
 rw [qbw]
 refine qba fun b _ _ => ?_
 rw [qbw]
 exact qba fun c _ _=>qe5 t _
theorem qnZ (t:TTask):sysL t 1=sysK t 1:=by
 unfold sysL;rw [qaz (by decide),qbf (by decide),List.nil_append]
theorem qn0 (t:TTask):sysL t 2=sysK t 1++sysK t 2:=by
 unfold sysL;rw [qaz (by decide),qaz (by decide),qbf (by decide),List.nil_append]
theorem qkw (t:TTask):sysL t 3=sysK t 1++sysK t 2++sysK t 3:=by
 unfold sysL;rw [qaz (by decide),qaz (by decide),qaz (by decide),qbf (by decide),List.nil_append]
theorem qmc:∀ n,n<13→(grL n 1).length≤12∧(grL n 2).length≤66∧(grL n 3).length≤220:=by decide +kernel
theorem qeg {t:TTask}(m:Nat):(sysK t m).length≤(grL t.vars.length m).length:=List.length_filter_le _ _
theorem qe6 {t:TTask}(hn:t.vars.length≤12):(sysK t 1).length≤12∧(sysK t 2).length≤66∧(sysK t 3).length≤220:=by
 have h:=qmc t.vars.length (by omega)
 have h1:=qeg (t:=t) 1
 have h2:=qeg (t:=t) 2
 have h3:=qeg (t:=t) 3
 exact⟨by omega,by omega,by omega⟩
theorem qcE {α:Type}{g:Nat→List α}{lo hi hi':Nat}(h:hi≤hi'):(seg g lo hi).length≤(seg g lo hi').length:=by
 induction hi' with
 | zero=>rw [show hi=0 by omega];exact Nat.le_refl _
 | succ m ih =>
  by_cases e:hi=m+1
  ·rw [e];exact Nat.le_refl _
  ·have:=ih (by omega)
   by_cases hl:lo≤m
   ·rw [qaz hl,List.length_append];omega
   ·rw [qbf (by omega)];exact Nat.zero_le _
theorem qgI {α:Type}{g:Nat→List α}{lo a hi:Nat}(h0:lo≤a) (h:a<hi):(seg g lo a).length+(g a).length≤(seg g lo hi).length:=by
 have:=qcE (g:=g) (lo:=lo) (show a+1≤hi from h)
 rw [qaz h0,List.length_append] at this
 exact this
theorem qmd {t:TTask}(hn:t.vars.length≤12) {k:Nat}(hk:k≤t.vars.length):(s1K t k).length≤12:=by
 have:=(qe6 hn).1
 rw [qgG] at this
 have:=qcE (g:=fun a=>ifP t [(a:Int)]) (lo:=0) hk
 unfold s1K at *
 omega
theorem qoO {t:TTask}(hn:t.vars.length≤12) {a b:Nat}(ha:a<t.vars.length) (hb:b≤t.vars.length):(s2K t t.vars.length a).length+(s2B t a b).length≤66:=by
 have h:=(qe6 hn).2.1
 rw [qgH] at h
 have h1:=qgI (g:=fun a=>s2B t a t.vars.length) (lo:=0) (Nat.zero_le a) ha
 have h2:=qcE (g:=fun b=>ifP t [(a:Int),(b:Int)]) (lo:=a+1) hb
 unfold s2K at *
 unfold s2B at *
 omega
theorem qp0 {t:TTask}(hn:t.vars.length≤12) {a b c:Nat}(ha:a<t.vars.length) (hab:a+1≤b) (hb:b<t.vars.length) (hc:c≤t.vars.length):(s3K t t.vars.length a).length+(s3B t t.vars.length a b).length+(s3C t a b c).length≤220:=by
 have h:=(qe6 hn).2.2
 rw [qdL] at h
 have h1:=qgI (g:=fun a=>s3B t t.vars.length a t.vars.length) (lo:=0) (Nat.zero_le a) ha
 have h2:=qgI (g:=fun b=>s3C t a b t.vars.length) (lo:=a+1) hab hb
 have h3:=qcE (g:=fun c=>ifP t [(a:Int),(b:Int),(c:Int)]) (lo:=b+1) hc
 unfold s3K at *
 unfold s3B at *
 unfold s3C at *
 omega
structure MI (M:List (List Bool)) (n:Nat) (Q:Nat→Nat→Prop):Prop where
 len:M.length=n
 row:∀ v,v<n→(M.getD v []).length=n
 at_:∀ v u,v<n→u<n→((M.getD v []).getD u false=true↔Q v u)
def setM (M:List (List Bool)) (v u:Nat) (b:Bool):List (List Bool):=M.set v ((M.getD v []).set u b)
theorem qbD {α:Type}{l:List α}{i j:Nat}{x d:α}:(l.set i x).getD j d=if i=j∧j<l.length then x else l.getD j d:=by
 simp only [List.getD,List.getElem?_set]
 by_cases h:i=j
 ·subst h
  by_cases h2:i<l.length
  ·simp [h2]
  ·simp [h2]
 ·simp [h]
theorem MI.congr {M:List (List Bool)}{n:Nat}{Q Q':Nat→Nat→Prop}(h:MI M n Q) (e:∀ v u,v<n→u<n→(Q v u↔Q' v u)):MI M n Q':=⟨h.len,h.row,fun v u hv hu=>(h.at_ v u hv hu).trans (e v u hv hu)⟩
theorem MI.setT {M:List (List Bool)}{n:Nat}{Q:Nat→Nat→Prop}(h:MI M n Q) {v u:Nat}(hv:v<n) (hu:u<n):MI (setM M v u true) n (fun x y=>Q x y∨(x=v∧y=u)):=by
 refine⟨by simp [setM,h.len],fun x hx => ?_,fun x y hx hy => ?_⟩
 ·rw [setM,qbD]
  split
  ·rw [List.length_set];exact h.row v hv
  ·exact h.row x hx
 ·rw [setM,qbD]
  by_cases e:v=x
  ·subst e
   rw [if_pos ⟨rfl,by rw [h.len];exact hv⟩,qbD]
   by_cases e2:u=y
   ·subst e2
    rw [if_pos ⟨rfl,by rw [h.row v hv];exact hu⟩]
    simp
   ·rw [if_neg (by simp [e2]),h.at_ v y hv hy]
    exact⟨.inl,fun hh=>hh.elim id fun hh=>absurd hh.2.symm e2⟩
  ·rw [if_neg (by simp [e]),h.at_ x y hx hy]
   exact⟨.inl,fun hh=>hh.elim id fun hh=>absurd hh.1.symm e⟩
theorem MI.setF {M:List (List Bool)}{n:Nat}{Q:Nat→Nat→Prop}(h:MI M n Q) {v u:Nat}(hv:v<n) (hu:u<n):MI (setM M v u false) n (fun x y=>Q x y∧¬(x=v∧y=u)):=by
 refine⟨by simp [setM,h.len],fun x hx => ?_,fun x y hx hy => ?_⟩
 ·rw [setM,qbD]
  split
  ·rw [List.length_set];exact h.row v hv
  ·exact h.row x hx
 ·rw [setM,qbD]
  by_cases e:v=x
  ·subst e
   rw [if_pos ⟨rfl,by rw [h.len];exact hv⟩,qbD]
   by_cases e2:u=y
   ·subst e2
    rw [if_pos ⟨rfl,by rw [h.row v hv];exact hu⟩]
    simp
   ·rw [if_neg (by simp [e2]),h.at_ v y hv hy]
    exact⟨fun hh=>⟨hh,fun hh=>e2 hh.2.symm⟩,fun hh=>hh.1⟩
  ·rw [if_neg (by simp [e]),h.at_ x y hx hy]
   exact⟨fun hh=>⟨hh,fun hh=>e hh.1.symm⟩,fun hh=>hh.1⟩
theorem MI.rep (n:Nat):MI (List.replicate n (List.replicate n false)) n (fun _ _=>False):=by
 refine⟨List.length_replicate,fun v hv => ?_,fun v u hv hu => ?_⟩
 ·have e:(List.replicate n (List.replicate n false)).getD v []=List.replicate n false:=by rw [List.getD_eq_getElem?_getD,List.getElem?_replicate,if_pos hv];rfl
  rw [e,List.length_replicate]
 ·have e:(List.replicate n (List.replicate n false)).getD v []=List.replicate n false:=by rw [List.getD_eq_getElem?_getD,List.getElem?_replicate,if_pos hv];rfl
  rw [e]
  simp [List.getD_eq_getElem?_getD,List.getElem?_replicate,hu]
def mkR (n k:Nat):List (List Bool):=(List.range n).map fun i=>if i<k then List.replicate n false else []
theorem qme (n k:Nat):(mkR n k).length=n:=by simp [mkR]
theorem qjH (n:Nat):mkR n 0=List.replicate n []:=by
 apply List.ext_getElem (by simp [mkR])
 intro i h1 h2;simp [mkR]
theorem qmf (n:Nat):mkR n n=List.replicate n (List.replicate n false):=by
 apply List.ext_getElem (by simp [mkR])
 intro i h1 h2
 have:i<n:=by simpa [mkR] using h1
 simp [mkR,this]
theorem qmg {n k:Nat}:(mkR n k).set k (List.replicate n false)=mkR n (k+1):=by
 apply List.ext_getElem (by simp [mkR])
 intro i h1 h2
 rw [List.getElem_set]
 simp only [mkR,List.getElem_map,List.getElem_range]
 split
 ·rename_i e;subst e;rw [if_pos (by omega)]
 ·by_cases h:i<k
  ·rw [if_pos h,if_pos (by omega)]
  ·rw [if_neg h,if_neg (by omega)]
structure VI (L:List Bool) (n:Nat) (Q:Nat→Prop):Prop where
 len:L.length=n
 at_:∀ u,u<n→(L.getD u false=true↔Q u)
theorem VI.rep (n:Nat):VI (List.replicate n false) n (fun _=>False):=⟨List.length_replicate,fun u hu=>by simp [List.getD_eq_getElem?_getD,List.getElem?_replicate,hu]⟩
theorem VI.congr {L:List Bool}{n:Nat}{Q Q':Nat→Prop}(h:VI L n Q) (e:∀ u,u<n→(Q u↔Q' u)):VI L n Q':=⟨h.len,fun u hu=>(h.at_ u hu).trans (e u hu)⟩
theorem VI.setT {L:List Bool}{n:Nat}{Q:Nat→Prop}(h:VI L n Q) {u:Nat}(hu:u<n):VI (L.set u true) n (fun y=>Q y∨y=u):=by
 refine⟨by rw [List.length_set];exact h.len,fun y hy => ?_⟩
 rw [qbD]
 by_cases e:u=y
 ·subst e
  rw [if_pos ⟨rfl,by rw [h.len];exact hu⟩];simp
 ·rw [if_neg (by simp [e]),h.at_ y hy]
  exact⟨.inl,fun hh=>hh.elim id fun hh=>absurd hh.symm e⟩
noncomputable def arcRow (t:TTask) (u k:Nat):List Arc:=open Classical in seg (fun v=>if arcT t (u:Int) (v:Int) then [⟨(u:Int),(v:Int),1⟩] else []) 0 k
noncomputable def arcAll (t:TTask) (k:Nat):List Arc:=seg (fun u=>arcRow t u t.vars.length) 0 k
theorem qcF {t:TTask}{a:Arc}:a∈arcAll t t.vars.length↔∃ u v:Nat,u<t.vars.length∧v<t.vars.length∧arcT t (u:Int) (v:Int)∧a=⟨(u:Int),(v:Int),1⟩:=by
 unfold arcAll arcRow
 rw [qe4]
 constructor
 ·rintro⟨u,_,hu,h⟩
  obtain⟨v,_,hv,h⟩:=qe4.1 h
  split at h
  ·rename_i hh;exact⟨u,v,hu,hv,hh,List.mem_singleton.1 h⟩
  ·simp at h
 ·rintro⟨u,v,hu,hv,hh,rfl⟩
  exact⟨u,Nat.zero_le _,hu,qe4.2 ⟨v,Nat.zero_le _,hv,by rw [if_pos hh];exact List.mem_singleton_self _⟩⟩
theorem qfT (t:TTask) (u k:Nat):(arcRow t u k).length≤k:=by
 have:=qiH (g:=fun v=>open Classical in if arcT t (u:Int) (v:Int) then [(⟨(u:Int),(v:Int),1⟩:Arc)] else []) (lo:=0) (b:=1) (fun k=>by split <;> simp) (hi:=k)
 unfold arcRow
 omega
theorem qfU (t:TTask) (k:Nat):(arcAll t k).length≤k*t.vars.length:=by
 have:=qiH (g:=fun u=>arcRow t u t.vars.length) (lo:=0) (b:=t.vars.length) (fun u=>qfT t u _) (hi:=k)
 unfold arcAll
 exact this
end Go.Proofs.YtggdgcmjcahbbaaGreatDoor
/-
  Contracts of 'causal.depends' and 'causal.Arcs'.
-/
namespace Go.Proofs.YtggdgcmjcahbbaaGreatDoor
open Go.Sl Go
attribute [local irreducible] vc opsW opsD opV opW PureV ReadV Thn Blk
def depK (t:TTask) (k:Nat) (v u:Nat):Prop:=∃ op,op<k∧arcO (t.ops.getD op dOp) (u:Int) (v:Int)
def depE (o:TOp) (j:Nat) (v u:Nat):Prop:=∃ i,i<j∧(o.effs.getD i dEff).var=v∧(hasV o.pre u∨hasV (o.effs.getD i dEff).when u∨∃ d∈o.effs,d.var=u)
theorem qmD {t:TTask}{k v u:Nat}:depK t (k+1) v u↔depK t k v u∨arcO (t.ops.getD k dOp) (u:Int) (v:Int):=qcT
theorem qmE {o:TOp}{j v u:Nat}:depE o (j+1) v u↔depE o j v u∨((o.effs.getD j dEff).var=v∧(hasV o.pre u∨hasV (o.effs.getD j dEff).when u∨∃ d∈o.effs,d.var=u)):=qcT
theorem qol {o:TOp}{v u:Nat}:depE o o.effs.length v u↔arcO o u v:=by
 constructor
 ·rintro⟨i,hi,h1,h2⟩
  exact⟨_,qah dEff hi,h1,h2⟩
 ·rintro⟨e,he,h1,h2⟩
  obtain⟨i,hi,rfl⟩:=List.getElem_of_mem he
  exact⟨i,hi,by rw [qak hi];exact⟨h1,h2⟩⟩
theorem qmF {l:List Fact}{u:Int}:hasV l u↔∃ i,i<l.length∧(l.getD i tFact.dflt).var=u:=by
 constructor
 ·rintro⟨f,hf,e⟩
  obtain⟨i,hi,rfl⟩:=List.getElem_of_mem hf
  exact⟨i,hi,by rw [qak hi];exact e⟩
 ·rintro⟨i,hi,e⟩
  exact⟨_,qah tFact.dflt hi,e⟩
theorem qpI {l:List Eff}{u:Int}:(∃ d∈l,d.var=u)↔∃ i,i<l.length∧(l.getD i dEff).var=u:=by
 constructor
 ·rintro⟨f,hf,e⟩
  obtain⟨i,hi,rfl⟩:=List.getElem_of_mem hf
  exact⟨i,hi,by rw [qak hi];exact e⟩
 ·rintro⟨i,hi,e⟩
  exact⟨_,qah dEff hi,e⟩
theorem qmG {B E L F:Prop}:(B∨(E∧L))∨(E∧F)↔B∨(E∧(L∨F)) :=
 ⟨fun h=>h.elim (fun h=>h.elim .inl fun h=>.inr ⟨h.1,.inl h.2⟩) fun h=>.inr ⟨h.1,.inr h.2⟩,fun h=>h.elim (fun h=>.inl (.inl h)) fun⟨h1,h2⟩=>h2.elim (fun h=>.inl (.inr ⟨h1,h⟩)) fun h=>.inr ⟨h1,h⟩⟩
theorem qom {K D E E' P W X:Prop}(e:E↔E'):((K∨D)∨(E∧(P∨W)))∨(E∧X)↔K∨D∨(E'∧(P∨W∨X)):=by
 rw [qmG,or_assoc,←e,or_assoc]
set_option maxRecDepth 8000 in
set_option maxHeartbeats 4000000 in
theorem qh9 {w0:World}{a b c d:Value}{vs:List OpV}{t:TTask}(ht:RTask w0 a b c d vs t) (hg:GoodT t) :
  Calls Tryz.prog 74 #[.agg #[a,b,c,d]] w0 fun e w'=>∃ out ss M,e=.returned out∧MI M t.vars.length (fun v u=>arcT t (u:Int) (v:Int))∧Sat w0 w' [RowsAt tBool 4 ss M,OS tVal 56 out ss]:=by
 obtain⟨ha,hb,hc,hd⟩:=ht
 have hrs:=hd.rs
 have hdl:=hd.len
 have hdb:=hrs.big
 have hvb:=ha.big
 have hV:=hg.vars
 have hw:=Sat.start w0
 refine qab (args:=[.agg #[a,b,c,d]]) mixed Tryz.func74 rfl (by kernel_rfl) (Nat.le_of_ble_eq_true rfl) ?_
 repeat (first|refine qaa ?_|(refine qaf ?_;clear hw;intro p w hw)|(refine qap ?_;clear hw;intro s w hw))
 obtain⟨pt,hpt⟩:∃ pt,pt=p:=⟨p,rfl⟩
 subst hpt
 obtain⟨out,hout⟩:∃ out,out=s:=⟨s,rfl⟩
 subst hout
 have hw:=hw.rowsNil (T:=tBool) (e:=4) t.vars.length
 rw [←qjH] at hw
 obtain⟨ss,hss⟩:∃ ss,ss=List.replicate t.vars.length (Value.slice none 0 0):=⟨_,rfl⟩
 have hsl:ss.length=t.vars.length:=by rw [hss];simp
 have hw1:Sat w0 w [RowsAt tBool 4 ss (mkR t.vars.length 0),OS tVal 56 out ss,Box pt 26 [a,b,c,d]]:=by rw [hss];exact hw
 clear hw hss
 have hl0:(List.replicate (↑t.vars.length:Int).toNat (Value.slice none 0 0)).length=t.vars.length:=by simp
 refine qao [4,22,23,24,25,26,27,28,29,30,31,32] (G:=Nat) (H:=List Value) (fun k _=>[(22,.int .i64 k)]) (fun k ss w=>k≤t.vars.length∧ss.length=t.vars.length∧Sat w0 w [RowsAt tBool 4 ss (mkR t.vars.length k),OS tVal 56 out ss,Box pt 26 [a,b,c,d]]) (fun k _=>t.vars.length-k) 0 ss (fun _ _=>rfl) ⟨rfl,trivial⟩ ⟨Nat.zero_le _,hsl,hw1⟩ ?_
 clear hw1 hsl ss
 rintro σ k ss w ⟨hk,hsl,hw⟩
 repeat refine qaa ?_
 refine go_if (fun h1 => ?_) (fun h1 => ?_)
 ·repeat (first|refine qaa ?_|(refine qag ?_;clear hw;intro w hw)|(refine qap ?_;clear hw;intro s w hw))
  replace hw:=Sat.rowNew (i:=k) (by rw [qme];omega) hw
  rw [Int.toNat_natCast,qmg] at hw
  exact⟨k+1,_,⟨rfl,trivial⟩,agr,⟨by omega,by rw [List.length_set];exact hsl,hw⟩,by omega⟩
 have hke:k=t.vars.length:=by omega
 subst hke
 rw [qmf] at hw
 repeat refine qaa ?_
 clear hl0 h1
 refine qao [6,8,10,12,14,36,37,38,39,40,41,42,43,44,45,46,47,48,49,50,51,52,53,54,55,56,57,58,59,60,61,62,63,64,65,66,67,68,69,70,71,72,73,74,75,76,77,78,79,80,81,82,83,84,85,86,87,88,89,90] (G:=Nat) (H:=List (List Bool)) (fun k _=>[(36,.int .i64 k)]) (fun k M w=>k≤t.ops.length∧MI M t.vars.length (depK t k)∧Sat w0 w [RowsAt tBool 4 ss M,OS tVal 56 out ss,Box pt 26 [a,b,c,d]]) (fun k _=>t.ops.length-k) 0 _ (fun _ _=>rfl) ⟨rfl,trivial⟩ ⟨Nat.zero_le _,(MI.rep t.vars.length).congr fun v u _ _=>⟨False.elim,fun⟨op,h,_⟩=>absurd h (Nat.not_lt_zero _)⟩,hw⟩ ?_
 clear hw hk
 rintro σ k M w ⟨hk,hM,hw⟩
 repeat refine qaa ?_
 refine go_if (fun h1 => ?_) (fun h1 => ?_)
 ·have hkl:k<t.ops.length:=by omega
  have hop:=hd.at_ k hkl
  have hone:=hop.one
  have hopk:=hg.op k hkl
  have hpre:=hop.pre
  have hpreb:=hpre.big
  obtain⟨es,hes⟩:=hop.effs
  have hesr:=hes.rs
  have hesl:=hes.len
  have hesb:=hesr.big
  repeat (first|refine qaa ?_|(refine qaf ?_;clear hw;intro p w hw)|(refine qag ?_;clear hw;intro w hw))
  obtain⟨po,hpo⟩:∃ po,po=p:=⟨p,rfl⟩
  subst hpo
  have hw1:Sat w0 w [RowsAt tBool 4 ss M,OS tVal 56 out ss,Box po 49 (tOp.enc (eget tOp vs k)),Box pt 26 [a,b,c,d]]:=hw.sel
  clear hw
  refine qao [8,10,12,14,43,44,45,46,47,48,49,50,51,52,53,54,55,56,57,58,59,60,61,62,63,64,65,66,67,68,69,70,71,72,73,74,75,76,77,78,79,80,81,82,83,84,85,86,87,88,89] (G:=Nat) (H:=List (List Bool)) (fun j _=>[(43,.int .i64 j)]) (fun j M w=>j≤(t.ops.getD k dOp).effs.length∧MI M t.vars.length (fun v u=>depK t k v u∨depE (t.ops.getD k dOp) j v u)∧Sat w0 w [RowsAt tBool 4 ss M,OS tVal 56 out ss,Box po 49 (tOp.enc (eget tOp vs k)),Box pt 26 [a,b,c,d]]) (fun j _=>(t.ops.getD k dOp).effs.length-j) 0 M (fun _ _=>rfl) ⟨rfl,trivial⟩ ⟨Nat.zero_le _,hM.congr fun v u _ _=>⟨.inl,fun h=>h.elim id fun⟨i,h,_⟩=>absurd h (Nat.not_lt_zero _)⟩,hw1⟩ ?_
  clear hw1 hM M
  rintro σ1 j M w ⟨hj,hM,hw⟩
  repeat refine qaa ?_
  refine go_if (fun h2 => ?_) (fun h2 => ?_)
  ·have hjl:j<(t.ops.getD k dOp).effs.length:=by omega
   have hee:=hes.at_ j hjl
   have heo:=hee.one
   have hev:=hee.var
   have hwh:=hee.when
   have hwhb:=hwh.big
   have hwo:=hwh.one
   have hpo:=hpre.one
   have hEok:=hopk.eff j hjl
   have hEr:=qaL hEok
   repeat (first|refine qaa ?_|(refine qaf ?_;clear hw;intro p w hw)|(refine qag ?_;clear hw;intro w hw))
   obtain⟨pe,hpe⟩:∃ pe,pe=p:=⟨p,rfl⟩
   subst hpe
   repeat refine qaa ?_
   have c1:=hpre.cells1
   have c2:=hwh.cells1
   have z1:(eget tOp vs k).pre.cells.size=1:=by have:=congrArg List.length c1;simpa using this
   have z2:(eget tEff es j).when.cells.size=1:=by have:=congrArg List.length c2;simpa using this
   refine qaU (T:=tVal) [(eget tOp vs k).pre,(eget tEff es j).when] [(eget tOp vs k).pre,(eget tEff es j).when] rfl (by simp [c1,c2,tVal]) (by simp [z1,z2]) rfl rfl (Nat.le_of_ble_eq_true rfl) (Nat.zero_lt_succ _) (Nat.le_of_ble_eq_true rfl) hw ?_
   clear hw
   intro ls w hw
   repeat refine qaa ?_
   have hw1:Sat w0 w [RowsAt tBool 4 ss M,OS tVal 56 out ss,OS tVal 23 ls [(eget tOp vs k).pre,(eget tEff es j).when],Box pe 90 (tEff.enc (eget tEff es j)),Box po 49 (tOp.enc (eget tOp vs k)),Box pt 26 [a,b,c,d]]:=hw.sel
   clear hw
   obtain⟨ev,hevn⟩:∃ ev:Nat,((t.ops.getD k dOp).effs.getD j dEff).var=(ev:Int):=⟨((t.ops.getD k dOp).effs.getD j dEff).var.toNat,by omega⟩
   have hevl:ev<t.vars.length:=by omega
   refine qao [10,12,53,54,55,56,57,58,59,60,61,62,63,64,65,66,67,68,69,70,71,72] (G:=Nat) (H:=List (List Bool)) (fun m _=>[(53,.int .i64 m)]) (fun m M w=>m≤2∧MI M t.vars.length (fun v u=>(depK t k v u∨depE (t.ops.getD k dOp) j v u)∨(v=ev∧((0<m∧hasV (t.ops.getD k dOp).pre (u:Int))∨(1<m∧hasV ((t.ops.getD k dOp).effs.getD j dEff).when (u:Int)))))∧Sat w0 w [RowsAt tBool 4 ss M,OS tVal 56 out ss,OS tVal 23 ls [(eget tOp vs k).pre,(eget tEff es j).when],Box pe 90 (tEff.enc (eget tEff es j)),Box po 49 (tOp.enc (eget tOp vs k)),Box pt 26 [a,b,c,d]]) (fun m _=>2-m) 0 M (fun _ _=>rfl) ⟨rfl,trivial⟩ ⟨Nat.zero_le _,hM.congr fun v u _ _=>⟨.inl,fun h=>h.elim id fun hh=>hh.2.elim (fun h=>absurd h.1 (Nat.not_lt_zero _)) fun h=>absurd h.1 (Nat.not_lt_zero _)⟩,hw1⟩ ?_
   clear hw1 hM M
   rintro σ2 m M w ⟨hm,hM,hw⟩
   repeat refine qaa ?_
   refine go_if (fun h3 => ?_) (fun h3 => ?_)
   ·have hm2:m<2:=by simp at h3;omega
    obtain⟨fl,fv,hfv,hfl,hin⟩:∃ fl fv,vget [(eget tOp vs k).pre,(eget tEff es j).when] m=fv∧RS tFact w0 fv fl∧(∀ x∈fl,FactOk t.vars x)∧∀ u:Nat,(((0<m+1∧hasV (t.ops.getD k dOp).pre (u:Int))∨(1<m+1∧hasV ((t.ops.getD k dOp).effs.getD j dEff).when (u:Int)))↔(((0<m∧hasV (t.ops.getD k dOp).pre (u:Int))∨(1<m∧hasV ((t.ops.getD k dOp).effs.getD j dEff).when (u:Int))))∨hasV fl u):=by
     have:m=0∨m=1:=by omega
     rcases this with rfl|rfl
     ·exact⟨(t.ops.getD k dOp).pre,_,by rw [qay];rfl,hpre,qa9 hopk.pre,fun u=>by simp⟩
     ·exact⟨((t.ops.getD k dOp).effs.getD j dEff).when,_,by rw [qay];rfl,hwh,qa9 hEok.1,fun u=>by simp⟩
    have hflb:=hfl.big
    repeat refine qaa ?_
    rw [hfv]
    obtain⟨hfm,hin⟩:=hin
    repeat refine qaa ?_
    refine qao [12,59,60,61,62,63,64,65,66,67,68,69,70,71] (G:=Nat) (H:=List (List Bool)) (fun i _=>[(59,.int .i64 i)]) (fun i M w=>i≤fl.length∧MI M t.vars.length (fun v u=>((depK t k v u∨depE (t.ops.getD k dOp) j v u)∨(v=ev∧((0<m∧hasV (t.ops.getD k dOp).pre (u:Int))∨(1<m∧hasV ((t.ops.getD k dOp).effs.getD j dEff).when (u:Int)))))∨(v=ev∧∃ i',i'<i∧(fl.getD i' tFact.dflt).var=(u:Int)))∧Sat w0 w [RowsAt tBool 4 ss M,OS tVal 56 out ss,OS tVal 23 ls [(eget tOp vs k).pre,(eget tEff es j).when],Box pe 90 (tEff.enc (eget tEff es j)),Box po 49 (tOp.enc (eget tOp vs k)),Box pt 26 [a,b,c,d]]) (fun i _=>fl.length-i) 0 M (fun _ _=>rfl) ⟨rfl,trivial⟩ ⟨Nat.zero_le _,hM.congr fun v u _ _=>⟨.inl,fun h=>h.elim id fun⟨_,i',h,_⟩=>absurd h (Nat.not_lt_zero _)⟩,hw⟩ ?_
    clear hw hM M
    rintro σ3 i M w ⟨hi,hM,hw⟩
    repeat refine qaa ?_
    refine go_if (fun h4 => ?_) (fun h4 => ?_)
    ·have hil:i<fl.length:=by omega
     have hfo:=hfm _ (qah tFact.dflt hil)
     unfold FactOk at hfo
     have hlen:=hM.len
     have hir:ev<M.length:=by omega
     have hrl:=hM.row ev hevl
     have hevt:(eget tEff es j).var.toNat=ev:=by omega
     repeat (first|refine qaa ?_|(refine qaf ?_;clear hw;intro p w hw)|(refine qas ?_;clear hw;intro w hw))
     have hw1:Sat w0 w [RowsAt tBool 4 ss M,OS tVal 56 out ss,Box p 88 (tFact.enc (fl.getD i tFact.dflt)),OS tVal 23 ls [(eget tOp vs k).pre,(eget tEff es j).when],Box pe 90 (tEff.enc (eget tEff es j)),Box po 49 (tOp.enc (eget tOp vs k)),Box pt 26 [a,b,c,d]]:=hw.sel
     clear hw
     have hssl:=hw1.rowsLen
     have hw:=hw1.rowOut (i:=(eget tEff es j).var.toNat) (by omega)
     clear hw1
     rw [←hevt] at hrl
     repeat (first|refine qaa ?_|(refine qag ?_;clear hw;intro w hw))
     replace hw:=Sat.rowBack (i:=(eget tEff es j).var.toNat) (by omega) (by omega) hw
     rw [hevt] at hw
     change Sat w0 w (RowsAt tBool 4 ss (setM M ev (fl.getD i tFact.dflt).var.toNat true)::_) at hw
     refine⟨i+1,setM M ev (fl.getD i tFact.dflt).var.toNat true,⟨rfl,trivial⟩,agr,⟨by omega,?_,hw.sel⟩,by omega⟩
     exact (hM.setT (v:=ev) (u:=(fl.getD i tFact.dflt).var.toNat) hevl (by omega)).congr fun v u _ _=>by
      rw [qcT]
      refine or_assoc.trans (or_congr Iff.rfl ?_)
      exact⟨fun h=>h.elim (fun h=>⟨h.1,.inl h.2⟩) fun h=>⟨h.1,.inr (by omega)⟩,fun⟨h1,h2⟩=>h2.elim (fun h=>.inl ⟨h1,h⟩) fun h=>.inr ⟨h1,by omega⟩⟩
    ·have hie:i=fl.length:=by omega
     subst hie
     repeat refine qaa ?_
     exact⟨m+1,M,⟨rfl,trivial⟩,agr,⟨by omega,hM.congr fun v u _ _=>by rw [hin u,qmF (l:=fl)];exact qmG,hw⟩,by omega⟩
   ·have hm2:m=2:=by simp at h3;omega
    subst hm2
    have hM2:MI M t.vars.length (fun v u=>(depK t k v u∨depE (t.ops.getD k dOp) j v u)∨(v=ev∧(hasV (t.ops.getD k dOp).pre (u:Int)∨hasV ((t.ops.getD k dOp).effs.getD j dEff).when (u:Int)))):=hM.congr fun v u _ _=>by simp
    clear hM
    repeat refine qaa ?_
    refine qao [14,76,77,78,79,80,81,82,83,84,85,86,87,88] (G:=Nat) (H:=List (List Bool)) (fun i _=>[(76,.int .i64 i)]) (fun i M w=>i≤(t.ops.getD k dOp).effs.length∧MI M t.vars.length (fun v u=>((depK t k v u∨depE (t.ops.getD k dOp) j v u)∨(v=ev∧(hasV (t.ops.getD k dOp).pre (u:Int)∨hasV ((t.ops.getD k dOp).effs.getD j dEff).when (u:Int))))∨(v=ev∧∃ i',i'<i∧((t.ops.getD k dOp).effs.getD i' dEff).var=(u:Int)))∧Sat w0 w [RowsAt tBool 4 ss M,OS tVal 56 out ss,Box pe 90 (tEff.enc (eget tEff es j)),Box po 49 (tOp.enc (eget tOp vs k)),Box pt 26 [a,b,c,d]]) (fun i _=>(t.ops.getD k dOp).effs.length-i) 0 M (fun _ _=>rfl) ⟨rfl,trivial⟩ ⟨Nat.zero_le _,hM2.congr fun v u _ _=>⟨.inl,fun h=>h.elim id fun⟨_,i',h,_⟩=>absurd h (Nat.not_lt_zero _)⟩,hw.sel⟩ ?_
    clear hw hM2 M
    rintro σ3 i M w ⟨hi,hM,hw⟩
    repeat refine qaa ?_
    refine go_if (fun h4 => ?_) (fun h4 => ?_)
    ·have hil:i<(t.ops.getD k dOp).effs.length:=by omega
     have hee2:=hes.at_ i hil
     have heo2:=hee2.one
     have hev2:=hee2.var
     have hEr2:=qaL (hopk.eff i hil)
     have hlen:=hM.len
     have hir:ev<M.length:=by omega
     have hrl:=hM.row ev hevl
     have hevt:(eget tEff es j).var.toNat=ev:=by omega
     repeat (first|refine qaa ?_|(refine qaf ?_;clear hw;intro p w hw)|(refine qas ?_;clear hw;intro w hw))
     have hw1:Sat w0 w [RowsAt tBool 4 ss M,OS tVal 56 out ss,Box p 90 (tEff.enc (eget tEff es i)),Box pe 90 (tEff.enc (eget tEff es j)),Box po 49 (tOp.enc (eget tOp vs k)),Box pt 26 [a,b,c,d]]:=hw.sel
     clear hw
     have hssl:=hw1.rowsLen
     have hw:=hw1.rowOut (i:=(eget tEff es j).var.toNat) (by omega)
     clear hw1
     rw [←hevt] at hrl
     repeat (first|refine qaa ?_|(refine qag ?_;clear hw;intro w hw))
     replace hw:=Sat.rowBack (i:=(eget tEff es j).var.toNat) (by omega) (by omega) hw
     rw [hevt] at hw
     change Sat w0 w (RowsAt tBool 4 ss (setM M ev (eget tEff es i).var.toNat true)::_) at hw
     refine⟨i+1,setM M ev (eget tEff es i).var.toNat true,⟨rfl,trivial⟩,agr,⟨by omega,?_,hw.sel⟩,by omega⟩
     exact (hM.setT (v:=ev) (u:=(eget tEff es i).var.toNat) hevl (by omega)).congr fun v u _ _=>by
      rw [qcT]
      refine or_assoc.trans (or_congr Iff.rfl ?_)
      exact⟨fun h=>h.elim (fun h=>⟨h.1,.inl h.2⟩) fun h=>⟨h.1,.inr (by omega)⟩,fun⟨h1,h2⟩=>h2.elim (fun h=>.inl ⟨h1,h⟩) fun h=>.inr ⟨h1,by omega⟩⟩
    ·have hie:i=(t.ops.getD k dOp).effs.length:=by omega
     subst hie
     repeat refine qaa ?_
     exact⟨j+1,M,⟨rfl,trivial⟩,agr,⟨by omega,hM.congr fun v u _ _=>by rw [qmE,hevn,qpI];exact qom (by omega),hw.sel⟩,by omega⟩
  ·have hje:j=(t.ops.getD k dOp).effs.length:=by omega
   subst hje
   repeat refine qaa ?_
   exact⟨k+1,M,⟨rfl,trivial⟩,agr,⟨by omega,hM.congr fun v u _ _=>by rw [qmD,qol],hw.sel⟩,by omega⟩
 have hke:k=t.ops.length:=by omega
 subst hke
 have hml:=hM.len
 have hsl2:=hw.rowsLen
 have hM2:MI M t.vars.length (fun v u=>depK t t.ops.length v u∧¬(v<0∧u=v)):=hM.congr fun v u _ _=>⟨fun h=>⟨h,fun h=>absurd h.1 (Nat.not_lt_zero _)⟩,fun h=>h.1⟩
 clear hM
 repeat refine qaa ?_
 refine qao [15,93,94,95,96,97,98,99,100,101,102] (G:=Nat) (H:=List (List Bool)) (fun i _=>[(93,.int .i64 i)]) (fun i M w=>i≤t.vars.length∧MI M t.vars.length (fun v u=>depK t t.ops.length v u∧¬(v<i∧u=v))∧Sat w0 w [RowsAt tBool 4 ss M,OS tVal 56 out ss,Box pt 26 [a,b,c,d]]) (fun i _=>t.vars.length-i) 0 M (fun _ _=>rfl) ⟨rfl,trivial⟩ ⟨Nat.zero_le _,hM2,hw⟩ ?_
 clear hw hM2 hml hsl2 M
 rintro σ1 i M w ⟨hi,hM,hw⟩
 have hml:=hM.len
 have hsl2:=hw.rowsLen
 repeat refine qaa ?_
 refine go_if (fun h5 => ?_) (fun h5 => ?_)
 ·have hil:i<t.vars.length:=by omega
  have hrl:=hM.row i hil
  replace hw:=hw.rowOut (i:=i) (by omega)
  repeat (first|refine qaa ?_|(refine qag ?_;clear hw;intro w hw))
  replace hw:=Sat.rowBack (i:=i) (by omega) (by omega) hw
  refine⟨i+1,_,⟨rfl,trivial⟩,agr,⟨by omega,?_,hw⟩,by omega⟩
  exact (hM.setF (v:=i) (u:=i) hil hil).congr fun v u _ _=>⟨fun h=>⟨h.1.1,fun hh=>by
   by_cases e:v=i
   ·exact h.2 ⟨e,by omega⟩
   ·exact h.1.2 ⟨by omega,hh.2⟩⟩,fun h=>⟨⟨h.1,fun hh=>h.2 ⟨by omega,hh.2⟩⟩,fun hh=>h.2 ⟨by omega,by omega⟩⟩⟩
 ·have hie:i=t.vars.length:=by omega
  subst hie
  repeat refine qaa ?_
  refine qae (v:=out) rfl rfl ⟨out,ss,M,rfl,hM.congr fun v u hv hu => ?_,hw.sel⟩
  constructor
  ·rintro⟨h1,h2⟩
   exact⟨fun e=>h2 ⟨hv,by omega⟩,h1⟩
  ·rintro⟨h1,h2⟩
   exact⟨h2,fun hh=>h1 (by omega)⟩
end Go.Proofs.YtggdgcmjcahbbaaGreatDoor
/-
  Contracts of 'causal.Arcs' and 'patterns.Systematic'.
-/
namespace Go.Proofs.YtggdgcmjcahbbaaGreatDoor
open Go.Sl Go
attribute [local irreducible] vc opsW opsD opV opW PureV ReadV Thn Blk
theorem qix (t:TTask) (u:Nat):arcRow t u 0=[]:=qbf (Nat.le_refl _)
theorem qlV {t:TTask}{u v:Nat}(h:arcT t (u:Int) (v:Int)):arcRow t u (v+1)=arcRow t u v++[⟨(u:Int),(v:Int),1⟩]:=by
 unfold arcRow;rw [qaz (Nat.zero_le _),if_pos h]
theorem qkm {t:TTask}{u v:Nat}(h:¬arcT t (u:Int) (v:Int)):arcRow t u (v+1)=arcRow t u v:=by
 unfold arcRow;rw [qaz (Nat.zero_le _),if_neg h,List.append_nil]
theorem qiy (t:TTask) (u:Nat):arcAll t (u+1)=arcAll t u++arcRow t u t.vars.length:=by
 unfold arcAll;rw [qaz (Nat.zero_le _)]
set_option maxRecDepth 8000 in
set_option maxHeartbeats 4000000 in
theorem qmQ {w0:World}{a b c d:Value}{vs:List OpV}{t:TTask}(ht:RTask w0 a b c d vs t) (hg:GoodT t) :
  Calls Tryz.prog 46 #[.agg #[a,b,c,d]] w0 fun e w'=>∃ av,e=.returned (.tuple #[av,.nilIface])∧Sat w0 w' [OS tArc 108 av (arcAll t t.vars.length)]:=by
 have ht':=ht
 obtain⟨ha,hb,hc,hd⟩:=ht
 have hvb:=ha.big
 have hV:=hg.vars
 have hw:=Sat.start w0
 refine qab (args:=[.agg #[a,b,c,d]]) mixed Tryz.func46 rfl (by kernel_rfl) (Nat.le_of_ble_eq_true rfl) ?_
 repeat (first|refine qaa ?_|(refine qaf ?_;clear hw;intro p w hw))
 obtain⟨pt,hpt⟩:∃ pt,pt=p:=⟨p,rfl⟩
 subst hpt
 refine qad rfl (qa5 (ht'.at hw)) ?_
 rintro _ w' ⟨rfl,hk'⟩
 replace hw:=hw.call0 hk'
 clear hk'
 refine⟨_,rfl,?_⟩
 rw [qat ((qaM t).2 hg)]
 repeat refine qaa ?_
 refine qad rfl (qh9 (ht'.at hw) hg) ?_
 rintro _ w' ⟨out,ss,M,rfl,hM,hk'⟩
 replace hw:=hw.call2 hk'
 clear hk'
 refine⟨_,rfl,?_⟩
 have hml:=hM.len
 repeat refine qaa ?_
 have hw1:Sat w0 w' [OS tArc 108 (.slice none 0 0) (arcAll t 0),RowsAt tBool 4 ss M,OS tVal 56 out ss,Box pt 26 [a,b,c,d]]:=hw.nil (T:=tArc) (e:=108)
 clear hw
 refine qao [6,7,8,19,20,21,22,23,24,25,26,27,28,29,30,31,32,33,34,35,36,37,38,39,40,41,42] (G:=Nat) (H:=Value) (fun u av=>[(19,.int .i64 u),(6,av)]) (fun u av w=>u≤t.vars.length∧Sat w0 w [OS tArc 108 av (arcAll t u),RowsAt tBool 4 ss M,OS tVal 56 out ss,Box pt 26 [a,b,c,d]]) (fun u _=>t.vars.length-u) 0 (.slice none 0 0) (fun _ _=>rfl) ⟨rfl,rfl,trivial⟩ ⟨Nat.zero_le _,hw1⟩ ?_
 clear hw1
 rintro σ u av w ⟨hu,hw⟩
 repeat refine qaa ?_
 refine go_if (fun h1 => ?_) (fun h1 => ?_)
 ·have hul:u<t.vars.length:=by omega
  have hal:=qfU t u
  have hal2:u*t.vars.length≤64*64:=Nat.mul_le_mul (by omega) hV
  repeat refine qaa ?_
  have hw1:Sat w0 w [OS tArc 108 av (arcAll t u++arcRow t u 0),RowsAt tBool 4 ss M,OS tVal 56 out ss,Box pt 26 [a,b,c,d]]:=by rw [qix,List.append_nil];exact hw
  clear hw
  refine qao [6,8,25,26,27,28,29,30,31,32,33,34,35,36,37,38,39,40,41] (G:=Nat) (H:=Value) (fun v av=>[(25,.int .i64 v),(6,av)]) (fun v av w=>v≤t.vars.length∧Sat w0 w [OS tArc 108 av (arcAll t u++arcRow t u v),RowsAt tBool 4 ss M,OS tVal 56 out ss,Box pt 26 [a,b,c,d]]) (fun v _=>t.vars.length-v) 0 av (fun _ _=>rfl) ⟨rfl,rfl,trivial⟩ ⟨Nat.zero_le _,hw1⟩ ?_
  clear hw1
  rintro σ1 v av1 w ⟨hv,hw⟩
  have hsl:=hw.tail.rowsLen
  repeat refine qaa ?_
  refine go_if (fun h2 => ?_) (fun h2 => ?_)
  ·have hvl:v<t.vars.length:=by omega
   have hrow:=hw.tail.row (i:=v) (by omega)
   have hrl:=hM.row v hvl
   have hat:=hM.at_ v u hvl hul
   have hrl2:=qfT t u v
   have hall:(arcAll t u++arcRow t u v).length≤8192:=by rw [List.length_append];omega
   repeat refine qaC ?_
   have hat':(M.getD v []).getD u tBool.dflt=true↔arcT t (u:Int) (v:Int):=hat
   cases hb:(M.getD v []).getD u tBool.dflt with
   | false =>
    rw [hb] at hat'
    repeat refine qaa ?_
    exact⟨v+1,av1,⟨rfl,rfl,trivial⟩,agr,⟨by omega,by rw [qkm (fun h=>by have:=hat'.2 h;cases this)];exact hw⟩,by omega⟩
   | true =>
    rw [hb] at hat'
    repeat refine qaa ?_
    refine qam tArc (x1:=⟨(u:Int),(v:Int),1⟩) rfl rfl rfl (Nat.le_of_ble_eq_true rfl) (Nat.zero_lt_succ _) hw ?_
    clear hw hrow
    intro bs w hw
    refine qaY (s:=av1) (s2:=bs) inferInstance rfl rfl (rsO hw) rfl rfl (fun y hy v hv=>by
     rw [List.mem_singleton.1 hy] at hv
     simp only [tArc,List.mem_cons,List.not_mem_nil,or_false] at hv
     rcases hv with rfl|rfl|rfl <;> rfl) (by simp only [List.length_cons,List.length_nil];omega) (by unfold big;simp only [List.length_cons,List.length_nil];omega) hw ?_
    clear hw
    intro s' w hw
    repeat refine qaa ?_
    refine⟨v+1,s',⟨rfl,rfl,trivial⟩,agr,⟨by omega,?_⟩,by omega⟩
    rw [qlV (hat'.1 rfl),←List.append_assoc]
    exact hw.tail
  ·have hve:v=t.vars.length:=by omega
   subst hve
   rw [←qiy] at hw
   repeat refine qaa ?_
   exact⟨u+1,av1,⟨rfl,rfl,trivial⟩,agr,⟨by omega,hw⟩,by omega⟩
 ·have hue:u=t.vars.length:=by omega
  subst hue
  repeat refine qaa ?_
  exact qaq (v:=av) (v':=.nilIface) rfl rfl rfl ⟨av,rfl,hw.sel⟩
end Go.Proofs.YtggdgcmjcahbbaaGreatDoor
/-
  Contract of 'patterns.Systematic'.
-/
namespace Go.Proofs.YtggdgcmjcahbbaaGreatDoor
open Go.Sl Go
attribute [local irreducible] vc opsW opsD opV opW PureV ReadV Thn Blk
def goalV (t:TTask) (v:Nat):Prop:=∃ f∈t.goal,f.var=(v:Int)
theorem qm4 {t:TTask}{v:Nat}:goalV t v↔∃ i,i<t.goal.length∧(t.goal.getD i tFact.dflt).var=(v:Int):=qmF
theorem qk5 {t:TTask}{a:Nat}:sysP t [(a:Int)]↔goalV t a:=by
 constructor
 ·rintro⟨⟨v,hv,h⟩,_⟩
  rw [List.mem_singleton.1 hv] at h;exact h
 ·exact fun h=>⟨⟨a,List.mem_singleton_self _,h⟩,qnX⟩
theorem qoW {t:TTask}{a b:Nat}:sysP t [(a:Int),(b:Int)]↔(goalV t a∨goalV t b)∧nearT t a b:=by
 unfold sysP
 rw [qnY]
 refine and_congr ?_ Iff.rfl
 unfold goalP goalV
 simp [or_and_right,exists_or]
theorem qk6 {t:TTask}{a b c:Nat}:sysP t [(a:Int),(b:Int),(c:Int)]↔(goalV t a∨goalV t b∨goalV t c)∧((nearT t a b∧nearT t b c)∨(nearT t a b∧nearT t a c)∨(nearT t a c∧nearT t b c)):=by
 unfold sysP
 rw [qkt]
 refine and_congr ?_ Iff.rfl
 unfold goalP goalV
 simp [or_and_right,exists_or]
theorem qk7 {t:TTask}{x y:Nat}(hx:x<t.vars.length) (hy:y<t.vars.length):(∃ i,i<(arcAll t t.vars.length).length∧(((arcAll t t.vars.length).getD i tArc.dflt).src=(x:Int)∧((arcAll t t.vars.length).getD i tArc.dflt).dst=(y:Int)∨((arcAll t t.vars.length).getD i tArc.dflt).dst=(x:Int)∧((arcAll t t.vars.length).getD i tArc.dflt).src=(y:Int)))↔nearT t x y:=by
 constructor
 ·rintro⟨i,hi,h⟩
  obtain⟨u,v,_,_,ha,e⟩:=qcF.1 (qah tArc.dflt hi)
  rw [e] at h
  simp only at h
  rcases h with ⟨h1,h2⟩|⟨h1,h2⟩
  ·exact .inl (by rw [←h1,←h2];exact ha)
  ·exact .inr (by rw [←h1,←h2];exact ha)
 ·rintro (h|h)
  ·obtain⟨i,hi,e⟩:=List.getElem_of_mem (qcF.2 ⟨x,y,hx,hy,h,rfl⟩)
   exact⟨i,hi,by rw [qak hi,e];exact .inl ⟨rfl,rfl⟩⟩
  ·obtain⟨i,hi,e⟩:=List.getElem_of_mem (qcF.2 ⟨y,x,hy,hx,h,rfl⟩)
   exact⟨i,hi,by rw [qak hi,e];exact .inr ⟨rfl,rfl⟩⟩
def clip3 (size:Int):Nat:=(max 1 (min size 3)).toNat
theorem qk8 (size:Int):1≤clip3 size∧clip3 size≤3:=by unfold clip3;omega
set_option maxRecDepth 8000 in
set_option maxHeartbeats 8000000 in
theorem qcl {w0:World}{a b c d:Value}{vs:List OpV}{t:TTask}{size:Int}(ht:RTask w0 a b c d vs t) (hg:GoodT t) (hn:t.vars.length≤12) :
  Calls Tryz.prog 23 #[.agg #[a,b,c,d],.int .i64 size] w0 fun e w'=>∃ ov os,e=.returned (.tuple #[ov,.nilIface])∧Sat w0 w' [RowsAt tInt 3 os (sysL t (clip3 size)),OS tVal 22 ov os]:=by
 have ht':=ht
 obtain⟨ha,hb,hc,hd⟩:=ht
 have hvb:=ha.big
 have hgb:=hc.big
 have hw:=Sat.start w0
 refine qab (args:=[.agg #[a,b,c,d],.int .i64 size]) mixed Tryz.func23 rfl (by kernel_rfl) (Nat.le_of_ble_eq_true rfl) ?_
 repeat (first|refine qaa ?_|(refine qaf ?_;clear hw;intro p w hw))
 obtain⟨pt,hpt⟩:∃ pt,pt=p:=⟨p,rfl⟩
 subst hpt
 refine qad rfl (qmQ (ht'.at hw) hg) ?_
 rintro _ w' ⟨av,rfl,hk'⟩
 replace hw:=hw.call1 hk'
 clear hk'
 refine⟨_,rfl,?_⟩
 have hal:=qfU t t.vars.length
 have hal2:t.vars.length*t.vars.length≤12*12:=Nat.mul_le_mul hn hn
 have hmem:∀ i,i<(arcAll t t.vars.length).length→(0≤((arcAll t t.vars.length).getD i tArc.dflt).src∧((arcAll t t.vars.length).getD i tArc.dflt).src<t.vars.length)∧(0≤((arcAll t t.vars.length).getD i tArc.dflt).dst∧((arcAll t t.vars.length).getD i tArc.dflt).dst<t.vars.length):=fun i hi=>by
  obtain⟨u,v,hu,hv,_,e⟩:=qcF.1 (qah tArc.dflt hi)
  rw [e];simp only;omega
 repeat (first|refine qaa ?_|(refine qap ?_;clear hw;intro s w hw))
 obtain⟨out,hout⟩:∃ out,out=s:=⟨s,rfl⟩
 subst hout
 have hw:=hw.rowsNil (T:=tBool) (e:=4) t.vars.length
 rw [←qjH] at hw
 obtain⟨ss,hss⟩:∃ ss,ss=List.replicate t.vars.length (Value.slice none 0 0):=⟨_,rfl⟩
 have hsl:ss.length=t.vars.length:=by rw [hss];simp
 have hw1:Sat w0 w [RowsAt tBool 4 ss (mkR t.vars.length 0),OS tVal 56 out ss,OS tArc 108 av (arcAll t t.vars.length),Box pt 26 [a,b,c,d]]:=by rw [hss];exact hw
 clear hw hss
 have hl0:(List.replicate (↑t.vars.length:Int).toNat (Value.slice none 0 0)).length=t.vars.length:=by simp
 refine qao [10,39,40,41,42,43,44,45,46,47] (G:=Nat) (H:=List Value) (fun k _=>[(39,.int .i64 k)]) (fun k ss w=>k≤t.vars.length∧ss.length=t.vars.length∧Sat w0 w [RowsAt tBool 4 ss (mkR t.vars.length k),OS tVal 56 out ss,OS tArc 108 av (arcAll t t.vars.length),Box pt 26 [a,b,c,d]]) (fun k _=>t.vars.length-k) 0 ss (fun _ _=>rfl) ⟨rfl,trivial⟩ ⟨Nat.zero_le _,hsl,hw1⟩ ?_
 clear hw1 hsl ss
 rintro σ k ss w ⟨hk,hsl,hw⟩
 repeat refine qaa ?_
 refine go_if (fun h1 => ?_) (fun h1 => ?_)
 ·repeat (first|refine qaa ?_|(refine qag ?_;clear hw;intro w hw)|(refine qap ?_;clear hw;intro s w hw))
  replace hw:=Sat.rowNew (i:=k) (by rw [qme];omega) hw
  rw [Int.toNat_natCast,qmg] at hw
  exact⟨k+1,_,⟨rfl,trivial⟩,agr,⟨by omega,by rw [List.length_set];exact hsl,hw⟩,by omega⟩
 have hke:k=t.vars.length:=by omega
 subst hke
 rw [qmf] at hw
 clear hl0 h1
 repeat refine qaa ?_
 refine qao [12,50,51,52,53,54,55,56,57,58,59,60,61,62,63,64,65,66,67,68,69,70] (G:=Nat) (H:=List (List Bool)) (fun k _=>[(50,.int .i64 k)]) (fun k M w=>k≤(arcAll t t.vars.length).length∧MI M t.vars.length (fun x y=>(∃ i,i<k∧(((arcAll t t.vars.length).getD i tArc.dflt).src=(x:Int)∧((arcAll t t.vars.length).getD i tArc.dflt).dst=(y:Int)∨((arcAll t t.vars.length).getD i tArc.dflt).dst=(x:Int)∧((arcAll t t.vars.length).getD i tArc.dflt).src=(y:Int))))∧Sat w0 w [RowsAt tBool 4 ss M,OS tVal 56 out ss,OS tArc 108 av (arcAll t t.vars.length),Box pt 26 [a,b,c,d]]) (fun k _=>(arcAll t t.vars.length).length-k) 0 _ (fun _ _=>rfl) ⟨rfl,trivial⟩ ⟨Nat.zero_le _,(MI.rep t.vars.length).congr fun v u _ _=>⟨False.elim,fun⟨op,h,_⟩=>absurd h (Nat.not_lt_zero _)⟩,hw⟩ ?_
 clear hw hk
 rintro σ k M w ⟨hk,hM,hw⟩
 repeat refine qaa ?_
 refine go_if (fun h1 => ?_) (fun h1 => ?_)
 ·have hkl:k<(arcAll t t.vars.length).length:=by omega
  have hmk:=hmem k hkl
  have hlen:=hM.len
  have hssl:=hw.rowsLen
  repeat (first|refine qaa ?_|(refine qaf ?_;clear hw;intro p w hw)|(refine qas ?_;clear hw;intro w hw))
  refine qaD [.op 0,.op 1,.op 2,.op 3,.op 4,.op 5,.op 6,.op 7,.op 8,.op 9,.op 10,.op 11,.op 12,.op 13,.op 14,.op 15,.chk 13,.op 16,.op 17] hw (by kernel_rfl) ?_;clear hw;intro w hw
  repeat refine qaa ?_
  have hw1:Sat w0 w [RowsAt tBool 4 ss M,OS tVal 56 out ss,Box p 108 (tArc.enc ((arcAll t t.vars.length).getD k tArc.dflt)),OS tArc 108 av (arcAll t t.vars.length),Box pt 26 [a,b,c,d]]:=hw.sel
  clear hw
  have hrl:=hM.row ((arcAll t t.vars.length).getD k tArc.dflt).src.toNat (by omega)
  have hw:=hw1.rowOut (i:=((arcAll t t.vars.length).getD k tArc.dflt).src.toNat) (by omega)
  clear hw1
  repeat (first|refine qaa ?_|(refine qas ?_;clear hw;intro w hw))
  replace hw:=Sat.rowBack (i:=((arcAll t t.vars.length).getD k tArc.dflt).src.toNat) (by omega) (by omega) hw
  have hM1:=hM.setT (v:=((arcAll t t.vars.length).getD k tArc.dflt).src.toNat) (u:=((arcAll t t.vars.length).getD k tArc.dflt).dst.toNat) (by omega) (by omega)
  obtain⟨M1,hM1e⟩:∃ M1,M1=setM M ((arcAll t t.vars.length).getD k tArc.dflt).src.toNat ((arcAll t t.vars.length).getD k tArc.dflt).dst.toNat true:=⟨_,rfl⟩
  rw [←hM1e] at hM1
  change Sat w0 w (RowsAt tBool 4 ss (setM M ((arcAll t t.vars.length).getD k tArc.dflt).src.toNat ((arcAll t t.vars.length).getD k tArc.dflt).dst.toNat true)::_) at hw
  rw [←hM1e] at hw
  have hlen1:=hM1.len
  have hrl1:=hM1.row ((arcAll t t.vars.length).getD k tArc.dflt).dst.toNat (by omega)
  replace hw:=hw.rowOut (i:=((arcAll t t.vars.length).getD k tArc.dflt).dst.toNat) (by omega)
  repeat (first|refine qaa ?_|(refine qas ?_;clear hw;intro w hw))
  replace hw:=Sat.rowBack (i:=((arcAll t t.vars.length).getD k tArc.dflt).dst.toNat) (by omega) (by omega) hw
  change Sat w0 w (RowsAt tBool 4 ss (setM M1 ((arcAll t t.vars.length).getD k tArc.dflt).dst.toNat ((arcAll t t.vars.length).getD k tArc.dflt).src.toNat true)::_) at hw
  repeat refine qaa ?_
  refine⟨k+1,setM M1 ((arcAll t t.vars.length).getD k tArc.dflt).dst.toNat ((arcAll t t.vars.length).getD k tArc.dflt).src.toNat true,⟨rfl,trivial⟩,agr,⟨by omega,?_,hw.sel⟩,by omega⟩
  exact (hM1.setT (v:=((arcAll t t.vars.length).getD k tArc.dflt).dst.toNat) (u:=((arcAll t t.vars.length).getD k tArc.dflt).src.toNat) (by omega) (by omega)).congr fun x y _ _=>by
   rw [qcT,or_assoc]
   refine or_congr Iff.rfl (or_congr ⟨fun h=>⟨by omega,by omega⟩,fun h=>⟨by omega,by omega⟩⟩ ⟨fun h=>⟨by omega,by omega⟩,fun h=>⟨by omega,by omega⟩⟩)
 have hke:k=(arcAll t t.vars.length).length:=by omega
 subst hke
 have hN:MI M t.vars.length (fun x y=>nearT t (x:Int) (y:Int)):=hM.congr fun x y hx hy=>qk7 hx hy
 clear hM
 have hMl:=hN.len
 repeat (first|refine qaa ?_|(refine qap ?_;clear hw;intro s w hw))
 obtain⟨gv,hgv⟩:∃ gv,gv=s:=⟨s,rfl⟩
 subst hgv
 rw [Int.toNat_natCast] at hw
 refine qao [15,76,77,78,79,80,81,82,83,84] (G:=Nat) (H:=List Bool) (fun k _=>[(76,.int .i64 k)]) (fun k G w=>k≤t.goal.length∧VI G t.vars.length (fun x=>(∃ i,i<k∧(t.goal.getD i tFact.dflt).var=(x:Int)))∧Sat w0 w [OS tBool 4 gv G,RowsAt tBool 4 ss M,OS tVal 56 out ss,Box pt 26 [a,b,c,d]]) (fun k _=>t.goal.length-k) 0 _ (fun _ _=>rfl) ⟨rfl,trivial⟩ ⟨Nat.zero_le _,(VI.rep t.vars.length).congr fun v _=>⟨False.elim,fun⟨op,h,_⟩=>absurd h (Nat.not_lt_zero _)⟩,hw.sel⟩ ?_
 clear hw hk
 rintro σ k G w ⟨hk,hG,hw⟩
 have hGl:=hG.len
 repeat refine qaa ?_
 refine go_if (fun h1 => ?_) (fun h1 => ?_)
 ·have hkl:k<t.goal.length:=by omega
  have hfo:=qa9 hg.goal _ (qah tFact.dflt hkl)
  unfold FactOk at hfo
  repeat (first|refine qaa ?_|(refine qaf ?_;clear hw;intro p w hw)|(refine qag ?_;clear hw;intro w hw))
  refine⟨k+1,_,⟨rfl,trivial⟩,agr,⟨by omega,?_,hw.tail⟩,by omega⟩
  exact (hG.setT (u:=(t.goal.getD k tFact.dflt).var.toNat) (by omega)).congr fun x _=>by
   rw [qcT]
   exact or_congr Iff.rfl ⟨fun h=>by omega,fun h=>by omega⟩
 have hke:k=t.goal.length:=by omega
 subst hke
 have hV:VI G t.vars.length (goalV t):=hG.congr fun x _=>qm4.symm
 clear hG hk h1
 obtain⟨κ,hκ⟩:∃ κ,κ=clip3 size:=⟨_,rfl⟩
 have hκr:=qk8 size
 rw [←hκ] at hκr ⊢
 have hcl:(if (if 3<size then 3 else size)>1 then if 3<size then 3 else size else 1)=(κ:Int):=by rw [hκ];unfold clip3;split <;> split at*<;> omega
 repeat refine qaa ?_
 have hw1:Sat w0 w [RowsAt tInt 3 [] (s1K t 0),OS tVal 22 (.slice none 0 0) [],OS tBool 4 gv G,RowsAt tBool 4 ss M,OS tVal 56 out ss,Box pt 26 [a,b,c,d]]:=hw.nil.rows0
 clear hw
 refine qaJ [16,17,89,90,91,92,93,94,95,96,97,98,99,100,101] (G:=Nat) (H:=Value) (I:=List Value) (fun k ov _=>[(89,.int .i64 k),(16,ov)]) (fun k ov os w=>k≤t.vars.length∧Sat w0 w [RowsAt tInt 3 os (s1K t k),OS tVal 22 ov os,OS tBool 4 gv G,RowsAt tBool 4 ss M,OS tVal 56 out ss,Box pt 26 [a,b,c,d]]) (fun k _ _=>t.vars.length-k) 0 (.slice none 0 0) [] (fun _ _ _=>rfl) ⟨rfl,rfl,trivial⟩ ⟨Nat.zero_le _,hw1⟩ ?_
 clear hw1
 rintro σ k ov os w ⟨hk,hw⟩
 repeat refine qaa ?_
 refine go_if (fun h1 => ?_) (fun h1 => ?_)
 ·have hkl:k<t.vars.length:=by omega
  have hat:=hV.at_ k hkl
  have hlen:=qmd (t:=t) hn (k:=k) (by omega)
  have hol:=hw.rowsLen
  have hsk:s1K t (k+1)=s1K t k++ifP t [(k:Int)]:=by unfold s1K;rw [qaz (Nat.zero_le k)]
  repeat refine qaC ?_
  cases hb:G.getD k tBool.dflt with
  | false =>
   rw [show G.getD k false=false from hb] at hat
   repeat refine qaa ?_
   exact⟨k+1,ov,os,⟨rfl,rfl,trivial⟩,agr,⟨by omega,by rw [hsk,qiI (fun h=>by have:=hat.2 (qk5.1 h);cases this),List.append_nil];exact hw⟩,by omega⟩
  | true =>
   rw [show G.getD k false=true from hb] at hat
   repeat (first|refine qaa ?_|(refine qap ?_;clear hw;intro s w hw))
   exact⟨k+1,_,_,⟨rfl,rfl,trivial⟩,agr,⟨by omega,by rw [hsk,ql8 (qk5.2 (hat.1 rfl))];exact hw.tail.rowPush⟩,by omega⟩
 have hke:k=t.vars.length:=by omega
 subst hke
 have h1l:=qmd (t:=t) hn (Nat.le_refl _)
 have hs2z:s2K t t.vars.length 0=[]:=qbf (Nat.le_refl _)
 have hw1:Sat w0 w [RowsAt tInt 3 os (s1K t t.vars.length++s2K t t.vars.length 0),OS tVal 22 ov os,OS tBool 4 gv G,RowsAt tBool 4 ss M,OS tVal 56 out ss,Box pt 26 [a,b,c,d]]:=by rw [hs2z,List.append_nil];exact hw
 clear hw h1 hk
 repeat refine qaa ?_
 refine qaJ [16,18,19,102,103,104,105,106,107,108,109,110,111,112,113,114,115,116,117,118,119,120,121,122,123,124,125,126,127,128,129,130,131,132,133,134,135,136,137,138,139,140,141,142] (G:=Nat) (H:=Value) (I:=List Value) (fun k ov _=>[(18,.int .i64 k),(16,ov)]) (fun k ov os w=>k≤t.vars.length∧(2≤κ∨k=0)∧Sat w0 w [RowsAt tInt 3 os (s1K t t.vars.length++s2K t t.vars.length k),OS tVal 22 ov os,OS tBool 4 gv G,RowsAt tBool 4 ss M,OS tVal 56 out ss,Box pt 26 [a,b,c,d]]) (fun k _ _=>t.vars.length-k) 0 ov os (fun _ _ _=>rfl) ⟨rfl,rfl,trivial⟩ ⟨Nat.zero_le _,.inr rfl,hw1⟩ ?_
 clear hw1
 rintro σ1 k ov os w ⟨hk,hk2,hw⟩
 have hoo:=hw.rowsLen
 repeat refine qaa ?_
 refine go_if (fun h1 => ?_) (fun h1 => ?_)
 ·rw [hcl] at h1
  have hkn:k<t.vars.length:=by omega
  have hlen2:=qoO hn hkn (Nat.le_refl _)
  repeat refine qaa ?_
  have hs2b:s2B t k (k+1)=[]:=qbf (Nat.le_refl _)
  have hw1:Sat w0 w [RowsAt tInt 3 os (s1K t t.vars.length++s2K t t.vars.length k++s2B t k (k+1)),OS tVal 22 ov os,OS tBool 4 gv G,RowsAt tBool 4 ss M,OS tVal 56 out ss,Box pt 26 [a,b,c,d]]:=by rw [hs2b,List.append_nil];exact hw
  clear hw hoo
  refine qaJ [16,19,113,114,115,116,117,118,119,120,121,122,123,124,125,126,127,128,129,130,131,132,133,134,135,136,137,138,139,140,141,142] (G:=Nat) (H:=Value) (I:=List Value) (fun j ov _=>[(19,.int .i64 j),(16,ov)]) (fun j ov os w=>k+1≤j∧j≤t.vars.length∧Sat w0 w [RowsAt tInt 3 os (s1K t t.vars.length++s2K t t.vars.length k++s2B t k j),OS tVal 22 ov os,OS tBool 4 gv G,RowsAt tBool 4 ss M,OS tVal 56 out ss,Box pt 26 [a,b,c,d]]) (fun j _ _=>t.vars.length-j) (k+1) ov os (fun _ _ _=>rfl) ⟨rfl,rfl,trivial⟩ ⟨Nat.le_refl _,by omega,hw1⟩ ?_
  clear hw1
  rintro σ2 j ov1 os1 w ⟨hj0,hj,hw⟩
  repeat refine qaa ?_
  refine go_if (fun h2 => ?_) (fun h2 => ?_)
  ·have hjn:j<t.vars.length:=by omega
   have hat1:=hV.at_ k hkn
   have hat2:=hV.at_ j hjn
   have hat3:=hN.at_ k j hkn hjn
   have hlen3:=qoO hn hkn hj
   have hol:=hw.rowsLen
   rw [List.length_append,List.length_append] at hol
   have hsk:s2B t k (j+1)=s2B t k j++ifP t [(k:Int),(j:Int)]:=by unfold s2B;rw [qaz hj0]
   have hrow:=hw.tail.tail.tail.row (i:=k) (by omega)
   have hrl:=hN.row k hkn
   have hiff:((G.getD k tBool.dflt || G.getD j tBool.dflt) && (M.getD k []).getD j tBool.dflt)=true↔sysP t [(k:Int),(j:Int)]:=by
    rw [qoW,←hat1,←hat2,←hat3,Bool.and_eq_true,Bool.or_eq_true];rfl
   repeat refine qaC ?_
   cases hb:((G.getD k tBool.dflt || G.getD j tBool.dflt) && (M.getD k []).getD j tBool.dflt) with
   | false =>
    rw [hb] at hiff
    repeat refine qaa ?_
    exact⟨j+1,ov1,os1,⟨rfl,rfl,trivial⟩,agr,⟨by omega,by omega,by rw [hsk,qiI (fun h=>by have:=hiff.2 h;cases this),List.append_nil];exact hw⟩,by omega⟩
   | true =>
    rw [hb] at hiff
    clear hrow
    repeat refine qaa ?_
    refine qaU (T:=tInt) [(k:Int),(j:Int)] [.int .i64 k,.int .i64 j] rfl rfl rfl rfl rfl (Nat.le_of_ble_eq_true rfl) (Nat.zero_lt_succ _) (Nat.le_of_ble_eq_true rfl) hw ?_
    clear hw
    intro sv w hw
    repeat (first|refine qaa ?_|(refine qap ?_;clear hw;intro s w hw))
    exact⟨j+1,_,_,⟨rfl,rfl,trivial⟩,agr,⟨by omega,by omega,by rw [hsk,ql8 (hiff.1 rfl),←List.append_assoc];exact hw.tail.rowPush⟩,by omega⟩
  ·have hje:j=t.vars.length:=by omega
   subst hje
   repeat refine qaa ?_
   refine⟨k+1,ov1,os1,⟨rfl,rfl,trivial⟩,agr,⟨by omega,.inl (by omega),?_⟩,by omega⟩
   rw [show s2K t t.vars.length (k+1)=s2K t t.vars.length k++s2B t k t.vars.length by unfold s2K;rw [qaz (Nat.zero_le k)],←List.append_assoc]
   exact hw
 rw [hcl] at h1
 obtain⟨L2,hL2,hL2l,hLs⟩:∃ L2,s1K t t.vars.length++s2K t t.vars.length k=L2∧L2.length≤78∧L2=if 2≤κ then sysK t 1++sysK t 2 else sysK t 1:=by
  refine⟨_,rfl,?_,?_⟩
  ·have:=(qe6 hn).2.1
   rw [qgH] at this
   have h3:=qcE (g:=fun a=>s2B t a t.vars.length) (lo:=0) hk
   unfold s2K at *
   rw [List.length_append]
   omega
  ·by_cases e:2≤κ
   ·rw [if_pos e,qgG,qgH,show k=t.vars.length by omega]
   ·rw [if_neg e,qgG,show k=0 by omega,hs2z,List.append_nil]
 rw [hL2] at hw hoo
 clear hL2 h1 hk hk2 hs2z h1l
 have hs3z:s3K t t.vars.length 0=[]:=qbf (Nat.le_refl _)
 have hw1:Sat w0 w [RowsAt tInt 3 os (L2++s3K t t.vars.length 0),OS tVal 22 ov os,OS tBool 4 gv G,RowsAt tBool 4 ss M,OS tVal 56 out ss,Box pt 26 [a,b,c,d]]:=by rw [hs3z,List.append_nil];exact hw
 clear hw
 repeat refine qaa ?_
 refine qaJ [16,20,21,22,23,143,144,145,146,147,148,149,150,151,152,153,154,155,156,157,158,159,160,161,162,163,164,165,166,167,168,169,170,171,172,173,174,175,176,177,178,179,180,181,182,183,184,185,186,187,188,189,190,191,192,193,194,195,196,197,198,199,200,201,202,203,204,205,206,207,208,209,210,211,212,213,214,215,216,217,218,219,220,221,222,223,224,225,226,227,228,229,230,231,232,233,234,235,236,237,238,239,240,241,242,243,244,245,246,247,248] (G:=Nat) (H:=Value) (I:=List Value) (fun k ov _=>[(20,.int .i64 k),(16,ov)]) (fun k ov os w=>k≤t.vars.length∧(3≤κ∨k=0)∧Sat w0 w [RowsAt tInt 3 os (L2++s3K t t.vars.length k),OS tVal 22 ov os,OS tBool 4 gv G,RowsAt tBool 4 ss M,OS tVal 56 out ss,Box pt 26 [a,b,c,d]]) (fun k _ _=>t.vars.length-k) 0 ov os (fun _ _ _=>rfl) ⟨rfl,rfl,trivial⟩ ⟨Nat.zero_le _,.inr rfl,hw1⟩ ?_
 clear hw1 hoo
 rintro σ2 k ov os w ⟨hk,hk2,hw⟩
 have hoo:=hw.rowsLen
 have h3b:(s3K t t.vars.length k).length≤220:=by
  have h:=(qe6 hn).2.2
  rw [qdL] at h
  have h3:=qcE (g:=fun a=>s3B t t.vars.length a t.vars.length) (lo:=0) hk
  unfold s3K at *
  omega
 rw [List.length_append] at hoo
 repeat refine qaa ?_
 refine go_if (fun h1 => ?_) (fun h1 => ?_)
 ·rw [hcl] at h1
  have hkn:k<t.vars.length:=by omega
  repeat refine qaa ?_
  have hs3b:s3B t t.vars.length k (k+1)=[]:=qbf (Nat.le_refl _)
  have hw1:Sat w0 w [RowsAt tInt 3 os (L2++s3K t t.vars.length k++s3B t t.vars.length k (k+1)),OS tVal 22 ov os,OS tBool 4 gv G,RowsAt tBool 4 ss M,OS tVal 56 out ss,Box pt 26 [a,b,c,d]]:=by rw [hs3b,List.append_nil];exact hw
  clear hw hoo
  refine qaJ [16,21,22,23,159,160,161,162,163,164,165,166,167,168,169,170,171,172,173,174,175,176,177,178,179,180,181,182,183,184,185,186,187,188,189,190,191,192,193,194,195,196,197,198,199,200,201,202,203,204,205,206,207,208,209,210,211,212,213,214,215,216,217,218,219,220,221,222,223,224,225,226,227,228,229,230,231,232,233,234,235,236,237,238,239,240,241,242,243,244,245,246,247,248] (G:=Nat) (H:=Value) (I:=List Value) (fun j ov _=>[(21,.int .i64 j),(16,ov)]) (fun j ov os w=>k+1≤j∧j≤t.vars.length∧Sat w0 w [RowsAt tInt 3 os (L2++s3K t t.vars.length k++s3B t t.vars.length k j),OS tVal 22 ov os,OS tBool 4 gv G,RowsAt tBool 4 ss M,OS tVal 56 out ss,Box pt 26 [a,b,c,d]]) (fun j _ _=>t.vars.length-j) (k+1) ov os (fun _ _ _=>rfl) ⟨rfl,rfl,trivial⟩ ⟨Nat.le_refl _,by omega,hw1⟩ ?_
  clear hw1
  rintro σ3 j ov1 os1 w ⟨hj0,hj,hw⟩
  repeat refine qaa ?_
  refine go_if (fun h2 => ?_) (fun h2 => ?_)
  ·have hjn:j<t.vars.length:=by omega
   repeat refine qaa ?_
   have hs3c:s3C t k j (j+1)=[]:=qbf (Nat.le_refl _)
   have hw1:Sat w0 w [RowsAt tInt 3 os1 (L2++s3K t t.vars.length k++s3B t t.vars.length k j++s3C t k j (j+1)),OS tVal 22 ov1 os1,OS tBool 4 gv G,RowsAt tBool 4 ss M,OS tVal 56 out ss,Box pt 26 [a,b,c,d]]:=by rw [hs3c,List.append_nil];exact hw
   clear hw
   refine qaJ [16,22,23,166,167,168,169,170,171,172,173,174,175,176,177,178,179,180,181,182,183,184,185,186,187,188,189,190,191,192,193,194,195,196,197,198,199,200,201,202,203,204,205,206,207,208,209,210,211,212,213,214,215,216,217,218,219,220,221,222,223,224,225,226,227,228,229,230,231,232,233,234,235,236,237,238,239,240,241,242,243,244,245,246,247,248] (G:=Nat) (H:=Value) (I:=List Value) (fun l ov _=>[(22,.int .i64 l),(16,ov)]) (fun l ov os w=>j+1≤l∧l≤t.vars.length∧Sat w0 w [RowsAt tInt 3 os (L2++s3K t t.vars.length k++s3B t t.vars.length k j++s3C t k j l),OS tVal 22 ov os,OS tBool 4 gv G,RowsAt tBool 4 ss M,OS tVal 56 out ss,Box pt 26 [a,b,c,d]]) (fun l _ _=>t.vars.length-l) (j+1) ov1 os1 (fun _ _ _=>rfl) ⟨rfl,rfl,trivial⟩ ⟨Nat.le_refl _,by omega,hw1⟩ ?_
   clear hw1
   rintro σ4 l ov2 os2 w ⟨hl0,hl,hw⟩
   repeat refine qaa ?_
   refine go_if (fun h3 => ?_) (fun h3 => ?_)
   ·have hln:l<t.vars.length:=by omega
    have hat1:=hV.at_ k hkn
    have hat2:=hV.at_ j hjn
    have hat3:=hV.at_ l hln
    have hat4:=hN.at_ k j hkn hjn
    have hat5:=hN.at_ j l hjn hln
    have hat6:=hN.at_ k l hkn hln
    have hlen3:=qp0 hn hkn hj0 hjn hl
    have hol:=hw.rowsLen
    rw [List.length_append,List.length_append,List.length_append] at hol
    have hsk:s3C t k j (l+1)=s3C t k j l++ifP t [(k:Int),(j:Int),(l:Int)]:=by unfold s3C;rw [qaz hl0]
    have hrow1:=hw.tail.tail.tail.row (i:=k) (by omega)
    have hrl1:=hN.row k hkn
    have hrow2:=hw.tail.tail.tail.row (i:=j) (by omega)
    have hrl2:=hN.row j hjn
    have hiff:(((M.getD k []).getD j tBool.dflt && (M.getD j []).getD l tBool.dflt || (M.getD k []).getD j tBool.dflt && (M.getD k []).getD l tBool.dflt || (M.getD k []).getD l tBool.dflt && (M.getD j []).getD l tBool.dflt) && (G.getD k tBool.dflt || G.getD j tBool.dflt || G.getD l tBool.dflt))=true↔sysP t [(k:Int),(j:Int),(l:Int)]:=by
     rw [qk6,←hat1,←hat2,←hat3,←hat4,←hat5,←hat6]
     simp only [Bool.and_eq_true,Bool.or_eq_true]
     exact⟨fun⟨h1,h2⟩=>⟨or_assoc.1 h2,or_assoc.1 h1⟩,fun⟨h1,h2⟩=>⟨or_assoc.2 h2,or_assoc.2 h1⟩⟩
    repeat refine qaC ?_
    cases hb:(((M.getD k []).getD j tBool.dflt && (M.getD j []).getD l tBool.dflt || (M.getD k []).getD j tBool.dflt && (M.getD k []).getD l tBool.dflt || (M.getD k []).getD l tBool.dflt && (M.getD j []).getD l tBool.dflt) && (G.getD k tBool.dflt || G.getD j tBool.dflt || G.getD l tBool.dflt)) with
    | false =>
     rw [hb] at hiff
     repeat refine qaa ?_
     exact⟨l+1,ov2,os2,⟨rfl,rfl,trivial⟩,agr,⟨by omega,by omega,by rw [hsk,qiI (fun h=>by have:=hiff.2 h;cases this),List.append_nil];exact hw⟩,by omega⟩
    | true =>
     rw [hb] at hiff
     clear hrow1 hrow2
     repeat refine qaa ?_
     refine qaU (T:=tInt) [(k:Int),(j:Int),(l:Int)] [.int .i64 k,.int .i64 j,.int .i64 l] rfl rfl rfl rfl rfl (Nat.le_of_ble_eq_true rfl) (Nat.zero_lt_succ _) (Nat.le_of_ble_eq_true rfl) hw ?_
     clear hw
     intro sv w hw
     repeat (first|refine qaa ?_|(refine qap ?_;clear hw;intro s w hw))
     exact⟨l+1,_,_,⟨rfl,rfl,trivial⟩,agr,⟨by omega,by omega,by rw [hsk,ql8 (hiff.1 rfl),←List.append_assoc];exact hw.tail.rowPush⟩,by omega⟩
   ·have hle:l=t.vars.length:=by omega
    subst hle
    repeat refine qaa ?_
    refine⟨j+1,ov2,os2,⟨rfl,rfl,trivial⟩,agr,⟨by omega,by omega,?_⟩,by omega⟩
    rw [show s3B t t.vars.length k (j+1)=s3B t t.vars.length k j++s3C t k j t.vars.length by unfold s3B;rw [qaz hj0],←List.append_assoc]
    exact hw
  ·have hje:j=t.vars.length:=by omega
   subst hje
   repeat refine qaa ?_
   refine⟨k+1,ov1,os1,⟨rfl,rfl,trivial⟩,agr,⟨by omega,.inl (by omega),?_⟩,by omega⟩
   rw [show s3K t t.vars.length (k+1)=s3K t t.vars.length k++s3B t t.vars.length k t.vars.length by unfold s3K;rw [qaz (Nat.zero_le k)],←List.append_assoc]
   exact hw
 rw [hcl] at h1
 have hfin:L2++s3K t t.vars.length k=sysL t κ:=by
  have:κ=1∨κ=2∨κ=3:=by omega
  rcases this with e|e|e
  ·rw [hLs,if_neg (by omega),e,qnZ,show k=0 by omega,hs3z,List.append_nil]
  ·rw [hLs,if_pos (by omega),e,qn0,show k=0 by omega,hs3z,List.append_nil]
  ·rw [hLs,if_pos (by omega),e,qkw,qdL,show k=t.vars.length by omega]
 have hlf:(sysL t κ).length≤298:=by rw [←hfin,List.length_append];omega
 rw [hfin] at hw
 have hof:os.length=(sysL t κ).length:=hw.rowsLen
 repeat refine qaa ?_
 refine go_if (fun h4 => ?_) (fun h4 => ?_)
 ·exfalso;omega
 ·repeat refine qaa ?_
  exact qaq (v:=ov) (v':=.nilIface) rfl rfl rfl ⟨ov,os,rfl,hw.sel⟩
end Go.Proofs.YtggdgcmjcahbbaaGreatDoor
