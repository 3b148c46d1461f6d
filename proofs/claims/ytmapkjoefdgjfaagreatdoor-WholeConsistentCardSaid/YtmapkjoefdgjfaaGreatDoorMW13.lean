/- Several texts. -/
import Derived.Test.YtmapkjoefdgjfaaGreatDoorMW12
set_option linter.unusedSimpArgs false
set_option linter.unusedVariables false
set_option maxRecDepth 8000
set_option maxHeartbeats 16000000
open List Nat
namespace Go.Proofs.YtmapkjoefdgjfaaGreatDoor
section
open Go.Sl
def Bc (V l:List Int) (f:Int):Prop:=f∈l/\∀ g∈l,dg V g<dg V f\/(dg V g=dg V f/\f<=g)
theorem qdt {V l:List Int}{f f':Int}(h:Bc V l f) (h':Bc V l f'):f=f':=by
 rcases h.2 f' h'.1 with a|a<;>rcases h'.2 f h.1 with b|b<;>omega
theorem qhz {V:List Int}:∀ {l:List Int},l≠[]->∃ f,Bc V l f
 | [],h=>absurd rfl h
 | [x],_=>⟨x,mem_cons_self,fun g hg=>by rw[mem_singleton.1 hg];exact .inr ⟨rfl,Int.le_refl _⟩⟩
 | x::y::l,_=>by
  obtain⟨f,h1,h2⟩:=qhz (V:=V) (l:=y::l) (by simp);by_cases hx:dg V f<dg V x\/(dg V f=dg V x/\x<=f)
  ·refine⟨x,mem_cons_self,fun g hg=>?_⟩
   rcases mem_cons.1 hg with e|hg
   ·rw[e];exact .inr ⟨rfl,Int.le_refl _⟩
   ·rcases h2 g hg with h3|h3<;>omega
  ·refine⟨f,mem_cons_of_mem _ h1,fun g hg=>?_⟩
   rcases mem_cons.1 hg with e|hg
   ·rw[e];omega
   ·exact h2 g hg
theorem Bc.ge {V l:List Int}{f g:Int}(h:Bc V l f) (hg:g∈l):dg V g<=dg V f:=by
 rcases h.2 g hg with a|a<;>omega
def BY (V l:List Int):Prop:=∀ g∈l,dg V g<inf
inductive ZT (t:Aa) (V:List Int) (g0:Int):Int->Prop
 | goal:ZT t V g0 g0
 | step {u:Un}{f:Int}:u∈bh t->BY V u.an->Bc V u.an f->u.cost=0->ZT t V g0 u.makes->ZT t V g0 f
inductive ZS (t:Aa) (s V:List Int) (g0:Int):Int->Prop
 | st {f:Int}:BF t.vars s f->ZS t s V g0 f
 | start {u:Un}:u∈bh t->u.an=[]->¬ZT t V g0 u.makes->ZS t s V g0 u.makes
 | step {u:Un}{f:Int}:u∈bh t->BY V u.an->Bc V u.an f->ZS t s V g0 f->¬ZT t V g0 u.makes->ZS t s V g0 u.makes
def C9 (t:Aa) (s V:List Int) (g0:Int) (u:Un):Prop:=BY V u.an/\(u.an=[]\/∃ f,Bc V u.an f/\ZS t s V g0 f)/\ZT t V g0 u.makes
def A8 (t:Aa) (s V:List Int) (g0:Int) (i:Nat):Prop:=∃ u∈bh t,u.op=(i:Int)/\C9 t s V g0 u
def cq (t:Aa):List Int:=t.goal.map (cz t.vars)
structure AO (t:Aa) (s V:List Int) (g0:Int):Prop where
 hg:Af t
 hs:Ac t.vars s
 hm:AW t s V
 g:Bc V (cq t) g0
 pos:0<dg V g0
 fin:dg V g0<inf
theorem qR {t:Aa}{u:Un}(h:u∈bh t):∃ i:Nat,i<(bh t).length/\un (bh t) i=u:=by
 obtain⟨i,hi,he⟩:=getElem_of_mem h;exact⟨i,hi,by unfold un;rw[Int.toNat_natCast,getD_at hi];exact he⟩
theorem vu {t:Aa}{s:List Int}(hg:Af t) (hs:Ac t.vars s) {f:Int}(h:BF t.vars s f):0<=f/\f<ay t:=by
 obtain⟨v,hv,rfl⟩:=h;have iL:=hs.1;have hs0:=hs.2 v om;have hb:=qf4 hg.pos hv hs0.1 hs0.2;have:=pd hg;omega
section
variable {t:Aa}{s V:List Int}{g0:Int}
theorem AO.small (c:AO t s V g0) {f:Int}(h0:0<=f) (h1:f<ay t) (bD:dg V f<inf):dg V f<=4294967296:=by
 have hc:=qt6 V (ay t) (dg V f);have sa:=wS c.hg;have:=qm1 c.hg c.hs c.hm (ay t) f h0 h1 bD hc;omega
theorem AO.gK (c:AO t s V g0) {u:Un}(hu:u∈bh t) (hf:BY V u.an) {m:Int}(hm:0<=m) (hle:∀ n∈u.an,dg V n<=m):0<=u.makes/\u.makes<ay t/\dg V u.makes<=u.cost+m:=by
 obtain⟨i,hi,rfl⟩:=qR hu;have hU:=qF c.hg;have hk:=hU.makes i hi;refine⟨hk.1,hk.2,c.hm.low _ _ (.gK (v:=fun n=>dg V n) hi hm (fun n hn=>?_) hle) hk.1 hk.2⟩;have hr:=hU.an i hi n hn;exact c.hm.mG n hr.1 hr.2 (hf n hn)
theorem AO.rI (c:AO t s V g0) {u:Un}(hu:u∈bh t) {n:Int}(hn:n∈u.an):(0<=n/\n<ay t)/\0<=dg V n:=by
 obtain⟨i,hi,rfl⟩:=qR hu;have hr:=(qF c.hg).an i hi n hn;exact⟨hr,(c.hm.cC n hr.1 hr.2).1⟩
theorem AO.cost (c:AO t s V g0) {u:Un}(hu:u∈bh t):0<=u.cost/\u.cost<=1048576:=by
 obtain⟨i,hi,rfl⟩:=qR hu;exact(qF c.hg).cost i hi
theorem AO.xm (c:AO t s V g0) {f:Int}(h:ZT t V g0 f):dg V g0<=dg V f:=by
 induction h with
 | goal=>exact Int.le_refl _
 | @step u f hu hf eQ hc _ ih =>
  have hn:=c.rI hu eQ.1;have:=(c.gK hu hf (m:=dg V f) hn.2 fun n hn=>eQ.ge hn).2.2;omega
theorem AO.qS (c:AO t s V g0) {f:Int}(h:BF t.vars s f):dg V f<=0:=by
 have hr:=vu c.hg c.hs h;exact c.hm.low f 0 (.start h) hr.1 hr.2
theorem AO.yF (c:AO t s V g0) {f:Int}(h:ZS t s V g0 f):¬ZT t V g0 f:=by
 cases h with
 | st h=>intro hz;have h1:=c.xm hz;have h2:=c.qS h;have:=c.pos;omega
 | start _ _ h=>exact h
 | step _ _ _ _ h=>exact h
theorem AO.tq (c:AO t s V g0) {f:Int}(h:ZS t s V g0 f):(0<=f/\f<ay t)/\dg V f<inf:=by
 have e:inf=1125899906842624:=rfl
 cases h with
 | st h=>exact⟨vu c.hg c.hs h,by have:=c.qS h;omega⟩
 | @start u hu hn _ =>
  have h1:=c.gK hu (fun n h=>by rw[hn]at h;exact absurd h not_mem_nil) (Int.le_refl 0) (fun n h=>by rw[hn]at h;exact absurd h not_mem_nil);have h2:=c.cost hu
  exact⟨⟨h1.1,h1.2.1⟩,by omega⟩
 | @step u g hu hf eQ _ _ =>
  have hn:=c.rI hu eQ.1;have h1:=c.gK hu hf (m:=dg V g) hn.2 fun n hn=>eQ.ge hn;have h2:=c.cost hu;have h3:=c.small hn.1.1 hn.1.2 (hf g eQ.1);exact⟨⟨h1.1,h1.2.1⟩,by omega⟩
theorem AO.vw (c:AO t s V g0) {u:Un}(hu:u∈bh t) (h:C9 t s V g0 u):0<u.cost:=by
 obtain⟨hf,ny,hz⟩:=h;have h2:=c.cost hu;refine Int.not_le.1 fun h0=>?_;have lA:u.cost=0:=by omega
 rcases ny with hn|⟨f,eQ,vx⟩
 ·have h1:=c.gK hu hf (Int.le_refl 0) (fun n h=>by rw[hn]at h;exact absurd h not_mem_nil)
  have h3:=c.xm hz;have:=c.pos;omega
 ·exact c.yF vx (.step hu hf eQ lA hz)
theorem AO.some (c:AO t s V g0):∃ u∈bh t,C9 t s V g0 u:=by
 refine Classical.byContradiction fun iM=>?_;have qwW:∀ u∈bh t,¬C9 t s V g0 u:=fun u hu h=>iM ⟨u,hu,h⟩;have key:∀ {f v:Int},Be (bh t) (BF t.vars s) f v->ZS t s V g0 f:=by
  intro f v hd
  induction hd with
  | start h=>exact .st h
  | @gK i vv m hi hm hn hle ih =>
   have hu:un (bh t) i∈bh t:=u7 hi;have cZ:BY V (un (bh t) i).an:=fun n iB=>(c.tq (ih n iB)).2;by_cases ew:(un (bh t) i).an=[]
   ·by_cases hz:ZT t V g0 (un (bh t) i).makes
    ·exact absurd ⟨cZ,.inl ew,hz⟩ (qwW _ hu)
    ·exact .start hu ew hz
   ·obtain⟨f,eQ⟩:=qhz (V:=V) ew
    have hzf:=ih f eQ.1;by_cases hz:ZT t V g0 (un (bh t) i).makes
    ·exact absurd ⟨cZ,.inr ⟨f,eQ,hzf⟩,hz⟩ (qwW _ hu)
    ·exact .step hu cZ eQ hzf hz
 obtain⟨f,hf,he⟩:=mem_map.1 c.g.1;obtain⟨i,hi,e2⟩:=getElem_of_mem hf;have br:=(c.hg.goal i hi).1;rw[getD_at hi,e2]at br;have hr:=rz c.hg.pos br;have hN:=pd c.hg;rw[he]at hr;exact c.yF (key (c.hm.mG g0 hr.1 om c.fin)) .goal
theorem AO.qyp (c:AO t s V g0) {y p:List Int}{k:Int}(hp:CG t y p k):Ac t.vars y->(∀ f,BF t.vars y f->ZS t s V g0 f)->∃ op:Nat,(op:Int)∈p/\op<t.ops.length/\A8 t s V g0 op:=by
 induction hp with
 | @goal y hh =>
  intro hy hz;obtain⟨f,hf,he⟩:=mem_map.1 c.g.1;have h1:=hz _ (qco hy (qcp hh hf));rw[he]at h1
  exact absurd .goal (c.yF h1)
 | @step y op p k ho ha _ ih =>
  intro hy hz;by_cases nz:A8 t s V g0 op
  ·exact⟨op,mem_cons_self,ho,nz⟩
  ·have sT:=c.hg.op op ho
   obtain⟨q,h1,h2,h3⟩:=ih (qA c.hg hy ho) fun f hf=>by
    obtain⟨v,hv,rfl⟩:=hf;have iu:v<y.length:=by rw[hy.1];exact hv
    rcases qhv (s:=y) (l:=(t.ops.getD op aO).aw) (fun e he=>by have:=qB (sT.mem e he);rw[hy.1];exact⟨this.1,this.2.1⟩) iu with e|⟨k,hk,e1,e2,e3⟩
    ·exact hz _ ⟨v,hv,by rw[<-e];rfl⟩
    ·obtain⟨i,hi,iv⟩:=qtO ho hk
     have hu:un (bh t) i∈bh t:=u7 hi;have qG:(un (bh t) i).makes=aV t.vars v+(bm t y op).getD v aa.dflt:=by
      rw[iv];show aV t.vars ((t.ops.getD op aO).aw.getD k ba).var.toNat+((t.ops.getD op aO).aw.getD k ba).val=_;rw[e1,e2,Int.toNat_natCast];rfl
     have bW:(un (bh t) i).op=(op:Int):=by rw[iv];rfl
     have hns:∀ n∈(un (bh t) i).an,ZS t s V g0 n:=fun n hn=>by
      refine hz n ?_;rw[iv]at hn;rcases uy.1 hn with hn|⟨f,hf,rfl⟩
      ·rcases uy.1 hn with hn|⟨f,hf,rfl⟩
       ·simp at hn
       ·exact qco hy (qcp ha hf)
      ·exact qco hy (qcp e3 hf)
     have cZ:BY V (un (bh t) i).an:=fun n hn=>(c.tq (hns n hn)).2;rw[<-qG];by_cases ew:(un (bh t) i).an=[]
     ·by_cases hzt:ZT t V g0 (un (bh t) i).makes
      ·exact absurd ⟨_,hu,bW,cZ,.inl ew,hzt⟩ nz
      ·exact .start hu ew hzt
     ·obtain⟨f,eQ⟩:=qhz (V:=V) ew
      by_cases hzt:ZT t V g0 (un (bh t) i).makes
      ·exact absurd ⟨_,hu,bW,cZ,.inr ⟨f,eQ,hns f eQ.1⟩,hzt⟩ nz
      ·exact .step hu cZ eQ (hns f eQ.1) hzt
   exact⟨q,mem_cons_of_mem _ h1,h2,h3⟩
end
def aF (t:Aa) (cs:List Int):Aa:={ t with ops:=(List.range t.ops.length).map fun i=>{ t.ops.getD i aO with cost:=cs.getD i aa.dflt } }
def Az (t:Aa) (cs:List Int):Prop:=cs.length=t.ops.length/\∀ x∈cs,0<=x/\x<=1048576
section
variable {t:Aa}{cs:List Int}
theorem vy:(aF t cs).ops.length=t.ops.length:=by simp[aF]
theorem xn {i:Nat}(hi:i<t.ops.length):(aF t cs).ops.getD i aO={ t.ops.getD i aO with cost:=cs.getD i aa.dflt }:=by
 simp[aF,List.getD,hi]
theorem qkg {s:List Int}{op:Nat}(ho:op<t.ops.length):A6 (aF t cs) s op↔A6 t s op:=by
 unfold A6;rw[xn ho]
theorem qhQ {s:List Int}{op:Nat}(ho:op<t.ops.length):bm (aF t cs) s op=bm t s op:=by
 unfold bm;rw[xn ho]
theorem qdB {op:Nat}(ho:op<t.ops.length):pJ (aF t cs) op=cs.getD op aa.dflt:=by
 unfold pJ;rw[xn ho]
theorem vz (hg:Af t) (h:Az t cs):Af (aF t cs):=by
 refine⟨hg.vars,by rw[vy];exact hg.ops,hg.gd,hg.init,hg.goal,fun i hi=>?_⟩;rw[vy]at hi;rw[xn hi];have ho:=hg.op i hi;have hc:=h.2 _ (bY aa.dflt (show i<cs.length by rw[h.1];exact hi));exact { ho with jc:=hc.1,ly:=hc.2 }
theorem qhR (hg:Af t):aF t (ar t)=t:=by
 have h1:(List.range t.ops.length).map (fun i=>{ t.ops.getD i aO with cost:=(ar t).getD i aa.dflt })=t.ops:=by
  refine ext_getElem (by simp) fun i h1 h2=>?_;rw[getElem_map,getElem_range,wV h2,getD_at h2]
 unfold aF
 rw[h1]
def gq (cs:List Int) (K:List Nat) (c:Int):List Int:=(List.range cs.length).map fun i=>if i∈K then cs.getD i aa.dflt-c else cs.getD i aa.dflt
theorem xC (cs:List Int) (K:List Nat) (c:Int):(gq cs K c).length=cs.length:=by simp[gq]
theorem vS {K:List Nat}{c:Int}{i:Nat}(hi:i<cs.length):(gq cs K c).getD i aa.dflt=if i∈K then cs.getD i aa.dflt-c else cs.getD i aa.dflt:=by simp[gq,List.getD,hi]
def BZ (cs:List Int) (K:List Nat) (c:Int):Prop:=(∃ i∈K,i<cs.length/\cs.getD i aa.dflt=c)/\∀ i∈K,c<=cs.getD i aa.dflt
theorem qe2 {K:List Nat}{c:Int}(h:Az t cs) (hm:BZ cs K c):Az t (gq cs K c):=by
 obtain⟨i0,h1,h2,h3⟩:=hm.1;have lA:=h.2 _ (bY aa.dflt h2);rw[h3]at lA;refine⟨by rw[xC];exact h.1,fun x hx=>?_⟩;obtain⟨i,hi,rfl⟩:=getElem_of_mem hx;have eO:i<cs.length:=by rw[xC]at hi;exact hi
 rw[<-getD_at (d:=aa.dflt) hi,vS eO];have hc:=h.2 _ (bY aa.dflt eO);split
 ·rename_i hk;have:=hm.2 i hk;omega
 ·exact hc
theorem qvk {K:List Nat}{c:Int}(hl:cs.length=t.ops.length) (hc:0<=c) {y p:List Int}{k:Int}(h:CG (aF t cs) y p k):∃ k',CG (aF t (gq cs K c)) y p k'/\k'<=k/\((∃ op:Nat,(op:Int)∈p/\op∈K)->k'+c<=k):=by
 induction h with
 | goal hh=>exact⟨0,.goal hh,Int.le_refl _,fun⟨op,h1,_⟩=>absurd h1 not_mem_nil⟩
 | @step y op p k ho ha _ ih =>
  rw[vy]at ho;obtain⟨k',h1,h2,h3⟩:=ih;rw[qhQ ho]at h1;refine⟨_,.step (by rw[vy];exact ho) ((qkg ho).2 ((qkg ho).1 ha)) (by rw[qhQ ho];exact h1),?_,fun⟨q,q1,q2⟩=>?_⟩
  ·rw[qdB ho,qdB ho,vS om]
   split<;>omega
  ·rw[qdB ho,qdB ho,vS om]
   by_cases hk:op∈K
   ·rw[if_pos hk];omega
   ·rw[if_neg hk]
    rcases mem_cons.1 q1 with e|q1
    ·rw[Int.ofNat_inj]at e
     subst e;exact absurd q2 hk
    ·have:=h3 ⟨q,q1,q2⟩
     omega
end
inductive Ca (t:Aa) (s:List Int):List Int->Option (List (List Nat × Int))->Prop
 | dead {cs V:List Int}:AW (aF t cs) s V->bQ t.vars t.goal V=inf->Ca t s cs none
 | done {cs V:List Int}:AW (aF t cs) s V->bQ t.vars t.goal V=0->Ca t s cs (some [])
 | step {cs V:List Int}{g0:Int}{K:List Nat}{c:Int}{r:Option (List (List Nat × Int))}:AW (aF t cs) s V->0<bQ t.vars t.goal V->bQ t.vars t.goal V<inf->Bc V (cq t) g0->(∀ i,i∈K↔i<t.ops.length/\A8 (aF t cs) s V g0 i)->K.Pairwise (·<·)->BZ cs K c->Ca t s (gq cs K c) r->Ca t s cs (r.map ((K,c)::·))
def jL (l:List (List Nat × Int)):Int:=l.foldr (fun x n=>x.2+n) 0
def tO:Option (List (List Nat × Int))->Int|none=>inf|some l=>jL l
theorem qm6:∀ {l m:List Nat},l.Pairwise (·<·)->m.Pairwise (·<·)->(∀ i,i∈l↔i∈m)->l=m
 | [],[],_,_,_=>rfl
 | [],y::m,_,_,h=>absurd ((h y).2 mem_cons_self) not_mem_nil
 | x::l,[],_,_,h=>absurd ((h x).1 mem_cons_self) not_mem_nil
 | x::l,y::m,hl,hm,h=>by
  obtain⟨l1,l2⟩:=pairwise_cons.1 hl;obtain⟨m1,m2⟩:=pairwise_cons.1 hm;have e:x=y:=by
   have h1:=(h x).1 mem_cons_self;have h2:=(h y).2 mem_cons_self;rcases mem_cons.1 h1 with e|h1
   ·exact e
   ·rcases mem_cons.1 h2 with e|h2
    ·exact e.symm
    ·have:=m1 x h1;have:=l1 y h2;omega
  subst e
  rw[qm6 l2 m2 fun i=>⟨fun hi=>by
   rcases mem_cons.1 ((h i).1 (mem_cons_of_mem _ hi)) with e|eO
   ·subst e;have:=l1 i hi;omega
   ·exact eO,fun hi=>by
   rcases mem_cons.1 ((h i).2 (mem_cons_of_mem _ hi)) with e|eO
   ·subst e;have:=m1 i hi;omega
   ·exact eO⟩]
theorem qqk {cs:List Int}{K:List Nat}{c c':Int}(h:BZ cs K c) (h':BZ cs K c'):c=c':=by
 obtain⟨⟨i,h1,_,h2⟩,h3⟩:=h;obtain⟨⟨j,k1,_,k2⟩,k3⟩:=h';have:=h3 j k1;have:=k3 i h1;omega
section
variable {t:Aa}{s:List Int}
theorem qsY {cs:List Int}{r:Option (List (List Nat × Int))}(h:Ca t s cs r):∀ {r'},Ca t s cs r'->r=r':=by
 have e:(0:Int)≠inf:=by decide
 induction h with
 | dead h1 h2 =>
  intro r' h'
  cases h' with
  | dead _ _=>rfl
  | done k1 k2=>rw[wU h1 k1,k2]at h2;exact absurd h2 e
  | step k1 k2 k3 _ _ _ _ _=>rw[wU h1 k1]at h2;omega
 | done h1 h2 =>
  intro r' h'
  cases h' with
  | dead k1 k2=>rw[wU h1 k1,k2]at h2;exact absurd h2.symm e
  | done _ _=>rfl
  | step k1 k2 k3 _ _ _ _ _=>rw[wU h1 k1]at h2;omega
 | step h1 h2 h3 h4 h5 h6 h7 _ ih =>
  intro r' h'
  cases h' with
  | dead k1 k2=>rw[wU h1 k1]at h3;omega
  | done k1 k2=>rw[wU h1 k1]at h2;omega
  | step k1 k2 k3 k4 k5 k6 k7 k8 =>
   have eV:=wU h1 k1;subst eV;have eg:=qdt h4 k4;subst eg;have eK:=qm6 h6 k6 fun i=>(h5 i).trans (k5 i).symm;subst eK;have ec:=qqk h7 k7;subst ec;rw[ih k8]
theorem qvl {t:Aa}{V:List Int}{g0:Int}(hg:Bc V (cq t) g0) (hp:0<bQ t.vars t.goal V):bQ t.vars t.goal V=dg V g0:=by
 obtain⟨f,hf,he⟩:=mem_map.1 hg.1;have h1:dg V g0<=bQ t.vars t.goal V:=by rw[<-he];exact(u9 (wT _ _ _)).1 (Int.le_refl _) f hf
 refine Int.le_antisymm ?_ h1;by_cases h0:0<=dg V g0
 ·exact(u9 h0).2 fun f hf=>hg.ge (mem_map.2 ⟨f,hf,rfl⟩)
 ·have:bQ t.vars t.goal V<=0:=(u9 (Int.le_refl _)).2 fun f hf=>by have:=hg.ge (mem_map.2 ⟨f,hf,rfl⟩);omega
  omega
theorem qgB {cs V:List Int}{g0:Int}(hg:Af t) (hs:Ac t.vars s) (hc:Az t cs) (hm:AW (aF t cs) s V) (hp:0<bQ t.vars t.goal V) (hf:bQ t.vars t.goal V<inf) (eQ:Bc V (cq t) g0):AO (aF t cs) s V g0:=by
 have e:=qvl eQ hp;exact⟨vz hg hc,hs,hm,eQ,by omega,by omega⟩
theorem qql {cs V:List Int}{g0:Int}{i:Nat}(hg:Af t) (hc:Az t cs) (x:AO (aF t cs) s V g0) (hi:i<t.ops.length) (h:A8 (aF t cs) s V g0 i):1<=cs.getD i aa.dflt:=by
 obtain⟨u,hu,bW,mE⟩:=h;have h1:=x.vw hu mE;obtain⟨i',j,h2,h3,rfl⟩:=qeO.1 hu;have e:i'=i:=by
  have h4:(i':Int)=(i:Int):=bW;omega
 subst e;have h5:0<((aF t cs).ops.getD i' aO).cost:=h1;rw[xn hi]at h5;exact h5
theorem qiV {cs V:List Int}{g0:Int}(x:AO (aF t cs) s V g0):∃ i,i<t.ops.length/\A8 (aF t cs) s V g0 i:=by
 obtain⟨u,hu,mE⟩:=x.some;obtain⟨i',j,h2,h3,rfl⟩:=qeO.1 hu;rw[vy]at h2;exact⟨i',h2,_,hu,rfl,mE⟩
theorem qvm (hg:Af t) (hs:Ac t.vars s) {cs:List Int}{r:Option (List (List Nat × Int))}(h:Ca t s cs r):Az t cs->∀ {p:List Int}{k:Int},CG (aF t cs) s p k->∃ l,r=some l/\jL l<=k:=by
 induction h with
 | @dead cs V h1 h2 =>
  intro hc p k hp;have hgw:=vz hg hc;have h3:=(tM (t:=aF t cs) hs h1)
  have h4:cp (aF t cs) s<inf:=by
   have key:∀ {y q:List Int}{d:Int},CG (aF t cs) y q d->cp (aF t cs) y<inf:=by
    intro y q d hq
    induction hq with
    | goal hh=>rw[qqx hgw hh];decide
    | @step y op q d ho ha _ ih =>
     by_cases hy:Ac (aF t cs).vars y
     ·have g1:=qkp hgw hy ho ha
      have g2:=qof hgw _ ih;have g3:=zZ hgw ho;have e:inf=1125899906842624:=rfl;omega
     ·rw[qgD hy];decide
   exact key hp
  rw[h3,show bQ (aF t cs).vars (aF t cs).goal V=inf from h2]at h4
  omega
 | done _ _ =>
  intro hc p k hp
  exact⟨[],rfl,hp.nn (vz hg hc)⟩
 | @step cs V g0 K c r h1 h2 h3 h4 h5 h6 h7 _ ih =>
  intro hc p k hp;have x:=qgB hg hs hc h1 h2 h3 h4;obtain⟨op,o1,o2,o3⟩:=x.qyp hp hs fun f hf=>.st hf;rw[vy]at o2;obtain⟨⟨i,i1,i2,i3⟩,i4⟩:=h7;have lA:0<=c:=by have:=hc.2 _ (bY aa.dflt i2);omega
  obtain⟨k',q1,q2,q3⟩:=qvk (K:=K) hc.1 lA hp;have q4:=q3 ⟨op,o1,(h5 op).2 ⟨o2,o3⟩⟩;obtain⟨l,e,hl⟩:=ih (qe2 hc ⟨⟨i,i1,i2,i3⟩,i4⟩) q1;refine⟨(K,c)::l,by rw[e];rfl,?_⟩;show c+jL l<=k;omega
end
theorem qhS:∀ {l:List Nat}{x:Nat},x∈l->x<=l.sum
 | [],_,h=>absurd h not_mem_nil
 | y::l,x,h=>by
  rw[sum_cons];rcases mem_cons.1 h with e|h
  ·omega
  ·have:=qhS h;omega
theorem qkh (f g:Nat->Nat):∀ {l:List Nat},(∀ i∈l,f i<=g i)->(l.map f).sum<=(l.map g).sum
 | [],_=>Nat.le_refl _
 | x::l,h=>by
  have h1:=h x mem_cons_self;have h2:=qkh f g (l:=l) fun i hi=>h i (mem_cons_of_mem _ hi);simp only[map_cons,sum_cons];omega
theorem qfu (f g:Nat->Nat) (c:Nat):∀ {l:List Nat},(∀ i∈l,f i<=g i)->(∃ i∈l,f i+c<=g i)->(l.map f).sum+c<=(l.map g).sum
 | [],_,h=>by obtain⟨i,hi,_⟩:=h;exact absurd hi not_mem_nil
 | x::l,h,h2=>by
  have h1:=h x mem_cons_self;obtain⟨i,hi,h3⟩:=h2;simp only[map_cons,sum_cons];rcases mem_cons.1 hi with e|hi
  ·subst e
   have:=qkh f g (l:=l) fun i hi=>h i (mem_cons_of_mem _ hi);omega
  ·have:=qfu f g c (l:=l) (fun i hi=>h i (mem_cons_of_mem _ hi)) ⟨i,hi,h3⟩
   omega
theorem qe3 (cs:List Int):fa cs=((List.range cs.length).map fun i=>(cs.getD i aa.dflt).toNat).sum:=by
 unfold fa;congr 1;refine ext_getElem (by simp) fun i h1 h2=>?_;have hi:i<cs.length:=by simpa using h1
 rw[getElem_map,getElem_map,getElem_range,getD_at hi]
theorem qiW {cs:List Int}{K:List Nat}{c:Int}(h0:∀ x∈cs,0<=x) (hc:0<=c) (hm:BZ cs K c):fa (gq cs K c)+c.toNat<=fa cs:=by
 obtain⟨⟨i,h1,h2,h3⟩,h4⟩:=hm;rw[qe3,qe3,xC];refine qfu _ _ _ (fun j hj=>?_) ⟨i,mem_range.2 h2,?_⟩
 ·rw[vS (mem_range.1 hj)]
  split<;>omega
 ·rw[vS h2,if_pos h1]
  omega
theorem qqm {cs:List Int}{B:Nat}(h:∀ x∈cs,x<=(B:Int)):fa cs<=cs.length*B:=by
 induction cs with
 | nil=>exact zero_le _
 | cons x l ih =>
  have h1:=h x mem_cons_self;have h2:=ih fun y hy=>h y (mem_cons_of_mem _ hy);unfold fa at h2 ⊢;simp only[map_cons,sum_cons,length_cons,succ_mul];omega
section
variable {t:Aa}{s:List Int}
theorem qqn {cs:List Int}{r:Option (List (List Nat × Int))}(hg:Af t) (h:Ca t s cs r):Az t cs->∀ l,r=some l->0<=jL l/\jL l<=(fa cs:Int):=by
 induction h with
 | dead _ _=>intro _ l e;cases e
 | done _ _=>intro _ l e;cases e;exact⟨Int.le_refl _,Int.natCast_nonneg _⟩
 | @step cs V g0 K c r _ _ _ _ _ _ h7 _ ih =>
  intro hc l e;have kM:=qe2 hc h7;have hm:=h7;obtain⟨⟨i,i1,i2,i3⟩,i4⟩:=h7;have lA:0<=c:=by have:=hc.2 _ (bY aa.dflt i2);omega
  cases r with
  | none=>cases e
  | some l' =>
   have e2:l=(K,c)::l':=(Option.some.inj e).symm;subst e2;have h1:=ih kM l' rfl;have h2:=qiW (fun x hx=>(hc.2 x hx).1) lA hm;show 0<=c+jL l'/\c+jL l'<=_;omega
theorem qt7 (cs:List Int):∀ {K:List Nat},K≠[]->(∀ i∈K,i<cs.length)->∃ c,BZ cs K c
 | [],h,_=>absurd rfl h
 | [x],_,h=>⟨cs.getD x aa.dflt,⟨x,mem_cons_self,h x mem_cons_self,rfl⟩,fun i hi=>by rw[mem_singleton.1 hi];exact Int.le_refl _⟩
 | x::y::l,_,h=>by
  obtain⟨c,⟨i,h1,h2,h3⟩,h4⟩:=qt7 cs (K:=y::l) (by simp) fun i hi=>h i (mem_cons_of_mem _ hi);by_cases hx:c<=cs.getD x aa.dflt
  ·refine⟨c,⟨i,mem_cons_of_mem _ h1,h2,h3⟩,fun j hj=>?_⟩
   rcases mem_cons.1 hj with e|hj
   ·rw[e];exact hx
   ·exact h4 j hj
  ·refine⟨cs.getD x aa.dflt,⟨x,mem_cons_self,h x mem_cons_self,rfl⟩,fun j hj=>?_⟩
   rcases mem_cons.1 hj with e|hj
   ·rw[e];exact Int.le_refl _
   ·have:=h4 j hj;omega
structure Dw (t:Aa) (s cs V:List Int) (K:List Nat) (c:Int):Prop where
 asc:K.Pairwise (·<·)
 min:BZ cs K c
 pos:1<=c
 le:c<=1048576
 ne:K≠[]
 lt:∀ i∈K,i<t.ops.length
theorem qm7 {cs V:List Int}{g0:Int}{K:List Nat}{c:Int}(hg:Af t) (hc:Az t cs) (x:AO (aF t cs) s V g0) (hK:∀ i,i∈K↔i<t.ops.length/\A8 (aF t cs) s V g0 i) (ha:K.Pairwise (·<·)) (hm:BZ cs K c):Dw t s cs V K c:=by
 have sG:=hm;obtain⟨⟨i,i1,i2,i3⟩,i4⟩:=hm;obtain⟨k1,k2⟩:=(hK i).1 i1;have h1:=qql hg hc x k1 k2;have h2:=hc.2 _ (bY aa.dflt i2);exact⟨ha,sG,by omega,by omega,fun e=>by rw[e]at i1;exact absurd i1 not_mem_nil,fun j hj=>((hK j).1 hj).1⟩
open Classical in
theorem qv5 (hg:Af t) (hs:Ac t.vars s):∀ (m:Nat) {cs:List Int},Az t cs->fa cs<=m->∃ r,Ca t s cs r:=by
 intro m
 induction m with
 | zero =>
  intro cs hc hm;obtain⟨V,hV⟩:=xA (vz hg hc) s;by_cases h0:0<bQ t.vars t.goal V
  ·by_cases hf:bQ t.vars t.goal V<inf
   ·have cY:cq t≠[]:=fun e=>by
     have:t.goal=[]:=by simpa [cq] using e
     rw[this]at h0;exact absurd h0 (by simp[bQ])
    obtain⟨g0,eQ⟩:=qhz (V:=V) cY;have x:=qgB hg hs hc hV h0 hf eQ;obtain⟨i,hi,nz⟩:=qiV x;have h1:=qql hg hc x hi nz;have h2:(cs.getD i aa.dflt).toNat<=fa cs:=by
     rw[qe3];exact qhS (mem_map.2 ⟨i,mem_range.2 (by rw[hc.1];exact hi),rfl⟩)
    omega
   ·exact⟨_,.dead hV (by have:=qH (vz hg hc) hV;have e:bQ (aF t cs).vars (aF t cs).goal V=bQ t.vars t.goal V:=rfl;omega)⟩
  ·exact⟨_,.done hV (by have:=wT t.vars t.goal V;omega)⟩
 | succ m ih =>
  intro cs hc hm;obtain⟨V,hV⟩:=xA (vz hg hc) s;by_cases h0:0<bQ t.vars t.goal V
  ·by_cases hf:bQ t.vars t.goal V<inf
   ·have cY:cq t≠[]:=fun e=>by
     have:t.goal=[]:=by simpa [cq] using e
     rw[this]at h0;exact absurd h0 (by simp[bQ])
    obtain⟨g0,eQ⟩:=qhz (V:=V) cY;have x:=qgB hg hs hc hV h0 hf eQ;obtain⟨i,hi,nz⟩:=qiV x;have hK:∀ j,j∈(List.range t.ops.length).filter (fun j=>decide (A8 (aF t cs) s V g0 j))↔j<t.ops.length/\A8 (aF t cs) s V g0 j:=fun j=>by
     rw[mem_filter,mem_range,decide_eq_true_eq]
    have mr:((List.range t.ops.length).filter (fun j=>decide (A8 (aF t cs) s V g0 j))).Pairwise (·<·):=Pairwise.filter _ pairwise_lt_range;obtain⟨c,cV⟩:=qt7 cs (K:=(List.range t.ops.length).filter (fun j=>decide (A8 (aF t cs) s V g0 j))) (fun e=>by have:=(hK i).2 ⟨hi,nz⟩;rw[e]at this;exact absurd this not_mem_nil) (fun j hj=>by rw[hc.1];exact((hK j).1 hj).1);have hA:=qm7 hg hc x hK mr cV;have qw9:=qiW (fun x hx=>(hc.2 x hx).1) (by have:=hA.pos;omega) cV;obtain⟨r,hr⟩:=ih (qe2 hc cV) (by have:=hA.pos;omega);exact⟨_,.step hV h0 hf eQ hK mr cV hr⟩
   ·exact⟨_,.dead hV (by have:=qH (vz hg hc) hV;have e:bQ (aF t cs).vars (aF t cs).goal V=bQ t.vars t.goal V:=rfl;omega)⟩
  ·exact⟨_,.done hV (by have:=wT t.vars t.goal V;omega)⟩
end
theorem qbA {t:Aa}(hg:Af t):Az t (ar t):=⟨uz t,qeK hg⟩
open Classical in
noncomputable def kc (t:Aa) (s:List Int):Int:=if h:Ac t.vars s/\∃ r,Ca t s (ar t) r then tO (Classical.choose h.2) else 0
theorem qE {t:Aa}{s:List Int}{r:Option (List (List Nat × Int))}(hs:Ac t.vars s) (h:Ca t s (ar t) r):kc t s=tO r:=by
 have hx:Ac t.vars s/\∃ r,Ca t s (ar t) r:=⟨hs,r,h⟩
 unfold kc;rw[dif_pos hx,qsY (Classical.choose_spec hx.2) h]
theorem qxe {t:Aa}{s:List Int}(hs:¬Ac t.vars s):kc t s=0:=by
 unfold kc;rw[dif_neg fun h=>hs h.1]
theorem qm8 {t:Aa}(hg:Af t) {s:List Int}(hs:Ac t.vars s):∃ r,Ca t s (ar t) r:=qv5 hg hs _ (qbA hg) (Nat.le_refl _)
theorem qm9 {t:Aa}(hg:Af t) {s:List Int}{l:List (List Nat × Int)}(h:Ca t s (ar t) (some l)):0<=jL l/\jL l<=4294967296:=by
 obtain⟨h1,h2⟩:=qqn hg h (qbA hg) l rfl;have h3:=qqm (cs:=ar t) (B:=1048576) fun x hx=>(qeK hg x hx).2;have h4:(ar t).length*1048576<=4096*1048576:=mul_le_mul_right _ (by rw[uz];exact hg.ops);omega
theorem qv7 {t:Aa}(hg:Af t) {s p:List Int}{k:Int}(hp:CG t s p k):kc t s<inf/\kc t s<=k:=by
 have e:inf=1125899906842624:=rfl;by_cases hs:Ac t.vars s
 ·obtain⟨r,hr⟩:=qm8 hg hs
  have hp':CG (aF t (ar t)) s p k:=by rw[qhR hg];exact hp
  obtain⟨l,e1,h1⟩:=qvm hg hs hr (qbA hg) hp';subst e1;rw[qE hs hr];have:=qm9 hg hr;exact⟨by show jL l<inf;omega,h1⟩
 ·rw[qxe hs];exact⟨by omega,hp.nn hg⟩
end
section
open Go.Sl Go
attribute [local irreducible] vc opsW opsD opV opW PureV ReadV Thn Blk

end
section
open Go.Sl
section
variable {t:Aa}{D less:List Int}
end
end
section
open Go.Sl Go
attribute [local irreducible] vc opsW opsD opV opW PureV ReadV Thn Blk
def DE (w0:World) (f:Nat) (cs:List Value) (P:Int->Prop) (xs:List Int):Prop:=∀ (w:World) (Γ:List HP),Sat w0 w Γ->∀ x∈xs,Calls Tryz.prog f ([Value.int .i64 x]++cs).toArray w fun e w'=>(∃ r,e=.returned (.bool r)/\(r=true↔P x))/\Sat w w' []
theorem qvM {w0:World}{a:Value}{xs:List Int}{f:Nat}{cs:List Value}{P:Int->Prop} [Ae Tryz.prog f] (ha:RS aa w0 a xs) (hf:DE w0 f cs P xs) :
  Calls Tryz.prog 71 #[a,.func (.func f) #[] cs.toArray] w0 fun e w'=>(∃ r:Int,e=.returned (.int .i64 r)/\(0<=r↔∃ x∈xs,P x))/\Sat w0 w' []:=by
 have ir:=ha.bo;have hw:=Sat.start w0;refine bn (args:=[a,.func (.func f) #[] cs.toArray]) mixed Tryz.func71 ?_;refine ab ?_;refine cd [4,5,8,18] (G:=Nat) (fun k=>[(8,.int .i64 k)]) (fun k w=>k<=xs.length/\(∀ i,i<k->¬P (xs.getD i aa.dflt))/\Sat w0 w []) (fun k=>xs.length-k) 0 (fun _=>rfl) ⟨rfl,trivial⟩ ⟨zero_le _,fun i hi=>absurd hi (not_lt_zero _),hw⟩ ?_;clear hw;rintro σ k w ⟨hk,aN,hw⟩;refine ab ?_;refine ai ?_ ?_<;>intro h1
 ·have aK:k<xs.length:=by omega
  refine ab ?_;refine xq (cs:=cs) rfl rfl (hf _ _ hw _ (bY aa.dflt aK)) ?_;rintro _ w' ⟨⟨r,rfl,hr⟩,aj⟩;refine aC ?_;clear aj hw;intro hw;cases r
  ·have h2:¬P (xs.getD k aa.dflt):=fun h=>by cases hr.2 h
   refine ab ?_;refine⟨k+1,⟨rfl,trivial⟩,aH,⟨by omega,fun i hi=>?_,hw⟩,by omega⟩;by_cases h:i=k
   ·subst h;exact h2
   ·exact aN i om
  ·refine ab ?_
   exact aW (v:=.int .i64 k) rfl rfl ⟨⟨k,rfl,⟨fun _=>⟨_,bY aa.dflt aK,hr.1 rfl⟩,fun _=>by omega⟩⟩,hw⟩
 ·refine ab ?_
  refine aW (v:=.int .i64 (-1)) rfl rfl ⟨⟨-1,rfl,⟨fun h=>by omega,?_⟩⟩,hw⟩;rintro⟨x,hx,he⟩;obtain⟨i,hi,rfl⟩:=mem_iff_getElem.1 hx;exact absurd (by rw[getD_at hi];exact he) (aN i om)
theorem qdZ {t:Aa}{k:Nat}(h:k<t.ops.length):gC t (k+1)=min (gC t k) (t.ops.getD k aO).cost:=by
 unfold gC;rw[dJ aO h,foldl_append];rfl
theorem qhO {w:World}{t:Aa}{gv:Value}(h:RS aq w gv t.goal):A0 w (.iface 89 (.agg #[gv,.int .i64 (dR t)])) t (bO t) :=
 ⟨_,_,_,_,rfl,qm3 _,inferInstance,fun _ _ _ _ hs mH _=>ql1 (h.at hs) mH⟩
theorem qoP {w0:World}{a b c d:Value}{vs:List AK}{t:Aa}(ht:Am w0 a b c d vs t) (hg:Af t) :
  Calls Tryz.prog 24 #[.agg #[a,b,c,d]] w0 fun e w'=>∃ p,e=.returned (.tuple #[.pointer (some p),.nilIface])/\Sat w0 w' [Aj fun w=>Ay w p t (bO t)]:=by
 have eF:=ht;obtain⟨ha,hb,hc,hd⟩:=ht;have hdr:=hd.rs;have jZ:=hd.len;have kL:=qI hg.goal;have eW:=hg.vars;have l5:=hg.ops;have hw:=Sat.start w0;refine bn (args:=[.agg #[a,b,c,d]]) mixed Tryz.func24 ?_;refine db ?_;intro p w hw;obtain⟨pt,dO⟩:∃ pt,pt=p:=⟨p,rfl⟩
 subst dO;refine dj [4,4,6,6,10,18] (G:=Nat) (H:=Int) (fun k m=>[(10,.int .i64 k),(4,.int .i64 m)]) (fun k m w=>k<=t.ops.length/\m=gC t k/\Sat w0 w [Ad pt 26 [a,b,c,d]]) (fun k _=>t.ops.length-k) 0 inf (fun _ _=>rfl) ⟨rfl,rfl,trivial⟩ ⟨zero_le _,rfl,hw⟩ ?_;clear hw;rintro σ k m w ⟨hk,hm,hw⟩;refine ab ?_;refine ai ?_ ?_<;>intro h1
 ·have aK:k<t.ops.length:=by omega
  have bW:=hd.at_ k aK;have hone:=bW.one;have gg:=bW.cost;refine db ?_;intro p w hw;exact⟨k+1,_,⟨rfl,rfl,trivial⟩,aH,⟨by omega,by rw[qdZ aK,hm,<-gg];split<;>omega,hw.aT⟩,by omega⟩
 have cH:k=t.ops.length:=by omega
 subst cH;have hmc:m=dR t:=hm;subst hmc;refine ab ?_;refine rp [2,3,19,30] (G:=Addr) (fun g=>[(2,.pointer (some g)),(3,.nilIface)]) (fun g w=>Sat w0 w [Aj fun w=>Ay w g t (bO t)]) (fun _=>rfl) ?_ ?_
 ·refine qeV (.s [1,4,0,2,7] (.c 3 [0,7] (.d 5 [0,7] (.s [6] (.c 8 [0] (.s [9,10,11,12,13] (.lin [])))) (.d 8 [0] (.c 5 [0,7] (.s [6,9,10,11,12,13] (.lin []))) (.stop))))) hw kr kr ?_;clear hw;intro w hw
  refine ab ?_;refine aJ rfl (yT (hc.at hw) om) ?_;rintro _ w' ⟨gv,rfl,aj⟩;refine aA ?_;clear aj hw;intro hw;have og:=(aM (s:=gv) hw).one;refine ab ?_;refine jz ?_ (jz ?_ pU)
  ·refine ab ?_
   refine wA (v1:=gv) (v2:=.int .i64 (dR t)) rfl rfl rfl (by simp only[all_cons,all_nil,og];rfl) ?_;refine ab ?_;refine ab ?_;refine aJ rfl (sH (eF.at hw)) ?_;rintro _ w' ⟨rfl,aj⟩;refine aC ?_;clear aj hw;intro hw;rw[iy ((nZ t).2 hg)];refine ab ?_;refine aJ rfl (wC (h:=.iface 89 (.agg #[gv,.int .i64 (dR t)])) (H:=bO t) (eF.at hw) hg ⟨_,_,rfl⟩) ?_;rintro _ w' ⟨pe,rfl,aj⟩;refine aA ?_;clear aj hw;intro hw;refine ab ?_;have ct:Sat w0 w' [Aj fun w=>A0 w (.iface 89 (.agg #[gv,.int .i64 (dR t)])) t (bO t)->Ay w pe t (bO t),OS aq 63 gv t.goal,Ad pt 26 [a,b,c,d]]:=hw;have gX:=Sat.rd (Δ:=[Aj fun w=>A0 w (.iface 89 (.agg #[gv,.int .i64 (dR t)])) t (bO t)->Ay w pe t (bO t),OS aq 63 gv t.goal]) (φ:=fun w=>Ay w pe t (bO t)) (fun _ w h=>(h.dM 0 rfl) (qhO (h.rs 1 rfl))) ct;exact⟨pe,⟨rfl,rfl,trivial⟩,aH,gX.aT⟩
  ·refine ab ?_
   refine aJ rfl (sH (eF.at hw)) ?_;rintro _ w' ⟨rfl,aj⟩;refine aC ?_;clear aj hw;intro hw;rw[iy ((nZ t).2 hg)];refine ab ?_;refine ab ?_;refine wA (v1:=gv) (v2:=.int .i64 (dR t)) rfl rfl rfl (by simp only[all_cons,all_nil,og];rfl) ?_;refine ab ?_;refine aJ rfl (wC (h:=.iface 89 (.agg #[gv,.int .i64 (dR t)])) (H:=bO t) (eF.at hw) hg ⟨_,_,rfl⟩) ?_;rintro _ w' ⟨pe,rfl,aj⟩;refine aA ?_;clear aj hw;intro hw;refine ab ?_;have ct:Sat w0 w' [Aj fun w=>A0 w (.iface 89 (.agg #[gv,.int .i64 (dR t)])) t (bO t)->Ay w pe t (bO t),OS aq 63 gv t.goal,Ad pt 26 [a,b,c,d]]:=hw;have gX:=Sat.rd (Δ:=[Aj fun w=>A0 w (.iface 89 (.agg #[gv,.int .i64 (dR t)])) t (bO t)->Ay w pe t (bO t),OS aq 63 gv t.goal]) (φ:=fun w=>Ay w pe t (bO t)) (fun _ w h=>(h.dM 0 rfl) (qhO (h.rs 1 rfl))) ct;exact⟨pe,⟨rfl,rfl,trivial⟩,aH,gX.aT⟩
 clear hw;rintro σ0 pe w hw;refine ab ?_;exact dz (v:=.pointer (some pe)) (v':=.nilIface) rfl rfl rfl ⟨pe,rfl,hw⟩
end
end Go.Proofs.YtmapkjoefdgjfaaGreatDoor
