/-
  Several texts as one: WA49Aw, TAstH, TCut, TCut2.
-/
import Derived.Test.YtkmbenhffledpaaGreatMW16
import Derived.Test.YtkmbenhffledpaaGreatMW13
import Derived.Test.YtkmbenhffledpaaGreatMTA
set_option linter.unusedSimpArgs false
set_option linter.unusedVariables false
/-
  'awake' of layer 49: the example's search, calculated.
-/
namespace Go.Proofs.YtkmbenhffledpaaGreat
open Go.Sl Go
attribute [local irreducible] vc opsW opsD opV opW PureV ReadV Thn Blk
theorem qdI:unT exAT=[⟨0,0,1,1,[0]⟩,⟨1,0,1,2,[1]⟩,⟨2,0,1,3,[2]⟩,⟨3,0,5,3,[0]⟩]:=rfl
theorem exA_n:factN exAT=4:=rfl
theorem qsT:IsHM exAT [0] [0,1,2,3]:=by
 have hst:StF exAT.vars [0] 0:=⟨0,by decide,rfl⟩
 refine qgo (by decide) (fun g h0 h1 => ?_) (qbR qbU) (fun g hg => ?_) (fun i hi => ?_) (fun g h0 h1 h2 => ?_)
 ·rw [exA_n] at h1
  have h3:g=0∨g=1∨g=2∨g=3:=by omega
  rcases h3 with rfl|rfl|rfl|rfl <;> decide
 ·obtain⟨v,hv,rfl⟩:=hg
  have:v=0:=by simp [exAT] at hv;exact hv
  subst this;decide
 ·rw [qdI] at hi ⊢
  have h3:i=0∨i=1∨i=2∨i=3:=by simp at hi;omega
  rcases h3 with rfl|rfl|rfl|rfl <;> decide
 ·rw [exA_n] at h1
  have d0:Der (unT exAT) (StF exAT.vars [0]) 0 0:=.start hst
  have d1:Der (unT exAT) (StF exAT.vars [0]) 1 1:=.fire (i:=0) (v:=fun _=>0) (m:=0) (by decide) (by decide) (fun n hn=>by rw [qdI] at hn;rw [List.mem_singleton.1 hn];exact d0) (fun _ _=>Int.le_refl _)
  have d2:Der (unT exAT) (StF exAT.vars [0]) 2 2:=.fire (i:=1) (v:=fun _=>1) (m:=1) (by decide) (by decide) (fun n hn=>by rw [qdI] at hn;rw [List.mem_singleton.1 hn];exact d1) (fun _ _=>Int.le_refl _)
  have d3:Der (unT exAT) (StF exAT.vars [0]) 3 3:=.fire (i:=2) (v:=fun _=>2) (m:=2) (by decide) (by decide) (fun n hn=>by rw [qdI] at hn;rw [List.mem_singleton.1 hn];exact d2) (fun _ _=>Int.le_refl _)
  have h3:g=0∨g=1∨g=2∨g=3:=by omega
  rcases h3 with rfl|rfl|rfl|rfl
  ·exact d0
  ·exact d1
  ·exact d2
  ·exact d3
theorem qsU:IsHM exAT [1] [inf,0,1,2]:=by
 have hst:StF exAT.vars [1] 1:=⟨0,by decide,rfl⟩
 refine qgo (by decide) (fun g h0 h1 => ?_) (qbR qbU) (fun g hg => ?_) (fun i hi => ?_) (fun g h0 h1 h2 => ?_)
 ·rw [exA_n] at h1
  have h3:g=0∨g=1∨g=2∨g=3:=by omega
  rcases h3 with rfl|rfl|rfl|rfl <;> decide
 ·obtain⟨v,hv,rfl⟩:=hg
  have:v=0:=by simp [exAT] at hv;exact hv
  subst this;decide
 ·rw [qdI] at hi ⊢
  have h3:i=0∨i=1∨i=2∨i=3:=by simp at hi;omega
  rcases h3 with rfl|rfl|rfl|rfl <;> decide
 ·rw [exA_n] at h1
  have d1:Der (unT exAT) (StF exAT.vars [1]) 1 0:=.start hst
  have d2:Der (unT exAT) (StF exAT.vars [1]) 2 1:=.fire (i:=1) (v:=fun _=>0) (m:=0) (by decide) (by decide) (fun n hn=>by rw [qdI] at hn;rw [List.mem_singleton.1 hn];exact d1) (fun _ _=>Int.le_refl _)
  have d3:Der (unT exAT) (StF exAT.vars [1]) 3 2:=.fire (i:=2) (v:=fun _=>1) (m:=1) (by decide) (by decide) (fun n hn=>by rw [qdI] at hn;rw [List.mem_singleton.1 hn];exact d2) (fun _ _=>Int.le_refl _)
  have h3:g=0∨g=1∨g=2∨g=3:=by omega
  rcases h3 with rfl|rfl|rfl|rfl
  ·exact absurd h2 (by decide)
  ·exact d1
  ·exact d2
  ·exact d3
theorem qsV:IsHM exAT [2] [inf,inf,0,1]:=by
 have hst:StF exAT.vars [2] 2:=⟨0,by decide,rfl⟩
 refine qgo (by decide) (fun g h0 h1 => ?_) (qbR qbU) (fun g hg => ?_) (fun i hi => ?_) (fun g h0 h1 h2 => ?_)
 ·rw [exA_n] at h1
  have h3:g=0∨g=1∨g=2∨g=3:=by omega
  rcases h3 with rfl|rfl|rfl|rfl <;> decide
 ·obtain⟨v,hv,rfl⟩:=hg
  have:v=0:=by simp [exAT] at hv;exact hv
  subst this;decide
 ·rw [qdI] at hi ⊢
  have h3:i=0∨i=1∨i=2∨i=3:=by simp at hi;omega
  rcases h3 with rfl|rfl|rfl|rfl <;> decide
 ·rw [exA_n] at h1
  have d2:Der (unT exAT) (StF exAT.vars [2]) 2 0:=.start hst
  have d3:Der (unT exAT) (StF exAT.vars [2]) 3 1:=.fire (i:=2) (v:=fun _=>0) (m:=0) (by decide) (by decide) (fun n hn=>by rw [qdI] at hn;rw [List.mem_singleton.1 hn];exact d2) (fun _ _=>Int.le_refl _)
  have h3:g=0∨g=1∨g=2∨g=3:=by omega
  rcases h3 with rfl|rfl|rfl|rfl
  ·exact absurd h2 (by decide)
  ·exact absurd h2 (by decide)
  ·exact d2
  ·exact d3
theorem qsW:IsHM exAT [3] [inf,inf,inf,0]:=by
 have hst:StF exAT.vars [3] 3:=⟨0,by decide,rfl⟩
 refine qgo (by decide) (fun g h0 h1 => ?_) (qbR qbU) (fun g hg => ?_) (fun i hi => ?_) (fun g h0 h1 h2 => ?_)
 ·rw [exA_n] at h1
  have h3:g=0∨g=1∨g=2∨g=3:=by omega
  rcases h3 with rfl|rfl|rfl|rfl <;> decide
 ·obtain⟨v,hv,rfl⟩:=hg
  have:v=0:=by simp [exAT] at hv;exact hv
  subst this;decide
 ·rw [qdI] at hi ⊢
  have h3:i=0∨i=1∨i=2∨i=3:=by simp at hi;omega
  rcases h3 with rfl|rfl|rfl|rfl <;> decide
 ·rw [exA_n] at h1
  have d3:Der (unT exAT) (StF exAT.vars [3]) 3 0:=.start hst
  have h3:g=0∨g=1∨g=2∨g=3:=by omega
  rcases h3 with rfl|rfl|rfl|rfl
  ·exact absurd h2 (by decide)
  ·exact absurd h2 (by decide)
  ·exact absurd h2 (by decide)
  ·exact d3
def exH (s:List Int):Int:=if s=[0] then 3 else if s=[1] then 2 else if s=[2] then 1 else 0
theorem exA_H:hmaxH exAT=exH:=by
 funext s
 by_cases hs:StateOk exAT.vars s
 ·obtain⟨h1,h2⟩:=hs
  have hl:s.length=1:=h1
  obtain⟨x,rfl⟩:=List.length_eq_one_iff.1 hl
  have h3:=h2 0 (by simp)
  have h4:0≤x∧x<4:=h3
  have h5:x=0∨x=1∨x=2∨x=3:=by omega
  rcases h5 with rfl|rfl|rfl|rfl
  ·rw [qbZ (by decide) qsT];decide
  ·rw [qbZ (by decide) qsU];decide
  ·rw [qbZ (by decide) qsV];decide
  ·rw [qbZ (by decide) qsW];decide
 ·rw [qdc hs]
  unfold exH
  rw [if_neg (fun e=>hs (by rw [e];decide)),if_neg (fun e=>hs (by rw [e];decide)),if_neg (fun e=>hs (by rw [e];decide))]
def arN:AR→Nat|.solved i=>i+2|.none=>0|.unknown=>1
theorem qo8 {r:AR}{i:Nat}(h:arN r=i+2):r=.solved i:=by
 cases r with
 | solved j=>have h2:j+2=i+2:=h;rw [show j=i by omega]
 | none=>have h2:0=i+2:=h;omega
 | unknown=>have h2:1=i+2:=h;omega
theorem qq9 {r:AR}(h:arN r=0):r=.none:=by
 cases r with
 | solved j=>have h2:j+2=0:=h;omega
 | none=>rfl
 | unknown=>have h2:1=0:=h;omega
theorem qo9:arN (srchA ⟨exAT,exH,none⟩ 100).1=4∧(srchA ⟨exAT,exH,none⟩ 100).2.ex.length=3∧(srchA ⟨exAT,exH,none⟩ 100).2.lk.map (fun l=>l.par)=[-1,0,3,1]∧(srchA ⟨exAT,exH,none⟩ 100).2.lk.map (fun l=>l.op)=[-1,0,2,1]∧arN (srchA ⟨exAT,exH,some 2⟩ 100).1=0:=by decide +kernel
theorem qme {lk:List Lnk}{P:List Int}(h:lk.map (fun l=>l.par)=P) {i:Nat}(hi:i<P.length):(lk.getD i dLnk).par=P.getD i 0:=by
 subst h
 have:i<lk.length:=by rw [List.length_map] at hi;exact hi
 simp [List.getD,this]
theorem lk_op {lk:List Lnk}{P:List Int}(h:lk.map (fun l=>l.op)=P) {i:Nat}(hi:i<P.length):(lk.getD i dLnk).op=P.getD i 0:=by
 subst h
 have:i<lk.length:=by rw [List.length_map] at hi;exact hi
 simp [List.getD,this]
theorem qra:PlanR (srchA ⟨exAT,exH,none⟩ 100) [0,1,2]:=by
 obtain⟨r1,_,r3,r4,_⟩:=qo9
 have e:=qo8 (i:=2) r1
 unfold PlanR
 rw [e]
 generalize (srchA ⟨exAT,exH,none⟩ 100).2.lk=lk at r3 r4
 have h0:LPath lk 0 []:=.root (by rw [qme r3 (by decide)];decide)
 have h1:LPath lk 1 ([]++[(lk.getD 1 dLnk).op]):=.step (p:=0) (by rw [qme r3 (by decide)];rfl) h0
 have h2:LPath lk 3 (([]++[(lk.getD 1 dLnk).op])++[(lk.getD 3 dLnk).op]):=.step (p:=1) (by rw [qme r3 (by decide)];rfl) h1
 have h3:LPath lk 2 ((([]++[(lk.getD 1 dLnk).op])++[(lk.getD 3 dLnk).op])++[(lk.getD 2 dLnk).op]):=.step (p:=3) (by rw [qme r3 (by decide)];rfl) h2
 rw [lk_op r4 (by decide),lk_op r4 (by decide),lk_op r4 (by decide)] at h3
 exact h3
theorem qsX:Pln exAT exAT.init [0,1,2] 3:=by
 have h3:Pln exAT [3] [] 0:=.goal (by decide)
 have h2:Pln exAT [2] [2] (1+0):=.step (op:=2) (by decide) (by decide) h3
 have h1:Pln exAT [1] [1,2] (1+(1+0)):=.step (op:=1) (by decide) (by decide) h2
 have h0:Pln exAT [0] [0,1,2] (1+(1+(1+0))):=.step (t:=exAT) (s:=[0]) (op:=0) (by decide) (by decide) h1
 exact h0
set_option maxRecDepth 8000 in
set_option maxHeartbeats 4000000 in
theorem qgR {w0:World} :
  Calls Tryz.prog 23 #[] w0 fun e w'=>e=.returned (.bool true)∧Sat w0 w' []:=by
 obtain⟨r1,r2,r3,r4,r5⟩:=qo9
 have s1:=qo8 (i:=2) r1
 have s5:=qq9 r5
 have hw:=Sat.start w0
 refine qab (args:=[]) mixed Tryz.func23 rfl (by kernel_rfl) (Nat.le_of_ble_eq_true rfl) ?_
 repeat refine qaa ?_
 refine qac rfl qi1 ?_
 rintro _ w' ⟨a,b,c,d,vs,rfl,hk'⟩
 replace hw:=hw.call1 hk'
 clear hk'
 refine⟨_,rfl,?_⟩
 have ht0:=hw.rdE 0 rfl
 have o1:=ht0.vars.one
 have o2:=ht0.init.one
 have o3:=ht0.goal.one
 have o4:=ht0.ops.rs.one
 clear ht0
 repeat (first|refine qaa ?_|(refine qaf ?_;clear hw;intro p w hw))
 obtain⟨pt,hpt⟩:∃ pt,pt=p:=⟨p,rfl⟩
 subst hpt
 refine qat (n:=4) (p:=pt) (vs:=[a,b,c,d]) rfl rfl hw inferInstance rfl rfl (by simp only [List.all_cons,List.all_nil,o1,o2,o3,o4];rfl) ?_
 clear hw
 intro w hw
 repeat refine qaa ?_
 refine qac rfl (qkn (hw.rdE 1 rfl) qbU) ?_
 rintro _ w' ⟨ph,rfl,hk'⟩
 replace hw:=hw.call1 hk'
 clear hk'
 refine⟨_,rfl,?_⟩
 repeat refine qaa ?_
 refine qac rfl (qbr (ev:=.pointer (some ph)) (L:=100) (lim:=100) (hw.rdE 2 rfl) (qiD qbU) (.inr ⟨ph,rfl,hw.rdE 0 rfl⟩) rfl (by decide) (.inl (by decide))) ?_
 rintro _ w' ⟨pv,p,rfl,hP,hk'⟩
 rw [exA_H] at hP
 rw [exA_H,s1,r2]
 obtain rfl:p=[0,1,2]:=qmx hP qra
 have hco:coL exAT [0,1,2]=3:=by decide
 rw [hco]
 replace hw:=hw.call1 hk'
 clear hk' hP
 refine⟨_,rfl,?_⟩
 have opv:=(rsO (s:=pv) hw).one
 repeat (first|refine qaa ?_|(refine qaf ?_;clear hw;intro p w hw))
 obtain⟨p1,hp1⟩:∃ p1,p1=p:=⟨p,rfl⟩
 subst hp1
 refine qat (n:=4) (p:=p1) (vs:=[.int .i64 1,pv,.int .i64 3,.int .i64 3]) rfl rfl hw inferInstance rfl rfl (by simp only [List.all_cons,List.all_nil,opv];rfl) ?_
 clear hw
 intro w hw
 repeat refine qaa ?_
 refine qac rfl (qi4 (ev:=.pointer (some ph)) (L:=100) (bd:=2) (lim:=100) (hw.rdE 4 rfl) (qiD qbU) (.inr ⟨ph,rfl,hw.rdE 2 rfl⟩) rfl (by decide) (.inl (by decide))) ?_
 rintro _ w' ⟨qv,p2,rfl,hP,hk'⟩
 rw [exA_H] at hP
 rw [exA_H,s5]
 have hp2:p2=[]:=by unfold PlanR at hP;rw [s5] at hP;exact hP
 subst hp2
 rw [qeT]
 replace hw:=hw.call1 hk'
 clear hk' hP
 refine⟨_,rfl,?_⟩
 generalize (srchA ⟨exAT,exH,some 2⟩ 100).2.ex.length=nx
 have oqv:=(rsO (s:=qv) hw).one
 repeat (first|refine qaa ?_|(refine qaf ?_;clear hw;intro p w hw))
 obtain⟨p3,hp3⟩:∃ p3,p3=p:=⟨p,rfl⟩
 subst hp3
 refine qat (n:=4) (p:=p3) (vs:=[.int .i64 2,qv,.int .i64 0,.int .i64 nx]) rfl rfl hw inferInstance rfl rfl (by simp only [List.all_cons,List.all_nil,oqv];rfl) ?_
 clear hw
 intro w hw
 repeat refine qaa ?_
 refine qac rfl (qaU (pv:=pv) (p:=[0,1,2]) (vd:=1) (co:=3) (ex:=3) (best:=3) (hw.rdE 6 rfl) qbU (rsO (s:=pv) hw) (by decide) (.inr ⟨by decide,rfl,qsX,rfl⟩)) ?_
 rintro _ w' ⟨rfl,hk'⟩
 replace hw:=hw.call0 hk'
 clear hk'
 refine⟨_,rfl,?_⟩
 repeat refine qaa ?_
 refine qa0 (T:=tInt) [0,1,2] [.int .i64 0,.int .i64 1,.int .i64 2] rfl rfl rfl rfl rfl (Nat.le_of_ble_eq_true rfl) (Nat.zero_lt_succ _) (Nat.le_of_ble_eq_true rfl) hw ?_
 clear hw
 intro ls w hw
 repeat refine qaa ?_
 refine qac rfl (qp0 (a:=pv) (b:=ls) (rsO (s:=pv) hw) (rsO (s:=ls) hw)) ?_
 rintro _ w' ⟨⟨r,rfl,hr⟩,hk'⟩
 replace hw:=hw.call0 hk'
 clear hk'
 refine⟨_,rfl,?_⟩
 obtain rfl:r=true:=hr.2 rfl
 repeat refine qaa ?_
 exact qae (v:=.bool true) rfl rfl ⟨rfl,qaG hw⟩
end Go.Proofs.YtkmbenhffledpaaGreat
/-
  Finite values of hmax are small, in plain Lean.
-/
namespace Go.Proofs.YtkmbenhffledpaaGreat
open Go.Sl
section
variable {t:TTask}{s out:List Int}
theorem qpv (hg:GoodT t) (hs:StateOk t.vars s) (h:IsHM t s out) {f v:Int}(hd:Der (unT t) (StF t.vars s) f v):0≤f→f<factN t→v=dg out f→0<v→v<inf→∃ g:Int,0≤g∧g<factN t∧dg out g<v∧v≤dg out g+1048576:=by
 have hU:=qbR hg
 induction hd with
 | start _=>intro _ _ _ h0;omega
 | @fire i vv m hi hm hn hle ih =>
  intro h0 h1 he hv hlt
  have hc:=hU.cost i hi
  have hr:=hU.needs i hi
  by_cases hex:∃ n∈(un (unT t) i).needs,dg out n=m
  ·obtain⟨n,hnm,hne⟩:=hex
   have hrn:=hr n hnm
   by_cases hc0:(un (unT t) i).cost=0
   ·have h3:=h.low n (vv n) (hn n hnm) hrn.1 hrn.2
    have h4:=hle n hnm
    obtain⟨g,g1,g2,g3,g4⟩:=ih n hnm hrn.1 hrn.2 (by omega) (by omega) (by omega)
    exact⟨g,g1,g2,by omega,by omega⟩
   ·exact⟨n,hrn.1,hrn.2,by omega,by omega⟩
  ·have hlt2:∀ n∈(un (unT t) i).needs,dg out n<m:=fun n hnm=>by
    have h3:=h.low n (vv n) (hn n hnm) (hr n hnm).1 (hr n hnm).2
    have h4:=hle n hnm
    have h5:dg out n≠m:=fun e=>hex ⟨n,hnm,e⟩
    omega
   by_cases hm0:0<m
   ·have hd2:Der (unT t) (StF t.vars s) (un (unT t) i).makes ((un (unT t) i).cost+(m-1)):=.fire (v:=fun n=>dg out n) hi (by omega) (fun n hnm=>h.der n (hr n hnm).1 (hr n hnm).2 (by have:=hlt2 n hnm;omega)) (fun n hnm=>by have:=hlt2 n hnm;show dg out n≤m-1;omega)
    have h3:=h.low _ _ hd2 h0 h1
    omega
   ·have hvl:0<t.vars.length:=by
     refine Nat.pos_of_ne_zero fun e => ?_
     have h5:=qaX hg
     rw [e] at h5
     have h6:firstV t.vars 0=0:=qgc _
     omega
    have hst:StF t.vars s (firstV t.vars 0+s.getD 0 tInt.dflt):=⟨0,hvl,rfl⟩
    have hsl:=hs.1
    have hs0:=hs.2 0 (by omega)
    have hb:=qgd hg.pos hvl hs0.1 hs0.2
    have h5:=qaX hg
    have h6:=h.low _ 0 (.start hst) hb.1 (by omega)
    have h7:=h.rng (firstV t.vars 0+s.getD 0 tInt.dflt) hb.1 (by omega)
    exact⟨_,hb.1,by omega,by omega,by omega⟩
def cntH (out:List Int) (N:Nat) (x:Int):Nat:=(List.range N).countP fun (g:Nat)=>decide (dg out (g:Int)<x)
theorem qmn (hg:GoodT t) (hs:StateOk t.vars s) (h:IsHM t s out):∀ (m:Nat) (f:Int),0≤f→f<factN t→dg out f<inf→cntH out (factN t) (dg out f)≤m→dg out f≤1048576*(m:Int):=by
 intro m
 induction m with
 | zero =>
  intro f h0 h1 hlt hc
  refine Int.not_lt.1 fun hp => ?_
  obtain⟨g,g1,g2,g3,g4⟩:=qpv hg hs h (h.der f h0 h1 hlt) h0 h1 rfl (by omega) hlt
  have:0<cntH out (factN t) (dg out f):=List.countP_pos_iff.2 ⟨g.toNat,List.mem_range.2 (by omega),by rw [Int.toNat_of_nonneg g1];exact decide_eq_true g3⟩
  omega
 | succ m ih =>
  intro f h0 h1 hlt hc
  by_cases hp:0<dg out f
  ·obtain⟨g,g1,g2,g3,g4⟩:=qpv hg hs h (h.der f h0 h1 hlt) h0 h1 rfl hp hlt
   have hcl:cntH out (factN t) (dg out g)<cntH out (factN t) (dg out f):=by
    refine qfG (fun x _ hx => ?_) ⟨g.toNat,List.mem_range.2 (by omega),by rw [Int.toNat_of_nonneg g1];exact decide_eq_true g3,by rw [Int.toNat_of_nonneg g1];exact decide_eq_false (Int.lt_irrefl _)⟩
    have:=of_decide_eq_true hx
    exact decide_eq_true (by omega)
   have:=ih g g1 g2 (by omega) (by omega)
   omega
  ·omega
theorem qsi (out:List Int) (N:Nat) (x:Int):cntH out N x≤N:=by
 have h:=List.countP_le_length (p:=fun g:Nat=>decide (dg out (g:Int)<x)) (l:=List.range N)
 rw [List.length_range] at h;exact h
end
theorem qeV {t:TTask}(hg:GoodT t):∀ y,hmaxH t y<inf→hmaxH t y≤4294967296:=fun y hlt=>by
 by_cases hs:StateOk t.vars y
 ·obtain⟨out,h⟩:=qbX hg y
  rw [qbZ hs h] at hlt ⊢
  refine (qcO (by decide)).2 fun f hf => ?_
  have h1:dg out (numF t.vars f)≤maxG t.vars t.goal out:=(qcO (qc9 _ _ _)).1 (Int.le_refl _) f hf
  obtain⟨i,hi,e⟩:=List.getElem_of_mem hf
  have hok:=(hg.goal i hi).1
  rw [qaj hi,e] at hok
  have hr:=qbf hg.pos hok
  have hN:=qaX hg
  have hNl:=qcm hg
  have hc:=qsi out (factN t) (dg out (numF t.vars f))
  have h2:=qmn hg hs h (factN t) _ hr.1 (by omega) (by omega) hc
  omega
 ·rw [qdc hs];decide
theorem qm8 {t:TTask}(hg:GoodT t):Cons t (hmaxH t):=fun _ _ hs ho ha=>qer hg hs ho ha
end Go.Proofs.YtkmbenhffledpaaGreat
/-
  LM-cut, in plain Lean: the zones of the justification graph, cuts, and that each plan uses an operator of a cut.
-/
namespace Go.Proofs.YtkmbenhffledpaaGreat
open Go.Sl
def GrtF (V l:List Int) (f:Int):Prop:=f∈l∧∀ g∈l,dg V g<dg V f∨(dg V g=dg V f∧f≤g)
theorem qdl {V l:List Int}{f f':Int}(h:GrtF V l f) (h':GrtF V l f'):f=f':=by
 rcases h.2 f' h'.1 with a|a <;> rcases h'.2 f h.1 with b|b <;> omega
theorem qg7 {V:List Int}:∀ {l:List Int},l≠[]→∃ f,GrtF V l f
 | [],h=>absurd rfl h
 | [x],_=>⟨x,List.mem_cons_self,fun g hg=>by rw [List.mem_singleton.1 hg];exact .inr ⟨rfl,Int.le_refl _⟩⟩
 | x::y::l,_=>by
  obtain⟨f,h1,h2⟩:=qg7 (V:=V) (l:=y::l) (by simp)
  by_cases hx:dg V f<dg V x∨(dg V f=dg V x∧x≤f)
  ·refine⟨x,List.mem_cons_self,fun g hg => ?_⟩
   rcases List.mem_cons.1 hg with e|hg
   ·rw [e];exact .inr ⟨rfl,Int.le_refl _⟩
   ·rcases h2 g hg with h3|h3 <;> omega
  ·refine⟨f,List.mem_cons_of_mem _ h1,fun g hg => ?_⟩
   rcases List.mem_cons.1 hg with e|hg
   ·rw [e];omega
   ·exact h2 g hg
theorem GrtF.ge {V l:List Int}{f g:Int}(h:GrtF V l f) (hg:g∈l):dg V g≤dg V f:=by
 rcases h.2 g hg with a|a <;> omega
def FinN (V l:List Int):Prop:=∀ g∈l,dg V g<inf
inductive ZT (t:TTask) (V:List Int) (g0:Int):Int→Prop
 | goal:ZT t V g0 g0
 | step {u:Un}{f:Int}:u∈unT t→FinN V u.needs→GrtF V u.needs f→u.cost=0→ZT t V g0 u.makes→ZT t V g0 f
inductive ZS (t:TTask) (s V:List Int) (g0:Int):Int→Prop
 | st {f:Int}:StF t.vars s f→ZS t s V g0 f
 | start {u:Un}:u∈unT t→u.needs=[]→¬ZT t V g0 u.makes→ZS t s V g0 u.makes
 | step {u:Un}{f:Int}:u∈unT t→FinN V u.needs→GrtF V u.needs f→ZS t s V g0 f→¬ZT t V g0 u.makes→ZS t s V g0 u.makes
def CrsU (t:TTask) (s V:List Int) (g0:Int) (u:Un):Prop:=FinN V u.needs∧(u.needs=[]∨∃ f,GrtF V u.needs f∧ZS t s V g0 f)∧ZT t V g0 u.makes
def InCut (t:TTask) (s V:List Int) (g0:Int) (i:Nat):Prop:=∃ u∈unT t,u.op=(i:Int)∧CrsU t s V g0 u
def goalN (t:TTask):List Int:=t.goal.map (numF t.vars)
structure CutX (t:TTask) (s V:List Int) (g0:Int):Prop where
 hg:GoodT t
 hs:StateOk t.vars s
 hm:IsHM t s V
 g:GrtF V (goalN t) g0
 pos:0<dg V g0
 fin:dg V g0<inf
theorem un_of {t:TTask}{u:Un}(h:u∈unT t):∃ i:Nat,i<(unT t).length∧un (unT t) i=u:=by
 obtain⟨i,hi,he⟩:=List.getElem_of_mem h
 exact⟨i,hi,by unfold un;rw [Int.toNat_natCast,qaj hi];exact he⟩
theorem qcI {t:TTask}{s:List Int}(hg:GoodT t) (hs:StateOk t.vars s) {f:Int}(h:StF t.vars s f):0≤f∧f<factN t:=by
 obtain⟨v,hv,rfl⟩:=h
 have hsl:=hs.1
 have hs0:=hs.2 v (by omega)
 have hb:=qgd hg.pos hv hs0.1 hs0.2
 have:=qaX hg
 omega
section
variable {t:TTask}{s V:List Int}{g0:Int}
theorem CutX.small (c:CutX t s V g0) {f:Int}(h0:0≤f) (h1:f<factN t) (hlt:dg V f<inf):dg V f≤4294967296:=by
 have hc:=qsi V (factN t) (dg V f)
 have hNl:=qcm c.hg
 have:=qmn c.hg c.hs c.hm (factN t) f h0 h1 hlt hc
 omega
theorem CutX.fire (c:CutX t s V g0) {u:Un}(hu:u∈unT t) (hf:FinN V u.needs) {m:Int}(hm:0≤m) (hle:∀ n∈u.needs,dg V n≤m):0≤u.makes∧u.makes<factN t∧dg V u.makes≤u.cost+m:=by
 obtain⟨i,hi,rfl⟩:=un_of hu
 have hU:=qbR c.hg
 have hk:=hU.makes i hi
 refine⟨hk.1,hk.2,c.hm.low _ _ (.fire (v:=fun n=>dg V n) hi hm (fun n hn => ?_) hle) hk.1 hk.2⟩
 have hr:=hU.needs i hi n hn
 exact c.hm.der n hr.1 hr.2 (hf n hn)
theorem CutX.need (c:CutX t s V g0) {u:Un}(hu:u∈unT t) {n:Int}(hn:n∈u.needs):(0≤n∧n<factN t)∧0≤dg V n:=by
 obtain⟨i,hi,rfl⟩:=un_of hu
 have hr:=(qbR c.hg).needs i hi n hn
 exact⟨hr,(c.hm.rng n hr.1 hr.2).1⟩
theorem CutX.cost (c:CutX t s V g0) {u:Un}(hu:u∈unT t):0≤u.cost∧u.cost≤1048576:=by
 obtain⟨i,hi,rfl⟩:=un_of hu
 exact (qbR c.hg).cost i hi
theorem CutX.zt_ge (c:CutX t s V g0) {f:Int}(h:ZT t V g0 f):dg V g0≤dg V f:=by
 induction h with
 | goal=>exact Int.le_refl _
 | @step u f hu hf hgr hc _ ih =>
  have hn:=c.need hu hgr.1
  have:=(c.fire hu hf (m:=dg V f) hn.2 fun n hn=>hgr.ge hn).2.2
  omega
theorem CutX.st_zero (c:CutX t s V g0) {f:Int}(h:StF t.vars s f):dg V f≤0:=by
 have hr:=qcI c.hg c.hs h
 exact c.hm.low f 0 (.start h) hr.1 hr.2
theorem CutX.disj (c:CutX t s V g0) {f:Int}(h:ZS t s V g0 f):¬ZT t V g0 f:=by
 cases h with
 | st h=>intro hz;have h1:=c.zt_ge hz;have h2:=c.st_zero h;have:=c.pos;omega
 | start _ _ h=>exact h
 | step _ _ _ _ h=>exact h
theorem CutX.zs_fin (c:CutX t s V g0) {f:Int}(h:ZS t s V g0 f):(0≤f∧f<factN t)∧dg V f<inf:=by
 have e:inf=1125899906842624:=rfl
 cases h with
 | st h=>exact⟨qcI c.hg c.hs h,by have:=c.st_zero h;omega⟩
 | @start u hu hn _ =>
  have h1:=c.fire hu (fun n h=>by rw [hn] at h;exact absurd h List.not_mem_nil) (Int.le_refl 0) (fun n h=>by rw [hn] at h;exact absurd h List.not_mem_nil)
  have h2:=c.cost hu
  exact⟨⟨h1.1,h1.2.1⟩,by omega⟩
 | @step u g hu hf hgr _ _ =>
  have hn:=c.need hu hgr.1
  have h1:=c.fire hu hf (m:=dg V g) hn.2 fun n hn=>hgr.ge hn
  have h2:=c.cost hu
  have h3:=c.small hn.1.1 hn.1.2 (hf g hgr.1)
  exact⟨⟨h1.1,h1.2.1⟩,by omega⟩
theorem CutX.crs_pos (c:CutX t s V g0) {u:Un}(hu:u∈unT t) (h:CrsU t s V g0 u):0<u.cost:=by
 obtain⟨hf,hsrc,hz⟩:=h
 have h2:=c.cost hu
 refine Int.not_le.1 fun h0 => ?_
 have hc0:u.cost=0:=by omega
 rcases hsrc with hn|⟨f,hgr,hzs⟩
 ·have h1:=c.fire hu hf (Int.le_refl 0) (fun n h=>by rw [hn] at h;exact absurd h List.not_mem_nil)
  have h3:=c.zt_ge hz
  have:=c.pos
  omega
 ·exact c.disj hzs (.step hu hf hgr hc0 hz)
theorem CutX.some (c:CutX t s V g0):∃ u∈unT t,CrsU t s V g0 u:=by
 refine Classical.byContradiction fun hno => ?_
 have hno':∀ u∈unT t,¬CrsU t s V g0 u:=fun u hu h=>hno ⟨u,hu,h⟩
 have key:∀ {f v:Int},Der (unT t) (StF t.vars s) f v→ZS t s V g0 f:=by
  intro f v hd
  induction hd with
  | start h=>exact .st h
  | @fire i vv m hi hm hn hle ih =>
   have hu:un (unT t) i∈unT t:=qem hi
   have hfin:FinN V (un (unT t) i).needs:=fun n hn'=>(c.zs_fin (ih n hn')).2
   by_cases hnil:(un (unT t) i).needs=[]
   ·by_cases hz:ZT t V g0 (un (unT t) i).makes
    ·exact absurd ⟨hfin,.inl hnil,hz⟩ (hno' _ hu)
    ·exact .start hu hnil hz
   ·obtain⟨f,hgr⟩:=qg7 (V:=V) hnil
    have hzf:=ih f hgr.1
    by_cases hz:ZT t V g0 (un (unT t) i).makes
    ·exact absurd ⟨hfin,.inr ⟨f,hgr,hzf⟩,hz⟩ (hno' _ hu)
    ·exact .step hu hfin hgr hzf hz
 obtain⟨f,hf,he⟩:=List.mem_map.1 c.g.1
 obtain⟨i,hi,e2⟩:=List.getElem_of_mem hf
 have hok:=(c.hg.goal i hi).1
 rw [qaj hi,e2] at hok
 have hr:=qbf c.hg.pos hok
 have hN:=qaX c.hg
 rw [he] at hr
 exact c.disj (key (c.hm.der g0 hr.1 (by omega) c.fin)) .goal
theorem CutX.plan (c:CutX t s V g0) {y p:List Int}{k:Int}(hp:Pln t y p k):StateOk t.vars y→(∀ f,StF t.vars y f→ZS t s V g0 f)→∃ op:Nat,(op:Int)∈p∧op<t.ops.length∧InCut t s V g0 op:=by
 induction hp with
 | @goal y hh =>
  intro hy hz
  obtain⟨f,hf,he⟩:=List.mem_map.1 c.g.1
  have h1:=hz _ (qcA hy (qcB hh hf))
  rw [he] at h1
  exact absurd .goal (c.disj h1)
 | @step y op p k ho ha _ ih =>
  intro hy hz
  by_cases hcut:InCut t s V g0 op
  ·exact⟨op,List.mem_cons_self,ho,hcut⟩
  ·have hoo:=c.hg.op op ho
   obtain⟨q,h1,h2,h3⟩:=ih (qaZ c.hg hy ho) fun f hf=>by
    obtain⟨v,hv,rfl⟩:=hf
    have hvs:v<y.length:=by rw [hy.1];exact hv
    rcases qhu (s:=y) (l:=(t.ops.getD op dOp).effs) (fun e he=>by have:=qaD (hoo.mem e he);rw [hy.1];exact⟨this.1,this.2.1⟩) hvs with e|⟨k,hk,e1,e2,e3⟩
    ·exact hz _ ⟨v,hv,by rw [←e];rfl⟩
    ·obtain⟨i,hi,hun⟩:=qr7 ho hk
     have hu:un (unT t) i∈unT t:=qem hi
     have hmk:(un (unT t) i).makes=firstV t.vars v+(succT t y op).getD v tInt.dflt:=by
      rw [hun]
      show firstV t.vars ((t.ops.getD op dOp).effs.getD k dEff).var.toNat+((t.ops.getD op dOp).effs.getD k dEff).val=_
      rw [e1,e2,Int.toNat_natCast];rfl
     have hop:(un (unT t) i).op=(op:Int):=by rw [hun];rfl
     have hns:∀ n∈(un (unT t) i).needs,ZS t s V g0 n:=fun n hn=>by
      refine hz n ?_
      rw [hun] at hn
      rcases qa5.1 hn with hn|⟨f,hf,rfl⟩
      ·rcases qa5.1 hn with hn|⟨f,hf,rfl⟩
       ·simp at hn
       ·exact qcA hy (qcB ha hf)
      ·exact qcA hy (qcB e3 hf)
     have hfin:FinN V (un (unT t) i).needs:=fun n hn=>(c.zs_fin (hns n hn)).2
     rw [←hmk]
     by_cases hnil:(un (unT t) i).needs=[]
     ·by_cases hzt:ZT t V g0 (un (unT t) i).makes
      ·exact absurd ⟨_,hu,hop,hfin,.inl hnil,hzt⟩ hcut
      ·exact .start hu hnil hzt
     ·obtain⟨f,hgr⟩:=qg7 (V:=V) hnil
      by_cases hzt:ZT t V g0 (un (unT t) i).makes
      ·exact absurd ⟨_,hu,hop,hfin,.inr ⟨f,hgr,hns f hgr.1⟩,hzt⟩ hcut
      ·exact .step hu hfin hgr (hns f hgr.1) hzt
   exact⟨q,List.mem_cons_of_mem _ h1,h2,h3⟩
end
end Go.Proofs.YtkmbenhffledpaaGreat
/-
  LM-cut, in plain Lean: the cuts of a state one after another, their sum, admissible.
-/
namespace Go.Proofs.YtkmbenhffledpaaGreat
open Go.Sl
def withC (t:TTask) (cs:List Int):TTask:={ t with ops:=(List.range t.ops.length).map fun i=>{ t.ops.getD i dOp with cost:=cs.getD i tInt.dflt } }
def CostsOk (t:TTask) (cs:List Int):Prop:=cs.length=t.ops.length∧∀ x∈cs,0≤x∧x≤1048576
section
variable {t:TTask}{cs:List Int}
theorem qbz:(withC t cs).ops.length=t.ops.length:=by simp [withC]
theorem qco {i:Nat}(hi:i<t.ops.length):(withC t cs).ops.getD i dOp={ t.ops.getD i dOp with cost:=cs.getD i tInt.dflt }:=by
 simp [withC,List.getD,hi]
theorem qjY {s:List Int}{op:Nat}(ho:op<t.ops.length):AppT (withC t cs) s op↔AppT t s op:=by
 unfold AppT;rw [qco ho]
theorem qhF {s:List Int}{op:Nat}(ho:op<t.ops.length):succT (withC t cs) s op=succT t s op:=by
 unfold succT;rw [qco ho]
theorem qdz {op:Nat}(ho:op<t.ops.length):opC (withC t cs) op=cs.getD op tInt.dflt:=by
 unfold opC;rw [qco ho]
theorem qbg (hg:GoodT t) (h:CostsOk t cs):GoodT (withC t cs):=by
 refine⟨hg.vars,by rw [qbz];exact hg.ops,hg.dom,hg.init,hg.goal,fun i hi => ?_⟩
 rw [qbz] at hi
 rw [qco hi]
 have ho:=hg.op i hi
 have hc:=h.2 _ (qak tInt.dflt (show i<cs.length by rw [h.1];exact hi))
 exact { ho with cost0:=hc.1,cost1:=hc.2 }
theorem qm5 (hg:GoodT t):withC t (costsT t)=t:=by
 have h1:(List.range t.ops.length).map (fun i=>{ t.ops.getD i dOp with cost:=(costsT t).getD i tInt.dflt })=t.ops:=by
  refine List.ext_getElem (by simp) fun i h1 h2 => ?_
  rw [List.getElem_map,List.getElem_range,qbi h2,qaj h2]
 unfold withC
 rw [h1]
def subC (cs:List Int) (K:List Nat) (c:Int):List Int:=(List.range cs.length).map fun i=>if i∈K then cs.getD i tInt.dflt-c else cs.getD i tInt.dflt
theorem qcp (cs:List Int) (K:List Nat) (c:Int):(subC cs K c).length=cs.length:=by simp [subC]
theorem qcR {K:List Nat}{c:Int}{i:Nat}(hi:i<cs.length):(subC cs K c).getD i tInt.dflt=if i∈K then cs.getD i tInt.dflt-c else cs.getD i tInt.dflt:=by simp [subC,List.getD,hi]
def MinC (cs:List Int) (K:List Nat) (c:Int):Prop:=(∃ i∈K,i<cs.length∧cs.getD i tInt.dflt=c)∧∀ i∈K,c≤cs.getD i tInt.dflt
theorem qgs {K:List Nat}{c:Int}(h:CostsOk t cs) (hm:MinC cs K c):CostsOk t (subC cs K c):=by
 obtain⟨i0,h1,h2,h3⟩:=hm.1
 have hc0:=h.2 _ (qak tInt.dflt h2)
 rw [h3] at hc0
 refine⟨by rw [qcp];exact h.1,fun x hx => ?_⟩
 obtain⟨i,hi,rfl⟩:=List.getElem_of_mem hx
 have hi':i<cs.length:=by rw [qcp] at hi;exact hi
 rw [←qaj (d:=tInt.dflt) hi,qcR hi']
 have hc:=h.2 _ (qak tInt.dflt hi')
 split
 ·rename_i hk;have:=hm.2 i hk;omega
 ·exact hc
theorem qsY {K:List Nat}{c:Int}(hl:cs.length=t.ops.length) (hc:0≤c) {y p:List Int}{k:Int}(h:Pln (withC t cs) y p k):∃ k',Pln (withC t (subC cs K c)) y p k'∧k'≤k∧((∃ op:Nat,(op:Int)∈p∧op∈K)→k'+c≤k):=by
 induction h with
 | goal hh=>exact⟨0,.goal hh,Int.le_refl _,fun⟨op,h1,_⟩=>absurd h1 List.not_mem_nil⟩
 | @step y op p k ho ha _ ih =>
  rw [qbz] at ho
  obtain⟨k',h1,h2,h3⟩:=ih
  rw [qhF ho] at h1
  refine⟨_,.step (by rw [qbz];exact ho) ((qjY ho).2 ((qjY ho).1 ha)) (by rw [qhF ho];exact h1),?_,fun⟨q,q1,q2⟩ => ?_⟩
  ·rw [qdz ho,qdz ho,qcR (by omega)]
   split <;> omega
  ·rw [qdz ho,qdz ho,qcR (by omega)]
   by_cases hk:op∈K
   ·rw [if_pos hk];omega
   ·rw [if_neg hk]
    rcases List.mem_cons.1 q1 with e|q1
    ·rw [Int.ofNat_inj] at e
     subst e;exact absurd q2 hk
    ·have:=h3 ⟨q,q1,q2⟩
     omega
end
inductive LMC (t:TTask) (s:List Int):List Int→Option (List (List Nat × Int))→Prop
 | dead {cs V:List Int}:IsHM (withC t cs) s V→maxG t.vars t.goal V=inf→LMC t s cs none
 | done {cs V:List Int}:IsHM (withC t cs) s V→maxG t.vars t.goal V=0→LMC t s cs (some [])
 | step {cs V:List Int}{g0:Int}{K:List Nat}{c:Int}{r:Option (List (List Nat × Int))}:IsHM (withC t cs) s V→0<maxG t.vars t.goal V→maxG t.vars t.goal V<inf→GrtF V (goalN t) g0→(∀ i,i∈K↔i<t.ops.length∧InCut (withC t cs) s V g0 i)→K.Pairwise (·<·)→MinC cs K c→LMC t s (subC cs K c) r→LMC t s cs (r.map ((K,c)::·))
def sumK (l:List (List Nat × Int)):Int:=l.foldr (fun x n=>x.2+n) 0
def lvalK:Option (List (List Nat × Int))→Int|none=>inf|some l=>sumK l
theorem qmf:∀ {l m:List Nat},l.Pairwise (·<·)→m.Pairwise (·<·)→(∀ i,i∈l↔i∈m)→l=m
 | [],[],_,_,_=>rfl
 | [],y::m,_,_,h=>absurd ((h y).2 List.mem_cons_self) List.not_mem_nil
 | x::l,[],_,_,h=>absurd ((h x).1 List.mem_cons_self) List.not_mem_nil
 | x::l,y::m,hl,hm,h=>by
  obtain⟨l1,l2⟩:=List.pairwise_cons.1 hl
  obtain⟨m1,m2⟩:=List.pairwise_cons.1 hm
  have e:x=y:=by
   have h1:=(h x).1 List.mem_cons_self
   have h2:=(h y).2 List.mem_cons_self
   rcases List.mem_cons.1 h1 with e|h1
   ·exact e
   ·rcases List.mem_cons.1 h2 with e|h2
    ·exact e.symm
    ·have:=m1 x h1;have:=l1 y h2;omega
  subst e
  rw [qmf l2 m2 fun i=>⟨fun hi=>by
   rcases List.mem_cons.1 ((h i).1 (List.mem_cons_of_mem _ hi)) with e|hi'
   ·subst e;have:=l1 i hi;omega
   ·exact hi',fun hi=>by
   rcases List.mem_cons.1 ((h i).2 (List.mem_cons_of_mem _ hi)) with e|hi'
   ·subst e;have:=m1 i hi;omega
   ·exact hi'⟩]
theorem qpa {cs:List Int}{K:List Nat}{c c':Int}(h:MinC cs K c) (h':MinC cs K c'):c=c':=by
 obtain⟨⟨i,h1,_,h2⟩,h3⟩:=h
 obtain⟨⟨j,k1,_,k2⟩,k3⟩:=h'
 have:=h3 j k1
 have:=k3 i h1
 omega
section
variable {t:TTask}{s:List Int}
theorem qrb {cs:List Int}{r:Option (List (List Nat × Int))}(h:LMC t s cs r):∀ {r'},LMC t s cs r'→r=r':=by
 have e:(0:Int)≠inf:=by decide
 induction h with
 | dead h1 h2 =>
  intro r' h'
  cases h' with
  | dead _ _=>rfl
  | done k1 k2=>rw [qda h1 k1,k2] at h2;exact absurd h2 e
  | step k1 k2 k3 _ _ _ _ _=>rw [qda h1 k1] at h2;omega
 | done h1 h2 =>
  intro r' h'
  cases h' with
  | dead k1 k2=>rw [qda h1 k1,k2] at h2;exact absurd h2.symm e
  | done _ _=>rfl
  | step k1 k2 k3 _ _ _ _ _=>rw [qda h1 k1] at h2;omega
 | step h1 h2 h3 h4 h5 h6 h7 _ ih =>
  intro r' h'
  cases h' with
  | dead k1 k2=>rw [qda h1 k1] at h3;omega
  | done k1 k2=>rw [qda h1 k1] at h2;omega
  | step k1 k2 k3 k4 k5 k6 k7 k8 =>
   have eV:=qda h1 k1
   subst eV
   have eg:=qdl h4 k4
   subst eg
   have eK:=qmf h6 k6 fun i=>(h5 i).trans (k5 i).symm
   subst eK
   have ec:=qpa h7 k7
   subst ec
   rw [ih k8]
theorem qsZ {t:TTask}{V:List Int}{g0:Int}(hg:GrtF V (goalN t) g0) (hp:0<maxG t.vars t.goal V):maxG t.vars t.goal V=dg V g0:=by
 obtain⟨f,hf,he⟩:=List.mem_map.1 hg.1
 have h1:dg V g0≤maxG t.vars t.goal V:=by rw [←he];exact (qcO (qc9 _ _ _)).1 (Int.le_refl _) f hf
 refine Int.le_antisymm ?_ h1
 by_cases h0:0≤dg V g0
 ·exact (qcO h0).2 fun f hf=>hg.ge (List.mem_map.2 ⟨f,hf,rfl⟩)
 ·have:maxG t.vars t.goal V≤0:=(qcO (Int.le_refl _)).2 fun f hf=>by have:=hg.ge (List.mem_map.2 ⟨f,hf,rfl⟩);omega
  omega
theorem qiI {cs V:List Int}{g0:Int}(hg:GoodT t) (hs:StateOk t.vars s) (hc:CostsOk t cs) (hm:IsHM (withC t cs) s V) (hp:0<maxG t.vars t.goal V) (hf:maxG t.vars t.goal V<inf) (hgr:GrtF V (goalN t) g0):CutX (withC t cs) s V g0:=by
 have e:=qsZ hgr hp
 exact⟨qbg hg hc,hs,hm,hgr,by omega,by omega⟩
theorem qpb {cs V:List Int}{g0:Int}{i:Nat}(hg:GoodT t) (hc:CostsOk t cs) (x:CutX (withC t cs) s V g0) (hi:i<t.ops.length) (h:InCut (withC t cs) s V g0 i):1≤cs.getD i tInt.dflt:=by
 obtain⟨u,hu,hop,hcr⟩:=h
 have h1:=x.crs_pos hu hcr
 obtain⟨i',j,h2,h3,rfl⟩:=qeO.1 hu
 have e:i'=i:=by
  have h4:(i':Int)=(i:Int):=hop
  omega
 subst e
 have h5:0<((withC t cs).ops.getD i' dOp).cost:=h1
 rw [qco hi] at h5
 exact h5
theorem qiJ {cs V:List Int}{g0:Int}(x:CutX (withC t cs) s V g0):∃ i,i<t.ops.length∧InCut (withC t cs) s V g0 i:=by
 obtain⟨u,hu,hcr⟩:=x.some
 obtain⟨i',j,h2,h3,rfl⟩:=qeO.1 hu
 rw [qbz] at h2
 exact⟨i',h2,_,hu,rfl,hcr⟩
theorem qs0 (hg:GoodT t) (hs:StateOk t.vars s) {cs:List Int}{r:Option (List (List Nat × Int))}(h:LMC t s cs r):CostsOk t cs→∀ {p:List Int}{k:Int},Pln (withC t cs) s p k→∃ l,r=some l∧sumK l≤k:=by
 induction h with
 | @dead cs V h1 h2 =>
  intro hc p k hp
  have hgw:=qbg hg hc
  have h3:=(qbZ (t:=withC t cs) hs h1)
  have h4:hmaxH (withC t cs) s<inf:=by
   have key:∀ {y q:List Int}{d:Int},Pln (withC t cs) y q d→hmaxH (withC t cs) y<inf:=by
    intro y q d hq
    induction hq with
    | goal hh=>rw [qgn hgw hh];decide
    | @step y op q d ho ha _ ih =>
     by_cases hy:StateOk (withC t cs).vars y
     ·have g1:=qer hgw hy ho ha
      have g2:=qeV hgw _ ih
      have g3:=qa9 hgw ho
      have e:inf=1125899906842624:=rfl
      omega
     ·rw [qdc hy];decide
   exact key hp
  rw [h3,show maxG (withC t cs).vars (withC t cs).goal V=inf from h2] at h4
  omega
 | done _ _ =>
  intro hc p k hp
  exact⟨[],rfl,hp.nn (qbg hg hc)⟩
 | @step cs V g0 K c r h1 h2 h3 h4 h5 h6 h7 _ ih =>
  intro hc p k hp
  have x:=qiI hg hs hc h1 h2 h3 h4
  obtain⟨op,o1,o2,o3⟩:=x.plan hp hs fun f hf=>.st hf
  rw [qbz] at o2
  obtain⟨⟨i,i1,i2,i3⟩,i4⟩:=h7
  have hc0:0≤c:=by have:=hc.2 _ (qak tInt.dflt i2);omega
  obtain⟨k',q1,q2,q3⟩:=qsY (K:=K) hc.1 hc0 hp
  have q4:=q3 ⟨op,o1,(h5 op).2 ⟨o2,o3⟩⟩
  obtain⟨l,e,hl⟩:=ih (qgs hc ⟨⟨i,i1,i2,i3⟩,i4⟩) q1
  refine⟨(K,c)::l,by rw [e];rfl,?_⟩
  show c+sumK l≤k
  omega
end
end Go.Proofs.YtkmbenhffledpaaGreat
