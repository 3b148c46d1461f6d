/-
  Several texts as one: TCut3, TAdm, TLeast, TLeastEx.
-/
import Derived.Test.YtkmbenhffledpaaGreatMW17
import Derived.Test.YtkmbenhffledpaaGreatMW15
import Derived.Test.YtkmbenhffledpaaGreatMW11
set_option linter.unusedSimpArgs false
set_option linter.unusedVariables false
/-
  LM-cut, in plain Lean: each state has its cuts; the value as a function, admissible.
-/
namespace Go.Proofs.YtkmbenhffledpaaGreat
open Go.Sl
theorem qhE:∀ {l:List Nat}{x:Nat},x∈l→x≤l.sum
 | [],_,h=>absurd h List.not_mem_nil
 | y::l,x,h=>by
  rw [List.sum_cons]
  rcases List.mem_cons.1 h with e|h
  ·omega
  ·have:=qhE h;omega
theorem qjX (f g:Nat→Nat):∀ {l:List Nat},(∀ i∈l,f i≤g i)→(l.map f).sum≤(l.map g).sum
 | [],_=>Nat.le_refl _
 | x::l,h=>by
  have h1:=h x List.mem_cons_self
  have h2:=qjX f g (l:=l) fun i hi=>h i (List.mem_cons_of_mem _ hi)
  simp only [List.map_cons,List.sum_cons];omega
theorem qfb (f g:Nat→Nat) (c:Nat):∀ {l:List Nat},(∀ i∈l,f i≤g i)→(∃ i∈l,f i+c≤g i)→(l.map f).sum+c≤(l.map g).sum
 | [],_,h=>by obtain⟨i,hi,_⟩:=h;exact absurd hi List.not_mem_nil
 | x::l,h,h2=>by
  have h1:=h x List.mem_cons_self
  obtain⟨i,hi,h3⟩:=h2
  simp only [List.map_cons,List.sum_cons]
  rcases List.mem_cons.1 hi with e|hi
  ·subst e
   have:=qjX f g (l:=l) fun i hi=>h i (List.mem_cons_of_mem _ hi)
   omega
  ·have:=qfb f g c (l:=l) (fun i hi=>h i (List.mem_cons_of_mem _ hi)) ⟨i,hi,h3⟩
   omega
theorem qeS (cs:List Int):sumD cs=((List.range cs.length).map fun i=>(cs.getD i tInt.dflt).toNat).sum:=by
 unfold sumD
 congr 1
 refine List.ext_getElem (by simp) fun i h1 h2 => ?_
 have hi:i<cs.length:=by simpa using h1
 rw [List.getElem_map,List.getElem_map,List.getElem_range,qaj hi]
theorem qiE {cs:List Int}{K:List Nat}{c:Int}(h0:∀ x∈cs,0≤x) (hc:0≤c) (hm:MinC cs K c):sumD (subC cs K c)+c.toNat≤sumD cs:=by
 obtain⟨⟨i,h1,h2,h3⟩,h4⟩:=hm
 rw [qeS,qeS,qcp]
 refine qfb _ _ _ (fun j hj => ?_) ⟨i,List.mem_range.2 h2,?_⟩
 ·rw [qcR (List.mem_range.1 hj)]
  split <;> omega
 ·rw [qcR h2,if_pos h1]
  omega
theorem qo4 {cs:List Int}{B:Nat}(h:∀ x∈cs,x≤(B:Int)):sumD cs≤cs.length*B:=by
 induction cs with
 | nil=>exact Nat.zero_le _
 | cons x l ih =>
  have h1:=h x List.mem_cons_self
  have h2:=ih fun y hy=>h y (List.mem_cons_of_mem _ hy)
  unfold sumD at h2 ⊢
  simp only [List.map_cons,List.sum_cons,List.length_cons,Nat.succ_mul];omega
section
variable {t:TTask}{s:List Int}
theorem qsP {cs:List Int}{r:Option (List (List Nat × Int))}(hg:GoodT t) (h:LMC t s cs r):CostsOk t cs→∀ l,r=some l→0≤sumK l∧sumK l≤(sumD cs:Int):=by
 induction h with
 | dead _ _=>intro _ l e;cases e
 | done _ _=>intro _ l e;cases e;exact⟨Int.le_refl _,Int.natCast_nonneg _⟩
 | @step cs V g0 K c r _ _ _ _ _ _ h7 _ ih =>
  intro hc l e
  have hsub:=qgs hc h7
  have hm:=h7
  obtain⟨⟨i,i1,i2,i3⟩,i4⟩:=h7
  have hc0:0≤c:=by have:=hc.2 _ (qak tInt.dflt i2);omega
  cases r with
  | none=>cases e
  | some l' =>
   have e2:l=(K,c)::l':=(Option.some.inj e).symm
   subst e2
   have h1:=ih hsub l' rfl
   have h2:=qiE (fun x hx=>(hc.2 x hx).1) hc0 hm
   show 0≤c+sumK l'∧c+sumK l'≤_
   omega
theorem qsb (cs:List Int):∀ {K:List Nat},K≠[]→(∀ i∈K,i<cs.length)→∃ c,MinC cs K c
 | [],h,_=>absurd rfl h
 | [x],_,h=>⟨cs.getD x tInt.dflt,⟨x,List.mem_cons_self,h x List.mem_cons_self,rfl⟩,fun i hi=>by rw [List.mem_singleton.1 hi];exact Int.le_refl _⟩
 | x::y::l,_,h=>by
  obtain⟨c,⟨i,h1,h2,h3⟩,h4⟩:=qsb cs (K:=y::l) (by simp) fun i hi=>h i (List.mem_cons_of_mem _ hi)
  by_cases hx:c≤cs.getD x tInt.dflt
  ·refine⟨c,⟨i,List.mem_cons_of_mem _ h1,h2,h3⟩,fun j hj => ?_⟩
   rcases List.mem_cons.1 hj with e|hj
   ·rw [e];exact hx
   ·exact h4 j hj
  ·refine⟨cs.getD x tInt.dflt,⟨x,List.mem_cons_self,h x List.mem_cons_self,rfl⟩,fun j hj => ?_⟩
   rcases List.mem_cons.1 hj with e|hj
   ·rw [e];exact Int.le_refl _
   ·have:=h4 j hj;omega
structure CutAt (t:TTask) (s cs V:List Int) (K:List Nat) (c:Int):Prop where
 asc:K.Pairwise (·<·)
 min:MinC cs K c
 pos:1≤c
 le:c≤1048576
 ne:K≠[]
 lt:∀ i∈K,i<t.ops.length
theorem ql8 {cs V:List Int}{g0:Int}{K:List Nat}{c:Int}(hg:GoodT t) (hc:CostsOk t cs) (x:CutX (withC t cs) s V g0) (hK:∀ i,i∈K↔i<t.ops.length∧InCut (withC t cs) s V g0 i) (ha:K.Pairwise (·<·)) (hm:MinC cs K c):CutAt t s cs V K c:=by
 have hm0:=hm
 obtain⟨⟨i,i1,i2,i3⟩,i4⟩:=hm
 obtain⟨k1,k2⟩:=(hK i).1 i1
 have h1:=qpb hg hc x k1 k2
 have h2:=hc.2 _ (qak tInt.dflt i2)
 exact⟨ha,hm0,by omega,by omega,fun e=>by rw [e] at i1;exact absurd i1 List.not_mem_nil,fun j hj=>((hK j).1 hj).1⟩
open Classical in
theorem qtp (hg:GoodT t) (hs:StateOk t.vars s):∀ (m:Nat) {cs:List Int},CostsOk t cs→sumD cs≤m→∃ r,LMC t s cs r:=by
 intro m
 induction m with
 | zero =>
  intro cs hc hm
  obtain⟨V,hV⟩:=qbX (qbg hg hc) s
  by_cases h0:0<maxG t.vars t.goal V
  ·by_cases hf:maxG t.vars t.goal V<inf
   ·have hne:goalN t≠[]:=fun e=>by
     have:t.goal=[]:=by simpa [goalN] using e
     rw [this] at h0;exact absurd h0 (by simp [maxG])
    obtain⟨g0,hgr⟩:=qg7 (V:=V) hne
    have x:=qiI hg hs hc hV h0 hf hgr
    obtain⟨i,hi,hcut⟩:=qiJ x
    have h1:=qpb hg hc x hi hcut
    have h2:(cs.getD i tInt.dflt).toNat≤sumD cs:=by
     rw [qeS]
     exact qhE (List.mem_map.2 ⟨i,List.mem_range.2 (by rw [hc.1];exact hi),rfl⟩)
    omega
   ·exact⟨_,.dead hV (by have:=hm_le (qbg hg hc) hV;have e:maxG (withC t cs).vars (withC t cs).goal V=maxG t.vars t.goal V:=rfl;omega)⟩
  ·exact⟨_,.done hV (by have:=qc9 t.vars t.goal V;omega)⟩
 | succ m ih =>
  intro cs hc hm
  obtain⟨V,hV⟩:=qbX (qbg hg hc) s
  by_cases h0:0<maxG t.vars t.goal V
  ·by_cases hf:maxG t.vars t.goal V<inf
   ·have hne:goalN t≠[]:=fun e=>by
     have:t.goal=[]:=by simpa [goalN] using e
     rw [this] at h0;exact absurd h0 (by simp [maxG])
    obtain⟨g0,hgr⟩:=qg7 (V:=V) hne
    have x:=qiI hg hs hc hV h0 hf hgr
    obtain⟨i,hi,hcut⟩:=qiJ x
    have hK:∀ j,j∈(List.range t.ops.length).filter (fun j=>decide (InCut (withC t cs) s V g0 j))↔j<t.ops.length∧InCut (withC t cs) s V g0 j:=fun j=>by
     rw [List.mem_filter,List.mem_range,decide_eq_true_eq]
    have hasc:((List.range t.ops.length).filter (fun j=>decide (InCut (withC t cs) s V g0 j))).Pairwise (·<·):=List.Pairwise.filter _ List.pairwise_lt_range
    obtain⟨c,hmin⟩:=qsb cs (K:=(List.range t.ops.length).filter (fun j=>decide (InCut (withC t cs) s V g0 j))) (fun e=>by have:=(hK i).2 ⟨hi,hcut⟩;rw [e] at this;exact absurd this List.not_mem_nil) (fun j hj=>by rw [hc.1];exact ((hK j).1 hj).1)
    have hA:=ql8 hg hc x hK hasc hmin
    have hsum:=qiE (fun x hx=>(hc.2 x hx).1) (by have:=hA.pos;omega) hmin
    obtain⟨r,hr⟩:=ih (qgs hc hmin) (by have:=hA.pos;omega)
    exact⟨_,.step hV h0 hf hgr hK hasc hmin hr⟩
   ·exact⟨_,.dead hV (by have:=hm_le (qbg hg hc) hV;have e:maxG (withC t cs).vars (withC t cs).goal V=maxG t.vars t.goal V:=rfl;omega)⟩
  ·exact⟨_,.done hV (by have:=qc9 t.vars t.goal V;omega)⟩
end
theorem qcf {t:TTask}(hg:GoodT t):CostsOk t (costsT t):=⟨qbQ t,qc7 hg⟩
open Classical in
noncomputable def lmH (t:TTask) (s:List Int):Int:=if h:StateOk t.vars s∧∃ r,LMC t s (costsT t) r then lvalK (Classical.choose h.2) else 0
theorem lm_eq {t:TTask}{s:List Int}{r:Option (List (List Nat × Int))}(hs:StateOk t.vars s) (h:LMC t s (costsT t) r):lmH t s=lvalK r:=by
 have hx:StateOk t.vars s∧∃ r,LMC t s (costsT t) r:=⟨hs,r,h⟩
 unfold lmH
 rw [dif_pos hx,qrb (Classical.choose_spec hx.2) h]
theorem lm_no {t:TTask}{s:List Int}(hs:¬StateOk t.vars s):lmH t s=0:=by
 unfold lmH
 rw [dif_neg fun h=>hs h.1]
theorem ql9 {t:TTask}(hg:GoodT t) {s:List Int}(hs:StateOk t.vars s):∃ r,LMC t s (costsT t) r:=qtp hg hs _ (qcf hg) (Nat.le_refl _)
theorem qiF {t:TTask}(hg:GoodT t) {s:List Int}{l:List (List Nat × Int)}(h:LMC t s (costsT t) (some l)):0≤sumK l∧sumK l≤4294967296:=by
 obtain⟨h1,h2⟩:=qsP hg h (qcf hg) l rfl
 have h3:=qo4 (cs:=costsT t) (B:=1048576) fun x hx=>(qc7 hg x hx).2
 have h4:(costsT t).length*1048576≤4096*1048576:=Nat.mul_le_mul_right _ (by rw [qbQ];exact hg.ops)
 omega
theorem lm_ok {t:TTask}(hg:GoodT t):HOk t (lmH t):=by
 have key:∀ s,0≤lmH t s∧lmH t s≤inf:=fun s=>by
  have e:inf=1125899906842624:=rfl
  by_cases hs:StateOk t.vars s
  ·obtain⟨r,hr⟩:=ql9 hg hs
   rw [lm_eq hs hr]
   cases r with
   | none=>exact⟨by show (0:Int)≤inf;omega,Int.le_refl _⟩
   | some l=>have:=qiF hg hr;exact⟨this.1,by show sumK l≤inf;omega⟩
  ·rw [lm_no hs];exact⟨Int.le_refl _,by omega⟩
 exact⟨hg,fun y=>(key y).1,fun y=>(key y).2⟩
theorem qtq {t:TTask}(hg:GoodT t) {s p:List Int}{k:Int}(hp:Pln t s p k):lmH t s<inf∧lmH t s≤k:=by
 have e:inf=1125899906842624:=rfl
 by_cases hs:StateOk t.vars s
 ·obtain⟨r,hr⟩:=ql9 hg hs
  have hp':Pln (withC t (costsT t)) s p k:=by rw [qm5 hg];exact hp
  obtain⟨l,e1,h1⟩:=qs0 hg hs hr (qcf hg) hp'
  subst e1
  rw [lm_eq hs hr]
  have:=qiF hg hr
  exact⟨by show sumK l<inf;omega,h1⟩
 ·rw [lm_no hs];exact⟨by omega,hp.nn hg⟩
end Go.Proofs.YtkmbenhffledpaaGreat
/-
  The blind estimate, hmax and LM-cut: admissible, finite where there is a plan; the blind estimate is consistent.
-/
namespace Go.Proofs.YtkmbenhffledpaaGreat
open Go.Sl Go
theorem qoH {t:TTask}(hg:GoodT t) {y q:List Int}{d:Int}(hp:Pln t y q d):hmaxH t y<inf∧hmaxH t y≤d:=by
 refine⟨?_,qq4 hg hp⟩
 have e:inf=1125899906842624:=rfl
 induction hp with
 | goal hh=>rw [qgn hg hh];omega
 | @step y op q d ho ha _ ih =>
  by_cases hy:StateOk t.vars y
  ·have g1:=qer hg hy ho ha
   have g2:=qeV hg _ ih
   have g3:=qa9 hg ho
   omega
  ·rw [qdc hy];omega
theorem qjL {t:TTask}{op:Nat}(ho:op<t.ops.length):leastC t≤opC t op:=by
 have key:∀ k,k≤t.ops.length→op<k→leastK t k≤opC t op:=by
  intro k
  induction k with
  | zero=>intro _ h;exact absurd h (Nat.not_lt_zero _)
  | succ k ih =>
   intro h1 h2
   rw [qcQ (by omega)]
   by_cases e:op=k
   ·subst e;exact Int.min_le_right _ _
   ·exact Int.le_trans (Int.min_le_left _ _) (ih (by omega) (by omega))
 exact key _ (Nat.le_refl _) ho
theorem qgb {t:TTask}(hg:GoodT t) {y q:List Int}{d:Int}(hp:Pln t y q d):blindH t y<inf∧blindH t y≤d:=by
 have e:inf=1125899906842624:=rfl
 have hnn:=hp.nn hg
 unfold blindH
 split
 ·omega
 ·rename_i hno
  cases hp with
  | goal hh=>exact absurd hh hno
  | step ho ha hp =>
   have h1:=qjL ho
   have h2:=qa9 hg ho
   have h3:=hp.nn hg
   omega
theorem qeN {t:TTask}(hg:GoodT t):Cons t (blindH t):=fun s op _ ho _=>by
 have h1:=qjL ho
 have h2:=qa9 hg ho
 have h3:=(qfv hg).nn (succT t s op)
 have h4:blindH t s=0∨blindH t s=leastC t:=by
  unfold blindH
  split
  ·exact .inl rfl
  ·exact .inr rfl
 omega
end Go.Proofs.YtkmbenhffledpaaGreat
/-
  The least cost of a plan is unique.
-/
namespace Go.Proofs.YtkmbenhffledpaaGreat
open Go.Sl
theorem qa4 {t:TTask}{s:List Int}{b b':Int}(h:Least t s b) (h':Least t s b'):b=b':=by
 have h1:=h.le
 have h2:=h'.le
 by_cases hb:b<inf
 ·obtain⟨p,hp⟩:=h.att hb
  obtain⟨h3,h4⟩:=h'.low _ _ hp
  obtain⟨q,hq⟩:=h'.att h4
  have h5:=(h.low _ _ hq).1
  omega
 ·by_cases hb':b'<inf
  ·obtain⟨p,hp⟩:=h'.att hb'
   have:=(h.low _ _ hp).2
   omega
  ·omega
end Go.Proofs.YtkmbenhffledpaaGreat
/-
  The least cost of a plan exists (by A* with the blind estimate).
-/
namespace Go.Proofs.YtkmbenhffledpaaGreat
open Go.Sl Go
theorem qik {t:TTask}(hg:GoodT t):∀ y,blindH t y<inf→blindH t y≤1048576:=fun y h=>by
 have e:inf=1125899906842624:=rfl
 unfold blindH at h ⊢
 split
 ·omega
 ·rename_i hn
  rw [if_neg hn] at h
  have key:∀ k,k≤t.ops.length→leastK t k=inf∨leastK t k≤1048576:=by
   intro k
   induction k with
   | zero=>intro _;exact .inl rfl
   | succ k ih =>
    intro hk
    have hc:=qa9 hg (show k<t.ops.length by omega)
    have e2:opC t k=(t.ops.getD k dOp).cost:=rfl
    rw [qcQ (by omega)]
    right
    have:=Int.min_le_right (leastK t k) (t.ops.getD k dOp).cost
    omega
  have h2:leastC t=leastK t t.ops.length:=rfl
  rcases key t.ops.length (Nat.le_refl _) with h3|h3 <;> omega
theorem qmF {t:TTask}(hg:GoodT t) (hl:(statesL t.vars).length≤512):∃ b,Least t t.init b:=by
 obtain⟨A,hA⟩:∃ A:APar,A=⟨t,blindH t,none⟩:=⟨_,rfl⟩
 have eT:A.t=t:=by rw [hA]
 have eH:A.H=blindH t:=by rw [hA]
 have eB:A.B=none:=by rw [hA]
 have hH:HOk A.t A.H:=by rw [eT,eH];exact qfv hg
 have ha:∀ y q d,Pln A.t y q d→A.H y<inf∧A.H y≤d:=fun y q d hp=>by rw [eT] at hp;rw [eH];exact qgb hg hp
 have hF:=qjK (A:=A) (lim:=1000) (M:=1048576) hH (by rw [eT,eH];exact qeN hg) ha eB (by rw [eH];exact qik hg) (by decide)
 generalize srchA A 1000=R at hF
 have e:inf=1125899906842624:=rfl
 cases hF with
 | none hI hl2 hn =>
  obtain⟨⟨c,_,h⟩,_⟩:=hI
  refine⟨inf,Int.le_refl _,by omega,fun h=>absurd h (Int.lt_irrefl _),fun p c hp => ?_⟩
  rw [←eT] at hp
  obtain⟨b,hb,_⟩:=qnO (fun y q d hq=>⟨(ha y q d hq).1,.inr (ha y q d hq).2⟩) h hn hp
  rw [eB] at hb;cases hb
 | unknown hI hl2 hn hg2 =>
  obtain⟨⟨c,_,h⟩,he⟩:=hI
  have:=he.few h
  rw [eT] at this
  omega
 | solved hI hl2 hn hgo =>
  rename_i S x q
  obtain⟨⟨c,_,h⟩,he⟩:=hI
  obtain⟨p,h1,h2,h3,h4,h5⟩:=qlx hH.good hH h hn hgo
  have hfew:=h.few
  rw [eT] at h3 h4 hfew
  have hr:=qiH hg h3 (k:=p.length) (Nat.le_refl _)
  rw [List.take_length] at hr
  refine⟨coL t p,by omega,hr.1,fun _=>⟨p,h3⟩,fun p' c' hp'=>⟨?_,by omega⟩⟩
  have:=qly hH ha h hn (p:=p') (k:=c') (by rw [eT];exact hp') fun b hb=>by rw [eB] at hb;cases hb
  omega
end Go.Proofs.YtkmbenhffledpaaGreat
