/-
  Contract of 'estimate.copied': a task that shares no memory with another one.
-/
import Derived.Test.YtggdgcmjcahbbaaGreatDoorWClone
import Derived.Test.YtggdgcmjcahbbaaGreatDoorWSameT
import Derived.Test.YtggdgcmjcahbbaaGreatDoorWTRank
import Derived.Test.YtggdgcmjcahbbaaGreatDoorMTA
import Derived.Test.YtggdgcmjcahbbaaGreatDoorMSlB
set_option linter.unusedSimpArgs false
set_option linter.unusedVariables false
namespace Go.Proofs.YtggdgcmjcahbbaaGreatDoor
open Go.Sl Go
attribute [local irreducible] vc opsW opsD opV opW PureV ReadV Thn Blk
set_option maxRecDepth 8000 in
theorem qbh {w0:World}{a:Value}{xs:List Fact}(ha:RS tFact w0 a xs) (hn:xs.length≤1099511627776) :
  Calls Tryz.prog 41 #[a] w0 fun e w'=>∃ s,e=.returned s∧Sat w0 w' [OS tFact 88 s xs]:=by
 have hw:=Sat.start w0
 refine qab (args:=[a]) mixed Tryz.func41 rfl (by kernel_rfl) (Nat.le_of_ble_eq_true rfl) ?_
 repeat refine qaa ?_
 refine qad rfl (qfi ha hn) ?_
 rintro _ w' ⟨s,rfl,hk'⟩
 replace hw:=hw.call1 hk'
 clear hk'
 refine⟨_,rfl,?_⟩
 repeat refine qaa ?_
 exact qae (v:=s) rfl rfl ⟨_,rfl,hw⟩
structure EffI (E:List Eff) (us:List EffV) (j:Nat) (es:List EffV):Prop where
 len:es.length=E.length
 fld:∀ i,i<E.length→(eget tEff es i).var=(E.getD i dEff).var∧(eget tEff es i).val=(E.getD i dEff).val
 old:∀ i,j≤i→i<E.length→(eget tEff es i).when=(eget tEff us i).when
def EffW (E:List Eff) (j:Nat) (es:List EffV) (w:World):Prop:=∀ i,i<j→RS tFact w (eget tEff es i).when (E.getD i dEff).when
theorem qga {α:Type}{T:Ty α}{xs:List α}{i j:Nat}{x:α}(hj:j<xs.length):eget T (xs.set j x) i=if i=j then x else eget T xs i:=by
 rw [qaX,qaX]
 by_cases e:i=j
 ·subst e;rw [if_pos rfl];simp [List.getD,hj]
 ·rw [if_neg e];simp only [List.getD];rw [List.getElem?_set_ne (fun h=>e h.symm)]
theorem EffI.step {E:List Eff}{us es:List EffV}{j:Nat}(h:EffI E us j es) (hj:j<E.length) {s:Value}:EffI E us (j+1) (es.set j ⟨s,(eget tEff es j).var,(eget tEff es j).val⟩):=by
 have hl:=h.len
 refine⟨by simp [hl],fun i hi => ?_,fun i hi hi2 => ?_⟩
 ·rw [qga (by omega)]
  split
  ·rename_i e;rw [e];exact h.fld j hj
  ·exact h.fld i hi
 ·rw [qga (by omega),if_neg (by omega)]
  exact h.old i (by omega) hi2
theorem EffW.step {E:List Eff}{es:List EffV}{j:Nat}{w:World}(h:EffW E j es w) (hj:j<es.length) {s:Value}{a b:Int}(hs:RS tFact w s (E.getD j dEff).when):EffW E (j+1) (es.set j ⟨s,a,b⟩) w:=fun i hi=>by
 rw [qga hj]
 split
 ·rename_i e;subst e;exact hs
 ·exact h i (by omega)
def OpsF (t:TTask) (k:Nat) (ws:List OpV) (w:World):Prop:=∀ i,i<k→ROp w (eget tOp ws i) (t.ops.getD i dOp)
theorem qm5 {α:Type}{T:Ty α}{xs:List α}{x:α}{i:Nat}:eget T (xs++[x]) i=if i<xs.length then eget T xs i else if i=xs.length then x else T.dflt:=by
 rw [qaX,qaX]
 by_cases h:i<xs.length
 ·rw [if_pos h];simp [List.getD_eq_getElem?_getD,List.getElem?_append_left h]
 ·rw [if_neg h]
  by_cases e:i=xs.length
  ·subst e;rw [if_pos rfl];simp [List.getD_eq_getElem?_getD]
  ·rw [if_neg e];simp [List.getD_eq_getElem?_getD,List.getElem?_append_right (Nat.le_of_not_lt h),List.getElem?_cons,show ¬i-xs.length=0 by omega]
theorem OpsF.step {t:TTask}{k:Nat}{ws:List OpV}{w:World}{v:OpV}(h:OpsF t k ws w) (hl:ws.length=k) (hv:ROp w v (t.ops.getD k dOp)):OpsF t (k+1) (ws++[v]) w:=fun i hi=>by
 rw [qm5]
 by_cases e:i<k
 ·rw [if_pos (by omega)];exact h i e
 ·have e2:i=k:=by omega
  rw [if_neg (by omega),if_pos (by omega),e2];exact hv
theorem qj6 {w:World}{s:Value}{us:List EffV}{E:List Eff}(h:REffs w s us E):∀ x∈us,∀ v∈tEff.enc x,v.oneCell'=true:=fun x hx v hv=>by
 obtain⟨i,hi,rfl⟩:=List.getElem_of_mem hx
 have h1:=(h.at_ i (by have:=h.len;omega)).one
 rw [qaX,qak hi] at h1
 exact List.all_eq_true.1 h1 v hv
def HeadF (t:TTask) (a b c:Value) (w:World):Prop:=RS tInt w a t.vars∧RS tInt w b t.init∧RS tFact w c t.goal
set_option maxRecDepth 8000 in
set_option maxHeartbeats 4000000 in
theorem qiU {w0:World}{a b c d:Value}{vs:List OpV}{t:TTask}(ht:RTask w0 a b c d vs t) (hg:GoodT t) :
  Calls Tryz.prog 54 #[.agg #[a,b,c,d]] w0 fun e w'=>∃ a2 b2 c2 d2 vs2,e=.returned (.agg #[a2,b2,c2,d2])∧Sat w0 w' [RdH fun w=>RTask w a2 b2 c2 d2 vs2 t]:=by
 have ht':=ht
 obtain⟨ha,hb,hc,hd⟩:=ht
 have hdr:=hd.rs
 have hdl:=hd.len
 have hol:=hg.ops
 have hvl:=hg.vars
 have hil:=hg.init.1
 have hgl:=qaO hg.goal
 have hw:=Sat.start w0
 refine qab (args:=[.agg #[a,b,c,d]]) mixed Tryz.func54 rfl (by kernel_rfl) (Nat.le_of_ble_eq_true rfl) ?_
 refine qdS ?_
 refine qa6 ?_
 refine qe9 ?_
 clear hw
 intro pt w hw
 replace hw:Sat w0 w [Box pt 26 [a,b,c,d]]:=hw
 refine qek ?_
 clear hw
 intro pr w hw
 repeat refine qaa ?_
 refine qc6 [7,8,9,10,11,12,13,14,15,16,3] (G:=Addr × Value × Value × Value) (fun g=>[(3,.pointer (some g.1))]) (fun g w=>Sat w0 w [Box g.1 26 [g.2.1,g.2.2.1,g.2.2.2,.slice none 0 0],OS tInt 3 g.2.1 t.vars,OS tInt 3 g.2.2.1 t.init,OS tFact 88 g.2.2.2 t.goal,Box pr 26 [.slice none 0 0,.slice none 0 0,.slice none 0 0,.slice none 0 0],Box pt 26 [a,b,c,d]]) (fun _=>rfl) ?_ ?_
 ·refine qie (.step 0 [.op 0] (.step 3 [.op 3] (.step 6 [.op 6] (.step 1 [.op 1] (.step 4 [.op 4] (.step 7 [.op 7] (.alt 2 [.op 2,.chk 4,.chk 7] (.alt 5 [.op 5,.chk 7] (.alt 8 [.op 8] (.alt 9 [.op 9] (.step 10 [.op 10,.chk 1,.chk 4,.chk 7] (.step 11 [.op 11] (.lin []))) (.alt 10 [.op 10,.chk 1,.chk 4,.chk 7] (.step 9 [.op 9] (.step 11 [.op 11] (.lin []))) (.stop))) (.alt 10 [.op 10,.chk 1,.chk 4,.chk 7] (.step 8 [.op 8] (.step 9 [.op 9] (.step 11 [.op 11] (.lin [])))) (.stop))) (.alt 10 [.op 10,.chk 1,.chk 4,.chk 7] (.step 5 [.op 5,.chk 7] (.step 8 [.op 8] (.step 9 [.op 9] (.step 11 [.op 11] (.lin []))))) (.stop))) (.alt 10 [.op 10,.chk 1,.chk 4,.chk 7] (.step 2 [.op 2,.chk 4,.chk 7] (.step 5 [.op 5,.chk 7] (.step 8 [.op 8] (.step 9 [.op 9] (.step 11 [.op 11] (.lin [])))))) (.stop))))))))) hw (by kernel_rfl) (by kernel_rfl) ?_;clear hw;intro w hw
  repeat refine qaa ?_
  refine qa7 ?_ (qa7 ?_ qbM)
  ·repeat refine qaa ?_
   refine qad rfl (qaE (ha.at hw) (by omega)) ?_
   rintro _ w' ⟨a2,rfl,hk'⟩
   replace hw:=hw.call1 hk'
   clear hk'
   refine⟨_,rfl,?_⟩
   repeat refine qaa ?_
   refine qa7 ?_ (qa7 ?_ qbM)
   ·repeat refine qaa ?_
    refine qad rfl (qaE (hb.at hw) (by omega)) ?_
    rintro _ w' ⟨b2,rfl,hk'⟩
    replace hw:=hw.call1 hk'
    clear hk'
    refine⟨_,rfl,?_⟩
    repeat refine qaa ?_
    refine qa7 ?_ (qa7 ?_ qbM)
    ·repeat refine qaa ?_
     refine qad rfl (qbh (hc.at hw) (by omega)) ?_
     rintro _ w' ⟨c2,rfl,hk'⟩
     replace hw:=hw.call1 hk'
     clear hk'
     refine⟨_,rfl,?_⟩
     repeat refine qaa ?_
     refine qa7 ?_ (qa7 ?_ qbM)
     ·repeat refine qaa ?_
      have oa:=(rsO (s:=a2) hw).one
      have ob:=(rsO (s:=b2) hw).one
      have oc:=(rsO (s:=c2) hw).one
      refine qbp (v1:=a2) (v2:=b2) (v3:=c2) rfl rfl rfl rfl (by simp only [List.all_cons,List.all_nil,oa,ob,oc];rfl) ?_
      repeat (first|refine qaa ?_|(refine qaf ?_;clear hw;intro p w hw))
      obtain⟨po,hpo⟩:∃ po,po=p:=⟨p,rfl⟩
      subst hpo
      repeat refine qaa ?_
      refine qaB (n:=4) (p:=po) (vs:=[a2,b2,c2,.slice none 0 0]) rfl rfl hw inferInstance rfl rfl (by simp only [List.all_cons,List.all_nil,oa,ob,oc];rfl) ?_
      clear hw
      intro w hw
      repeat refine qaa ?_
      have hw2:Sat w0 w [Box po 26 [a2,b2,c2,.slice none 0 0],OS tInt 3 a2 t.vars,OS tInt 3 b2 t.init,OS tFact 88 c2 t.goal,Box pr 26 [.slice none 0 0,.slice none 0 0,.slice none 0 0,.slice none 0 0],Box pt 26 [a,b,c,d]]:=hw.sel
      exact⟨(po,a2,b2,c2),⟨rfl,trivial⟩,agr,hw2⟩
     ·repeat (first|refine qaa ?_|(refine qaf ?_;clear hw;intro p w hw))
      obtain⟨po,hpo⟩:∃ po,po=p:=⟨p,rfl⟩
      subst hpo
      repeat refine qaa ?_
      have oa:=(rsO (s:=a2) hw).one
      have ob:=(rsO (s:=b2) hw).one
      have oc:=(rsO (s:=c2) hw).one
      refine qbp (v1:=a2) (v2:=b2) (v3:=c2) rfl rfl rfl rfl (by simp only [List.all_cons,List.all_nil,oa,ob,oc];rfl) ?_
      repeat refine qaa ?_
      refine qaB (n:=4) (p:=po) (vs:=[a2,b2,c2,.slice none 0 0]) rfl rfl hw inferInstance rfl rfl (by simp only [List.all_cons,List.all_nil,oa,ob,oc];rfl) ?_
      clear hw
      intro w hw
      repeat refine qaa ?_
      have hw2:Sat w0 w [Box po 26 [a2,b2,c2,.slice none 0 0],OS tInt 3 a2 t.vars,OS tInt 3 b2 t.init,OS tFact 88 c2 t.goal,Box pr 26 [.slice none 0 0,.slice none 0 0,.slice none 0 0,.slice none 0 0],Box pt 26 [a,b,c,d]]:=hw.sel
      exact⟨(po,a2,b2,c2),⟨rfl,trivial⟩,agr,hw2⟩
    ·repeat (first|refine qaa ?_|(refine qaf ?_;clear hw;intro p w hw))
     obtain⟨po,hpo⟩:∃ po,po=p:=⟨p,rfl⟩
     subst hpo
     repeat refine qaa ?_
     refine qad rfl (qbh (hc.at hw) (by omega)) ?_
     rintro _ w' ⟨c2,rfl,hk'⟩
     replace hw:=hw.call1 hk'
     clear hk'
     refine⟨_,rfl,?_⟩
     repeat refine qaa ?_
     repeat refine qaa ?_
     have oa:=(rsO (s:=a2) hw).one
     have ob:=(rsO (s:=b2) hw).one
     have oc:=(rsO (s:=c2) hw).one
     refine qbp (v1:=a2) (v2:=b2) (v3:=c2) rfl rfl rfl rfl (by simp only [List.all_cons,List.all_nil,oa,ob,oc];rfl) ?_
     repeat refine qaa ?_
     refine qaB (n:=4) (p:=po) (vs:=[a2,b2,c2,.slice none 0 0]) rfl rfl hw inferInstance rfl rfl (by simp only [List.all_cons,List.all_nil,oa,ob,oc];rfl) ?_
     clear hw
     intro w hw
     repeat refine qaa ?_
     have hw2:Sat w0 w [Box po 26 [a2,b2,c2,.slice none 0 0],OS tInt 3 a2 t.vars,OS tInt 3 b2 t.init,OS tFact 88 c2 t.goal,Box pr 26 [.slice none 0 0,.slice none 0 0,.slice none 0 0,.slice none 0 0],Box pt 26 [a,b,c,d]]:=hw.sel
     exact⟨(po,a2,b2,c2),⟨rfl,trivial⟩,agr,hw2⟩
   ·repeat (first|refine qaa ?_|(refine qaf ?_;clear hw;intro p w hw))
    obtain⟨po,hpo⟩:∃ po,po=p:=⟨p,rfl⟩
    subst hpo
    repeat refine qaa ?_
    refine qad rfl (qaE (hb.at hw) (by omega)) ?_
    rintro _ w' ⟨b2,rfl,hk'⟩
    replace hw:=hw.call1 hk'
    clear hk'
    refine⟨_,rfl,?_⟩
    repeat refine qaa ?_
    repeat refine qaa ?_
    refine qad rfl (qbh (hc.at hw) (by omega)) ?_
    rintro _ w' ⟨c2,rfl,hk'⟩
    replace hw:=hw.call1 hk'
    clear hk'
    refine⟨_,rfl,?_⟩
    repeat refine qaa ?_
    repeat refine qaa ?_
    have oa:=(rsO (s:=a2) hw).one
    have ob:=(rsO (s:=b2) hw).one
    have oc:=(rsO (s:=c2) hw).one
    refine qbp (v1:=a2) (v2:=b2) (v3:=c2) rfl rfl rfl rfl (by simp only [List.all_cons,List.all_nil,oa,ob,oc];rfl) ?_
    repeat refine qaa ?_
    refine qaB (n:=4) (p:=po) (vs:=[a2,b2,c2,.slice none 0 0]) rfl rfl hw inferInstance rfl rfl (by simp only [List.all_cons,List.all_nil,oa,ob,oc];rfl) ?_
    clear hw
    intro w hw
    repeat refine qaa ?_
    have hw2:Sat w0 w [Box po 26 [a2,b2,c2,.slice none 0 0],OS tInt 3 a2 t.vars,OS tInt 3 b2 t.init,OS tFact 88 c2 t.goal,Box pr 26 [.slice none 0 0,.slice none 0 0,.slice none 0 0,.slice none 0 0],Box pt 26 [a,b,c,d]]:=hw.sel
    exact⟨(po,a2,b2,c2),⟨rfl,trivial⟩,agr,hw2⟩
  ·repeat (first|refine qaa ?_|(refine qaf ?_;clear hw;intro p w hw))
   obtain⟨po,hpo⟩:∃ po,po=p:=⟨p,rfl⟩
   subst hpo
   repeat refine qaa ?_
   refine qad rfl (qaE (ha.at hw) (by omega)) ?_
   rintro _ w' ⟨a2,rfl,hk'⟩
   replace hw:=hw.call1 hk'
   clear hk'
   refine⟨_,rfl,?_⟩
   repeat refine qaa ?_
   repeat refine qaa ?_
   refine qad rfl (qaE (hb.at hw) (by omega)) ?_
   rintro _ w' ⟨b2,rfl,hk'⟩
   replace hw:=hw.call1 hk'
   clear hk'
   refine⟨_,rfl,?_⟩
   repeat refine qaa ?_
   repeat refine qaa ?_
   refine qad rfl (qbh (hc.at hw) (by omega)) ?_
   rintro _ w' ⟨c2,rfl,hk'⟩
   replace hw:=hw.call1 hk'
   clear hk'
   refine⟨_,rfl,?_⟩
   repeat refine qaa ?_
   repeat refine qaa ?_
   have oa:=(rsO (s:=a2) hw).one
   have ob:=(rsO (s:=b2) hw).one
   have oc:=(rsO (s:=c2) hw).one
   refine qbp (v1:=a2) (v2:=b2) (v3:=c2) rfl rfl rfl rfl (by simp only [List.all_cons,List.all_nil,oa,ob,oc];rfl) ?_
   repeat refine qaa ?_
   refine qaB (n:=4) (p:=po) (vs:=[a2,b2,c2,.slice none 0 0]) rfl rfl hw inferInstance rfl rfl (by simp only [List.all_cons,List.all_nil,oa,ob,oc];rfl) ?_
   clear hw
   intro w hw
   repeat refine qaa ?_
   have hw2:Sat w0 w [Box po 26 [a2,b2,c2,.slice none 0 0],OS tInt 3 a2 t.vars,OS tInt 3 b2 t.init,OS tFact 88 c2 t.goal,Box pr 26 [.slice none 0 0,.slice none 0 0,.slice none 0 0,.slice none 0 0],Box pt 26 [a,b,c,d]]:=hw.sel
   exact⟨(po,a2,b2,c2),⟨rfl,trivial⟩,agr,hw2⟩
 clear hw
 rintro σ0 ⟨po,a2,b2,c2⟩ w hw
 simp only at hw
 have hw1:Sat w0 w [OS tOp 49 (.slice none 0 0) [],RdH (OpsF t 0 []),RdH (HeadF t a2 b2 c2),Box po 26 [a2,b2,c2,.slice none 0 0],Box pr 26 [.slice none 0 0,.slice none 0 0,.slice none 0 0,.slice none 0 0],Box pt 26 [a,b,c,d]]:=by
  have hw2:Sat w0 w [OS tInt 3 a2 t.vars,OS tInt 3 b2 t.init,OS tFact 88 c2 t.goal,Box po 26 [a2,b2,c2,.slice none 0 0],Box pr 26 [.slice none 0 0,.slice none 0 0,.slice none 0 0,.slice none 0 0],Box pt 26 [a,b,c,d]]:=hw.sel
  have hw3:=Sat.rd (Δ:=[OS tInt 3 a2 t.vars,OS tInt 3 b2 t.init,OS tFact 88 c2 t.goal]) (φ:=HeadF t a2 b2 c2) (fun _ w h=>⟨h.rs 0 rfl,h.rs 1 rfl,h.rs 2 rfl⟩) hw2
  exact (Sat.rd0 (φ:=OpsF t 0 []) (fun w i hi=>absurd hi (Nat.not_lt_zero _)) hw3).nil
 clear hw
 have hw:=hw1
 clear hw1
 repeat refine qaa ?_
 refine qaJ [5,6,20,21,22,23,24,25,26,27,28,29,30,31,32,33,34,35,36,37,38,39,40,41,42,43,44,45,46,47,48,49,50,51,52,53,54,55,56,57] (G:=Nat) (H:=Value) (I:=List OpV) (fun k _ _=>[(20,.int .i64 k)]) (fun k dv ws w=>k≤t.ops.length∧ws.length=k∧Sat w0 w [OS tOp 49 dv ws,RdH (OpsF t k ws),RdH (HeadF t a2 b2 c2),Box po 26 [a2,b2,c2,dv],Box pr 26 [.slice none 0 0,.slice none 0 0,.slice none 0 0,.slice none 0 0],Box pt 26 [a,b,c,d]]) (fun k _ _=>t.ops.length-k) 0 (.slice none 0 0) [] (fun _ _ _=>rfl) ⟨rfl,trivial⟩ ⟨Nat.zero_le _,rfl,hw⟩ ?_
 clear hw
 rintro σ k dv ws w ⟨hk,hwl,hw⟩
 repeat refine qaa ?_
 refine go_if (fun h1 => ?_) (fun h1 => ?_)
 ·have hkl:k<t.ops.length:=by omega
  have hop:=hd.at_ k hkl
  have hone:=hop.one
  have hpre:=hop.pre
  have hgo:=hg.op k hkl
  have hpl:=qaO hgo.pre
  have hel:=hgo.effs
  obtain⟨us,hus⟩:=hop.effs
  have husr:=hus.rs
  have husl:=hus.len
  repeat (first|refine qaa ?_|(refine qaf ?_;clear hw;intro p w hw)|(refine qas ?_;clear hw;intro w hw))
  obtain⟨p5,hp5⟩:∃ p5,p5=p:=⟨p,rfl⟩
  subst hp5
  refine qaD [.op 0,.op 1,.op 3,.op 4,.op 2,.chk 4,.op 6,.op 5,.op 7,.op 8,.op 9] hw (by kernel_rfl) ?_;clear hw;intro w hw
  repeat refine qaa ?_
  refine qad rfl (qbh (hpre.at hw) (by omega)) ?_
  rintro _ w' ⟨pv,rfl,hk'⟩
  replace hw:=hw.call1 hk'
  clear hk'
  refine⟨_,rfl,?_⟩
  repeat refine qaa ?_
  refine qad rfl (qiW (husr.at hw) (by omega) (qj6 hus)) ?_
  rintro _ w' ⟨ev,rfl,hk'⟩
  replace hw:=hw.call1 hk'
  clear hk'
  refine⟨_,rfl,?_⟩
  have opv:=(rsO (s:=pv) hw).one
  have oev:=(rsO (s:=ev) hw).one
  repeat refine qaa ?_
  refine qjx (k:=2) (p:=p5) (v:=pv) rfl rfl opv hw inferInstance (by rw [tOp.ok];decide) ?_
  clear hw
  intro w hw
  repeat refine qaa ?_
  refine qjx (k:=3) (p:=p5) (v:=ev) rfl rfl oev hw inferInstance (by rw [List.length_set,tOp.ok];decide) ?_
  clear hw
  intro w hw
  have hw1:Sat w0 w [RdH (EffW (t.ops.getD k dOp).effs 0 us),OS tEff 90 ev us,Box p5 49 (tOp.enc ⟨(eget tOp vs k).name,(eget tOp vs k).cost,pv,ev⟩),OS tFact 88 pv (t.ops.getD k dOp).pre,OS tOp 49 dv ws,RdH (OpsF t k ws),RdH (HeadF t a2 b2 c2),Box po 26 [a2,b2,c2,dv],Box pr 26 [.slice none 0 0,.slice none 0 0,.slice none 0 0,.slice none 0 0],Box pt 26 [a,b,c,d]]:=by
   have hw2:Sat w0 w [OS tEff 90 ev us,OS tFact 88 pv (t.ops.getD k dOp).pre,Box p5 49 (tOp.enc ⟨(eget tOp vs k).name,(eget tOp vs k).cost,pv,ev⟩),OS tOp 49 dv ws,RdH (OpsF t k ws),RdH (HeadF t a2 b2 c2),Box po 26 [a2,b2,c2,dv],Box pr 26 [.slice none 0 0,.slice none 0 0,.slice none 0 0,.slice none 0 0],Box pt 26 [a,b,c,d]]:=hw
   exact (Sat.rd0 (φ:=EffW (t.ops.getD k dOp).effs 0 us) (fun w i hi=>absurd hi (Nat.not_lt_zero _)) hw2).sel
  clear hw
  have hw:=hw1
  clear hw1
  have hE0:EffI (t.ops.getD k dOp).effs us 0 us:=⟨husl,fun i hi=>⟨(hus.at_ i hi).var,(hus.at_ i hi).val⟩,fun i _ _=>rfl⟩
  repeat refine qaa ?_
  refine qao [6,35,36,37,38,39,40,41,42,43,44,45,46,47,48,49,50] (G:=Nat) (H:=List EffV) (fun j _=>[(35,.int .i64 j)]) (fun j es w=>j≤(t.ops.getD k dOp).effs.length∧EffI (t.ops.getD k dOp).effs us j es∧Sat w0 w [RdH (EffW (t.ops.getD k dOp).effs j es),OS tEff 90 ev es,Box p5 49 (tOp.enc ⟨(eget tOp vs k).name,(eget tOp vs k).cost,pv,ev⟩),OS tFact 88 pv (t.ops.getD k dOp).pre,OS tOp 49 dv ws,RdH (OpsF t k ws),RdH (HeadF t a2 b2 c2),Box po 26 [a2,b2,c2,dv],Box pr 26 [.slice none 0 0,.slice none 0 0,.slice none 0 0,.slice none 0 0],Box pt 26 [a,b,c,d]]) (fun j _=>(t.ops.getD k dOp).effs.length-j) 0 us (fun _ _=>rfl) ⟨rfl,trivial⟩ ⟨Nat.zero_le _,hE0,hw⟩ ?_
  clear hw
  rintro σ1 j es w ⟨hj,hE,hw⟩
  have hesl:=hE.len
  repeat refine qaa ?_
  refine go_if (fun h2 => ?_) (fun h2 => ?_)
  ·have hjl:j<(t.ops.getD k dOp).effs.length:=by omega
   have hue:=hus.at_ j hjl
   have hfj:=hE.fld j hjl
   have hoj:=hE.old j (Nat.le_refl _) hjl
   have hfl:=qaO (hgo.eff j hjl).1
   have hwhen:RS tFact w0 (eget tEff es j).when ((t.ops.getD k dOp).effs.getD j dEff).when:=by rw [hoj];exact hue.when
   repeat refine qaa ?_
   refine qaD [.op 0,.op 1,.op 2,.op 3,.op 4,.op 5,.op 6,.op 7,.op 8,.op 9,.chk 1,.op 10,.op 11,.op 12] hw (by kernel_rfl) ?_;clear hw;intro w hw
   repeat refine qaa ?_
   refine qad rfl (qbh (hwhen.at hw) (by omega)) ?_
   rintro _ w' ⟨fv,rfl,hk'⟩
   replace hw:=hw.call1 hk'
   clear hk'
   refine⟨_,rfl,?_⟩
   have ofv:=(rsO (s:=fv) hw).one
   repeat refine qaa ?_
   refine qhB (T:=tEff) (s:=ev) (j:=j) (k:=0) (v:=fv) (x':=⟨fv,(eget tEff es j).var,(eget tEff es j).val⟩) rfl rfl ofv hw inferInstance (by omega) (Nat.zero_lt_succ _) (by rw [←qaX];rfl) ?_
   clear hw
   intro w hw
   have hw1:Sat w0 w [RdH (EffW (t.ops.getD k dOp).effs (j+1) (es.set j ⟨fv,(eget tEff es j).var,(eget tEff es j).val⟩)),OS tEff 90 ev (es.set j ⟨fv,(eget tEff es j).var,(eget tEff es j).val⟩),Box p5 49 (tOp.enc ⟨(eget tOp vs k).name,(eget tOp vs k).cost,pv,ev⟩),OS tFact 88 pv (t.ops.getD k dOp).pre,OS tOp 49 dv ws,RdH (OpsF t k ws),RdH (HeadF t a2 b2 c2),Box po 26 [a2,b2,c2,dv],Box pr 26 [.slice none 0 0,.slice none 0 0,.slice none 0 0,.slice none 0 0],Box pt 26 [a,b,c,d]]:=by
    have hw2:Sat w0 w [OS tFact 88 fv ((t.ops.getD k dOp).effs.getD j dEff).when,RdH (EffW (t.ops.getD k dOp).effs j es),OS tEff 90 ev (es.set j ⟨fv,(eget tEff es j).var,(eget tEff es j).val⟩),Box p5 49 (tOp.enc ⟨(eget tOp vs k).name,(eget tOp vs k).cost,pv,ev⟩),OS tFact 88 pv (t.ops.getD k dOp).pre,OS tOp 49 dv ws,RdH (OpsF t k ws),RdH (HeadF t a2 b2 c2),Box po 26 [a2,b2,c2,dv],Box pr 26 [.slice none 0 0,.slice none 0 0,.slice none 0 0,.slice none 0 0],Box pt 26 [a,b,c,d]]:=hw
    exact Sat.rd2 (χ:=EffW (t.ops.getD k dOp).effs (j+1) (es.set j ⟨fv,(eget tEff es j).var,(eget tEff es j).val⟩)) (fun w h1 h2=>h2.step (by omega) h1) (Sat.rd (Δ:=[OS tFact 88 fv ((t.ops.getD k dOp).effs.getD j dEff).when]) (φ:=fun w=>RS tFact w fv ((t.ops.getD k dOp).effs.getD j dEff).when) (fun _ _ h=>h.rs 0 rfl) hw2)
   repeat refine qaa ?_
   exact⟨j+1,_,⟨rfl,trivial⟩,agr,⟨by omega,hE.step hjl,hw1⟩,by omega⟩
  have hje:j=(t.ops.getD k dOp).effs.length:=by omega
  subst hje
  obtain⟨vo,hvo⟩:∃ vo:OpV,vo=⟨(eget tOp vs k).name,(eget tOp vs k).cost,pv,ev⟩:=⟨_,rfl⟩
  rw [←hvo] at hw
  have hvo1:∀ v∈tOp.enc vo,v.oneCell'=true:=by
   rw [hvo]
   intro v hv
   simp only [tOp,List.mem_cons,List.not_mem_nil,or_false] at hv
   rcases hv with rfl|rfl|rfl|rfl
   ·rfl
   ·rfl
   ·exact opv
   ·exact oev
  have hw1:Sat w0 w [RdH fun w=>ROp w vo (t.ops.getD k dOp),Box p5 49 (tOp.enc vo),OS tOp 49 dv ws,RdH (OpsF t k ws),RdH (HeadF t a2 b2 c2),Box po 26 [a2,b2,c2,dv],Box pr 26 [.slice none 0 0,.slice none 0 0,.slice none 0 0,.slice none 0 0],Box pt 26 [a,b,c,d]]:=by
   have hw2:Sat w0 w [RdH (EffW (t.ops.getD k dOp).effs (t.ops.getD k dOp).effs.length es),OS tEff 90 ev es,OS tFact 88 pv (t.ops.getD k dOp).pre,Box p5 49 (tOp.enc vo),OS tOp 49 dv ws,RdH (OpsF t k ws),RdH (HeadF t a2 b2 c2),Box po 26 [a2,b2,c2,dv],Box pr 26 [.slice none 0 0,.slice none 0 0,.slice none 0 0,.slice none 0 0],Box pt 26 [a,b,c,d]]:=hw.sel
   refine Sat.rd (Δ:=[RdH (EffW (t.ops.getD k dOp).effs (t.ops.getD k dOp).effs.length es),OS tEff 90 ev es,OS tFact 88 pv (t.ops.getD k dOp).pre]) (φ:=fun w=>ROp w vo (t.ops.getD k dOp)) (fun _ w h => ?_) hw2
   have hff:=h.rdE 0 rfl
   rw [hvo]
   exact⟨hop.name,hop.size,hop.cost,h.rs 2 rfl,es,h.rs 1 rfl,hE.len,fun i hi=>⟨(hE.fld i hi).1,(hE.fld i hi).2,hff i hi⟩⟩
  clear hw
  have hw:=hw1
  clear hw1
  repeat refine qaa ?_
  refine qam tOp (x1:=vo) rfl rfl rfl (Nat.le_of_ble_eq_true rfl) (Nat.zero_lt_succ _) hw ?_
  clear hw
  intro bs w hw
  repeat refine qaa ?_
  refine qaY (s:=dv) (s2:=bs) inferInstance rfl rfl (rsO hw) rfl rfl (fun x hx v hv=>by rw [List.mem_singleton.1 hx] at hv;exact hvo1 v hv) (by simp only [List.length_cons,List.length_nil];omega) (by unfold big;simp only [List.length_cons,List.length_nil];omega) hw ?_
  clear hw
  intro dv2 w hw
  have odv:=(rsO (s:=dv2) hw).one
  repeat (first|refine qaa ?_|(refine qas ?_;clear hw;intro w hw))
  have hw1:Sat w0 w [OS tOp 49 dv2 (ws++[vo]),RdH (OpsF t (k+1) (ws++[vo])),RdH (HeadF t a2 b2 c2),Box po 26 [a2,b2,c2,dv2],Box pr 26 [.slice none 0 0,.slice none 0 0,.slice none 0 0,.slice none 0 0],Box pt 26 [a,b,c,d]]:=by
   have hw2:Sat w0 w [OS tOp 49 bs [vo],RdH fun w=>ROp w vo (t.ops.getD k dOp),Box p5 49 (tOp.enc vo),OS tOp 49 dv2 (ws++[vo]),RdH (OpsF t k ws),RdH (HeadF t a2 b2 c2),Box po 26 [a2,b2,c2,dv2],Box pr 26 [.slice none 0 0,.slice none 0 0,.slice none 0 0,.slice none 0 0],Box pt 26 [a,b,c,d]]:=hw
   have hw3:Sat w0 w [RdH fun w=>ROp w vo (t.ops.getD k dOp),RdH (OpsF t k ws),OS tOp 49 dv2 (ws++[vo]),RdH (HeadF t a2 b2 c2),Box po 26 [a2,b2,c2,dv2],Box pr 26 [.slice none 0 0,.slice none 0 0,.slice none 0 0,.slice none 0 0],Box pt 26 [a,b,c,d]]:=hw2.sel
   exact (Sat.rd2 (χ:=OpsF t (k+1) (ws++[vo])) (fun w h1 h2=>h2.step hwl h1) hw3).swap
  exact⟨k+1,_,_,⟨rfl,trivial⟩,agr,⟨by omega,by simp [hwl],hw1⟩,by omega⟩
 have hke:k=t.ops.length:=by omega
 subst hke
 have odv:=(rsO (s:=dv) hw).one
 have hw1:Sat w0 w [RdH fun w=>RTask w a2 b2 c2 dv ws t,Box po 26 [a2,b2,c2,dv],Box pr 26 [.slice none 0 0,.slice none 0 0,.slice none 0 0,.slice none 0 0],Box pt 26 [a,b,c,d]] :=
  Sat.rd (Δ:=[OS tOp 49 dv ws,RdH (OpsF t t.ops.length ws),RdH (HeadF t a2 b2 c2)]) (φ:=fun w=>RTask w a2 b2 c2 dv ws t) (fun _ w h=>⟨(h.rdE 2 rfl).1,(h.rdE 2 rfl).2.1,(h.rdE 2 rfl).2.2,h.rs 0 rfl,hwl,h.rdE 1 rfl⟩) hw
 clear hw
 have hw:=hw1
 clear hw1
 have ht2:=hw.rdE 0 rfl
 have o1:=ht2.vars.one
 have o2:=ht2.init.one
 have o3:=ht2.goal.one
 repeat refine qaa ?_
 refine qaB (n:=4) (p:=pr) (vs:=[a2,b2,c2,dv]) rfl rfl hw inferInstance rfl rfl (by simp only [List.all_cons,List.all_nil,o1,o2,o3,odv];rfl) ?_
 clear hw
 intro w hw
 repeat refine qaa ?_
 exact qj0 (p:=pr) (vs:=[a2,b2,c2,dv]) rfl rfl rfl (hw.boxR 2 rfl) ⟨a2,b2,c2,dv,ws,rfl,hw.sel⟩
end Go.Proofs.YtggdgcmjcahbbaaGreatDoor
