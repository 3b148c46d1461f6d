/-
  Several texts as one: WEst, WSucC, WEst2, WBack.
-/
import Derived.Test.YtjdlohdcdmhigaaGreatDoorMW4
import Derived.Test.YtjdlohdcdmhigaaGreatDoorMTA
import Derived.Test.YtjdlohdcdmhigaaGreatDoorMSlB
import Derived.Test.YtjdlohdcdmhigaaGreatDoorMW2
set_option linter.unusedSimpArgs false
set_option linter.unusedVariables false
/-
  Contract of 'estimate.copied': a task that shares no memory with another one.
-/
namespace Go.Proofs.YtjdlohdcdmhigaaGreatDoor
open Go.Sl Go
attribute [local irreducible] vc opsW opsD opV opW PureV ReadV Thn Blk
set_option maxRecDepth 8000 in
theorem qa9 {w0:World}{a:Value}{xs:List Fact}(ha:RS tFact w0 a xs) (hn:xs.length≤1099511627776) :
  Calls Tryz.prog 58 #[a] w0 fun e w'=>∃ s,e=.returned s∧Sat w0 w' [OS tFact 69 s xs]:=by
 have hw:=Sat.start w0
 refine qaf (args:=[a]) mixed Tryz.func58 rfl (by kernel_rfl) (Nat.le_of_ble_eq_true rfl) ?_
 repeat (first|refine qac ?_|(refine qaa ?_;clear hw;intro p w hw)|(refine qae ?_;clear hw;intro w hw)|(refine qab ?_;clear hw;intro s w hw))
 refine qah rfl (qeW ha hn) ?_
 rintro _ w' ⟨s,rfl,hk'⟩
 replace hw:=hw.call1 hk'
 clear hk'
 refine⟨_,rfl,?_⟩
 repeat (first|refine qac ?_|(refine qaa ?_;clear hw;intro p w hw)|(refine qae ?_;clear hw;intro w hw)|(refine qab ?_;clear hw;intro s w hw))
 exact qai (v:=s) rfl rfl ⟨_,rfl,hw⟩
structure EffI (E:List Eff) (us:List EffV) (j:Nat) (es:List EffV):Prop where
 len:es.length=E.length
 fld:∀ i,i<E.length→(eget tEff es i).var=(E.getD i dEff).var∧(eget tEff es i).val=(E.getD i dEff).val
 old:∀ i,j≤i→i<E.length→(eget tEff es i).when=(eget tEff us i).when
def EffW (E:List Eff) (j:Nat) (es:List EffV) (w:World):Prop:=∀ i,i<j→RS tFact w (eget tEff es i).when (E.getD i dEff).when
theorem qfX {α:Type}{T:Ty α}{xs:List α}{i j:Nat}{x:α}(hj:j<xs.length):eget T (xs.set j x) i=if i=j then x else eget T xs i:=by
 rw [qaN,qaN]
 by_cases e:i=j
 ·subst e;rw [if_pos rfl];simp [List.getD,hj]
 ·rw [if_neg e];simp only [List.getD];rw [List.getElem?_set_ne (fun h=>e h.symm)]
theorem EffI.step {E:List Eff}{us es:List EffV}{j:Nat}(h:EffI E us j es) (hj:j<E.length) {s:Value}:EffI E us (j+1) (es.set j ⟨s,(eget tEff es j).var,(eget tEff es j).val⟩):=by
 have hl:=h.len
 refine⟨by simp [hl],fun i hi => ?_,fun i hi hi2 => ?_⟩
 ·rw [qfX (by omega)]
  split
  ·rename_i e;rw [e];exact h.fld j hj
  ·exact h.fld i hi
 ·rw [qfX (by omega),if_neg (by omega)]
  exact h.old i (by omega) hi2
theorem EffW.step {E:List Eff}{es:List EffV}{j:Nat}{w:World}(h:EffW E j es w) (hj:j<es.length) {s:Value}{a b:Int}(hs:RS tFact w s (E.getD j dEff).when):EffW E (j+1) (es.set j ⟨s,a,b⟩) w:=fun i hi=>by
 rw [qfX hj]
 split
 ·rename_i e;subst e;exact hs
 ·exact h i (by omega)
def OpsF (t:TTask) (k:Nat) (ws:List OpV) (w:World):Prop:=∀ i,i<k→ROp w (eget tOp ws i) (t.ops.getD i dOp)
theorem qmG {α:Type}{T:Ty α}{xs:List α}{x:α}{i:Nat}:eget T (xs++[x]) i=if i<xs.length then eget T xs i else if i=xs.length then x else T.dflt:=by
 rw [qaN,qaN]
 by_cases h:i<xs.length
 ·rw [if_pos h];simp [List.getD_eq_getElem?_getD,List.getElem?_append_left h]
 ·rw [if_neg h]
  by_cases e:i=xs.length
  ·subst e;rw [if_pos rfl];simp [List.getD_eq_getElem?_getD]
  ·rw [if_neg e];simp [List.getD_eq_getElem?_getD,List.getElem?_append_right (Nat.le_of_not_lt h),List.getElem?_cons,show ¬i-xs.length=0 by omega]
theorem OpsF.step {t:TTask}{k:Nat}{ws:List OpV}{w:World}{v:OpV}(h:OpsF t k ws w) (hl:ws.length=k) (hv:ROp w v (t.ops.getD k dOp)):OpsF t (k+1) (ws++[v]) w:=fun i hi=>by
 rw [qmG]
 by_cases e:i<k
 ·rw [if_pos (by omega)];exact h i e
 ·have e2:i=k:=by omega
  rw [if_neg (by omega),if_pos (by omega),e2];exact hv
theorem qjA {w:World}{s:Value}{us:List EffV}{E:List Eff}(h:REffs w s us E):∀ x∈us,∀ v∈tEff.enc x,v.oneCell'=true:=fun x hx v hv=>by
 obtain⟨i,hi,rfl⟩:=List.getElem_of_mem hx
 have h1:=(h.at_ i (by have:=h.len;omega)).one
 rw [qaN,getD_at hi] at h1
 exact List.all_eq_true.1 h1 v hv
def HeadF (t:TTask) (a b c:Value) (w:World):Prop:=RS tInt w a t.vars∧RS tInt w b t.init∧RS tFact w c t.goal
set_option maxRecDepth 8000 in
set_option maxHeartbeats 4000000 in
theorem qid {w0:World}{a b c d:Value}{vs:List OpV}{t:TTask}(ht:RTask w0 a b c d vs t) (hg:GoodT t) :
  Calls Tryz.prog 57 #[.agg #[a,b,c,d]] w0 fun e w'=>∃ a2 b2 c2 d2 vs2,e=.returned (.agg #[a2,b2,c2,d2])∧Sat w0 w' [RdH fun w=>RTask w a2 b2 c2 d2 vs2 t]:=by
 have ht':=ht
 obtain⟨ha,hb,hc,hd⟩:=ht
 have hdr:=hd.rs
 have hdl:=hd.len
 have hol:=hg.ops
 have hvl:=hg.vars
 have hil:=hg.init.1
 have hgl:=qaK hg.goal
 have hw:=Sat.start w0
 refine qaf (args:=[.agg #[a,b,c,d]]) mixed Tryz.func57 rfl (by kernel_rfl) (Nat.le_of_ble_eq_true rfl) ?_
 refine qbU ?_
 refine qaF ?_
 refine qdI ?_
 clear hw
 intro pt w hw
 replace hw:Sat w0 w [Box pt 26 [a,b,c,d]]:=hw
 refine qd3 ?_
 clear hw
 intro pr w hw
 repeat (first|refine qac ?_|(refine qaa ?_;clear hw;intro p w hw)|(refine qad ?_;clear hw;intro w hw)|(refine qab ?_;clear hw;intro s w hw))
 refine qdh [7,8,9,10,11,12,13,14,15,16,3] (G:=Addr × Value × Value × Value) (fun g=>[(3,.pointer (some g.1))]) (fun g w=>Sat w0 w [Box g.1 26 [g.2.1,g.2.2.1,g.2.2.2,.slice none 0 0],OS tInt 3 g.2.1 t.vars,OS tInt 3 g.2.2.1 t.init,OS tFact 69 g.2.2.2 t.goal,Box pr 26 [.slice none 0 0,.slice none 0 0,.slice none 0 0,.slice none 0 0],Box pt 26 [a,b,c,d]]) (fun _=>rfl) ?_ ?_
 ·refine qeK (.step 0 [.op 0] (.step 3 [.op 3] (.step 6 [.op 6] (.step 1 [.op 1] (.step 4 [.op 4] (.step 7 [.op 7] (.alt 2 [.op 2,.chk 4,.chk 7] (.alt 5 [.op 5,.chk 7] (.alt 8 [.op 8] (.alt 9 [.op 9] (.step 10 [.op 10,.chk 1,.chk 4,.chk 7] (.step 11 [.op 11] (.lin []))) (.alt 10 [.op 10,.chk 1,.chk 4,.chk 7] (.step 9 [.op 9] (.step 11 [.op 11] (.lin []))) (.stop))) (.alt 10 [.op 10,.chk 1,.chk 4,.chk 7] (.step 8 [.op 8] (.step 9 [.op 9] (.step 11 [.op 11] (.lin [])))) (.stop))) (.alt 10 [.op 10,.chk 1,.chk 4,.chk 7] (.step 5 [.op 5,.chk 7] (.step 8 [.op 8] (.step 9 [.op 9] (.step 11 [.op 11] (.lin []))))) (.stop))) (.alt 10 [.op 10,.chk 1,.chk 4,.chk 7] (.step 2 [.op 2,.chk 4,.chk 7] (.step 5 [.op 5,.chk 7] (.step 8 [.op 8] (.step 9 [.op 9] (.step 11 [.op 11] (.lin [])))))) (.stop))))))))) hw (by kernel_rfl) (by kernel_rfl) ?_;clear hw;intro w hw
  repeat (first|refine qac ?_|(refine qaa ?_;clear hw;intro p w hw)|(refine qad ?_;clear hw;intro w hw)|(refine qab ?_;clear hw;intro s w hw))
  refine qav ?_ (qav ?_ qaG)
  ·repeat (first|refine qac ?_|(refine qaa ?_;clear hw;intro p w hw)|(refine qad ?_;clear hw;intro w hw)|(refine qab ?_;clear hw;intro s w hw))
   refine qah rfl (qaB (ha.at hw) (by omega)) ?_
   rintro _ w' ⟨a2,rfl,hk'⟩
   replace hw:=hw.call1 hk'
   clear hk'
   refine⟨_,rfl,?_⟩
   repeat (first|refine qac ?_|(refine qaa ?_;clear hw;intro p w hw)|(refine qad ?_;clear hw;intro w hw)|(refine qab ?_;clear hw;intro s w hw))
   refine qav ?_ (qav ?_ qaG)
   ·repeat (first|refine qac ?_|(refine qaa ?_;clear hw;intro p w hw)|(refine qad ?_;clear hw;intro w hw)|(refine qab ?_;clear hw;intro s w hw))
    refine qah rfl (qaB (hb.at hw) (by omega)) ?_
    rintro _ w' ⟨b2,rfl,hk'⟩
    replace hw:=hw.call1 hk'
    clear hk'
    refine⟨_,rfl,?_⟩
    repeat (first|refine qac ?_|(refine qaa ?_;clear hw;intro p w hw)|(refine qad ?_;clear hw;intro w hw)|(refine qab ?_;clear hw;intro s w hw))
    refine qav ?_ (qav ?_ qaG)
    ·repeat (first|refine qac ?_|(refine qaa ?_;clear hw;intro p w hw)|(refine qad ?_;clear hw;intro w hw)|(refine qab ?_;clear hw;intro s w hw))
     refine qah rfl (qa9 (hc.at hw) (by omega)) ?_
     rintro _ w' ⟨c2,rfl,hk'⟩
     replace hw:=hw.call1 hk'
     clear hk'
     refine⟨_,rfl,?_⟩
     repeat (first|refine qac ?_|(refine qaa ?_;clear hw;intro p w hw)|(refine qad ?_;clear hw;intro w hw)|(refine qab ?_;clear hw;intro s w hw))
     refine qav ?_ (qav ?_ qaG)
     ·repeat (first|refine qac ?_|(refine qaa ?_;clear hw;intro p w hw)|(refine qad ?_;clear hw;intro w hw)|(refine qab ?_;clear hw;intro s w hw))
      have oa:=(rsO (s:=a2) hw).one
      have ob:=(rsO (s:=b2) hw).one
      have oc:=(rsO (s:=c2) hw).one
      refine qbd (v1:=a2) (v2:=b2) (v3:=c2) rfl rfl rfl rfl (by simp only [List.all_cons,List.all_nil,oa,ob,oc];rfl) ?_
      repeat (first|refine qac ?_|(refine qaa ?_;clear hw;intro p w hw)|(refine qad ?_;clear hw;intro w hw)|(refine qab ?_;clear hw;intro s w hw))
      obtain⟨po,hpo⟩:∃ po,po=p:=⟨p,rfl⟩
      subst hpo
      repeat (first|refine qac ?_|(refine qaa ?_;clear hw;intro p w hw)|(refine qab ?_;clear hw;intro s w hw))
      refine qao (n:=4) (p:=po) (vs:=[a2,b2,c2,.slice none 0 0]) rfl rfl hw inferInstance rfl rfl (by simp only [List.all_cons,List.all_nil,oa,ob,oc];rfl) ?_
      clear hw
      intro w hw
      repeat (first|refine qac ?_|(refine qaa ?_;clear hw;intro p w hw)|(refine qad ?_;clear hw;intro w hw)|(refine qab ?_;clear hw;intro s w hw))
      have hw2:Sat w0 w [Box po 26 [a2,b2,c2,.slice none 0 0],OS tInt 3 a2 t.vars,OS tInt 3 b2 t.init,OS tFact 69 c2 t.goal,Box pr 26 [.slice none 0 0,.slice none 0 0,.slice none 0 0,.slice none 0 0],Box pt 26 [a,b,c,d]]:=hw.sel
      exact⟨(po,a2,b2,c2),⟨rfl,trivial⟩,agr,hw2⟩
     ·repeat (first|refine qac ?_|(refine qaa ?_;clear hw;intro p w hw)|(refine qad ?_;clear hw;intro w hw)|(refine qab ?_;clear hw;intro s w hw))
      obtain⟨po,hpo⟩:∃ po,po=p:=⟨p,rfl⟩
      subst hpo
      repeat (first|refine qac ?_|(refine qaa ?_;clear hw;intro p w hw)|(refine qad ?_;clear hw;intro w hw)|(refine qab ?_;clear hw;intro s w hw))
      have oa:=(rsO (s:=a2) hw).one
      have ob:=(rsO (s:=b2) hw).one
      have oc:=(rsO (s:=c2) hw).one
      refine qbd (v1:=a2) (v2:=b2) (v3:=c2) rfl rfl rfl rfl (by simp only [List.all_cons,List.all_nil,oa,ob,oc];rfl) ?_
      repeat (first|refine qac ?_|(refine qaa ?_;clear hw;intro p w hw)|(refine qab ?_;clear hw;intro s w hw))
      refine qao (n:=4) (p:=po) (vs:=[a2,b2,c2,.slice none 0 0]) rfl rfl hw inferInstance rfl rfl (by simp only [List.all_cons,List.all_nil,oa,ob,oc];rfl) ?_
      clear hw
      intro w hw
      repeat (first|refine qac ?_|(refine qaa ?_;clear hw;intro p w hw)|(refine qad ?_;clear hw;intro w hw)|(refine qab ?_;clear hw;intro s w hw))
      have hw2:Sat w0 w [Box po 26 [a2,b2,c2,.slice none 0 0],OS tInt 3 a2 t.vars,OS tInt 3 b2 t.init,OS tFact 69 c2 t.goal,Box pr 26 [.slice none 0 0,.slice none 0 0,.slice none 0 0,.slice none 0 0],Box pt 26 [a,b,c,d]]:=hw.sel
      exact⟨(po,a2,b2,c2),⟨rfl,trivial⟩,agr,hw2⟩
    ·repeat (first|refine qac ?_|(refine qaa ?_;clear hw;intro p w hw)|(refine qad ?_;clear hw;intro w hw)|(refine qab ?_;clear hw;intro s w hw))
     obtain⟨po,hpo⟩:∃ po,po=p:=⟨p,rfl⟩
     subst hpo
     repeat (first|refine qac ?_|(refine qaa ?_;clear hw;intro p w hw)|(refine qad ?_;clear hw;intro w hw)|(refine qab ?_;clear hw;intro s w hw))
     refine qah rfl (qa9 (hc.at hw) (by omega)) ?_
     rintro _ w' ⟨c2,rfl,hk'⟩
     replace hw:=hw.call1 hk'
     clear hk'
     refine⟨_,rfl,?_⟩
     repeat (first|refine qac ?_|(refine qaa ?_;clear hw;intro p w hw)|(refine qad ?_;clear hw;intro w hw)|(refine qab ?_;clear hw;intro s w hw))
     repeat (first|refine qac ?_|(refine qaa ?_;clear hw;intro p w hw)|(refine qad ?_;clear hw;intro w hw)|(refine qab ?_;clear hw;intro s w hw))
     have oa:=(rsO (s:=a2) hw).one
     have ob:=(rsO (s:=b2) hw).one
     have oc:=(rsO (s:=c2) hw).one
     refine qbd (v1:=a2) (v2:=b2) (v3:=c2) rfl rfl rfl rfl (by simp only [List.all_cons,List.all_nil,oa,ob,oc];rfl) ?_
     repeat (first|refine qac ?_|(refine qaa ?_;clear hw;intro p w hw)|(refine qab ?_;clear hw;intro s w hw))
     refine qao (n:=4) (p:=po) (vs:=[a2,b2,c2,.slice none 0 0]) rfl rfl hw inferInstance rfl rfl (by simp only [List.all_cons,List.all_nil,oa,ob,oc];rfl) ?_
     clear hw
     intro w hw
     repeat (first|refine qac ?_|(refine qaa ?_;clear hw;intro p w hw)|(refine qad ?_;clear hw;intro w hw)|(refine qab ?_;clear hw;intro s w hw))
     have hw2:Sat w0 w [Box po 26 [a2,b2,c2,.slice none 0 0],OS tInt 3 a2 t.vars,OS tInt 3 b2 t.init,OS tFact 69 c2 t.goal,Box pr 26 [.slice none 0 0,.slice none 0 0,.slice none 0 0,.slice none 0 0],Box pt 26 [a,b,c,d]]:=hw.sel
     exact⟨(po,a2,b2,c2),⟨rfl,trivial⟩,agr,hw2⟩
   ·repeat (first|refine qac ?_|(refine qaa ?_;clear hw;intro p w hw)|(refine qad ?_;clear hw;intro w hw)|(refine qab ?_;clear hw;intro s w hw))
    obtain⟨po,hpo⟩:∃ po,po=p:=⟨p,rfl⟩
    subst hpo
    repeat (first|refine qac ?_|(refine qaa ?_;clear hw;intro p w hw)|(refine qad ?_;clear hw;intro w hw)|(refine qab ?_;clear hw;intro s w hw))
    refine qah rfl (qaB (hb.at hw) (by omega)) ?_
    rintro _ w' ⟨b2,rfl,hk'⟩
    replace hw:=hw.call1 hk'
    clear hk'
    refine⟨_,rfl,?_⟩
    repeat (first|refine qac ?_|(refine qaa ?_;clear hw;intro p w hw)|(refine qad ?_;clear hw;intro w hw)|(refine qab ?_;clear hw;intro s w hw))
    repeat (first|refine qac ?_|(refine qaa ?_;clear hw;intro p w hw)|(refine qad ?_;clear hw;intro w hw)|(refine qab ?_;clear hw;intro s w hw))
    refine qah rfl (qa9 (hc.at hw) (by omega)) ?_
    rintro _ w' ⟨c2,rfl,hk'⟩
    replace hw:=hw.call1 hk'
    clear hk'
    refine⟨_,rfl,?_⟩
    repeat (first|refine qac ?_|(refine qaa ?_;clear hw;intro p w hw)|(refine qad ?_;clear hw;intro w hw)|(refine qab ?_;clear hw;intro s w hw))
    repeat (first|refine qac ?_|(refine qaa ?_;clear hw;intro p w hw)|(refine qad ?_;clear hw;intro w hw)|(refine qab ?_;clear hw;intro s w hw))
    have oa:=(rsO (s:=a2) hw).one
    have ob:=(rsO (s:=b2) hw).one
    have oc:=(rsO (s:=c2) hw).one
    refine qbd (v1:=a2) (v2:=b2) (v3:=c2) rfl rfl rfl rfl (by simp only [List.all_cons,List.all_nil,oa,ob,oc];rfl) ?_
    repeat (first|refine qac ?_|(refine qaa ?_;clear hw;intro p w hw)|(refine qab ?_;clear hw;intro s w hw))
    refine qao (n:=4) (p:=po) (vs:=[a2,b2,c2,.slice none 0 0]) rfl rfl hw inferInstance rfl rfl (by simp only [List.all_cons,List.all_nil,oa,ob,oc];rfl) ?_
    clear hw
    intro w hw
    repeat (first|refine qac ?_|(refine qaa ?_;clear hw;intro p w hw)|(refine qad ?_;clear hw;intro w hw)|(refine qab ?_;clear hw;intro s w hw))
    have hw2:Sat w0 w [Box po 26 [a2,b2,c2,.slice none 0 0],OS tInt 3 a2 t.vars,OS tInt 3 b2 t.init,OS tFact 69 c2 t.goal,Box pr 26 [.slice none 0 0,.slice none 0 0,.slice none 0 0,.slice none 0 0],Box pt 26 [a,b,c,d]]:=hw.sel
    exact⟨(po,a2,b2,c2),⟨rfl,trivial⟩,agr,hw2⟩
  ·repeat (first|refine qac ?_|(refine qaa ?_;clear hw;intro p w hw)|(refine qad ?_;clear hw;intro w hw)|(refine qab ?_;clear hw;intro s w hw))
   obtain⟨po,hpo⟩:∃ po,po=p:=⟨p,rfl⟩
   subst hpo
   repeat (first|refine qac ?_|(refine qaa ?_;clear hw;intro p w hw)|(refine qad ?_;clear hw;intro w hw)|(refine qab ?_;clear hw;intro s w hw))
   refine qah rfl (qaB (ha.at hw) (by omega)) ?_
   rintro _ w' ⟨a2,rfl,hk'⟩
   replace hw:=hw.call1 hk'
   clear hk'
   refine⟨_,rfl,?_⟩
   repeat (first|refine qac ?_|(refine qaa ?_;clear hw;intro p w hw)|(refine qad ?_;clear hw;intro w hw)|(refine qab ?_;clear hw;intro s w hw))
   repeat (first|refine qac ?_|(refine qaa ?_;clear hw;intro p w hw)|(refine qad ?_;clear hw;intro w hw)|(refine qab ?_;clear hw;intro s w hw))
   refine qah rfl (qaB (hb.at hw) (by omega)) ?_
   rintro _ w' ⟨b2,rfl,hk'⟩
   replace hw:=hw.call1 hk'
   clear hk'
   refine⟨_,rfl,?_⟩
   repeat (first|refine qac ?_|(refine qaa ?_;clear hw;intro p w hw)|(refine qad ?_;clear hw;intro w hw)|(refine qab ?_;clear hw;intro s w hw))
   repeat (first|refine qac ?_|(refine qaa ?_;clear hw;intro p w hw)|(refine qad ?_;clear hw;intro w hw)|(refine qab ?_;clear hw;intro s w hw))
   refine qah rfl (qa9 (hc.at hw) (by omega)) ?_
   rintro _ w' ⟨c2,rfl,hk'⟩
   replace hw:=hw.call1 hk'
   clear hk'
   refine⟨_,rfl,?_⟩
   repeat (first|refine qac ?_|(refine qaa ?_;clear hw;intro p w hw)|(refine qad ?_;clear hw;intro w hw)|(refine qab ?_;clear hw;intro s w hw))
   repeat (first|refine qac ?_|(refine qaa ?_;clear hw;intro p w hw)|(refine qad ?_;clear hw;intro w hw)|(refine qab ?_;clear hw;intro s w hw))
   have oa:=(rsO (s:=a2) hw).one
   have ob:=(rsO (s:=b2) hw).one
   have oc:=(rsO (s:=c2) hw).one
   refine qbd (v1:=a2) (v2:=b2) (v3:=c2) rfl rfl rfl rfl (by simp only [List.all_cons,List.all_nil,oa,ob,oc];rfl) ?_
   repeat (first|refine qac ?_|(refine qaa ?_;clear hw;intro p w hw)|(refine qab ?_;clear hw;intro s w hw))
   refine qao (n:=4) (p:=po) (vs:=[a2,b2,c2,.slice none 0 0]) rfl rfl hw inferInstance rfl rfl (by simp only [List.all_cons,List.all_nil,oa,ob,oc];rfl) ?_
   clear hw
   intro w hw
   repeat (first|refine qac ?_|(refine qaa ?_;clear hw;intro p w hw)|(refine qad ?_;clear hw;intro w hw)|(refine qab ?_;clear hw;intro s w hw))
   have hw2:Sat w0 w [Box po 26 [a2,b2,c2,.slice none 0 0],OS tInt 3 a2 t.vars,OS tInt 3 b2 t.init,OS tFact 69 c2 t.goal,Box pr 26 [.slice none 0 0,.slice none 0 0,.slice none 0 0,.slice none 0 0],Box pt 26 [a,b,c,d]]:=hw.sel
   exact⟨(po,a2,b2,c2),⟨rfl,trivial⟩,agr,hw2⟩
 clear hw
 rintro σ0 ⟨po,a2,b2,c2⟩ w hw
 simp only at hw
 have hw1:Sat w0 w [OS tOp 44 (.slice none 0 0) [],RdH (OpsF t 0 []),RdH (HeadF t a2 b2 c2),Box po 26 [a2,b2,c2,.slice none 0 0],Box pr 26 [.slice none 0 0,.slice none 0 0,.slice none 0 0,.slice none 0 0],Box pt 26 [a,b,c,d]]:=by
  have hw2:Sat w0 w [OS tInt 3 a2 t.vars,OS tInt 3 b2 t.init,OS tFact 69 c2 t.goal,Box po 26 [a2,b2,c2,.slice none 0 0],Box pr 26 [.slice none 0 0,.slice none 0 0,.slice none 0 0,.slice none 0 0],Box pt 26 [a,b,c,d]]:=hw.sel
  have hw3:=Sat.rd (Δ:=[OS tInt 3 a2 t.vars,OS tInt 3 b2 t.init,OS tFact 69 c2 t.goal]) (φ:=HeadF t a2 b2 c2) (fun _ w h=>⟨h.rs 0 rfl,h.rs 1 rfl,h.rs 2 rfl⟩) hw2
  exact (Sat.rd0 (φ:=OpsF t 0 []) (fun w i hi=>absurd hi (Nat.not_lt_zero _)) hw3).nil
 clear hw
 have hw:=hw1
 clear hw1
 repeat (first|refine qac ?_|(refine qaa ?_;clear hw;intro p w hw)|(refine qae ?_;clear hw;intro w hw)|(refine qab ?_;clear hw;intro s w hw))
 refine qbf [5,6,20,21,22,23,24,25,26,27,28,29,30,31,32,33,34,35,36,37,38,39,40,41,42,43,44,45,46,47,48,49,50,51,52,53,54,55,56,57] (G:=Nat) (H:=Value) (I:=List OpV) (fun k _ _=>[(20,.int .i64 k)]) (fun k dv ws w=>k≤t.ops.length∧ws.length=k∧Sat w0 w [OS tOp 44 dv ws,RdH (OpsF t k ws),RdH (HeadF t a2 b2 c2),Box po 26 [a2,b2,c2,dv],Box pr 26 [.slice none 0 0,.slice none 0 0,.slice none 0 0,.slice none 0 0],Box pt 26 [a,b,c,d]]) (fun k _ _=>t.ops.length-k) 0 (.slice none 0 0) [] (fun _ _ _=>rfl) ⟨rfl,trivial⟩ ⟨Nat.zero_le _,rfl,hw⟩ ?_
 clear hw
 rintro σ k dv ws w ⟨hk,hwl,hw⟩
 repeat (first|refine qac ?_|(refine qaa ?_;clear hw;intro p w hw)|(refine qae ?_;clear hw;intro w hw)|(refine qab ?_;clear hw;intro s w hw))
 refine go_if (fun h1 => ?_) (fun h1 => ?_)
 ·have hkl:k<t.ops.length:=by omega
  have hop:=hd.at_ k hkl
  have hone:=hop.one
  have hpre:=hop.pre
  have hgo:=hg.op k hkl
  have hpl:=qaK hgo.pre
  have hel:=hgo.effs
  obtain⟨us,hus⟩:=hop.effs
  have husr:=hus.rs
  have husl:=hus.len
  repeat (first|refine qac ?_|(refine qaa ?_;clear hw;intro p w hw)|(refine qad ?_;clear hw;intro w hw)|(refine qab ?_;clear hw;intro s w hw))
  obtain⟨p5,hp5⟩:∃ p5,p5=p:=⟨p,rfl⟩
  subst hp5
  refine qax [.op 0,.op 1,.op 3,.op 4,.op 2,.chk 4,.op 6,.op 5,.op 7,.op 8,.op 9] hw (by kernel_rfl) ?_;clear hw;intro w hw
  repeat (first|refine qac ?_|(refine qaa ?_;clear hw;intro p w hw)|(refine qad ?_;clear hw;intro w hw)|(refine qab ?_;clear hw;intro s w hw))
  refine qah rfl (qa9 (hpre.at hw) (by omega)) ?_
  rintro _ w' ⟨pv,rfl,hk'⟩
  replace hw:=hw.call1 hk'
  clear hk'
  refine⟨_,rfl,?_⟩
  repeat (first|refine qac ?_|(refine qaa ?_;clear hw;intro p w hw)|(refine qad ?_;clear hw;intro w hw)|(refine qab ?_;clear hw;intro s w hw))
  refine qah rfl (qia (husr.at hw) (by omega) (qjA hus)) ?_
  rintro _ w' ⟨ev,rfl,hk'⟩
  replace hw:=hw.call1 hk'
  clear hk'
  refine⟨_,rfl,?_⟩
  have opv:=(rsO (s:=pv) hw).one
  have oev:=(rsO (s:=ev) hw).one
  repeat (first|refine qac ?_|(refine qaa ?_;clear hw;intro p w hw)|(refine qab ?_;clear hw;intro s w hw))
  refine qiL (k:=2) (p:=p5) (v:=pv) rfl rfl opv hw inferInstance (by rw [tOp.ok];decide) ?_
  clear hw
  intro w hw
  repeat (first|refine qac ?_|(refine qaa ?_;clear hw;intro p w hw)|(refine qab ?_;clear hw;intro s w hw))
  refine qiL (k:=3) (p:=p5) (v:=ev) rfl rfl oev hw inferInstance (by rw [List.length_set,tOp.ok];decide) ?_
  clear hw
  intro w hw
  have hw1:Sat w0 w [RdH (EffW (t.ops.getD k dOp).effs 0 us),OS tEff 67 ev us,Box p5 44 (tOp.enc ⟨(eget tOp vs k).name,(eget tOp vs k).cost,pv,ev⟩),OS tFact 69 pv (t.ops.getD k dOp).pre,OS tOp 44 dv ws,RdH (OpsF t k ws),RdH (HeadF t a2 b2 c2),Box po 26 [a2,b2,c2,dv],Box pr 26 [.slice none 0 0,.slice none 0 0,.slice none 0 0,.slice none 0 0],Box pt 26 [a,b,c,d]]:=by
   have hw2:Sat w0 w [OS tEff 67 ev us,OS tFact 69 pv (t.ops.getD k dOp).pre,Box p5 44 (tOp.enc ⟨(eget tOp vs k).name,(eget tOp vs k).cost,pv,ev⟩),OS tOp 44 dv ws,RdH (OpsF t k ws),RdH (HeadF t a2 b2 c2),Box po 26 [a2,b2,c2,dv],Box pr 26 [.slice none 0 0,.slice none 0 0,.slice none 0 0,.slice none 0 0],Box pt 26 [a,b,c,d]]:=hw
   exact (Sat.rd0 (φ:=EffW (t.ops.getD k dOp).effs 0 us) (fun w i hi=>absurd hi (Nat.not_lt_zero _)) hw2).sel
  clear hw
  have hw:=hw1
  clear hw1
  have hE0:EffI (t.ops.getD k dOp).effs us 0 us:=⟨husl,fun i hi=>⟨(hus.at_ i hi).var,(hus.at_ i hi).val⟩,fun i _ _=>rfl⟩
  repeat (first|refine qac ?_|(refine qaa ?_;clear hw;intro p w hw)|(refine qad ?_;clear hw;intro w hw)|(refine qab ?_;clear hw;intro s w hw))
  refine qaq [6,35,36,37,38,39,40,41,42,43,44,45,46,47,48,49,50] (G:=Nat) (H:=List EffV) (fun j _=>[(35,.int .i64 j)]) (fun j es w=>j≤(t.ops.getD k dOp).effs.length∧EffI (t.ops.getD k dOp).effs us j es∧Sat w0 w [RdH (EffW (t.ops.getD k dOp).effs j es),OS tEff 67 ev es,Box p5 44 (tOp.enc ⟨(eget tOp vs k).name,(eget tOp vs k).cost,pv,ev⟩),OS tFact 69 pv (t.ops.getD k dOp).pre,OS tOp 44 dv ws,RdH (OpsF t k ws),RdH (HeadF t a2 b2 c2),Box po 26 [a2,b2,c2,dv],Box pr 26 [.slice none 0 0,.slice none 0 0,.slice none 0 0,.slice none 0 0],Box pt 26 [a,b,c,d]]) (fun j _=>(t.ops.getD k dOp).effs.length-j) 0 us (fun _ _=>rfl) ⟨rfl,trivial⟩ ⟨Nat.zero_le _,hE0,hw⟩ ?_
  clear hw
  rintro σ1 j es w ⟨hj,hE,hw⟩
  have hesl:=hE.len
  repeat (first|refine qac ?_|(refine qaa ?_;clear hw;intro p w hw)|(refine qae ?_;clear hw;intro w hw)|(refine qab ?_;clear hw;intro s w hw))
  refine go_if (fun h2 => ?_) (fun h2 => ?_)
  ·have hjl:j<(t.ops.getD k dOp).effs.length:=by omega
   have hue:=hus.at_ j hjl
   have hfj:=hE.fld j hjl
   have hoj:=hE.old j (Nat.le_refl _) hjl
   have hfl:=qaK (hgo.eff j hjl).1
   have hwhen:RS tFact w0 (eget tEff es j).when ((t.ops.getD k dOp).effs.getD j dEff).when:=by rw [hoj];exact hue.when
   repeat (first|refine qac ?_|(refine qaa ?_;clear hw;intro p w hw)|(refine qad ?_;clear hw;intro w hw)|(refine qab ?_;clear hw;intro s w hw))
   refine qax [.op 0,.op 1,.op 2,.op 3,.op 4,.op 5,.op 6,.op 7,.op 8,.op 9,.chk 1,.op 10,.op 11,.op 12] hw (by kernel_rfl) ?_;clear hw;intro w hw
   repeat (first|refine qac ?_|(refine qaa ?_;clear hw;intro p w hw)|(refine qad ?_;clear hw;intro w hw)|(refine qab ?_;clear hw;intro s w hw))
   refine qah rfl (qa9 (hwhen.at hw) (by omega)) ?_
   rintro _ w' ⟨fv,rfl,hk'⟩
   replace hw:=hw.call1 hk'
   clear hk'
   refine⟨_,rfl,?_⟩
   have ofv:=(rsO (s:=fv) hw).one
   repeat (first|refine qac ?_|(refine qaa ?_;clear hw;intro p w hw)|(refine qab ?_;clear hw;intro s w hw))
   refine qgS (T:=tEff) (s:=ev) (j:=j) (k:=0) (v:=fv) (x':=⟨fv,(eget tEff es j).var,(eget tEff es j).val⟩) rfl rfl ofv hw inferInstance (by omega) (Nat.zero_lt_succ _) (by rw [←qaN];rfl) ?_
   clear hw
   intro w hw
   have hw1:Sat w0 w [RdH (EffW (t.ops.getD k dOp).effs (j+1) (es.set j ⟨fv,(eget tEff es j).var,(eget tEff es j).val⟩)),OS tEff 67 ev (es.set j ⟨fv,(eget tEff es j).var,(eget tEff es j).val⟩),Box p5 44 (tOp.enc ⟨(eget tOp vs k).name,(eget tOp vs k).cost,pv,ev⟩),OS tFact 69 pv (t.ops.getD k dOp).pre,OS tOp 44 dv ws,RdH (OpsF t k ws),RdH (HeadF t a2 b2 c2),Box po 26 [a2,b2,c2,dv],Box pr 26 [.slice none 0 0,.slice none 0 0,.slice none 0 0,.slice none 0 0],Box pt 26 [a,b,c,d]]:=by
    have hw2:Sat w0 w [OS tFact 69 fv ((t.ops.getD k dOp).effs.getD j dEff).when,RdH (EffW (t.ops.getD k dOp).effs j es),OS tEff 67 ev (es.set j ⟨fv,(eget tEff es j).var,(eget tEff es j).val⟩),Box p5 44 (tOp.enc ⟨(eget tOp vs k).name,(eget tOp vs k).cost,pv,ev⟩),OS tFact 69 pv (t.ops.getD k dOp).pre,OS tOp 44 dv ws,RdH (OpsF t k ws),RdH (HeadF t a2 b2 c2),Box po 26 [a2,b2,c2,dv],Box pr 26 [.slice none 0 0,.slice none 0 0,.slice none 0 0,.slice none 0 0],Box pt 26 [a,b,c,d]]:=hw
    exact Sat.rd2 (χ:=EffW (t.ops.getD k dOp).effs (j+1) (es.set j ⟨fv,(eget tEff es j).var,(eget tEff es j).val⟩)) (fun w h1 h2=>h2.step (by omega) h1) (Sat.rd (Δ:=[OS tFact 69 fv ((t.ops.getD k dOp).effs.getD j dEff).when]) (φ:=fun w=>RS tFact w fv ((t.ops.getD k dOp).effs.getD j dEff).when) (fun _ _ h=>h.rs 0 rfl) hw2)
   repeat (first|refine qac ?_|(refine qaa ?_;clear hw;intro p w hw)|(refine qad ?_;clear hw;intro w hw)|(refine qab ?_;clear hw;intro s w hw))
   exact⟨j+1,_,⟨rfl,trivial⟩,agr,⟨by omega,hE.step hjl,hw1⟩,by omega⟩
  have hje:j=(t.ops.getD k dOp).effs.length:=by omega
  subst hje
  obtain⟨vo,hvo⟩:∃ vo:OpV,vo=⟨(eget tOp vs k).name,(eget tOp vs k).cost,pv,ev⟩:=⟨_,rfl⟩
  rw [←hvo] at hw
  have hvo1:∀ v∈tOp.enc vo,v.oneCell'=true:=by
   rw [hvo]
   intro v hv
   simp only [tOp,List.mem_cons,List.not_mem_nil,or_false] at hv
   rcases hv with rfl|rfl|rfl|rfl
   ·rfl
   ·rfl
   ·exact opv
   ·exact oev
  have hw1:Sat w0 w [RdH fun w=>ROp w vo (t.ops.getD k dOp),Box p5 44 (tOp.enc vo),OS tOp 44 dv ws,RdH (OpsF t k ws),RdH (HeadF t a2 b2 c2),Box po 26 [a2,b2,c2,dv],Box pr 26 [.slice none 0 0,.slice none 0 0,.slice none 0 0,.slice none 0 0],Box pt 26 [a,b,c,d]]:=by
   have hw2:Sat w0 w [RdH (EffW (t.ops.getD k dOp).effs (t.ops.getD k dOp).effs.length es),OS tEff 67 ev es,OS tFact 69 pv (t.ops.getD k dOp).pre,Box p5 44 (tOp.enc vo),OS tOp 44 dv ws,RdH (OpsF t k ws),RdH (HeadF t a2 b2 c2),Box po 26 [a2,b2,c2,dv],Box pr 26 [.slice none 0 0,.slice none 0 0,.slice none 0 0,.slice none 0 0],Box pt 26 [a,b,c,d]]:=hw.sel
   refine Sat.rd (Δ:=[RdH (EffW (t.ops.getD k dOp).effs (t.ops.getD k dOp).effs.length es),OS tEff 67 ev es,OS tFact 69 pv (t.ops.getD k dOp).pre]) (φ:=fun w=>ROp w vo (t.ops.getD k dOp)) (fun _ w h => ?_) hw2
   have hff:=h.rdE 0 rfl
   rw [hvo]
   exact⟨hop.name,hop.size,hop.cost,h.rs 2 rfl,es,h.rs 1 rfl,hE.len,fun i hi=>⟨(hE.fld i hi).1,(hE.fld i hi).2,hff i hi⟩⟩
  clear hw
  have hw:=hw1
  clear hw1
  repeat (first|refine qac ?_|(refine qaa ?_;clear hw;intro p w hw)|(refine qad ?_;clear hw;intro w hw)|(refine qab ?_;clear hw;intro s w hw))
  refine qam tOp (x1:=vo) rfl rfl rfl (Nat.le_of_ble_eq_true rfl) (Nat.zero_lt_succ _) hw ?_
  clear hw
  intro bs w hw
  repeat (first|refine qac ?_|(refine qaa ?_;clear hw;intro p w hw)|(refine qad ?_;clear hw;intro w hw)|(refine qab ?_;clear hw;intro s w hw))
  refine qbe (s:=dv) (s2:=bs) inferInstance rfl rfl (rsO hw) rfl rfl (fun x hx v hv=>by rw [List.mem_singleton.1 hx] at hv;exact hvo1 v hv) (by simp only [List.length_cons,List.length_nil];omega) (by unfold big;simp only [List.length_cons,List.length_nil];omega) hw ?_
  clear hw
  intro dv2 w hw
  have odv:=(rsO (s:=dv2) hw).one
  repeat (first|refine qac ?_|(refine qaa ?_;clear hw;intro p w hw)|(refine qad ?_;clear hw;intro w hw)|(refine qab ?_;clear hw;intro s w hw))
  have hw1:Sat w0 w [OS tOp 44 dv2 (ws++[vo]),RdH (OpsF t (k+1) (ws++[vo])),RdH (HeadF t a2 b2 c2),Box po 26 [a2,b2,c2,dv2],Box pr 26 [.slice none 0 0,.slice none 0 0,.slice none 0 0,.slice none 0 0],Box pt 26 [a,b,c,d]]:=by
   have hw2:Sat w0 w [OS tOp 44 bs [vo],RdH fun w=>ROp w vo (t.ops.getD k dOp),Box p5 44 (tOp.enc vo),OS tOp 44 dv2 (ws++[vo]),RdH (OpsF t k ws),RdH (HeadF t a2 b2 c2),Box po 26 [a2,b2,c2,dv2],Box pr 26 [.slice none 0 0,.slice none 0 0,.slice none 0 0,.slice none 0 0],Box pt 26 [a,b,c,d]]:=hw
   have hw3:Sat w0 w [RdH fun w=>ROp w vo (t.ops.getD k dOp),RdH (OpsF t k ws),OS tOp 44 dv2 (ws++[vo]),RdH (HeadF t a2 b2 c2),Box po 26 [a2,b2,c2,dv2],Box pr 26 [.slice none 0 0,.slice none 0 0,.slice none 0 0,.slice none 0 0],Box pt 26 [a,b,c,d]]:=hw2.sel
   exact (Sat.rd2 (χ:=OpsF t (k+1) (ws++[vo])) (fun w h1 h2=>h2.step hwl h1) hw3).swap
  exact⟨k+1,_,_,⟨rfl,trivial⟩,agr,⟨by omega,by simp [hwl],hw1⟩,by omega⟩
 have hke:k=t.ops.length:=by omega
 subst hke
 have odv:=(rsO (s:=dv) hw).one
 have hw1:Sat w0 w [RdH fun w=>RTask w a2 b2 c2 dv ws t,Box po 26 [a2,b2,c2,dv],Box pr 26 [.slice none 0 0,.slice none 0 0,.slice none 0 0,.slice none 0 0],Box pt 26 [a,b,c,d]] :=
  Sat.rd (Δ:=[OS tOp 44 dv ws,RdH (OpsF t t.ops.length ws),RdH (HeadF t a2 b2 c2)]) (φ:=fun w=>RTask w a2 b2 c2 dv ws t) (fun _ w h=>⟨(h.rdE 2 rfl).1,(h.rdE 2 rfl).2.1,(h.rdE 2 rfl).2.2,h.rs 0 rfl,hwl,h.rdE 1 rfl⟩) hw
 clear hw
 have hw:=hw1
 clear hw1
 have ht2:=hw.rdE 0 rfl
 have o1:=ht2.vars.one
 have o2:=ht2.init.one
 have o3:=ht2.goal.one
 repeat (first|refine qac ?_|(refine qaa ?_;clear hw;intro p w hw)|(refine qab ?_;clear hw;intro s w hw))
 refine qao (n:=4) (p:=pr) (vs:=[a2,b2,c2,dv]) rfl rfl hw inferInstance rfl rfl (by simp only [List.all_cons,List.all_nil,o1,o2,o3,odv];rfl) ?_
 clear hw
 intro w hw
 repeat (first|refine qac ?_|(refine qaa ?_;clear hw;intro p w hw)|(refine qad ?_;clear hw;intro w hw)|(refine qab ?_;clear hw;intro s w hw))
 exact qis (p:=pr) (vs:=[a2,b2,c2,dv]) rfl rfl rfl (hw.boxR 2 rfl) ⟨a2,b2,c2,dv,ws,rfl,hw.sel⟩
end Go.Proofs.YtjdlohdcdmhigaaGreatDoor
/-
  Contract of 'succgen.copied'.
-/
namespace Go.Proofs.YtjdlohdcdmhigaaGreatDoor
open Go.Sl Go
attribute [local irreducible] vc opsW opsD opV opW PureV ReadV Thn Blk
end Go.Proofs.YtjdlohdcdmhigaaGreatDoor
/-
  Contracts of 'estimate.made', 'Blind', of the values of estimates, and of 'For'.
-/
namespace Go.Proofs.YtjdlohdcdmhigaaGreatDoor
open Go.Sl Go
attribute [local irreducible] vc opsW opsD opV opW PureV ReadV Thn Blk
instance inWEst21:MethS Tryz.prog 113 "Value" 263 := ⟨by kernel_rfl⟩
def HVal (w:World) (h:Value) (t:TTask) (H:List Int→Int):Prop :=
 ∃ (T:Nat) (v u:Value) (f:Nat),h=.iface T v∧MethAt Tryz.prog T v "Value" f u ∧ CallT Tryz.prog f ∧ ∀ (w1 : World) (Γ : List HP) (sv : Value) (s : List Int), Sat w w1 Γ → RS tInt w1 sv s → StateOk t.vars s →
  Calls Tryz.prog f #[u,sv] w1 fun e w2=>e=.returned (.int .i64 (H s))∧Sat w1 w2 []
theorem HVal.at {w0 w:World}{Γ:List HP}{h:Value}{t:TTask}{H:List Int→Int}(k:HVal w0 h t H) (hw:Sat w0 w Γ):HVal w h t H:=by
 obtain⟨T,v,u,f,h1,h2,h3,h4⟩:=k
 exact⟨T,v,u,f,h1,h2,h3,fun w1 Δ sv s hs=>h4 w1 (Δ++Γ) sv s (hw.call hs)⟩
def REst (w:World) (p:Addr) (t:TTask) (H:List Int→Int):Prop:=∃ a b c d h vs,BoxR w p [a,b,c,d,h]∧RTask w a b c d vs t∧HVal w h t H
theorem REst.at {w0 w:World}{Γ:List HP}{p:Addr}{t:TTask}{H:List Int→Int}(k:REst w0 p t H) (hw:Sat w0 w Γ):REst w p t H:=by
 obtain⟨a,b,c,d,h,vs,h1,h2,h3⟩:=k
 exact⟨a,b,c,d,h,vs,h1.at hw,h2.at hw,h3.at hw⟩
open Classical in
noncomputable def estV (t:TTask) (H:List Int→Int) (s:List Int):Int:=if StateOk t.vars s then H s else inf
set_option maxRecDepth 8000 in
set_option maxHeartbeats 2000000 in
theorem qba {w0:World}{p:Addr}{t:TTask}{H:List Int→Int}{sv:Value}{s:List Int}(he:REst w0 p t H) (hs:RS tInt w0 sv s) :
  Calls Tryz.prog 13 #[.pointer (some p),sv] w0 fun e w'=>e=.returned (.int .i64 (estV t H s))∧Sat w0 w' []:=by
 obtain⟨a,b,c,d,h,vs,h1,h2,h3⟩:=he
 have ha:=h2.vars
 have hw:=Sat.start w0
 refine qaf (args:=[.pointer (some p),sv]) mixed Tryz.func13 rfl (by kernel_rfl) (Nat.le_of_ble_eq_true rfl) ?_
 repeat (first|refine qac ?_|(refine qaa ?_;clear hw;intro p w hw)|(refine qae ?_;clear hw;intro w hw)|(refine qab ?_;clear hw;intro s w hw))
 refine qah rfl (qbx (ha.at hw) (hs.at hw)) ?_
 rintro _ w' ⟨⟨r,rfl,hr⟩,hk'⟩
 replace hw:=hw.call0 hk'
 clear hk'
 refine⟨_,rfl,?_⟩
 cases r
 ·have hn:estV t H s=inf:=if_neg fun h=>(by cases hr.2 h)
  repeat (first|refine qac ?_|(refine qaa ?_;clear hw;intro p w hw)|(refine qae ?_;clear hw;intro w hw)|(refine qab ?_;clear hw;intro s w hw))
  exact qai (v:=.int .i64 1125899906842624) rfl rfl ⟨by rw [hn],hw⟩
 have hok:=hr.1 rfl
 have hn:estV t H s=H s:=if_pos hok
 obtain⟨T,v,u,f,rfl,m1,m2,m3⟩:=h3.at hw
 repeat (first|refine qac ?_|(refine qaa ?_;clear hw;intro p w hw)|(refine qae ?_;clear hw;intro w hw)|(refine qab ?_;clear hw;intro s w hw))
 refine qjt m1 m2 rfl rfl (m3 _ [] sv s (Sat.start _) (hs.at hw) hok) ?_
 rintro _ w' ⟨rfl,hk'⟩
 replace hw:=hw.call0 hk'
 clear hk'
 refine⟨_,rfl,?_⟩
 repeat (first|refine qac ?_|(refine qaa ?_;clear hw;intro p w hw)|(refine qae ?_;clear hw;intro w hw)|(refine qab ?_;clear hw;intro s w hw))
 exact qai (v:=.int .i64 (H s)) rfl rfl ⟨by rw [hn],hw⟩
set_option maxRecDepth 8000 in
set_option maxHeartbeats 2000000 in
theorem ql1 {w0:World}{p:Addr}{u t:TTask}{H:List Int→Int}{a b c d:Value}{vs:List OpV}(he:REst w0 p u H) (ht:RTask w0 a b c d vs t) :
  Calls Tryz.prog 18 #[.pointer (some p),.agg #[a,b,c,d]] w0 fun e w'=>(∃ r,e=.returned (.bool r)∧(r=true↔u=t))∧Sat w0 w' []:=by
 obtain⟨a2,b2,c2,d2,h,us,h1,h2,h3⟩:=he
 have hw:=Sat.start w0
 refine qaf (args:=[.pointer (some p),.agg #[a,b,c,d]]) mixed Tryz.func18 rfl (by kernel_rfl) (Nat.le_of_ble_eq_true rfl) ?_
 repeat (first|refine qac ?_|(refine qaa ?_;clear hw;intro p w hw)|(refine qad ?_;clear hw;intro w hw)|(refine qab ?_;clear hw;intro s w hw))
 refine qax [.op 0,.op 1,.op 2,.op 3,.op 4,.op 5,.op 6,.op 7,.op 8,.op 9,.op 10] hw (by kernel_rfl) ?_;clear hw;intro w hw
 repeat (first|refine qac ?_|(refine qaa ?_;clear hw;intro p w hw)|(refine qad ?_;clear hw;intro w hw)|(refine qab ?_;clear hw;intro s w hw))
 refine qaE rfl (qbI (k:=0) (n:=4) (vs:=[a2,b2,c2,d2]) rfl (h1.at hw) rfl rfl) ?_
 repeat (first|refine qac ?_|(refine qaa ?_;clear hw;intro p w hw)|(refine qad ?_;clear hw;intro w hw)|(refine qab ?_;clear hw;intro s w hw))
 refine qah rfl (qhk (h2.at hw) (ht.at hw)) ?_
 rintro _ w' ⟨⟨r,rfl,hr⟩,hk'⟩
 replace hw:=hw.call0 hk'
 clear hk'
 refine⟨_,rfl,?_⟩
 repeat (first|refine qac ?_|(refine qaa ?_;clear hw;intro p w hw)|(refine qad ?_;clear hw;intro w hw)|(refine qab ?_;clear hw;intro s w hw))
 exact qai (v:=.bool r) rfl rfl ⟨⟨r,rfl,hr⟩,hw.sel⟩
def leastK (t:TTask) (k:Nat):Int:=(t.ops.take k).foldl (fun m o=>min m o.cost) inf
def leastC (t:TTask):Int:=leastK t t.ops.length
def blindH (t:TTask) (s:List Int):Int:=if HoldFs s t.goal then 0 else leastC t
set_option maxRecDepth 8000 in
theorem qik {w0:World}{gv sv:Value}{g:List Fact}{n:Int}{s:List Int}(hg:RS tFact w0 gv g) (hs:RS tInt w0 sv s) :
  Calls Tryz.prog 263 #[.agg #[gv,.int .i64 n],sv] w0 fun e w'=>e=.returned (.int .i64 (if HoldFs s g then 0 else n))∧Sat w0 w' []:=by
 have hw:=Sat.start w0
 refine qaf (args:=[.agg #[gv,.int .i64 n],sv]) mixed Tryz.func263 rfl (by kernel_rfl) (Nat.le_of_ble_eq_true rfl) ?_
 repeat (first|refine qac ?_|(refine qaa ?_;clear hw;intro p w hw)|(refine qae ?_;clear hw;intro w hw)|(refine qab ?_;clear hw;intro s w hw))
 refine qah rfl (qeU (hg.at hw) (hs.at hw)) ?_
 rintro _ w' ⟨⟨r,rfl,hr⟩,hk'⟩
 replace hw:=hw.call0 hk'
 clear hk'
 refine⟨_,rfl,?_⟩
 cases r
 ·have hn:¬HoldFs s g:=fun h=>by have:=hr.2 h;cases this
  rw [if_neg hn]
  repeat (first|refine qac ?_|(refine qaa ?_;clear hw;intro p w hw)|(refine qae ?_;clear hw;intro w hw)|(refine qab ?_;clear hw;intro s w hw))
  exact qai (v:=.int .i64 n) rfl rfl ⟨rfl,hw.sel⟩
 ·rw [if_pos (hr.1 rfl)]
  repeat (first|refine qac ?_|(refine qaa ?_;clear hw;intro p w hw)|(refine qae ?_;clear hw;intro w hw)|(refine qab ?_;clear hw;intro s w hw))
  exact qai (v:=.int .i64 0) rfl rfl ⟨rfl,hw.sel⟩
set_option maxRecDepth 8000 in
set_option maxHeartbeats 2000000 in
theorem qcg {w0:World}{a b c d h:Value}{vs:List OpV}{t:TTask}{H:List Int→Int}(ht:RTask w0 a b c d vs t) (hg:GoodT t) (hh:∃ T v,h=.iface T v) :
  Calls Tryz.prog 41 #[.agg #[a,b,c,d],h,.nilIface] w0 fun e w'=>∃ p,e=.returned (.tuple #[.pointer (some p),.nilIface])∧Sat w0 w' [RdH fun w=>HVal w h t H→REst w p t H]:=by
 obtain⟨T,v,rfl⟩:=hh
 have hw:=Sat.start w0
 refine qaf (args:=[.agg #[a,b,c,d],.iface T v,.nilIface]) mixed Tryz.func41 rfl (by kernel_rfl) (Nat.le_of_ble_eq_true rfl) ?_
 repeat (first|refine qac ?_|(refine qaa ?_;clear hw;intro p w hw)|(refine qae ?_;clear hw;intro w hw)|(refine qab ?_;clear hw;intro s w hw))
 refine qah rfl (qid (ht.at hw) hg) ?_
 rintro _ w' ⟨a2,b2,c2,d2,vs2,rfl,hk'⟩
 replace hw:=hw.call1 hk'
 clear hk'
 refine⟨_,rfl,?_⟩
 have ht2:=hw.rdE 0 rfl
 have o1:=ht2.vars.cells1
 have o2:=ht2.init.cells1
 have o3:=ht2.goal.cells1
 have o4:=ht2.ops.rs.cells1
 repeat (first|refine qac ?_|(refine qaa ?_;clear hw;intro p w hw)|(refine qad ?_;clear hw;intro w hw)|(refine qab ?_;clear hw;intro s w hw))
 refine qg7 (vs:=[(0,.agg #[a2,b2,c2,d2]),(1,.iface T v)]) (ls:=[(0,[a2,b2,c2,d2]),(1,[.iface T v])]) rfl rfl rfl ?_
 refine qg8 (vs:=[a2,b2,c2,d2,.iface T v]) rfl hw ?_
 clear hw
 intro pe w hw
 repeat (first|refine qac ?_|(refine qaa ?_;clear hw;intro p w hw)|(refine qad ?_;clear hw;intro w hw)|(refine qab ?_;clear hw;intro s w hw))
 have hw1:Sat w0 w [RdH fun w=>HVal w (.iface T v) t H→REst w pe t H]:=by
  have hw2:Sat w0 w [Box pe 74 [a2,b2,c2,d2,.iface T v],RdH fun w=>RTask w a2 b2 c2 d2 vs2 t,Box p 26 (Value.agg #[a,b,c,d]).cells.toList]:=hw
  exact (Sat.rd (Δ:=[Box pe 74 [a2,b2,c2,d2,.iface T v],RdH fun w=>RTask w a2 b2 c2 d2 vs2 t]) (φ:=fun w=>HVal w (.iface T v) t H→REst w pe t H) (fun _ w h hh=>⟨a2,b2,c2,d2,.iface T v,vs2,h.boxR 0 rfl,h.rdE 1 rfl,hh⟩) hw2).sel
 exact qay (v:=.pointer (some pe)) (v':=.nilIface) rfl rfl rfl ⟨pe,rfl,hw1⟩
end Go.Proofs.YtjdlohdcdmhigaaGreatDoor
/-
  The iterator of 'slices.Backward' over ints: its contract for whatever loop's body.
-/
namespace Go.Proofs.YtjdlohdcdmhigaaGreatDoor
open Go.Sl Go
attribute [local irreducible] vc opsW opsD opV opW PureV ReadV Thn Blk
def revP (L:List Int) (k:Nat):List (Int × Int):=(List.range k).map fun (j:Nat)=>(((L.length:Int)-1-(j:Int)),L.getD (L.length-1-j) tInt.dflt)
theorem qko (L:List Int) (k:Nat):revP L (k+1)=revP L k++[(((L.length:Int)-1-(k:Int)),L.getD (L.length-1-k) tInt.dflt)]:=by simp [revP,List.range_succ]
def KpB (pb:Addr) (a:Value) (L:List Int) (W W':World):Prop:=(W.cell? pb=some a→W'.cell? pb=some a)∧(RS tInt W a L→RS tInt W' a L)
def encB {Q:Int × Int→Prop}(x:{ p:Int × Int // Q p }):Array Value:=#[.int .i64 x.1.1,.int .i64 x.1.2]
set_option maxRecDepth 8000 in
theorem qe2 {n:Nat}{w0:World}{pb:Addr}{a:Value}{L:List Int}{Q:Int × Int→Prop}(hQ:∀ i:Nat,i<L.length→Q ((i:Int),L.getD i tInt.dflt)) (hc:w0.cell? pb=some a) (ha:RS tInt w0 a L) :
  SeqStopsK (α:={ p:Int × Int // Q p }) Fence.wide n Tryz.prog 174 #[.pointer (some pb)] encB (KpB pb a L) (fun xs=>xs.map (·.1)=revP L L.length) (fun _=>True) L.length w0:=by
 intro l J Jx W hb hJ hJx hY h0
 refine (callsIn_wide (n:=n)).2 ?_
 have hc1:W.cell? pb=some a:=by
  have hlt:pb.block<w0.heap.size:=by
   rcases Nat.lt_or_ge pb.block w0.heap.size with h|h
   ·exact h
   ·simp [World.cell?,Array.getElem?_eq_none h] at hc
  rw [hb.cell hlt];exact hc
 have ha1:RS tInt W a L:=⟨ha.1.below hb,ha.2⟩
 have hla:=ha.big
 refine qaf (args:=[.func (.yield l) #[] #[],.pointer (some pb)]) mixed Tryz.func174 rfl (by kernel_rfl) (Nat.le_of_ble_eq_true rfl) ?_
 repeat (first|refine qac ?_|(refine qaa ?_;clear hw;intro p w hw)|(refine qae ?_;clear hw;intro w hw)|(refine qab ?_;clear hw;intro s w hw))
 refine qaE rfl (qbz rfl hc1) ?_
 repeat (first|refine qac ?_|(refine qaa ?_;clear hw;intro p w hw)|(refine qae ?_;clear hw;intro w hw)|(refine qab ?_;clear hw;intro s w hw))
 refine qaq [3,7,8,9,10,11,12,13,14,15,16,17,18] (G:=Nat) (H:=List { p:Int × Int // Q p }) (fun k _=>[(3,.int .i64 ((L.length:Int)-1-(k:Int)))]) (fun k pre w=>k≤L.length∧pre.map (·.1)=revP L k∧J pre w∧w.cell? pb=some a∧RS tInt w a L) (fun k _=>L.length-k) 0 [] (fun _ _=>rfl) ⟨by have e0:((L.length:Int)-1-((0:Nat):Int))=(L.length:Int)-1:=(by omega);rw [e0];rfl,trivial⟩ ⟨Nat.zero_le _,rfl,h0,hc1,ha1⟩ ?_
 clear hc1 ha1 h0
 rintro σ k pre w ⟨hk,hpre,hj,hc1,ha1⟩
 repeat (first|refine qac ?_|(refine qaa ?_;clear hw;intro p w hw)|(refine qae ?_;clear hw;intro w hw)|(refine qab ?_;clear hw;intro s w hw))
 refine go_if (fun h1 => ?_) (fun h1 => ?_)
 ·have hkl:k<L.length:=by omega
  have hpl:pre.length=k:=by have:=congrArg List.length hpre;simpa [revP] using this
  have e1:((L.length:Int)-1-(k:Int)).toNat=L.length-1-k:=by omega
  have e2:((L.length-1-k:Nat):Int)=(L.length:Int)-1-(k:Int):=by omega
  have hx:=hQ (L.length-1-k) (by omega)
  rw [e2] at hx
  have hy:=hY pre ⟨_,hx⟩ w hj (by omega)
  repeat (first|refine qac ?_|(refine qaa ?_;clear hw;intro p w hw)|(refine qae ?_;clear hw;intro w hw)|(refine qab ?_;clear hw;intro s w hw))
  refine qaE rfl (qbz rfl hc1) ?_
  repeat (first|refine qac ?_|(refine qaa ?_;clear hw;intro p w hw)|(refine qae ?_;clear hw;intro w hw)|(refine qab ?_;clear hw;intro s w hw))
  rw [e1]
  refine qim (l:=l) rfl rfl hy ?_
  rintro _ W' (⟨rfl,hj',hk1,hk2⟩|⟨rfl,hjx⟩)
  ·refine⟨_,rfl,?_⟩
   repeat (first|refine qac ?_|(refine qaa ?_;clear hw;intro p w hw)|(refine qae ?_;clear hw;intro w hw)|(refine qab ?_;clear hw;intro s w hw))
   refine⟨k+1,pre++[⟨_,hx⟩],⟨?_,trivial⟩,agr,⟨by omega,?_,hj',hk1 hc1,hk2 ha1⟩,by omega⟩
   ·show Value.int .i64 _=_
    congr 1;omega
   ·rw [List.map_append,hpre,qko];rfl
  ·refine⟨_,rfl,?_⟩
   repeat (first|refine qac ?_|(refine qaa ?_;clear hw;intro p w hw)|(refine qae ?_;clear hw;intro w hw)|(refine qab ?_;clear hw;intro s w hw))
   exact qf6 rfl ⟨⟨_,rfl⟩,.inr ⟨_,trivial,hjx⟩⟩
 ·have hke:k=L.length:=by omega
  subst hke
  repeat (first|refine qac ?_|(refine qaa ?_;clear hw;intro p w hw)|(refine qae ?_;clear hw;intro w hw)|(refine qab ?_;clear hw;intro s w hw))
  exact qaL rfl ⟨⟨_,rfl⟩,.inl ⟨pre,hpre,hj⟩⟩
end Go.Proofs.YtjdlohdcdmhigaaGreatDoor
