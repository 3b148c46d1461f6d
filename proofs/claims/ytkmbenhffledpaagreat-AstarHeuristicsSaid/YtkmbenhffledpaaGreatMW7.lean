/-
  Several texts as one: WACost, WSucC, WTStates, WBack.
-/
import Derived.Test.YtkmbenhffledpaaGreatMW1
import Derived.Test.YtkmbenhffledpaaGreatMTA
import Derived.Test.YtkmbenhffledpaaGreatMW5
import Derived.Test.YtkmbenhffledpaaGreatMW2
import Derived.Test.YtkmbenhffledpaaGreatMSlB
set_option linter.unusedSimpArgs false
set_option linter.unusedVariables false
/-
  Contract of A*'s 'search.cost'.
-/
namespace Go.Proofs.YtkmbenhffledpaaGreat
open Go.Sl Go
attribute [local irreducible] vc opsW opsD opV opW PureV ReadV Thn Blk
set_option maxRecDepth 8000 in
set_option maxHeartbeats 4000000 in
theorem qni {w0:World}{a b c d c4 c5 c6 c7 c8 c9 c10 c11 c12 c13 c14 pv:Value}{vs:List OpV}{t:TTask}{q:Addr}{s pl:List Int}{co:Int}(ht:RTask w0 a b c d vs t) (hg:GoodT t) (hb:BoxR w0 q [a,b,c,d,c4,c5,c6,c7,c8,c9,c10,c11,c12,c13,c14])
  (hp:RS tInt w0 pv pl) (hP:Pln t s pl co) (hpl:pl.length≤1048577) :
  Calls Tryz.prog 95 #[.pointer (some q),pv] w0 fun e w'=>e=.returned (.int .i64 (coL t pl))∧Sat w0 w' []:=by
 have hdr:=ht.ops.rs
 have hdl:=ht.ops.len
 have hw:=Sat.start w0
 refine qab (args:=[.pointer (some q),pv]) mixed Tryz.func95 rfl (by kernel_rfl) (Nat.le_of_ble_eq_true rfl) ?_
 repeat refine qaa ?_
 refine qao [5,7,10,11,12,13,14,15,16,17,18,19,20,21,22,23,24,25] (G:=Nat) (H:=Int) (fun k m=>[(10,.int .i64 k),(5,.int .i64 m)]) (fun k m w=>k≤pl.length∧m=coL t (pl.take k)∧Sat w0 w []) (fun k _=>pl.length-k) 0 0 (fun _ _=>rfl) ⟨rfl,rfl,trivial⟩ ⟨Nat.zero_le _,rfl,hw⟩ ?_
 clear hw
 rintro σ3 k m w ⟨hk,hm,hw⟩
 repeat refine qaa ?_
 refine go_if (fun h2 => ?_) (fun h2 => ?_)
 ·have hkl:k<pl.length:=by omega
  obtain⟨p1,p2,p3⟩:=hP.at_ hkl
  have hcr:=qiH hg hP (k:=k) (by omega)
  rw [←hm] at hcr
  have hco:(eget tOp vs (pl.getD k tInt.dflt).toNat).cost=opC t (pl.getD k tInt.dflt).toNat:=(ht.ops.at_ _ p2).cost
  have hcr2:=qa9 hg p2
  repeat refine qaa ?_
  refine⟨k+1,_,⟨rfl,rfl,trivial⟩,agr,⟨by omega,?_,hw⟩,by omega⟩
  rw [qan tInt.dflt hkl,qfu,←hm,hco]
 have hke:k=pl.length:=by omega
 subst hke
 rw [List.take_of_length_le (Nat.le_refl _)] at hm
 repeat refine qaa ?_
 exact qae (v:=.int .i64 m) rfl rfl ⟨by rw [hm],hw⟩
end Go.Proofs.YtkmbenhffledpaaGreat
/-
  Contract of 'succgen.copied'.
-/
namespace Go.Proofs.YtkmbenhffledpaaGreat
open Go.Sl Go
attribute [local irreducible] vc opsW opsD opV opW PureV ReadV Thn Blk
def EffJ (E:List Eff) (j:Nat) (es:List EffV) (w:World):Prop:=∀ i,i<j→REff w (eget tEff es i) (E.getD i dEff)
theorem EffJ.step {E:List Eff}{j:Nat}{es:List EffV}{w:World}{v:EffV}(h:EffJ E j es w) (hl:es.length=j) (hv:REff w v (E.getD j dEff)):EffJ E (j+1) (es++[v]) w:=fun i hi=>by
 rw [qh3]
 by_cases e:i<j
 ·rw [if_pos (by omega)];exact h i e
 ·have e2:i=j:=by omega
  rw [if_neg (by omega),if_pos (by omega),e2];exact hv
set_option maxRecDepth 8000 in
set_option maxHeartbeats 4000000 in
theorem qkb {w0:World}{a b c d:Value}{vs:List OpV}{t:TTask}(ht:RTask w0 a b c d vs t) (hg:GoodT t) :
  Calls Tryz.prog 106 #[.agg #[a,b,c,d]] w0 fun e w'=>∃ a2 b2 c2 d2 vs2,e=.returned (.agg #[a2,b2,c2,d2])∧Sat w0 w' [RdH fun w=>RTask w a2 b2 c2 d2 vs2 t]:=by
 have ht':=ht
 obtain⟨ha,hb,hc,hd⟩:=ht
 have hdr:=hd.rs
 have hdl:=hd.len
 have hol:=hg.ops
 have hvl:=hg.vars
 have hil:=hg.init.1
 have hgl:=qaI hg.goal
 have hw:=Sat.start w0
 refine qab (args:=[.agg #[a,b,c,d]]) mixed Tryz.func106 rfl (by kernel_rfl) (Nat.le_of_ble_eq_true rfl) ?_
 refine qbV ?_
 refine qaS ?_
 refine qcx ?_
 clear hw
 intro pt w hw
 replace hw:Sat w0 w [Box pt 26 [a,b,c,d]]:=hw
 refine qds ?_
 clear hw
 intro pr w hw
 repeat refine qaa ?_
 refine qb0 [9,10,11,12,13,14,15,16,17,18,3] (G:=Addr × Value × Value × Value) (fun g=>[(3,.pointer (some g.1))]) (fun g w=>Sat w0 w [Box g.1 26 [g.2.1,g.2.2.1,g.2.2.2,.slice none 0 0],OS tInt 3 g.2.1 t.vars,OS tInt 3 g.2.2.1 t.init,OS tFact 77 g.2.2.2 t.goal,Box pr 26 [.slice none 0 0,.slice none 0 0,.slice none 0 0,.slice none 0 0],Box pt 26 [a,b,c,d]]) (fun _=>rfl) ?_ ?_
 ·refine qeP (.step 0 [.op 0] (.step 3 [.op 3] (.step 6 [.op 6] (.step 1 [.op 1] (.step 4 [.op 4] (.step 7 [.op 7] (.alt 2 [.op 2,.chk 4,.chk 7] (.alt 5 [.op 5,.chk 7] (.alt 8 [.op 8] (.alt 9 [.op 9] (.step 10 [.op 10,.chk 1,.chk 4,.chk 7] (.step 11 [.op 11] (.lin []))) (.alt 10 [.op 10,.chk 1,.chk 4,.chk 7] (.step 9 [.op 9] (.step 11 [.op 11] (.lin []))) (.stop))) (.alt 10 [.op 10,.chk 1,.chk 4,.chk 7] (.step 8 [.op 8] (.step 9 [.op 9] (.step 11 [.op 11] (.lin [])))) (.stop))) (.alt 10 [.op 10,.chk 1,.chk 4,.chk 7] (.step 5 [.op 5,.chk 7] (.step 8 [.op 8] (.step 9 [.op 9] (.step 11 [.op 11] (.lin []))))) (.stop))) (.alt 10 [.op 10,.chk 1,.chk 4,.chk 7] (.step 2 [.op 2,.chk 4,.chk 7] (.step 5 [.op 5,.chk 7] (.step 8 [.op 8] (.step 9 [.op 9] (.step 11 [.op 11] (.lin [])))))) (.stop))))))))) hw (by kernel_rfl) (by kernel_rfl) ?_;clear hw;intro w hw
  repeat refine qaa ?_
  refine qaw ?_ (qaw ?_ qaM)
  ·repeat refine qaa ?_
   refine qac rfl (qax (ha.at hw) (by omega)) ?_
   rintro _ w' ⟨a2,rfl,hk'⟩
   replace hw:=hw.call1 hk'
   clear hk'
   refine⟨_,rfl,?_⟩
   repeat refine qaa ?_
   refine qaw ?_ (qaw ?_ qaM)
   ·repeat refine qaa ?_
    refine qac rfl (qax (hb.at hw) (by omega)) ?_
    rintro _ w' ⟨b2,rfl,hk'⟩
    replace hw:=hw.call1 hk'
    clear hk'
    refine⟨_,rfl,?_⟩
    repeat refine qaa ?_
    refine qaw ?_ (qaw ?_ qaM)
    ·repeat refine qaa ?_
     refine qac rfl (qbc (hc.at hw) (by omega)) ?_
     rintro _ w' ⟨c2,rfl,hk'⟩
     replace hw:=hw.call1 hk'
     clear hk'
     refine⟨_,rfl,?_⟩
     repeat refine qaa ?_
     refine qaw ?_ (qaw ?_ qaM)
     ·repeat refine qaa ?_
      have oa:=(rsO (s:=a2) hw).one
      have ob:=(rsO (s:=b2) hw).one
      have oc:=(rsO (s:=c2) hw).one
      refine qaR (v1:=a2) (v2:=b2) (v3:=c2) rfl rfl rfl rfl (by simp only [List.all_cons,List.all_nil,oa,ob,oc];rfl) ?_
      repeat (first|refine qaa ?_|(refine qaf ?_;clear hw;intro p w hw))
      obtain⟨po,hpo⟩:∃ po,po=p:=⟨p,rfl⟩
      subst hpo
      repeat refine qaa ?_
      refine qat (n:=4) (p:=po) (vs:=[a2,b2,c2,.slice none 0 0]) rfl rfl hw inferInstance rfl rfl (by simp only [List.all_cons,List.all_nil,oa,ob,oc];rfl) ?_
      clear hw
      intro w hw
      repeat refine qaa ?_
      have hw2:Sat w0 w [Box po 26 [a2,b2,c2,.slice none 0 0],OS tInt 3 a2 t.vars,OS tInt 3 b2 t.init,OS tFact 77 c2 t.goal,Box pr 26 [.slice none 0 0,.slice none 0 0,.slice none 0 0,.slice none 0 0],Box pt 26 [a,b,c,d]]:=hw.sel
      exact⟨(po,a2,b2,c2),⟨rfl,trivial⟩,agr,hw2⟩
     ·repeat (first|refine qaa ?_|(refine qaf ?_;clear hw;intro p w hw))
      obtain⟨po,hpo⟩:∃ po,po=p:=⟨p,rfl⟩
      subst hpo
      repeat refine qaa ?_
      have oa:=(rsO (s:=a2) hw).one
      have ob:=(rsO (s:=b2) hw).one
      have oc:=(rsO (s:=c2) hw).one
      refine qaR (v1:=a2) (v2:=b2) (v3:=c2) rfl rfl rfl rfl (by simp only [List.all_cons,List.all_nil,oa,ob,oc];rfl) ?_
      repeat refine qaa ?_
      refine qat (n:=4) (p:=po) (vs:=[a2,b2,c2,.slice none 0 0]) rfl rfl hw inferInstance rfl rfl (by simp only [List.all_cons,List.all_nil,oa,ob,oc];rfl) ?_
      clear hw
      intro w hw
      repeat refine qaa ?_
      have hw2:Sat w0 w [Box po 26 [a2,b2,c2,.slice none 0 0],OS tInt 3 a2 t.vars,OS tInt 3 b2 t.init,OS tFact 77 c2 t.goal,Box pr 26 [.slice none 0 0,.slice none 0 0,.slice none 0 0,.slice none 0 0],Box pt 26 [a,b,c,d]]:=hw.sel
      exact⟨(po,a2,b2,c2),⟨rfl,trivial⟩,agr,hw2⟩
    ·repeat (first|refine qaa ?_|(refine qaf ?_;clear hw;intro p w hw))
     obtain⟨po,hpo⟩:∃ po,po=p:=⟨p,rfl⟩
     subst hpo
     repeat refine qaa ?_
     refine qac rfl (qbc (hc.at hw) (by omega)) ?_
     rintro _ w' ⟨c2,rfl,hk'⟩
     replace hw:=hw.call1 hk'
     clear hk'
     refine⟨_,rfl,?_⟩
     repeat refine qaa ?_
     repeat refine qaa ?_
     have oa:=(rsO (s:=a2) hw).one
     have ob:=(rsO (s:=b2) hw).one
     have oc:=(rsO (s:=c2) hw).one
     refine qaR (v1:=a2) (v2:=b2) (v3:=c2) rfl rfl rfl rfl (by simp only [List.all_cons,List.all_nil,oa,ob,oc];rfl) ?_
     repeat refine qaa ?_
     refine qat (n:=4) (p:=po) (vs:=[a2,b2,c2,.slice none 0 0]) rfl rfl hw inferInstance rfl rfl (by simp only [List.all_cons,List.all_nil,oa,ob,oc];rfl) ?_
     clear hw
     intro w hw
     repeat refine qaa ?_
     have hw2:Sat w0 w [Box po 26 [a2,b2,c2,.slice none 0 0],OS tInt 3 a2 t.vars,OS tInt 3 b2 t.init,OS tFact 77 c2 t.goal,Box pr 26 [.slice none 0 0,.slice none 0 0,.slice none 0 0,.slice none 0 0],Box pt 26 [a,b,c,d]]:=hw.sel
     exact⟨(po,a2,b2,c2),⟨rfl,trivial⟩,agr,hw2⟩
   ·repeat (first|refine qaa ?_|(refine qaf ?_;clear hw;intro p w hw))
    obtain⟨po,hpo⟩:∃ po,po=p:=⟨p,rfl⟩
    subst hpo
    repeat refine qaa ?_
    refine qac rfl (qax (hb.at hw) (by omega)) ?_
    rintro _ w' ⟨b2,rfl,hk'⟩
    replace hw:=hw.call1 hk'
    clear hk'
    refine⟨_,rfl,?_⟩
    repeat refine qaa ?_
    repeat refine qaa ?_
    refine qac rfl (qbc (hc.at hw) (by omega)) ?_
    rintro _ w' ⟨c2,rfl,hk'⟩
    replace hw:=hw.call1 hk'
    clear hk'
    refine⟨_,rfl,?_⟩
    repeat refine qaa ?_
    repeat refine qaa ?_
    have oa:=(rsO (s:=a2) hw).one
    have ob:=(rsO (s:=b2) hw).one
    have oc:=(rsO (s:=c2) hw).one
    refine qaR (v1:=a2) (v2:=b2) (v3:=c2) rfl rfl rfl rfl (by simp only [List.all_cons,List.all_nil,oa,ob,oc];rfl) ?_
    repeat refine qaa ?_
    refine qat (n:=4) (p:=po) (vs:=[a2,b2,c2,.slice none 0 0]) rfl rfl hw inferInstance rfl rfl (by simp only [List.all_cons,List.all_nil,oa,ob,oc];rfl) ?_
    clear hw
    intro w hw
    repeat refine qaa ?_
    have hw2:Sat w0 w [Box po 26 [a2,b2,c2,.slice none 0 0],OS tInt 3 a2 t.vars,OS tInt 3 b2 t.init,OS tFact 77 c2 t.goal,Box pr 26 [.slice none 0 0,.slice none 0 0,.slice none 0 0,.slice none 0 0],Box pt 26 [a,b,c,d]]:=hw.sel
    exact⟨(po,a2,b2,c2),⟨rfl,trivial⟩,agr,hw2⟩
  ·repeat (first|refine qaa ?_|(refine qaf ?_;clear hw;intro p w hw))
   obtain⟨po,hpo⟩:∃ po,po=p:=⟨p,rfl⟩
   subst hpo
   repeat refine qaa ?_
   refine qac rfl (qax (ha.at hw) (by omega)) ?_
   rintro _ w' ⟨a2,rfl,hk'⟩
   replace hw:=hw.call1 hk'
   clear hk'
   refine⟨_,rfl,?_⟩
   repeat refine qaa ?_
   repeat refine qaa ?_
   refine qac rfl (qax (hb.at hw) (by omega)) ?_
   rintro _ w' ⟨b2,rfl,hk'⟩
   replace hw:=hw.call1 hk'
   clear hk'
   refine⟨_,rfl,?_⟩
   repeat refine qaa ?_
   repeat refine qaa ?_
   refine qac rfl (qbc (hc.at hw) (by omega)) ?_
   rintro _ w' ⟨c2,rfl,hk'⟩
   replace hw:=hw.call1 hk'
   clear hk'
   refine⟨_,rfl,?_⟩
   repeat refine qaa ?_
   repeat refine qaa ?_
   have oa:=(rsO (s:=a2) hw).one
   have ob:=(rsO (s:=b2) hw).one
   have oc:=(rsO (s:=c2) hw).one
   refine qaR (v1:=a2) (v2:=b2) (v3:=c2) rfl rfl rfl rfl (by simp only [List.all_cons,List.all_nil,oa,ob,oc];rfl) ?_
   repeat refine qaa ?_
   refine qat (n:=4) (p:=po) (vs:=[a2,b2,c2,.slice none 0 0]) rfl rfl hw inferInstance rfl rfl (by simp only [List.all_cons,List.all_nil,oa,ob,oc];rfl) ?_
   clear hw
   intro w hw
   repeat refine qaa ?_
   have hw2:Sat w0 w [Box po 26 [a2,b2,c2,.slice none 0 0],OS tInt 3 a2 t.vars,OS tInt 3 b2 t.init,OS tFact 77 c2 t.goal,Box pr 26 [.slice none 0 0,.slice none 0 0,.slice none 0 0,.slice none 0 0],Box pt 26 [a,b,c,d]]:=hw.sel
   exact⟨(po,a2,b2,c2),⟨rfl,trivial⟩,agr,hw2⟩
 clear hw
 rintro σ0 ⟨po,a2,b2,c2⟩ w hw
 simp only at hw
 have hw1:Sat w0 w [OS tOp 56 (.slice none 0 0) [],RdH (OpsF t 0 []),RdH (HeadF t a2 b2 c2),Box po 26 [a2,b2,c2,.slice none 0 0],Box pr 26 [.slice none 0 0,.slice none 0 0,.slice none 0 0,.slice none 0 0],Box pt 26 [a,b,c,d]]:=by
  have hw2:Sat w0 w [OS tInt 3 a2 t.vars,OS tInt 3 b2 t.init,OS tFact 77 c2 t.goal,Box po 26 [a2,b2,c2,.slice none 0 0],Box pr 26 [.slice none 0 0,.slice none 0 0,.slice none 0 0,.slice none 0 0],Box pt 26 [a,b,c,d]]:=hw.sel
  have hw3:=Sat.rd (Δ:=[OS tInt 3 a2 t.vars,OS tInt 3 b2 t.init,OS tFact 77 c2 t.goal]) (φ:=HeadF t a2 b2 c2) (fun _ w h=>⟨h.rs 0 rfl,h.rs 1 rfl,h.rs 2 rfl⟩) hw2
  exact (Sat.rd0 (φ:=OpsF t 0 []) (fun w i hi=>absurd hi (Nat.not_lt_zero _)) hw3).nil
 clear hw
 have hw:=hw1
 clear hw1
 repeat refine qaa ?_
 refine qay [5,6,8,22,23,24,25,26,27,28,29,30,31,32,33,34,35,36,37,38,39,40,41,42,43,44,45,46,47,48,49,50,51,52,53,54] (G:=Nat) (H:=Value) (I:=List OpV) (fun k _ _=>[(22,.int .i64 k)]) (fun k dv ws w=>k≤t.ops.length∧ws.length=k∧Sat w0 w [OS tOp 56 dv ws,RdH (OpsF t k ws),RdH (HeadF t a2 b2 c2),Box po 26 [a2,b2,c2,dv],Box pr 26 [.slice none 0 0,.slice none 0 0,.slice none 0 0,.slice none 0 0],Box pt 26 [a,b,c,d]]) (fun k _ _=>t.ops.length-k) 0 (.slice none 0 0) [] (fun _ _ _=>rfl) ⟨rfl,trivial⟩ ⟨Nat.zero_le _,rfl,hw⟩ ?_
 clear hw
 rintro σ k dv ws w ⟨hk,hwl,hw⟩
 repeat refine qaa ?_
 refine go_if (fun h1 => ?_) (fun h1 => ?_)
 ·have hkl:k<t.ops.length:=by omega
  have hop:=hd.at_ k hkl
  have hone:=hop.one
  have hpre:=hop.pre
  have hgo:=hg.op k hkl
  have hpl:=qaI hgo.pre
  have hel:=hgo.effs
  obtain⟨us,hus⟩:=hop.effs
  have husr:=hus.rs
  have husl:=hus.len
  repeat (first|refine qaa ?_|(refine qaf ?_;clear hw;intro p w hw)|(refine qai ?_;clear hw;intro w hw))
  obtain⟨p5,hp5⟩:∃ p5,p5=p:=⟨p,rfl⟩
  subst hp5
  refine qac rfl (qbc (hpre.at hw) (by omega)) ?_
  rintro _ w' ⟨pv,rfl,hk'⟩
  replace hw:=hw.call1 hk'
  clear hk'
  refine⟨_,rfl,?_⟩
  have opv:=(rsO (s:=pv) hw).one
  repeat refine qaa ?_
  refine qhs (k:=2) (p:=p5) (v:=pv) rfl rfl opv hw inferInstance (by rw [tOp.ok];decide) ?_
  clear hw
  intro w hw
  have hw1:Sat w0 w [OS tEff 80 (.slice none 0 0) [],RdH (EffJ (t.ops.getD k dOp).effs 0 []),Box p5 56 (tOp.enc ⟨(eget tOp vs k).name,(eget tOp vs k).cost,pv,(eget tOp vs k).effs⟩),OS tFact 77 pv (t.ops.getD k dOp).pre,OS tOp 56 dv ws,RdH (OpsF t k ws),RdH (HeadF t a2 b2 c2),Box po 26 [a2,b2,c2,dv],Box pr 26 [.slice none 0 0,.slice none 0 0,.slice none 0 0,.slice none 0 0],Box pt 26 [a,b,c,d]]:=by
   have hw2:Sat w0 w [OS tFact 77 pv (t.ops.getD k dOp).pre,Box p5 56 (tOp.enc ⟨(eget tOp vs k).name,(eget tOp vs k).cost,pv,(eget tOp vs k).effs⟩),OS tOp 56 dv ws,RdH (OpsF t k ws),RdH (HeadF t a2 b2 c2),Box po 26 [a2,b2,c2,dv],Box pr 26 [.slice none 0 0,.slice none 0 0,.slice none 0 0,.slice none 0 0],Box pt 26 [a,b,c,d]]:=hw
   exact ((Sat.rd0 (φ:=EffJ (t.ops.getD k dOp).effs 0 []) (fun w i hi=>absurd hi (Nat.not_lt_zero _)) hw2).nil (T:=tEff) (e:=80)).sel
  clear hw
  have hw:=hw1
  clear hw1
  repeat refine qaa ?_
  refine qay [6,8,33,34,35,36,37,38,39,40,41,42,43,44,45] (G:=Nat) (H:=Value) (I:=List EffV) (fun j ev _=>[(33,.int .i64 j),(6,ev)]) (fun j ev es w=>j≤(t.ops.getD k dOp).effs.length∧es.length=j∧Sat w0 w [OS tEff 80 ev es,RdH (EffJ (t.ops.getD k dOp).effs j es),Box p5 56 (tOp.enc ⟨(eget tOp vs k).name,(eget tOp vs k).cost,pv,(eget tOp vs k).effs⟩),OS tFact 77 pv (t.ops.getD k dOp).pre,OS tOp 56 dv ws,RdH (OpsF t k ws),RdH (HeadF t a2 b2 c2),Box po 26 [a2,b2,c2,dv],Box pr 26 [.slice none 0 0,.slice none 0 0,.slice none 0 0,.slice none 0 0],Box pt 26 [a,b,c,d]]) (fun j _ _=>(t.ops.getD k dOp).effs.length-j) 0 (.slice none 0 0) [] (fun _ _ _=>rfl) ⟨rfl,rfl,trivial⟩ ⟨Nat.zero_le _,rfl,hw⟩ ?_
  clear hw
  rintro σ1 j ev es w ⟨hj,hesl,hw⟩
  repeat refine qaa ?_
  refine go_if (fun h2 => ?_) (fun h2 => ?_)
  ·have hjl:j<(t.ops.getD k dOp).effs.length:=by omega
   have hue:=hus.at_ j hjl
   have huo:=hue.one
   have hfl:=qaI (hgo.eff j hjl).1
   have hwhen:=hue.when
   repeat (first|refine qaa ?_|(refine qaf ?_;clear hw;intro p w hw)|(refine qai ?_;clear hw;intro w hw))
   obtain⟨p8,hp8⟩:∃ p8,p8=p:=⟨p,rfl⟩
   subst hp8
   refine qac rfl (qbc (hwhen.at hw) (by omega)) ?_
   rintro _ w' ⟨fv,rfl,hk'⟩
   replace hw:=hw.call1 hk'
   clear hk'
   refine⟨_,rfl,?_⟩
   have ofv:=(rsO (s:=fv) hw).one
   repeat refine qaa ?_
   refine qoz (p:=p8) (v:=fv) rfl rfl ofv hw inferInstance (by rw [tEff.ok];decide) ?_
   clear hw
   intro w hw
   obtain⟨e1,he1⟩:∃ e1:EffV,e1=⟨fv,(eget tEff us j).var,(eget tEff us j).val⟩:=⟨_,rfl⟩
   have ho1:∀ v∈tEff.enc e1,v.oneCell'=true:=by
    rw [he1]
    intro v hv
    simp only [tEff,List.mem_cons,List.not_mem_nil,or_false] at hv
    rcases hv with rfl|rfl|rfl
    ·exact ofv
    ·rfl
    ·rfl
   have hw1:Sat w0 w [RdH (fun w=>REff w e1 ((t.ops.getD k dOp).effs.getD j dEff)),Box p8 80 (tEff.enc e1),OS tEff 80 ev es,RdH (EffJ (t.ops.getD k dOp).effs j es),Box p5 56 (tOp.enc ⟨(eget tOp vs k).name,(eget tOp vs k).cost,pv,(eget tOp vs k).effs⟩),OS tFact 77 pv (t.ops.getD k dOp).pre,OS tOp 56 dv ws,RdH (OpsF t k ws),RdH (HeadF t a2 b2 c2),Box po 26 [a2,b2,c2,dv],Box pr 26 [.slice none 0 0,.slice none 0 0,.slice none 0 0,.slice none 0 0],Box pt 26 [a,b,c,d]]:=by
    have hw2:Sat w0 w [OS tFact 77 fv ((t.ops.getD k dOp).effs.getD j dEff).when,Box p8 80 (tEff.enc e1),OS tEff 80 ev es,RdH (EffJ (t.ops.getD k dOp).effs j es),Box p5 56 (tOp.enc ⟨(eget tOp vs k).name,(eget tOp vs k).cost,pv,(eget tOp vs k).effs⟩),OS tFact 77 pv (t.ops.getD k dOp).pre,OS tOp 56 dv ws,RdH (OpsF t k ws),RdH (HeadF t a2 b2 c2),Box po 26 [a2,b2,c2,dv],Box pr 26 [.slice none 0 0,.slice none 0 0,.slice none 0 0,.slice none 0 0],Box pt 26 [a,b,c,d]]:=by rw [he1];exact hw
    exact Sat.rd (Δ:=[OS tFact 77 fv ((t.ops.getD k dOp).effs.getD j dEff).when]) (φ:=fun w=>REff w e1 ((t.ops.getD k dOp).effs.getD j dEff)) (fun _ _ h=>by rw [he1];exact⟨hue.var,hue.val,h.rs 0 rfl⟩) hw2
   clear hw
   have hw:=hw1
   clear hw1
   repeat refine qaa ?_
   refine qah tEff (x1:=e1) rfl rfl rfl (Nat.le_of_ble_eq_true rfl) (Nat.zero_lt_succ _) hw ?_
   clear hw
   intro bs w hw
   repeat refine qaa ?_
   refine qaJ (s:=ev) (s2:=bs) inferInstance rfl rfl (rsO hw) rfl rfl (fun x hx v hv=>by rw [List.mem_singleton.1 hx] at hv;exact ho1 v hv) (by simp only [List.length_cons,List.length_nil];omega) (by unfold big;simp only [List.length_cons,List.length_nil];omega) hw ?_
   clear hw
   intro ev2 w hw
   repeat refine qaa ?_
   have hw1:Sat w0 w [OS tEff 80 ev2 (es++[e1]),RdH (EffJ (t.ops.getD k dOp).effs (j+1) (es++[e1])),Box p5 56 (tOp.enc ⟨(eget tOp vs k).name,(eget tOp vs k).cost,pv,(eget tOp vs k).effs⟩),OS tFact 77 pv (t.ops.getD k dOp).pre,OS tOp 56 dv ws,RdH (OpsF t k ws),RdH (HeadF t a2 b2 c2),Box po 26 [a2,b2,c2,dv],Box pr 26 [.slice none 0 0,.slice none 0 0,.slice none 0 0,.slice none 0 0],Box pt 26 [a,b,c,d]]:=by
    have hw2:Sat w0 w [OS tEff 80 bs [e1],RdH (fun w=>REff w e1 ((t.ops.getD k dOp).effs.getD j dEff)),Box p8 80 (tEff.enc e1),OS tEff 80 ev2 (es++[e1]),RdH (EffJ (t.ops.getD k dOp).effs j es),Box p5 56 (tOp.enc ⟨(eget tOp vs k).name,(eget tOp vs k).cost,pv,(eget tOp vs k).effs⟩),OS tFact 77 pv (t.ops.getD k dOp).pre,OS tOp 56 dv ws,RdH (OpsF t k ws),RdH (HeadF t a2 b2 c2),Box po 26 [a2,b2,c2,dv],Box pr 26 [.slice none 0 0,.slice none 0 0,.slice none 0 0,.slice none 0 0],Box pt 26 [a,b,c,d]]:=hw
    have hw3:Sat w0 w [RdH (fun w=>REff w e1 ((t.ops.getD k dOp).effs.getD j dEff)),RdH (EffJ (t.ops.getD k dOp).effs j es),OS tEff 80 ev2 (es++[e1]),Box p5 56 (tOp.enc ⟨(eget tOp vs k).name,(eget tOp vs k).cost,pv,(eget tOp vs k).effs⟩),OS tFact 77 pv (t.ops.getD k dOp).pre,OS tOp 56 dv ws,RdH (OpsF t k ws),RdH (HeadF t a2 b2 c2),Box po 26 [a2,b2,c2,dv],Box pr 26 [.slice none 0 0,.slice none 0 0,.slice none 0 0,.slice none 0 0],Box pt 26 [a,b,c,d]]:=hw2.sel
    exact (Sat.rd2 (χ:=EffJ (t.ops.getD k dOp).effs (j+1) (es++[e1])) (fun w h1 h2=>h2.step hesl h1) hw3).swap
   exact⟨j+1,_,_,⟨rfl,rfl,trivial⟩,agr,⟨by omega,by simp [hesl],hw1⟩,by omega⟩
  have hje:j=(t.ops.getD k dOp).effs.length:=by omega
  subst hje
  have oev:=(rsO (s:=ev) hw).one
  repeat refine qaa ?_
  refine qhs (k:=3) (p:=p5) (v:=ev) rfl rfl oev hw inferInstance (by rw [tOp.ok];decide) ?_
  clear hw
  intro w hw
  have hw1:Sat w0 w [OS tEff 80 ev es,RdH (EffJ (t.ops.getD k dOp).effs (t.ops.getD k dOp).effs.length es),Box p5 56 (tOp.enc ⟨(eget tOp vs k).name,(eget tOp vs k).cost,pv,ev⟩),OS tFact 77 pv (t.ops.getD k dOp).pre,OS tOp 56 dv ws,RdH (OpsF t k ws),RdH (HeadF t a2 b2 c2),Box po 26 [a2,b2,c2,dv],Box pr 26 [.slice none 0 0,.slice none 0 0,.slice none 0 0,.slice none 0 0],Box pt 26 [a,b,c,d]]:=hw
  clear hw
  have hw:=hw1
  clear hw1
  obtain⟨vo,hvo⟩:∃ vo:OpV,vo=⟨(eget tOp vs k).name,(eget tOp vs k).cost,pv,ev⟩:=⟨_,rfl⟩
  rw [←hvo] at hw
  have hvo1:∀ v∈tOp.enc vo,v.oneCell'=true:=by
   rw [hvo]
   intro v hv
   simp only [tOp,List.mem_cons,List.not_mem_nil,or_false] at hv
   rcases hv with rfl|rfl|rfl|rfl
   ·rfl
   ·rfl
   ·exact opv
   ·exact oev
  have hw1:Sat w0 w [RdH fun w=>ROp w vo (t.ops.getD k dOp),Box p5 56 (tOp.enc vo),OS tOp 56 dv ws,RdH (OpsF t k ws),RdH (HeadF t a2 b2 c2),Box po 26 [a2,b2,c2,dv],Box pr 26 [.slice none 0 0,.slice none 0 0,.slice none 0 0,.slice none 0 0],Box pt 26 [a,b,c,d]]:=by
   have hw2:Sat w0 w [RdH (EffJ (t.ops.getD k dOp).effs (t.ops.getD k dOp).effs.length es),OS tEff 80 ev es,OS tFact 77 pv (t.ops.getD k dOp).pre,Box p5 56 (tOp.enc vo),OS tOp 56 dv ws,RdH (OpsF t k ws),RdH (HeadF t a2 b2 c2),Box po 26 [a2,b2,c2,dv],Box pr 26 [.slice none 0 0,.slice none 0 0,.slice none 0 0,.slice none 0 0],Box pt 26 [a,b,c,d]]:=hw.sel
   refine Sat.rd (Δ:=[RdH (EffJ (t.ops.getD k dOp).effs (t.ops.getD k dOp).effs.length es),OS tEff 80 ev es,OS tFact 77 pv (t.ops.getD k dOp).pre]) (φ:=fun w=>ROp w vo (t.ops.getD k dOp)) (fun _ w h => ?_) hw2
   have hff:=h.rdE 0 rfl
   rw [hvo]
   exact⟨hop.name,hop.size,hop.cost,h.rs 2 rfl,es,h.rs 1 rfl,hesl,hff⟩
  clear hw
  have hw:=hw1
  clear hw1
  repeat refine qaa ?_
  refine qah tOp (x1:=vo) rfl rfl rfl (Nat.le_of_ble_eq_true rfl) (Nat.zero_lt_succ _) hw ?_
  clear hw
  intro bs w hw
  repeat refine qaa ?_
  refine qaJ (s:=dv) (s2:=bs) inferInstance rfl rfl (rsO hw) rfl rfl (fun x hx v hv=>by rw [List.mem_singleton.1 hx] at hv;exact hvo1 v hv) (by simp only [List.length_cons,List.length_nil];omega) (by unfold big;simp only [List.length_cons,List.length_nil];omega) hw ?_
  clear hw
  intro dv2 w hw
  have odv:=(rsO (s:=dv2) hw).one
  repeat (first|refine qaa ?_|(refine qai ?_;clear hw;intro w hw))
  have hw1:Sat w0 w [OS tOp 56 dv2 (ws++[vo]),RdH (OpsF t (k+1) (ws++[vo])),RdH (HeadF t a2 b2 c2),Box po 26 [a2,b2,c2,dv2],Box pr 26 [.slice none 0 0,.slice none 0 0,.slice none 0 0,.slice none 0 0],Box pt 26 [a,b,c,d]]:=by
   have hw2:Sat w0 w [OS tOp 56 bs [vo],RdH fun w=>ROp w vo (t.ops.getD k dOp),Box p5 56 (tOp.enc vo),OS tOp 56 dv2 (ws++[vo]),RdH (OpsF t k ws),RdH (HeadF t a2 b2 c2),Box po 26 [a2,b2,c2,dv2],Box pr 26 [.slice none 0 0,.slice none 0 0,.slice none 0 0,.slice none 0 0],Box pt 26 [a,b,c,d]]:=hw
   have hw3:Sat w0 w [RdH fun w=>ROp w vo (t.ops.getD k dOp),RdH (OpsF t k ws),OS tOp 56 dv2 (ws++[vo]),RdH (HeadF t a2 b2 c2),Box po 26 [a2,b2,c2,dv2],Box pr 26 [.slice none 0 0,.slice none 0 0,.slice none 0 0,.slice none 0 0],Box pt 26 [a,b,c,d]]:=hw2.sel
   exact (Sat.rd2 (χ:=OpsF t (k+1) (ws++[vo])) (fun w h1 h2=>h2.step hwl h1) hw3).swap
  exact⟨k+1,_,_,⟨rfl,trivial⟩,agr,⟨by omega,by simp [hwl],hw1⟩,by omega⟩
 have hke:k=t.ops.length:=by omega
 subst hke
 have odv:=(rsO (s:=dv) hw).one
 have hw1:Sat w0 w [RdH fun w=>RTask w a2 b2 c2 dv ws t,Box po 26 [a2,b2,c2,dv],Box pr 26 [.slice none 0 0,.slice none 0 0,.slice none 0 0,.slice none 0 0],Box pt 26 [a,b,c,d]] :=
  Sat.rd (Δ:=[OS tOp 56 dv ws,RdH (OpsF t t.ops.length ws),RdH (HeadF t a2 b2 c2)]) (φ:=fun w=>RTask w a2 b2 c2 dv ws t) (fun _ w h=>⟨(h.rdE 2 rfl).1,(h.rdE 2 rfl).2.1,(h.rdE 2 rfl).2.2,h.rs 0 rfl,hwl,h.rdE 1 rfl⟩) hw
 clear hw
 have hw:=hw1
 clear hw1
 have ht2:=hw.rdE 0 rfl
 have o1:=ht2.vars.one
 have o2:=ht2.init.one
 have o3:=ht2.goal.one
 repeat refine qaa ?_
 refine qat (n:=4) (p:=pr) (vs:=[a2,b2,c2,dv]) rfl rfl hw inferInstance rfl rfl (by simp only [List.all_cons,List.all_nil,o1,o2,o3,odv];rfl) ?_
 clear hw
 intro w hw
 repeat refine qaa ?_
 exact qip (p:=pr) (vs:=[a2,b2,c2,dv]) rfl rfl rfl (hw.boxR 2 rfl) ⟨a2,b2,c2,dv,ws,rfl,hw.sel⟩
end Go.Proofs.YtkmbenhffledpaaGreat
/-
  Contracts of the helpers 'States' and 'Edges'.
-/
namespace Go.Proofs.YtkmbenhffledpaaGreat
open Go.Sl
attribute [local irreducible] vc opsW opsD opV opW PureV ReadV Thn Blk
def statesI (l:List (List Int)) (k:Int) (i:Nat):List (List Int):=statesS (l.take i) k
def rowsX (s:List Int) (x:Nat):List (List Int):=(List.range x).map fun (x:Nat)=>s++[(x:Int)]
theorem qjJ {l:List (List Int)}{k:Int}{i:Nat}(hi:i<l.length):statesI l k (i+1)=statesI l k i++rowsX (l.getD i []) k.toNat:=by
 unfold statesI statesS rowsX
 rw [qan [] hi];simp
theorem qkF (l:List (List Int)) (k:Int):statesI l k l.length=statesS l k:=by unfold statesI;rw [List.take_length]
theorem qmS (s:List Int) (x:Nat):rowsX s (x+1)=rowsX s x++[s++[(x:Int)]]:=by simp [rowsX,List.range_succ]
theorem qkG {vars:List Int}{i:Nat}(hi:i<(statesL vars).length):((statesL vars).getD i []).length=vars.length:=(qca.1 (qak [] hi)).1
theorem qoF {n k i:Nat}{p:Int}(h:i<n) (hp:((n:Int)*k)≤p):(i:Int)*k+k≤p:=by
 have h1:(i+1)*k≤n*k:=Nat.mul_le_mul_right k h
 rw [Nat.succ_mul] at h1
 have h2:((i*k+k:Nat):Int)≤((n*k:Nat):Int):=by exact_mod_cast h1
 simp only [Int.natCast_add,Int.natCast_mul] at h2
 omega
set_option maxRecDepth 8000 in
set_option maxHeartbeats 4000000 in
theorem qgI {w0:World}{a:Value}{vars:List Int}(ha:RS tInt w0 a vars) (hp:∀ x∈vars,1≤x) (hn:vars.length≤64) (hB:prodL vars≤65536) :
  Calls Tryz.prog 35 #[a] w0 fun e w'=>∃ s ss,e=.returned s∧Sat w0 w' [RowsAt tInt 3 ss (statesL vars),OS tVal 22 s ss]:=by
 have hla:=ha.big
 have hw:=Sat.start w0
 refine qab (args:=[a]) mixed Tryz.func35 rfl (by kernel_rfl) (Nat.le_of_ble_eq_true rfl) ?_
 repeat refine qaa ?_
 refine qaO tInt hw ?_
 clear hw
 intro s w hw
 repeat (first|refine qaa ?_|(refine qaq ?_;clear hw;intro s w hw))
 replace hw:=(hw.swap.rows0 (T:=tInt) (e:=3)).swap.rowPush
 refine qay [3,5,6,8,9,14,15,16,17,18,19,20,21,22,23,24,25,26,27,28,29,30,31,32,33,34,35,36,37,38,39,40] (G:=Nat) (H:=Value) (I:=List Value) (fun k s _=>[(14,.int .i64 k),(3,s)]) (fun k s ss w=>k≤vars.length∧Sat w0 w [RowsAt tInt 3 ss (statesL (vars.take k)),OS tVal 22 s ss]) (fun k _ _=>vars.length-k) 0 _ _ (fun _ _ _=>rfl) ⟨rfl,rfl,trivial⟩ ⟨Nat.zero_le _,hw⟩ ?_
 clear hw
 rintro σ k s ss w ⟨hk,hw⟩
 repeat refine qaa ?_
 refine go_if (fun h1 => ?_) (fun h1 => ?_)
 ·have hkl:k<vars.length:=by omega
  have hpk:∀ x∈vars.take k,1≤x:=fun x hx=>hp x (List.mem_of_mem_take hx)
  have hvk:=hp _ (qak tInt.dflt hkl)
  have hS:statesL (vars.take (k+1))=statesS (statesL (vars.take k)) (vars.getD k tInt.dflt):=by rw [qan tInt.dflt hkl,qcX]
  have hN:((statesL (vars.take k)).length:Int)*(vars.getD k tInt.dflt).toNat≤65536:=by
   have h2:=qcE hp (k+1)
   rw [qan tInt.dflt hkl,qbq] at h2
   have h3:=qbW hpk
   rw [qaK hpk,Int.toNat_of_nonneg (by omega),Int.toNat_of_nonneg (by omega)]
   omega
  have hN2:((statesL (vars.take k)).length:Int)≤65536:=by
   have h2:=qcE hp k
   rw [qaK hpk]
   omega
  have hV:vars.getD k tInt.dflt≤65536:=by
   have h2:=qcE hp (k+1)
   rw [qan tInt.dflt hkl,qbq] at h2
   have h3:=qbW hpk
   have h4:1*vars.getD k tInt.dflt≤prodL (vars.take k)*vars.getD k tInt.dflt:=Int.mul_le_mul_of_nonneg_right h3 (by omega)
   omega
  obtain⟨V,hVe⟩:∃ V,V=vars.getD k tInt.dflt:=⟨_,rfl⟩
  obtain⟨L,hLe⟩:∃ L,L=statesL (vars.take k):=⟨_,rfl⟩
  have hrow:∀ i,i<L.length→(L.getD i []).length≤64:=fun i hi=>by
   subst hLe
   rw [qkG hi,List.length_take];omega
  have hss:ss.length=(statesL (vars.take k)).length:=hw.rowsLen
  rw [←hLe] at hS hN hN2 hw hss
  rw [←hVe] at hS hN hV hvk
  repeat refine qaa ?_
  have hb:=hw
  have hout:RS tVal w s ss:=rsO hb
  have ha1:=ha.at hw
  obtain⟨w1,hw1⟩:∃ w1,w1=w:=⟨_,rfl⟩
  rw [←hw1] at hb hout ha1
  replace hw:=Sat.start w
  rw [←hw1] at hw
  rw [←hVe]
  refine qay [6,8,9,20,21,22,23,24,25,26,27,28,29,30,31,32,33,34,35,36,37,38] (G:=Nat) (H:=Value) (I:=List Value) (fun i s _=>[(20,.int .i64 i),(6,s)]) (fun i s' ss' w=>i≤L.length∧ss'.length=i*V.toNat∧Sat w1 w [RowsAt tInt 3 ss' (statesI L V i),OS tVal 22 s' ss']) (fun i _ _=>L.length-i) 0 _ [] (fun _ _ _=>rfl) ⟨rfl,rfl,trivial⟩ ⟨Nat.zero_le _,(by simp),hw1 ▸ hw.nil.rows0⟩ ?_
  clear hw hw1
  rintro σ1 i s' ss' w ⟨hi,hsl',hw⟩
  repeat refine qaa ?_
  refine go_if (fun h2 => ?_) (fun h2 => ?_)
  ·have hil:i<L.length:=by omega
   have hr:=hb.row hil
   have hrl:=hrow i hil
   have hmul:=qoF hil hN
   have hsl'':(ss'.length:Int)=(i:Int)*V.toNat:=by rw [hsl'];simp
   repeat refine qaa ?_
   refine qay [6,9,25,26,27,28,29,30,31,32,33,34,35,36,37] (G:=Nat) (H:=Value) (I:=List Value) (fun x s _=>[(25,.int .i64 x),(6,s)]) (fun x s' ss' w=>x≤V.toNat∧ss'.length=i*V.toNat+x∧Sat w1 w [RowsAt tInt 3 ss' (statesI L V i++rowsX (L.getD i []) x),OS tVal 22 s' ss']) (fun x _ _=>V.toNat-x) 0 s' ss' (fun _ _ _=>rfl) ⟨rfl,rfl,trivial⟩ ⟨Nat.zero_le _,hsl',by simpa [rowsX] using hw⟩ ?_
   clear hw hsl' hsl''
   rintro σ2 x s2 ss2 w ⟨hx,hs2,hw⟩
   have hs3:(ss2.length:Int)=(i:Int)*V.toNat+x:=by rw [hs2];simp
   repeat refine qaa ?_
   refine go_if (fun h3 => ?_) (fun h3 => ?_)
   ·repeat refine qaa ?_
    refine qaO tInt hw ?_
    clear hw
    intro e1 w hw
    repeat (first|refine qaa ?_|(refine qaq ?_;clear hw;intro s w hw))
    replace hw:=hw.tail.tail.rowPush
    rw [List.nil_append,List.append_assoc,←qmS] at hw
    exact⟨x+1,_,_,⟨rfl,rfl,trivial⟩,agr,⟨by omega,by simp;omega,hw⟩,by omega⟩
   ·have hxe:x=V.toNat:=by omega
    subst hxe
    rw [←qjJ hil] at hw
    repeat refine qaa ?_
    exact⟨i+1,_,ss2,⟨rfl,rfl,trivial⟩,agr,⟨by omega,by rw [Nat.succ_mul];omega,hw⟩,by omega⟩
  ·have hie:i=L.length:=by omega
   subst hie
   rw [qkF,←hS] at hw
   repeat refine qaa ?_
   exact⟨k+1,_,ss',⟨rfl,rfl,trivial⟩,agr,⟨by omega,(hb.call hw).comm.tail.tail⟩,by omega⟩
 ·rw [List.take_of_length_le (by omega)] at hw
  repeat refine qaa ?_
  exact qae (v:=s) rfl rfl ⟨s,ss,rfl,hw⟩
set_option maxRecDepth 8000 in
set_option maxHeartbeats 4000000 in
theorem qnm {w0:World}{a b c d:Value}{vs:List OpV}{t:TTask}(ht:RTask w0 a b c d vs t) (hg:GoodT t) (hB:prodL t.vars≤65536) :
  Calls Tryz.prog 77 #[.agg #[a,b,c,d]] w0 fun e w'=>∃ s,e=.returned s∧Sat w0 w' [OS tEdg 148 s (edgesT t)]:=by
 have ht':=ht
 obtain⟨ha,hb,hc,hd⟩:=ht
 have hrs:=hd.rs
 have hdl:=hd.len
 have hll:=hrs.big
 have hol:=hg.ops
 have hlen:(statesL t.vars).length≤65536:=by rw [qaK hg.pos];omega
 have hw:=Sat.start w0
 refine qab (args:=[.agg #[a,b,c,d]]) mixed Tryz.func77 rfl (by kernel_rfl) (Nat.le_of_ble_eq_true rfl) ?_
 repeat (first|refine qaa ?_|(refine qaf ?_;clear hw;intro p w hw))
 obtain⟨pt,hpt⟩:∃ pt,pt=p:=⟨p,rfl⟩
 subst hpt
 refine qac rfl (qgI (ha.at hw) hg.pos hg.vars hB) ?_
 rintro _ w' ⟨sv,ss,rfl,hk'⟩
 replace hw:=hw.call2 hk'
 clear hk'
 have hss:=hw.rowsLen
 refine⟨_,rfl,?_⟩
 repeat refine qaa ?_
 refine qao [3,4,5,6,7,8,13,14,15,16,17,18,19,20,21,22,23,24,25,26,27,28,29,30,31,32,33,34,35,36,37,38,39,40,41,42,43] (G:=Nat) (H:=Value) (fun i s=>[(13,.int .i64 i),(3,s)]) (fun i s w=>i≤(statesL t.vars).length∧Sat w0 w [OS tEdg 148 s (edgesK t i),RowsAt tInt 3 ss (statesL t.vars),OS tVal 22 sv ss,Box pt 26 [a,b,c,d]]) (fun i _=>(statesL t.vars).length-i) 0 _ (fun _ _=>rfl) ⟨rfl,rfl,trivial⟩ ⟨Nat.zero_le _,hw.nil⟩ ?_
 clear hw
 rintro σ i s w ⟨hi,hw⟩
 repeat refine qaa ?_
 refine go_if (fun h1 => ?_) (fun h1 => ?_)
 ·have hil:i<(statesL t.vars).length:=by omega
  have hst:=qdm hg.pos hil
  have hkl:=qg9 t i
  have hkl2:i*t.ops.length≤65536*4096:=Nat.mul_le_mul (by omega) hol
  repeat refine qaa ?_
  refine qao [3,6,7,8,21,22,23,24,25,26,27,28,29,30,31,32,33,34,35,36,37,38,39,40,41,42] (G:=Nat) (H:=Value) (fun j s=>[(21,.int .i64 j),(3,s)]) (fun j s w=>j≤t.ops.length∧Sat w0 w [OS tEdg 148 s (edgesK t i++edgesJ t ((statesL t.vars).getD i []) i j),RowsAt tInt 3 ss (statesL t.vars),OS tVal 22 sv ss,Box pt 26 [a,b,c,d]]) (fun j _=>t.ops.length-j) 0 s (fun _ _=>rfl) ⟨rfl,rfl,trivial⟩ ⟨Nat.zero_le _,by rw [qkr,List.append_nil];exact hw⟩ ?_
  clear hw
  rintro σ1 j s1 w ⟨hj,hw⟩
  repeat refine qaa ?_
  refine go_if (fun h2 => ?_) (fun h2 => ?_)
  ·have hjl:j<t.ops.length:=by omega
   have hln:=qg8 t ((statesL t.vars).getD i []) i j
   repeat refine qaa ?_
   refine qac rfl (qhV (ht'.at hw) ((hw.focus 1 rfl).row hil) hg hst.1) ?_
   rintro _ w' ⟨r,rv,rfl,hr,hk'⟩
   replace hw:=hw.call1 hk'
   clear hk'
   refine⟨_,rfl,?_⟩
   rw [Int.toNat_natCast] at hr hw
   cases r with
   | false =>
    repeat refine qaa ?_
    refine⟨j+1,s1,⟨rfl,rfl,trivial⟩,agr,⟨by omega,?_⟩,by omega⟩
    rw [qdL,stepL,if_neg (fun h=>by have:=hr.2 ⟨by omega,by omega,h⟩;cases this),List.append_nil]
    exact hw.tail
   | true =>
    have happ:=(hr.1 rfl).2.2
    have hso:=qaZ hg hst.1 hjl
    rw [if_pos rfl] at hw
    repeat refine qaa ?_
    refine qac rfl (qki (a:=a) (b:=rv) (ha.at hw) (rsO hw) hso hg.pos (by omega)) ?_
    rintro _ w' ⟨rfl,hk'⟩
    replace hw:=hw.call0 hk'
    clear hk'
    refine⟨_,rfl,?_⟩
    repeat refine qaa ?_
    refine qah tEdg (x1:=⟨i,j,rankL t.vars (succT t ((statesL t.vars).getD i []) j)⟩) rfl rfl rfl (Nat.le_of_ble_eq_true rfl) (Nat.zero_lt_succ _) hw ?_
    clear hw
    intro s2 w hw
    repeat (first|refine qaa ?_|(refine qaq ?_;clear hw;intro s w hw))
    refine⟨j+1,_,⟨rfl,rfl,trivial⟩,agr,⟨by omega,?_⟩,by omega⟩
    rw [qdL,stepL,if_pos happ,←List.append_assoc]
    exact hw.tail.tail
  ·have hje:j=t.ops.length:=by omega
   subst hje
   rw [←qfE] at hw
   repeat refine qaa ?_
   exact⟨i+1,_,⟨rfl,rfl,trivial⟩,agr,⟨by omega,hw⟩,by omega⟩
 ·have hie:i=(statesL t.vars).length:=by omega
  subst hie
  repeat refine qaa ?_
  exact qae (v:=s) rfl rfl ⟨s,rfl,hw.only⟩
end Go.Proofs.YtkmbenhffledpaaGreat
/-
  The iterator of 'slices.Backward' over ints: its contract for whatever loop's body.
-/
namespace Go.Proofs.YtkmbenhffledpaaGreat
open Go.Sl Go
attribute [local irreducible] vc opsW opsD opV opW PureV ReadV Thn Blk
def revP (L:List Int) (k:Nat):List (Int × Int):=(List.range k).map fun (j:Nat)=>(((L.length:Int)-1-(j:Int)),L.getD (L.length-1-j) tInt.dflt)
theorem qpf (L:List Int) (k:Nat):revP L (k+1)=revP L k++[(((L.length:Int)-1-(k:Int)),L.getD (L.length-1-k) tInt.dflt)]:=by simp [revP,List.range_succ]
def KpB (pb:Addr) (a:Value) (L:List Int) (W W':World):Prop:=(W.cell? pb=some a→W'.cell? pb=some a)∧(RS tInt W a L→RS tInt W' a L)
def encB {Q:Int × Int→Prop}(x:{ p:Int × Int // Q p }):Array Value:=#[.int .i64 x.1.1,.int .i64 x.1.2]
set_option maxRecDepth 8000 in
theorem qg1 {n:Nat}{w0:World}{pb:Addr}{a:Value}{L:List Int}{Q:Int × Int→Prop}(hQ:∀ i:Nat,i<L.length→Q ((i:Int),L.getD i tInt.dflt)) (hc:w0.cell? pb=some a) (ha:RS tInt w0 a L) :
  SeqStopsK (α:={ p:Int × Int // Q p }) Fence.wide n Tryz.prog 168 #[.pointer (some pb)] encB (KpB pb a L) (fun xs=>xs.map (·.1)=revP L L.length) (fun _=>True) L.length w0:=by
 intro l J Jx W hb hJ hJx hY h0
 refine (callsIn_wide (n:=n)).2 ?_
 have hc1:W.cell? pb=some a:=by
  have hlt:pb.block<w0.heap.size:=by
   rcases Nat.lt_or_ge pb.block w0.heap.size with h|h
   ·exact h
   ·simp [World.cell?,Array.getElem?_eq_none h] at hc
  rw [hb.cell hlt];exact hc
 have ha1:RS tInt W a L:=⟨ha.1.below hb,ha.2⟩
 have hla:=ha.big
 refine qab (args:=[.func (.yield l) #[] #[],.pointer (some pb)]) mixed Tryz.func168 rfl (by kernel_rfl) (Nat.le_of_ble_eq_true rfl) ?_
 repeat refine qaa ?_
 refine qa2 rfl (qce rfl hc1) ?_
 repeat refine qaa ?_
 refine qao [3,7,8,9,10,11,12,13,14,15,16,17,18] (G:=Nat) (H:=List { p:Int × Int // Q p }) (fun k _=>[(3,.int .i64 ((L.length:Int)-1-(k:Int)))]) (fun k pre w=>k≤L.length∧pre.map (·.1)=revP L k∧J pre w∧w.cell? pb=some a∧RS tInt w a L) (fun k _=>L.length-k) 0 [] (fun _ _=>rfl) ⟨by have e0:((L.length:Int)-1-((0:Nat):Int))=(L.length:Int)-1:=(by omega);rw [e0];rfl,trivial⟩ ⟨Nat.zero_le _,rfl,h0,hc1,ha1⟩ ?_
 clear hc1 ha1 h0
 rintro σ k pre w ⟨hk,hpre,hj,hc1,ha1⟩
 repeat refine qaa ?_
 refine go_if (fun h1 => ?_) (fun h1 => ?_)
 ·have hkl:k<L.length:=by omega
  have hpl:pre.length=k:=by have:=congrArg List.length hpre;simpa [revP] using this
  have e1:((L.length:Int)-1-(k:Int)).toNat=L.length-1-k:=by omega
  have e2:((L.length-1-k:Nat):Int)=(L.length:Int)-1-(k:Int):=by omega
  have hx:=hQ (L.length-1-k) (by omega)
  rw [e2] at hx
  have hy:=hY pre ⟨_,hx⟩ w hj (by omega)
  repeat refine qaa ?_
  refine qa2 rfl (qce rfl hc1) ?_
  repeat refine qaa ?_
  rw [e1]
  refine qqj (l:=l) rfl rfl hy ?_
  rintro _ W' (⟨rfl,hj',hk1,hk2⟩|⟨rfl,hjx⟩)
  ·refine⟨_,rfl,?_⟩
   repeat refine qaa ?_
   refine⟨k+1,pre++[⟨_,hx⟩],⟨?_,trivial⟩,agr,⟨by omega,?_,hj',hk1 hc1,hk2 ha1⟩,by omega⟩
   ·show Value.int .i64 _=_
    congr 1;omega
   ·rw [List.map_append,hpre,qpf];rfl
  ·refine⟨_,rfl,?_⟩
   repeat refine qaa ?_
   exact ql1 rfl ⟨⟨_,rfl⟩,.inr ⟨_,trivial,hjx⟩⟩
 ·have hke:k=L.length:=by omega
  subst hke
  repeat refine qaa ?_
  exact qaz rfl ⟨⟨_,rfl⟩,.inl ⟨pre,hpre,hj⟩⟩
end Go.Proofs.YtkmbenhffledpaaGreat
