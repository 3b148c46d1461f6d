/-
  Contract of 'landmark.New' for a right task.
-/
import Derived.Test.YtdadmnlenbdfbaaGreatWLmk5
import Derived.Test.YtdadmnlenbdfbaaGreatMW4
set_option linter.unusedSimpArgs false
set_option linter.unusedVariables false
namespace Go.Proofs.YtdadmnlenbdfbaaGreat
open Go.Sl Go
attribute [local irreducible] vc opsW opsD opV opW PureV ReadV Thn Blk
def unFK (t:TTask) (k:Nat):List LUn:=(List.range k).flatMap (unKL t)
def unKJ (t:TTask) (k j:Nat):List LUn:=(List.range j).map fun j=>⟨k,rNeed (t.ops.getD k dOp) j,rTo (t.ops.getD k dOp) j⟩
theorem qbB (t:TTask) (k j:Nat):unKJ t k (j+1)=unKJ t k j++[⟨k,rNeed (t.ops.getD k dOp) j,rTo (t.ops.getD k dOp) j⟩]:=by
 unfold unKJ;rw [List.range_succ,List.map_append];rfl
theorem qjB (t:TTask) (k:Nat):unFK t (k+1)=unFK t k++unKJ t k (t.ops.getD k dOp).effs.length:=by
 unfold unFK;rw [List.range_succ,List.flatMap_append];simp [unKL,unKJ]
set_option maxRecDepth 8000 in
set_option maxHeartbeats 8000000 in
theorem qiA {w0:World}{a b c d:Value}{vs:List OpV}{t:TTask}(ht:RTask w0 a b c d vs t) (hg:GoodT t) :
  Calls Tryz.prog 23 #[.agg #[a,b,c,d]] w0 fun e w'=>∃ p a2 gv cv lv us,e=.returned (.tuple #[.pointer (some p),.nilIface])∧Sat w0 w' [RdH fun w=>FinR w p t a2 gv cv lv us]:=by
 have ht':=ht
 obtain⟨ha,hb,hc,hd⟩:=ht
 have hdr:=hd.rs
 have hdl:=hd.len
 have hvl:=hg.vars
 have hol:=hg.ops
 have hgl:=qaO hg.goal
 have hw:=Sat.start w0
 refine qaf (args:=[.agg #[a,b,c,d]]) mixed Tryz.func23 rfl (by kernel_rfl) (Nat.le_of_ble_eq_true rfl) ?_
 repeat (first|refine qac ?_|(refine qaa ?_;clear hw;intro p w hw)|(refine qae ?_;clear hw;intro w hw)|(refine qab ?_;clear hw;intro s w hw))
 obtain⟨pt,hpt⟩:∃ pt,pt=p:=⟨p,rfl⟩
 subst hpt
 refine qag rfl (qbG (ht'.at hw)) ?_
 rintro _ w' ⟨rfl,hk'⟩
 replace hw:=hw.call0 hk'
 clear hk'
 refine⟨_,rfl,?_⟩
 rw [qam ((qc2 t).2 hg)]
 repeat (first|refine qac ?_|(refine qaa ?_;clear hw;intro p w hw)|(refine qae ?_;clear hw;intro w hw)|(refine qab ?_;clear hw;intro s w hw))
 refine qay [.op 0,.op 1,.op 3,.op 4,.op 2,.chk 4,.op 5,.op 6,.op 7,.op 8] hw (by kernel_rfl) ?_;clear hw;intro w hw
 repeat (first|refine qac ?_|(refine qaa ?_;clear hw;intro p w hw)|(refine qae ?_;clear hw;intro w hw)|(refine qab ?_;clear hw;intro s w hw))
 refine qag rfl (qaZ (ha.at hw) (by omega)) ?_
 rintro _ w' ⟨a2,rfl,hk'⟩
 replace hw:=hw.call1 hk'
 clear hk'
 refine⟨_,rfl,?_⟩
 have oa:=(rsO (s:=a2) hw).one
 repeat (first|refine qac ?_|(refine qaa ?_;clear hw;intro p w hw)|(refine qae ?_;clear hw;intro w hw)|(refine qab ?_;clear hw;intro s w hw))
 refine qag rfl (qbi (hc.at hw) (by omega)) ?_
 rintro _ w' ⟨gv,rfl,hk'⟩
 replace hw:=hw.call1 hk'
 clear hk'
 refine⟨_,rfl,?_⟩
 have og:=(rsO (s:=gv) hw).one
 repeat (first|refine qac ?_|(refine qaa ?_;clear hw;intro p w hw)|(refine qae ?_;clear hw;intro w hw)|(refine qab ?_;clear hw;intro s w hw))
 refine qau (vs:=[(0,a2),(1,gv)]) (ls:=[(0,[a2]),(1,[gv])]) rfl (by simp only [List.map_cons,List.map_nil,qaL oa,qaL og]) rfl ?_
 refine qdk ?_
 refine qdW ?_
 refine qbr (vs:=[a2,gv,.slice none 0 0,.slice none 0 0]) rfl hw ?_
 clear hw
 intro pr w hw
 have hw1:Sat w0 w (Box pr 96 [a2,gv,(.slice none 0 0),(.slice none 0 0)]::OS tInt 3 (.slice none 0 0) ((costsT t).take 0)::OS tLU 98 (.slice none 0 0) ([]:List LUV)::RdH (LuF ([]:List LUV) (unFK t 0))::OS tInt 3 a2 t.vars::OS tFact 73 gv t.goal::[Box pt 26 [a,b,c,d]]):=by
  have g1:Sat w0 w [Box pr 96 [a2,gv,(.slice none 0 0),(.slice none 0 0)],OS tFact 73 gv t.goal,OS tInt 3 a2 t.vars,Box pt 26 [a,b,c,d]]:=hw
  have g2:=Sat.rd0 (φ:=LuF [] []) (fun w i hi=>absurd hi (Nat.not_lt_zero _)) ((g1.nil (T:=tInt) (e:=3)).nil (T:=tLU) (e:=98))
  have hu0:unFK t 0=[]:=by simp [unFK]
  rw [hu0,List.take_zero]
  exact g2.selG
 clear hw
 have hw:=hw1
 clear hw1
 repeat (first|refine qac ?_|(refine qaa ?_;clear hw;intro p w hw)|(refine qae ?_;clear hw;intro w hw)|(refine qab ?_;clear hw;intro s w hw))
 refine qbn [6,7,9,26,27,28,29,30,31,32,33,34,35,36,37,38,39,40,41,42,43,44,45,46,47,48,49,50,51,52,53,54,55,56,57,58,59,60,61,62,63,64,65,66,67,68,69,70,71,72] (G:=Nat) (H:=Value) (I:=Value) (M:=List LUV) (fun k _ _ _=>[(26,.int .i64 k)]) (fun k cv lv us w=>k≤t.ops.length∧us.length=(unFK t k).length∧Sat w0 w (Box pr 96 [a2,gv,cv,lv]::OS tInt 3 cv ((costsT t).take k)::OS tLU 98 lv us::RdH (LuF us (unFK t k))::OS tInt 3 a2 t.vars::OS tFact 73 gv t.goal::[Box pt 26 [a,b,c,d]])) (fun k _ _ _=>t.ops.length-k) 0 (.slice none 0 0) (.slice none 0 0) [] (fun _ _ _ _=>rfl) ⟨rfl,trivial⟩ ⟨Nat.zero_le _,by simp [unFK],hw⟩ ?_
 clear hw
 rintro σ1 k cv lv us w ⟨hk,hul,hw⟩
 repeat (first|refine qac ?_|(refine qaa ?_;clear hw;intro p w hw)|(refine qad ?_;clear hw;intro w hw)|(refine qab ?_;clear hw;intro s w hw))
 refine go_if (fun h2 => ?_) (fun h2 => ?_)
 ·have hkl:k<t.ops.length:=by omega
  have hop:=hd.at_ k hkl
  have hone:=hop.one
  have hpre:=hop.pre
  have hgo:=hg.op k hkl
  have hpl:=qaO hgo.pre
  have hel:=hgo.effs
  have hco:=hop.cost
  obtain⟨es,hes⟩:=hop.effs
  have hesr:=hes.rs
  have hesl:=hes.len
  have hcl:(costsT t).length=t.ops.length:=qbY t
  have hctl:((costsT t).take k).length=k:=by rw [List.length_take];omega
  have hcsn:(costsT t).take (k+1)=(costsT t).take k++[(eget tOp vs k).cost]:=by rw [qav tInt.dflt (by omega),qee hkl,hco]
  have hUb:=qff hg k hk
  repeat (first|refine qac ?_|(refine qaa ?_;clear hw;intro p w hw)|(refine qae ?_;clear hw;intro w hw)|(refine qab ?_;clear hw;intro s w hw))
  obtain⟨p9,hp9⟩:∃ p9,p9=p:=⟨p,rfl⟩
  subst hp9
  refine qay [.op 0,.op 1,.op 2,.op 3,.op 4,.op 5,.op 6,.op 7,.chk 4,.op 8,.op 9,.op 10,.op 11] hw (by kernel_rfl) ?_;clear hw;intro w hw
  repeat (first|refine qac ?_|(refine qaa ?_;clear hw;intro p w hw)|(refine qae ?_;clear hw;intro w hw)|(refine qab ?_;clear hw;intro s w hw))
  simp only [List.set_cons_succ,List.set_cons_zero] at hw
  rw [←hcsn] at hw
  obtain⟨cv2,hcv2⟩:∃ cv2,cv2=s:=⟨s,rfl⟩
  subst hcv2
  have hw1:Sat w0 w (Box pr 96 [a2,gv,cv2,lv]::OS tInt 3 cv2 ((costsT t).take (k+1))::OS tLU 98 lv us::RdH (LuF us (unFK t k++unKJ t k 0))::Box p9 44 (tOp.enc (eget tOp vs k))::OS tInt 3 a2 t.vars::OS tFact 73 gv t.goal::[Box pt 26 [a,b,c,d]]):=by
   have hu0:unKJ t k 0=[]:=rfl
   rw [hu0,List.append_nil]
   exact hw.selG
  clear hw
  have hw:=hw1
  clear hw1
  repeat (first|refine qac ?_|(refine qaa ?_;clear hw;intro p w hw)|(refine qae ?_;clear hw;intro w hw)|(refine qab ?_;clear hw;intro s w hw))
  refine qa7 [9,45,46,47,48,49,50,51,52,53,54,55,56,57,58,59,60,61,62,63,64,65,66,67,68,69,70,71] (G:=Nat) (H:=Value) (I:=List LUV) (fun j _ _=>[(45,.int .i64 j)]) (fun j lv us w=>j≤(t.ops.getD k dOp).effs.length∧us.length=(unFK t k++unKJ t k j).length∧Sat w0 w (Box pr 96 [a2,gv,cv2,lv]::OS tInt 3 cv2 ((costsT t).take (k+1))::OS tLU 98 lv us::RdH (LuF us (unFK t k++unKJ t k j))::Box p9 44 (tOp.enc (eget tOp vs k))::OS tInt 3 a2 t.vars::OS tFact 73 gv t.goal::[Box pt 26 [a,b,c,d]])) (fun j _ _=>(t.ops.getD k dOp).effs.length-j) 0 lv us (fun _ _ _=>rfl) ⟨rfl,trivial⟩ ⟨Nat.zero_le _,by simpa [unKJ] using hul,hw⟩ ?_
  clear hw hul
  clear lv us
  rintro σ2 j lv us w ⟨hj,hul,hw⟩
  have hul2:(unFK t k++unKJ t k j).length=(unFK t k).length+j:=by simp [unKJ]
  have hub2:(unFK t k).length≤64*k:=hUb
  repeat (first|refine qac ?_|(refine qaa ?_;clear hw;intro p w hw)|(refine qad ?_;clear hw;intro w hw)|(refine qab ?_;clear hw;intro s w hw))
  refine go_if (fun h3 => ?_) (fun h3 => ?_)
  ·have hjl:j<(t.ops.getD k dOp).effs.length:=by omega
   have hue:=hes.at_ j hjl
   have hgf2:=hgo.eff j hjl
   have hueo:=hue.one
   have hwh:=hue.when
   have hwl:=qaO hgf2.1
   have huv:=hue.var
   have hux:=hue.val
   repeat (first|refine qac ?_|(refine qaa ?_;clear hw;intro p w hw)|(refine qae ?_;clear hw;intro w hw)|(refine qab ?_;clear hw;intro s w hw))
   obtain⟨p11,hp11⟩:∃ p11,p11=p:=⟨p,rfl⟩
   subst hp11
   refine qbf (.step 0 [.op 0] (.step 1 [.op 1] (.step 2 [.op 2] (.step 3 [.op 3] (.step 5 [.op 5] (.step 6 [.op 6] (.step 9 [.op 9] (.step 12 [.op 12] (.step 14 [.op 14] (.step 4 [.op 4] (.step 7 [.op 7] (.step 10 [.op 10] (.step 13 [.op 13] (.step 15 [.op 15] (.alt 8 [.op 8,.chk 4,.chk 10,.chk 13,.chk 15] (.alt 11 [.op 11,.chk 4,.chk 13,.chk 15] (.step 16 [.op 16,.chk 4,.chk 7,.chk 10] (.step 17 [.op 17,.chk 4] (.step 18 [.op 18,.chk 4] (.step 19 [.op 19] (.step 20 [.op 20] (.step 21 [.op 21] (.step 22 [.op 22] (.lin [])))))))) (.alt 16 [.op 16,.chk 4,.chk 7,.chk 10] (.step 11 [.op 11,.chk 4,.chk 13,.chk 15] (.step 17 [.op 17,.chk 4] (.step 18 [.op 18,.chk 4] (.step 19 [.op 19] (.step 20 [.op 20] (.step 21 [.op 21] (.step 22 [.op 22] (.lin [])))))))) (.stop))) (.alt 16 [.op 16,.chk 4,.chk 7,.chk 10] (.step 8 [.op 8,.chk 4,.chk 10,.chk 13,.chk 15] (.step 11 [.op 11,.chk 4,.chk 13,.chk 15] (.step 17 [.op 17,.chk 4] (.step 18 [.op 18,.chk 4] (.step 19 [.op 19] (.step 20 [.op 20] (.step 21 [.op 21] (.step 22 [.op 22] (.lin []))))))))) (.stop))))))))))))))))) hw (by kernel_rfl) (by kernel_rfl) ?_;clear hw;intro w hw
   repeat (first|refine qac ?_|(refine qaa ?_;clear hw;intro p w hw)|(refine qae ?_;clear hw;intro w hw)|(refine qab ?_;clear hw;intro s w hw))
   refine qax ?_ (qax ?_ qaG)
   ·repeat (first|refine qac ?_|(refine qaa ?_;clear hw;intro p w hw)|(refine qae ?_;clear hw;intro w hw)|(refine qab ?_;clear hw;intro s w hw))
    refine qag rfl (qbi (hpre.at hw) (by omega)) ?_
    rintro _ w' ⟨nd,rfl,hk'⟩
    replace hw:=hw.call1 hk'
    clear hk'
    refine⟨_,rfl,?_⟩
    repeat (first|refine qac ?_|(refine qaa ?_;clear hw;intro p w hw)|(refine qae ?_;clear hw;intro w hw)|(refine qab ?_;clear hw;intro s w hw))
    refine qax ?_ (qax ?_ qaG)
    ·repeat (first|refine qac ?_|(refine qaa ?_;clear hw;intro p w hw)|(refine qae ?_;clear hw;intro w hw)|(refine qab ?_;clear hw;intro s w hw))
     obtain⟨nd2,rfl⟩:∃ x,x=s:=⟨_,rfl⟩
     have ond:=(rsO (s:=nd2) hw).one
     refine qau (vs:=[(0,.int .i64 (k:Int)),(1,nd2),(2,.agg #[.int .i64 (eget tEff es j).var,.int .i64 (eget tEff es j).val])]) (ls:=[(0,[.int .i64 (k:Int)]),(1,[nd2]),(2,[.int .i64 (eget tEff es j).var,.int .i64 (eget tEff es j).val])]) rfl (by simp only [List.map_cons,List.map_nil,qaL ond];rfl) rfl ?_
     repeat (first|refine qac ?_|(refine qaa ?_;clear hw;intro p w hw)|(refine qae ?_;clear hw;intro w hw)|(refine qab ?_;clear hw;intro s w hw))
     refine qal tLU (x1:=⟨k,nd2,⟨(eget tEff es j).var,(eget tEff es j).val⟩⟩) rfl rfl rfl (Nat.le_of_ble_eq_true rfl) (Nat.zero_lt_succ _) hw ?_
     clear hw
     intro sl w hw
     repeat (first|refine qac ?_|(refine qaa ?_;clear hw;intro p w hw)|(refine qae ?_;clear hw;intro w hw)|(refine qab ?_;clear hw;intro s w hw))
     refine qaM (s:=lv) (s2:=sl) inferInstance rfl rfl (rsO hw) rfl rfl (fun x hx v hv => ?_) (by simp only [List.length_cons,List.length_nil];omega) (by unfold big;simp only [List.length_cons,List.length_nil];omega) hw ?_
     ·rw [List.mem_singleton.1 hx] at hv
      simp only [tLU,List.mem_cons,List.not_mem_nil,or_false] at hv
      rcases hv with rfl|rfl|rfl|rfl
      ·rfl
      ·exact ond
      ·rfl
      ·rfl
     clear hw
     intro lv2 w hw
     repeat (first|refine qac ?_|(refine qaa ?_;clear hw;intro p w hw)|(refine qad ?_;clear hw;intro w hw)|(refine qab ?_;clear hw;intro s w hw))
     simp only [List.set_cons_succ,List.set_cons_zero] at hw
     have hw3:Sat w0 w (OS tFact 73 nd2 ((t.ops.getD k dOp).pre++((t.ops.getD k dOp).effs.getD j dEff).when)::RdH (LuF us (unFK t k++unKJ t k j))::Box pr 96 [a2,gv,cv2,lv2]::OS tInt 3 cv2 ((costsT t).take (k+1))::OS tLU 98 lv2 (us++[⟨k,nd2,⟨(eget tEff es j).var,(eget tEff es j).val⟩⟩])::Box p9 44 (tOp.enc (eget tOp vs k))::OS tInt 3 a2 t.vars::OS tFact 73 gv t.goal::[Box pt 26 [a,b,c,d]]):=hw.sel
     have hw4:=Sat.rd (Δ:=[OS tFact 73 nd2 ((t.ops.getD k dOp).pre++((t.ops.getD k dOp).effs.getD j dEff).when),RdH (LuF us (unFK t k++unKJ t k j))]) (φ:=LuF (us++[⟨k,nd2,⟨(eget tEff es j).var,(eget tEff es j).val⟩⟩]) (unFK t k++unKJ t k (j+1))) (fun _ w h=>by
      rw [qbB,←List.append_assoc]
      refine (h.rdE 1 rfl).snoc hul ⟨rfl,?_,h.rs 0 rfl⟩
      rw [huv,hux];rfl) hw3
     exact⟨j+1,lv2,us++[⟨k,nd2,⟨(eget tEff es j).var,(eget tEff es j).val⟩⟩],⟨rfl,trivial⟩,agr,⟨by omega,by rw [qbB,←List.append_assoc,List.length_append,List.length_append,hul];rfl,hw4.selG⟩,by omega⟩
    ·repeat (first|refine qac ?_|(refine qaa ?_;clear hw;intro p w hw)|(refine qae ?_;clear hw;intro w hw)|(refine qab ?_;clear hw;intro s w hw))
     obtain⟨nd2,rfl⟩:∃ x,x=s:=⟨_,rfl⟩
     have ond:=(rsO (s:=nd2) hw).one
     refine qau (vs:=[(0,.int .i64 (k:Int)),(1,nd2),(2,.agg #[.int .i64 (eget tEff es j).var,.int .i64 (eget tEff es j).val])]) (ls:=[(0,[.int .i64 (k:Int)]),(1,[nd2]),(2,[.int .i64 (eget tEff es j).var,.int .i64 (eget tEff es j).val])]) rfl (by simp only [List.map_cons,List.map_nil,qaL ond];rfl) rfl ?_
     repeat (first|refine qac ?_|(refine qaa ?_;clear hw;intro p w hw)|(refine qae ?_;clear hw;intro w hw)|(refine qab ?_;clear hw;intro s w hw))
     refine qal tLU (x1:=⟨k,nd2,⟨(eget tEff es j).var,(eget tEff es j).val⟩⟩) rfl rfl rfl (Nat.le_of_ble_eq_true rfl) (Nat.zero_lt_succ _) hw ?_
     clear hw
     intro sl w hw
     repeat (first|refine qac ?_|(refine qaa ?_;clear hw;intro p w hw)|(refine qae ?_;clear hw;intro w hw)|(refine qab ?_;clear hw;intro s w hw))
     refine qaM (s:=lv) (s2:=sl) inferInstance rfl rfl (rsO hw) rfl rfl (fun x hx v hv => ?_) (by simp only [List.length_cons,List.length_nil];omega) (by unfold big;simp only [List.length_cons,List.length_nil];omega) hw ?_
     ·rw [List.mem_singleton.1 hx] at hv
      simp only [tLU,List.mem_cons,List.not_mem_nil,or_false] at hv
      rcases hv with rfl|rfl|rfl|rfl
      ·rfl
      ·exact ond
      ·rfl
      ·rfl
     clear hw
     intro lv2 w hw
     repeat (first|refine qac ?_|(refine qaa ?_;clear hw;intro p w hw)|(refine qad ?_;clear hw;intro w hw)|(refine qab ?_;clear hw;intro s w hw))
     simp only [List.set_cons_succ,List.set_cons_zero] at hw
     have hw3:Sat w0 w (OS tFact 73 nd2 ((t.ops.getD k dOp).pre++((t.ops.getD k dOp).effs.getD j dEff).when)::RdH (LuF us (unFK t k++unKJ t k j))::Box pr 96 [a2,gv,cv2,lv2]::OS tInt 3 cv2 ((costsT t).take (k+1))::OS tLU 98 lv2 (us++[⟨k,nd2,⟨(eget tEff es j).var,(eget tEff es j).val⟩⟩])::Box p9 44 (tOp.enc (eget tOp vs k))::OS tInt 3 a2 t.vars::OS tFact 73 gv t.goal::[Box pt 26 [a,b,c,d]]):=hw.sel
     have hw4:=Sat.rd (Δ:=[OS tFact 73 nd2 ((t.ops.getD k dOp).pre++((t.ops.getD k dOp).effs.getD j dEff).when),RdH (LuF us (unFK t k++unKJ t k j))]) (φ:=LuF (us++[⟨k,nd2,⟨(eget tEff es j).var,(eget tEff es j).val⟩⟩]) (unFK t k++unKJ t k (j+1))) (fun _ w h=>by
      rw [qbB,←List.append_assoc]
      refine (h.rdE 1 rfl).snoc hul ⟨rfl,?_,h.rs 0 rfl⟩
      rw [huv,hux];rfl) hw3
     exact⟨j+1,lv2,us++[⟨k,nd2,⟨(eget tEff es j).var,(eget tEff es j).val⟩⟩],⟨rfl,trivial⟩,agr,⟨by omega,by rw [qbB,←List.append_assoc,List.length_append,List.length_append,hul];rfl,hw4.selG⟩,by omega⟩
   ·repeat (first|refine qac ?_|(refine qaa ?_;clear hw;intro p w hw)|(refine qae ?_;clear hw;intro w hw)|(refine qab ?_;clear hw;intro s w hw))
    refine qag rfl (qbi (hpre.at hw) (by omega)) ?_
    rintro _ w' ⟨nd,rfl,hk'⟩
    replace hw:=hw.call1 hk'
    clear hk'
    refine⟨_,rfl,?_⟩
    repeat (first|refine qac ?_|(refine qaa ?_;clear hw;intro p w hw)|(refine qae ?_;clear hw;intro w hw)|(refine qab ?_;clear hw;intro s w hw))
    obtain⟨nd2,rfl⟩:∃ x,x=s:=⟨_,rfl⟩
    have ond:=(rsO (s:=nd2) hw).one
    refine qau (vs:=[(0,.int .i64 (k:Int)),(1,nd2),(2,.agg #[.int .i64 (eget tEff es j).var,.int .i64 (eget tEff es j).val])]) (ls:=[(0,[.int .i64 (k:Int)]),(1,[nd2]),(2,[.int .i64 (eget tEff es j).var,.int .i64 (eget tEff es j).val])]) rfl (by simp only [List.map_cons,List.map_nil,qaL ond];rfl) rfl ?_
    repeat (first|refine qac ?_|(refine qaa ?_;clear hw;intro p w hw)|(refine qae ?_;clear hw;intro w hw)|(refine qab ?_;clear hw;intro s w hw))
    refine qal tLU (x1:=⟨k,nd2,⟨(eget tEff es j).var,(eget tEff es j).val⟩⟩) rfl rfl rfl (Nat.le_of_ble_eq_true rfl) (Nat.zero_lt_succ _) hw ?_
    clear hw
    intro sl w hw
    repeat (first|refine qac ?_|(refine qaa ?_;clear hw;intro p w hw)|(refine qae ?_;clear hw;intro w hw)|(refine qab ?_;clear hw;intro s w hw))
    refine qaM (s:=lv) (s2:=sl) inferInstance rfl rfl (rsO hw) rfl rfl (fun x hx v hv => ?_) (by simp only [List.length_cons,List.length_nil];omega) (by unfold big;simp only [List.length_cons,List.length_nil];omega) hw ?_
    ·rw [List.mem_singleton.1 hx] at hv
     simp only [tLU,List.mem_cons,List.not_mem_nil,or_false] at hv
     rcases hv with rfl|rfl|rfl|rfl
     ·rfl
     ·exact ond
     ·rfl
     ·rfl
    clear hw
    intro lv2 w hw
    repeat (first|refine qac ?_|(refine qaa ?_;clear hw;intro p w hw)|(refine qad ?_;clear hw;intro w hw)|(refine qab ?_;clear hw;intro s w hw))
    simp only [List.set_cons_succ,List.set_cons_zero] at hw
    have hw3:Sat w0 w (OS tFact 73 nd2 ((t.ops.getD k dOp).pre++((t.ops.getD k dOp).effs.getD j dEff).when)::RdH (LuF us (unFK t k++unKJ t k j))::Box pr 96 [a2,gv,cv2,lv2]::OS tInt 3 cv2 ((costsT t).take (k+1))::OS tLU 98 lv2 (us++[⟨k,nd2,⟨(eget tEff es j).var,(eget tEff es j).val⟩⟩])::Box p9 44 (tOp.enc (eget tOp vs k))::OS tInt 3 a2 t.vars::OS tFact 73 gv t.goal::[Box pt 26 [a,b,c,d]]):=hw.sel
    have hw4:=Sat.rd (Δ:=[OS tFact 73 nd2 ((t.ops.getD k dOp).pre++((t.ops.getD k dOp).effs.getD j dEff).when),RdH (LuF us (unFK t k++unKJ t k j))]) (φ:=LuF (us++[⟨k,nd2,⟨(eget tEff es j).var,(eget tEff es j).val⟩⟩]) (unFK t k++unKJ t k (j+1))) (fun _ w h=>by
     rw [qbB,←List.append_assoc]
     refine (h.rdE 1 rfl).snoc hul ⟨rfl,?_,h.rs 0 rfl⟩
     rw [huv,hux];rfl) hw3
    exact⟨j+1,lv2,us++[⟨k,nd2,⟨(eget tEff es j).var,(eget tEff es j).val⟩⟩],⟨rfl,trivial⟩,agr,⟨by omega,by rw [qbB,←List.append_assoc,List.length_append,List.length_append,hul];rfl,hw4.selG⟩,by omega⟩
  have hje:j=(t.ops.getD k dOp).effs.length:=by omega
  rw [hje,←qjB] at hw hul
  repeat (first|refine qac ?_|(refine qaa ?_;clear hw;intro p w hw)|(refine qae ?_;clear hw;intro w hw)|(refine qab ?_;clear hw;intro s w hw))
  exact⟨k+1,cv2,lv,us,⟨rfl,trivial⟩,agr,⟨by omega,hul,hw.selG⟩,by omega⟩
 have hke:k=t.ops.length:=by omega
 subst hke
 rw [List.take_of_length_le (by rw [qbY];exact Nat.le_refl _)] at hw
 repeat (first|refine qac ?_|(refine qaa ?_;clear hw;intro p w hw)|(refine qae ?_;clear hw;intro w hw)|(refine qab ?_;clear hw;intro s w hw))
 have hw2:=Sat.rd (Δ:=[Box pr 96 [a2,gv,cv,lv],OS tInt 3 cv (costsT t),OS tLU 98 lv us,RdH (LuF us (unF t)),OS tInt 3 a2 t.vars,OS tFact 73 gv t.goal]) (Γ:=[Box pt 26 [a,b,c,d]]) (φ:=fun w=>FinR w pr t a2 gv cv lv us) (fun _ w h=>⟨h.boxR 0 rfl,h.rs 4 rfl,h.rs 5 rfl,h.rs 1 rfl,h.rs 2 rfl,hul,h.rdE 3 rfl⟩) hw
 exact qaw (v:=.pointer (some pr)) (v':=.nilIface) rfl rfl rfl ⟨pr,a2,gv,cv,lv,us,rfl,hw2.sel⟩
end Go.Proofs.YtdadmnlenbdfbaaGreat
