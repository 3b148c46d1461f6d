/-
  Several texts as one: WLm7, WLm8, WLm9, WPdbHeap.
-/
import Derived.Test.YtkmbenhffledpaaGreatMW20
import Derived.Test.YtkmbenhffledpaaGreatMW5
import Derived.Test.YtkmbenhffledpaaGreatMW6
import Derived.Test.YtkmbenhffledpaaGreatMTA
import Derived.Test.YtkmbenhffledpaaGreatMSlB
import Derived.Test.YtkmbenhffledpaaGreatMW1
set_option linter.unusedSimpArgs false
set_option linter.unusedVariables false
/-
  Contract of LM-cut's 'numbers'.
-/
namespace Go.Proofs.YtkmbenhffledpaaGreat
open Go.Sl Go
attribute [local irreducible] vc opsW opsD opV opW PureV ReadV Thn Blk
set_option maxRecDepth 8000 in
set_option maxHeartbeats 4000000 in
theorem qcU {w0:World}{pr:Addr}{c0 fv c2 c3 c4 c5 lv:Value}{vars:List Int}{l:List Fact}(hb:BoxR w0 pr [c0,fv,c2,c3,c4,c5]) (hf:RS tInt w0 fv (fstL vars vars.length)) (hp:∀ x∈vars,1≤x) (hd:∀ i,i<vars.length→vars.getD i tInt.dflt≤64) (hvl:vars.length≤64) (hl:RS tFact w0 lv l) (hok:∀ f∈l,FactOk vars f) (hn:l.length≤64) :
  Calls Tryz.prog 70 #[.pointer (some pr),lv] w0 fun e w'=>∃ nv,e=.returned nv∧Sat w0 w' [OS tInt 3 nv (l.map (numF vars))]:=by
 have hfl:=qcq vars vars.length
 have hw:=Sat.start w0
 refine qab (args:=[.pointer (some pr),lv]) mixed Tryz.func70 rfl (by kernel_rfl) (Nat.le_of_ble_eq_true rfl) ?_
 replace hw:=hw.nil (T:=tInt) (e:=3)
 repeat refine qaa ?_
 refine qao [5,7,10,11,12,13,14,15,16,17,18,19,20,21,22,23,24,25,26,27,28] (G:=Nat) (H:=Value) (fun k ov=>[(10,.int .i64 k),(5,ov)]) (fun k ov w=>k≤l.length∧Sat w0 w [OS tInt 3 ov ((l.take k).map (numF vars))]) (fun k _=>l.length-k) 0 (.slice none 0 0) (fun _ _=>rfl) ⟨rfl,rfl,trivial⟩ ⟨Nat.zero_le _,hw⟩ ?_
 clear hw
 rintro σ k ov w ⟨hk,hw⟩
 have hml:((l.take k).map (numF vars)).length=k:=by rw [List.length_map,List.length_take];omega
 repeat refine qaa ?_
 refine go_if (fun h1 => ?_) (fun h1 => ?_)
 ·have hkl:k<l.length:=by omega
  obtain⟨x0,x1,x2,x3⟩:=hok _ (qak tFact.dflt hkl)
  have hv:(l.getD k tFact.dflt).var.toNat<vars.length:=by omega
  obtain⟨g0,g1,g2⟩:=qhc hp hd hvl hv
  have g3:=hd _ hv
  have hsn:(l.take (k+1)).map (numF vars)=(l.take k).map (numF vars)++[(fstL vars vars.length).getD (l.getD k tFact.dflt).var.toNat tInt.dflt+(l.getD k tFact.dflt).val]:=by
   rw [qan tFact.dflt hkl,List.map_append,g0];rfl
  repeat (first|refine qaa ?_|(refine qaf ?_;clear hw;intro p w hw)|(refine qai ?_;clear hw;intro w hw))
  refine qas [.op 0,.op 1,.op 2,.op 3,.op 4,.op 5,.op 6,.op 7,.op 8,.op 9,.op 10,.op 11,.op 12,.op 13,.op 14] hw (by kernel_rfl) ?_;clear hw;intro w hw
  repeat (first|refine qaa ?_|(refine qaq ?_;clear hw;intro s w hw))
  rw [←hsn] at hw
  obtain⟨ov2,hov2⟩:∃ ov2,ov2=s:=⟨s,rfl⟩
  subst hov2
  exact⟨k+1,ov2,⟨rfl,rfl,trivial⟩,agr,⟨by omega,hw.sel⟩,by omega⟩
 have hke:k=l.length:=by omega
 rw [hke,List.take_of_length_le (Nat.le_refl _)] at hw
 repeat refine qaa ?_
 exact qae (v:=ov) rfl rfl ⟨ov,rfl,hw⟩
end Go.Proofs.YtkmbenhffledpaaGreat
/-
  Contract of 'lmcut.New' for a right task.
-/
namespace Go.Proofs.YtkmbenhffledpaaGreat
open Go.Sl Go
attribute [local irreducible] vc opsW opsD opV opW PureV ReadV Thn Blk
theorem CuF.snoc {us:List CUV}{U:List Un}{v:CUV}{u:Un}{w:World}(h:CuF us U w) (hl:us.length=U.length) (hv:CuOk w v u):CuF (us++[v]) (U++[u]) w:=fun i hi=>by
 by_cases e:i<U.length
 ·rw [qhd (by omega),qgt e];exact h i e
 ·have e2:i=U.length:=by rw [List.length_append,List.length_singleton] at hi;omega
  rw [qhe (by omega),e2,qgu];exact hv
theorem qmL {vars:List Int}{p q:List Fact}:SameM (compL (sortL (p.map (numF vars)++q.map (numF vars)))) (needsL vars q (needsL vars p [])):=fun x=>by
 rw [qfY,qew,List.mem_append,List.mem_map,List.mem_map,qa5,qa5]
 simp
set_option maxRecDepth 8000 in
set_option maxHeartbeats 8000000 in
theorem qpT {w0:World}{a b c d:Value}{vs:List OpV}{t:TTask}(ht:RTask w0 a b c d vs t) (hg:GoodT t) :
  Calls Tryz.prog 34 #[.agg #[a,b,c,d]] w0 fun e w'=>∃ p a2 fv gv cv lv us,e=.returned (.tuple #[.pointer (some p),.nilIface])∧Sat w0 w' [RdH fun w=>LcR w p t a2 fv gv cv lv us]:=by
 have ht':=ht
 obtain⟨ha,hb,hc,hd⟩:=ht
 have hdr:=hd.rs
 have hdl:=hd.len
 have hvl:=hg.vars
 have hol:=hg.ops
 have hgl:=qaI hg.goal
 have hN:=qcm hg
 have hgf:∀ f∈t.goal,FactOk t.vars f:=fun f hf=>by
  obtain⟨i,hi,e⟩:=List.getElem_of_mem hf
  have:=(hg.goal i hi).1
  rw [qaj hi,e] at this;exact this
 have hdm:=fun i hi=>(hg.dom i hi).2
 have hw:=Sat.start w0
 refine qab (args:=[.agg #[a,b,c,d]]) mixed Tryz.func34 rfl (by kernel_rfl) (Nat.le_of_ble_eq_true rfl) ?_
 repeat (first|refine qaa ?_|(refine qaf ?_;clear hw;intro p w hw))
 obtain⟨pt,hpt⟩:∃ pt,pt=p:=⟨p,rfl⟩
 subst hpt
 refine qac rfl (qa6 (ht'.at hw)) ?_
 rintro _ w' ⟨rfl,hk'⟩
 replace hw:=hw.call0 hk'
 clear hk'
 refine⟨_,rfl,?_⟩
 rw [qaT ((qbk t).2 hg)]
 repeat refine qaa ?_
 refine qac rfl (qax (ha.at hw) (by omega)) ?_
 rintro _ w' ⟨a2,rfl,hk'⟩
 replace hw:=hw.call1 hk'
 clear hk'
 refine⟨_,rfl,?_⟩
 have oa:=(rsO (s:=a2) hw).one
 repeat refine qaa ?_
 refine qa8 (vs:=[(0,a2)]) (ls:=[(0,[a2])]) rfl (by show [(0,a2.cells.toList)]=_;rw [qij oa]) rfl ?_
 refine qaV (vs:=[a2,.slice none 0 0,.int .i64 0,.slice none 0 0,.slice none 0 0,.slice none 0 0]) rfl hw ?_
 clear hw
 intro pr w hw
 replace hw:Sat w0 w [Box pr 131 [a2,.slice none 0 0,.int .i64 0,.slice none 0 0,.slice none 0 0,.slice none 0 0],OS tInt 3 a2 t.vars,Box pt 26 [a,b,c,d]]:=hw
 replace hw:=hw.nil (T:=tInt) (e:=3)
 repeat refine qaa ?_
 refine qao [7,26,27,28,29,30,31,32,33,34,35,36,37,38,39,40,41,42,43,44,45,46,47,48,49,50,51] (G:=Nat) (H:=Value) (fun k _=>[(26,.int .i64 k)]) (fun k fv w=>k≤t.vars.length∧Sat w0 w [OS tInt 3 fv (fstL t.vars k),Box pr 131 [a2,fv,.int .i64 (firstV t.vars k),.slice none 0 0,.slice none 0 0,.slice none 0 0],OS tInt 3 a2 t.vars,Box pt 26 [a,b,c,d]]) (fun k _=>t.vars.length-k) 0 (.slice none 0 0) (fun _ _=>rfl) ⟨rfl,trivial⟩ ⟨Nat.zero_le _,hw⟩ ?_
 clear hw
 rintro σ k fv w ⟨hk,hw⟩
 have hfl:=qcq t.vars k
 repeat refine qaa ?_
 refine go_if (fun h1 => ?_) (fun h1 => ?_)
 ·have hkl:k<t.vars.length:=by omega
  have hdk:=hg.dom k hkl
  have hf0:=qcz hg.pos (b:=k) (by omega)
  have hf1:=qc8 (fun i hi=>(hg.dom i hi).2) (b:=k) (by omega)
  repeat refine qaa ?_
  refine qas [.op 0,.op 1,.op 2,.op 3,.op 4,.op 5,.op 6,.op 7,.op 8,.op 9,.chk 4,.op 10,.op 11,.op 12,.op 13] hw (by kernel_rfl) ?_;clear hw;intro w hw
  repeat (first|refine qaa ?_|(refine qai ?_;clear hw;intro w hw)|(refine qaq ?_;clear hw;intro s w hw))
  simp only [List.set_cons_succ,List.set_cons_zero] at hw
  rw [←qjZ,←qbG hkl] at hw
  obtain⟨fv2,hfv2⟩:∃ fv2,fv2=s:=⟨s,rfl⟩
  subst hfv2
  exact⟨k+1,fv2,⟨rfl,trivial⟩,agr,⟨by omega,hw.tail⟩,by omega⟩
 have hke:k=t.vars.length:=by omega
 subst hke
 rw [←qaX hg] at hw
 repeat refine qaa ?_
 refine qac rfl (qcU (boxRO (p:=pr) hw) (rsO (s:=fv) hw) hg.pos hdm hvl (hc.at hw) hgf (by omega)) ?_
 rintro _ w' ⟨gv,rfl,hk'⟩
 replace hw:=hw.call1 hk'
 clear hk'
 refine⟨_,rfl,?_⟩
 have ogv:=(rsO (s:=gv) hw).one
 repeat (first|refine qaa ?_|(refine qai ?_;clear hw;intro w hw))
 simp only [List.set_cons_succ,List.set_cons_zero] at hw
 have hw1:Sat w0 w (Box pr 131 [a2,fv,.int .i64 (factN t:Int),gv,(.slice none 0 0),(.slice none 0 0)]::OS tInt 3 (.slice none 0 0) ((costsT t).take 0)::OS tCU 135 (.slice none 0 0) ([]:List CUV)::RdH (CuF ([]:List CUV) (unK t 0))::OS tInt 3 fv (fstL t.vars t.vars.length)::OS tInt 3 gv (goalN t)::OS tInt 3 a2 t.vars::[Box pt 26 [a,b,c,d]]):=by
  have g1:Sat w0 w [OS tInt 3 gv (goalN t),OS tInt 3 fv (fstL t.vars t.vars.length),Box pr 131 [a2,fv,.int .i64 (factN t:Int),gv,.slice none 0 0,.slice none 0 0],OS tInt 3 a2 t.vars,Box pt 26 [a,b,c,d]]:=hw
  have g2:=Sat.rd0 (φ:=CuF [] []) (fun w i hi=>absurd hi (Nat.not_lt_zero _)) ((g1.nil (T:=tInt) (e:=3)).nil (T:=tCU) (e:=135))
  have hu0:unK t 0=[]:=by simp [unK]
  rw [hu0,List.take_zero]
  exact g2.selG
 clear hw
 have hw:=hw1
 clear hw1
 refine qap [8,9,11,12,62,63,64,65,66,67,68,69,70,71,72,73,74,75,76,77,78,79,80,81,82,83,84,85,86,87,88,89,90,91,92,93,94,95,96,97,98,99,100,101,102,103,104,105,106,107,108,109,110,111,112,113,114,115,116,117,118,119,120,121] (G:=Nat) (fun k=>[(62,.int .i64 k)]) (fun k w=>k≤t.ops.length∧∃ cv lv us,us.length=(unK t k).length∧Sat w0 w (Box pr 131 [a2,fv,.int .i64 (factN t:Int),gv,cv,lv]::OS tInt 3 cv ((costsT t).take k)::OS tCU 135 lv us::RdH (CuF us (unK t k))::OS tInt 3 fv (fstL t.vars t.vars.length)::OS tInt 3 gv (goalN t)::OS tInt 3 a2 t.vars::[Box pt 26 [a,b,c,d]])) (fun k=>t.ops.length-k) 0 (fun _=>rfl) ⟨rfl,trivial⟩ ⟨Nat.zero_le _,_,_,_,rfl,hw⟩ ?_
 clear hw
 rintro σ1 k w ⟨hk,cv,lv,us,hul,hw⟩
 repeat refine qaa ?_
 refine go_if (fun h2 => ?_) (fun h2 => ?_)
 ·have hkl:k<t.ops.length:=by omega
  have hop:=hd.at_ k hkl
  have hone:=hop.one
  have hpre:=hop.pre
  have hgo:=hg.op k hkl
  have hpl:=qaI hgo.pre
  have hel:=hgo.effs
  have hco:=hop.cost
  obtain⟨es,hes⟩:=hop.effs
  have hesr:=hes.rs
  have hesl:=hes.len
  have hcl:(costsT t).length=t.ops.length:=qbQ t
  have hctl:((costsT t).take k).length=k:=by rw [List.length_take];omega
  have hcsn:(costsT t).take (k+1)=(costsT t).take k++[(eget tOp vs k).cost]:=by rw [qan tInt.dflt (by omega),qbi hkl,hco]
  repeat (first|refine qaa ?_|(refine qaf ?_;clear hw;intro p w hw)|(refine qai ?_;clear hw;intro w hw))
  obtain⟨p9,hp9⟩:∃ p9,p9=p:=⟨p,rfl⟩
  subst hp9
  refine qas [.op 0,.op 1,.op 2,.op 3,.op 4,.op 5,.op 6,.op 7,.chk 4,.op 8,.op 9,.op 10,.op 11] hw (by kernel_rfl) ?_;clear hw;intro w hw
  repeat (first|refine qaa ?_|(refine qai ?_;clear hw;intro w hw)|(refine qaq ?_;clear hw;intro s w hw))
  simp only [List.set_cons_succ,List.set_cons_zero] at hw
  rw [←hcsn] at hw
  obtain⟨cv2,hcv2⟩:∃ cv2,cv2=s:=⟨s,rfl⟩
  subst hcv2
  have hw1:Sat w0 w (Box pr 131 [a2,fv,.int .i64 (factN t:Int),gv,cv2,lv]::OS tInt 3 cv2 ((costsT t).take (k+1))::OS tCU 135 lv us::RdH (CuF us (unK t k++unO t.vars k (t.ops.getD k dOp) 0))::Box p9 56 (tOp.enc (eget tOp vs k))::OS tInt 3 fv (fstL t.vars t.vars.length)::OS tInt 3 gv (goalN t)::OS tInt 3 a2 t.vars::[Box pt 26 [a,b,c,d]]):=by
   have hu0:unO t.vars k (t.ops.getD k dOp) 0=[]:=rfl
   rw [hu0,List.append_nil]
   exact hw.selG
  clear hw
  have hw:=hw1
  clear hw1
  repeat refine qaa ?_
  refine qap [11,12,81,82,83,84,85,86,87,88,89,90,91,92,93,94,95,96,97,98,99,100,101,102,103,104,105,106,107,108,109,110,111,112,113,114,115,116,117,118,119,120] (G:=Nat) (fun j=>[(81,.int .i64 j)]) (fun j w=>j≤(t.ops.getD k dOp).effs.length∧∃ lv us,us.length=(unK t k++unO t.vars k (t.ops.getD k dOp) j).length∧Sat w0 w (Box pr 131 [a2,fv,.int .i64 (factN t:Int),gv,cv2,lv]::OS tInt 3 cv2 ((costsT t).take (k+1))::OS tCU 135 lv us::RdH (CuF us (unK t k++unO t.vars k (t.ops.getD k dOp) j))::Box p9 56 (tOp.enc (eget tOp vs k))::OS tInt 3 fv (fstL t.vars t.vars.length)::OS tInt 3 gv (goalN t)::OS tInt 3 a2 t.vars::[Box pt 26 [a,b,c,d]])) (fun j=>(t.ops.getD k dOp).effs.length-j) 0 (fun _=>rfl) ⟨rfl,trivial⟩ ⟨Nat.zero_le _,_,_,by rw [show unO t.vars k (t.ops.getD k dOp) 0=[] from rfl,List.append_nil];exact hul,hw⟩ ?_
  clear hw hul
  clear lv us
  rintro σ2 j w ⟨hj,lv,us,hul,hw⟩
  repeat refine qaa ?_
  refine go_if (fun h3 => ?_) (fun h3 => ?_)
  ·have hjl:j<(t.ops.getD k dOp).effs.length:=by omega
   have hue:=hes.at_ j hjl
   have hgf2:=hgo.eff j hjl
   have hueo:=hue.one
   have hwh:=hue.when
   have hkp:∀ f∈(t.ops.getD k dOp).pre,FactOk t.vars f:=fun f hf=>by
    obtain⟨i,hi,rfl⟩:=List.getElem_of_mem hf
    have:=(hgo.pre i hi).1
    rwa [qaj hi] at this
   have hkw:∀ f∈((t.ops.getD k dOp).effs.getD j dEff).when,FactOk t.vars f:=fun f hf=>by
    obtain⟨i,hi,rfl⟩:=List.getElem_of_mem hf
    have:=(hgf2.1 i hi).1
    rwa [qaj hi] at this
   have hwl:=qaI hgf2.1
   repeat (first|refine qaa ?_|(refine qaf ?_;clear hw;intro p w hw)|(refine qai ?_;clear hw;intro w hw))
   obtain⟨p11,hp11⟩:∃ p11,p11=p:=⟨p,rfl⟩
   subst hp11
   refine qas [.op 0,.op 1,.op 2,.op 4,.op 5,.op 6,.op 3,.chk 6,.op 7,.op 8,.op 9] hw (by kernel_rfl) ?_;clear hw;intro w hw
   repeat refine qaa ?_
   refine qac rfl (qcU (boxRO (p:=pr) hw) (rsO (s:=fv) hw) hg.pos hdm hvl (hpre.at hw) hkp (by omega)) ?_
   rintro _ w' ⟨n1,rfl,hk'⟩
   replace hw:=hw.call1 hk'
   clear hk'
   refine⟨_,rfl,?_⟩
   repeat refine qaa ?_
   refine qac rfl (qcU (boxRO (p:=pr) hw) (rsO (s:=fv) hw) hg.pos hdm hvl (hwh.at hw) hkw (by omega)) ?_
   rintro _ w' ⟨n2,rfl,hk'⟩
   replace hw:=hw.call1 hk'
   clear hk'
   refine⟨_,rfl,?_⟩
   have hl1:((t.ops.getD k dOp).pre.map (numF t.vars)).length=(t.ops.getD k dOp).pre.length:=List.length_map _
   have hl2:(((t.ops.getD k dOp).effs.getD j dEff).when.map (numF t.vars)).length=((t.ops.getD k dOp).effs.getD j dEff).when.length:=List.length_map _
   repeat (first|refine qaa ?_|(refine qaq ?_;clear hw;intro s w hw))
   obtain⟨nd,hnd⟩:∃ nd,nd=s:=⟨s,rfl⟩
   subst hnd
   have hw1:Sat w0 w (OS tInt 3 nd ((t.ops.getD k dOp).pre.map (numF t.vars)++((t.ops.getD k dOp).effs.getD j dEff).when.map (numF t.vars))::Box p11 80 (tEff.enc (eget tEff es j))::Box p9 56 (tOp.enc (eget tOp vs k))::Box pr 131 [a2,fv,.int .i64 (factN t:Int),gv,cv2,lv]::OS tInt 3 cv2 ((costsT t).take (k+1))::OS tCU 135 lv us::RdH (CuF us (unK t k++unO t.vars k (t.ops.getD k dOp) j))::OS tInt 3 fv (fstL t.vars t.vars.length)::OS tInt 3 gv (goalN t)::OS tInt 3 a2 t.vars::[Box pt 26 [a,b,c,d]]):=hw.selG
   have hll:((t.ops.getD k dOp).pre.map (numF t.vars)++((t.ops.getD k dOp).effs.getD j dEff).when.map (numF t.vars)).length≤128:=by rw [List.length_append];omega
   refine qac rfl (qdj (s:=nd) hw1 (by omega)) ?_
   clear hw hw1
   rintro _ w ⟨rfl,hw⟩
   refine⟨_,rfl,?_⟩
   have hfo:FactOk t.vars ⟨(eget tEff es j).var,(eget tEff es j).val⟩:=by rw [hue.var,hue.val];exact qaD hgf2
   obtain⟨x0,x1,x2,x3⟩:=hfo
   have y0:0≤(eget tEff es j).var:=x0
   have y1:(eget tEff es j).var<t.vars.length:=x1
   have y2:0≤(eget tEff es j).val:=x2
   have y3:(eget tEff es j).val<t.vars.getD (eget tEff es j).var.toNat tInt.dflt:=x3
   clear x0 x1 x2 x3
   have hv:(eget tEff es j).var.toNat<t.vars.length:=by omega
   obtain⟨g0,g1,g2⟩:=qhc hg.pos hdm hvl hv
   have g3:=hdm _ hv
   rw [←g0] at g1 g2
   have hfl:=qcq t.vars t.vars.length
   have hUl:us.length≤1048576:=by
    have h5:=qdS hg (k:=k) (by omega)
    rw [hul,List.length_append,qdR];omega
   repeat refine qaa ?_
   refine qas [.op 0,.op 1,.op 2,.op 3,.op 4,.op 5,.op 6,.op 7,.op 8,.op 9,.op 10,.op 11,.op 12,.op 13,.op 14,.op 15,.op 16,.op 17,.op 18,.chk 4,.chk 9,.chk 11,.chk 13,.chk 15,.op 19,.chk 4,.op 20,.chk 4,.op 21,.op 22,.op 23,.op 24] hw (by kernel_rfl) ?_;clear hw;intro w hw
   repeat refine qaa ?_
   refine qac rfl (qdk (s:=nd) hw (by rw [qdd];omega)) ?_
   clear hw
   rintro _ w ⟨nd2,rfl,hw⟩
   refine⟨_,rfl,?_⟩
   have ond:=(rsO (s:=nd2) hw).one
   repeat refine qaa ?_
   have hmk:(fstL t.vars t.vars.length).getD (eget tEff es j).var.toNat tInt.dflt+(eget tEff es j).val=numF t.vars ⟨((t.ops.getD k dOp).effs.getD j dEff).var,((t.ops.getD k dOp).effs.getD j dEff).val⟩:=by
    rw [g0,hue.var,hue.val];rfl
   rw [hmk]
   obtain⟨mk,hmke⟩:∃ mk,mk=numF t.vars ⟨((t.ops.getD k dOp).effs.getD j dEff).var,((t.ops.getD k dOp).effs.getD j dEff).val⟩:=⟨_,rfl⟩
   rw [←hmke]
   refine qaR (v1:=.int .i64 (k:Int)) (v2:=.int .i64 mk) (v3:=nd2) rfl rfl rfl rfl (by simp only [List.all_cons,List.all_nil,ond];rfl) ?_
   repeat refine qaa ?_
   refine qah tCU (x1:=⟨k,mk,nd2⟩) rfl rfl rfl (Nat.le_of_ble_eq_true rfl) (Nat.zero_lt_succ _) hw ?_
   clear hw
   intro sl w hw
   repeat refine qaa ?_
   refine qaJ (s:=lv) (s2:=sl) inferInstance rfl rfl (rsO hw) rfl rfl (fun x hx v hv => ?_) (by simp only [List.length_cons,List.length_nil];omega) (by unfold big;simp only [List.length_cons,List.length_nil];omega) hw ?_
   ·rw [List.mem_singleton.1 hx] at hv
    simp only [tCU,List.mem_cons,List.not_mem_nil,or_false] at hv
    rcases hv with rfl|rfl|rfl
    ·rfl
    ·rfl
    ·exact ond
   clear hw
   intro lv2 w hw
   repeat (first|refine qaa ?_|(refine qai ?_;clear hw;intro w hw))
   simp only [List.set_cons_succ,List.set_cons_zero] at hw
   have hw3:Sat w0 w (OS tInt 3 nd2 (compL (sortL ((t.ops.getD k dOp).pre.map (numF t.vars)++((t.ops.getD k dOp).effs.getD j dEff).when.map (numF t.vars))))::RdH (CuF us (unK t k++unO t.vars k (t.ops.getD k dOp) j))::Box pr 131 [a2,fv,.int .i64 (factN t:Int),gv,cv2,lv2]::OS tInt 3 cv2 ((costsT t).take (k+1))::OS tCU 135 lv2 (us++[⟨k,mk,nd2⟩])::Box p9 56 (tOp.enc (eget tOp vs k))::OS tInt 3 fv (fstL t.vars t.vars.length)::OS tInt 3 gv (goalN t)::OS tInt 3 a2 t.vars::[Box pt 26 [a,b,c,d]]):=hw.selG
   have hw4:=Sat.rd (Δ:=[OS tInt 3 nd2 (compL (sortL ((t.ops.getD k dOp).pre.map (numF t.vars)++((t.ops.getD k dOp).effs.getD j dEff).when.map (numF t.vars)))),RdH (CuF us (unK t k++unO t.vars k (t.ops.getD k dOp) j))]) (φ:=CuF (us++[⟨k,mk,nd2⟩]) (unK t k++unO t.vars k (t.ops.getD k dOp) (j+1))) (fun _ w h=>by
    rw [qit,←List.append_assoc]
    exact (h.rdE 1 rfl).snoc hul ⟨rfl,hmke,_,h.rs 0 rfl,qmL⟩) hw3
   exact⟨j+1,⟨rfl,trivial⟩,agr,⟨by omega,lv2,us++[⟨k,mk,nd2⟩],by rw [qit,←List.append_assoc,List.length_append,List.length_append,hul];rfl,hw4.selG⟩,by omega⟩
  have hje:j=(t.ops.getD k dOp).effs.length:=by omega
  subst hje
  rw [←qb2] at hw hul
  repeat refine qaa ?_
  exact⟨k+1,⟨rfl,trivial⟩,agr,⟨by omega,cv2,lv,us,hul,hw.selG⟩,by omega⟩
 have hke:k=t.ops.length:=by omega
 subst hke
 rw [List.take_of_length_le (by rw [qbQ];exact Nat.le_refl _)] at hw
 repeat refine qaa ?_
 have hw2:=Sat.rd (Δ:=[Box pr 131 [a2,fv,.int .i64 (factN t:Int),gv,cv,lv],OS tInt 3 cv (costsT t),OS tCU 135 lv us,RdH (CuF us (unT t)),OS tInt 3 fv (fstL t.vars t.vars.length),OS tInt 3 gv (goalN t),OS tInt 3 a2 t.vars]) (φ:=fun w=>LcR w pr t a2 fv gv cv lv us) (fun _ w h=>⟨h.boxR 0 rfl,h.rs 6 rfl,h.rs 4 rfl,h.rs 5 rfl,h.rs 1 rfl,h.rs 2 rfl,hul,h.rdE 3 rfl⟩) hw
 exact qav (v:=.pointer (some pr)) (v':=.nilIface) rfl rfl rfl ⟨pr,a2,fv,gv,cv,lv,us,rfl,hw2.sel⟩
end Go.Proofs.YtkmbenhffledpaaGreat
/-
  LM-cut as an estimate: contract of 'estimate.Cut'.
-/
namespace Go.Proofs.YtkmbenhffledpaaGreat
open Go.Sl Go
attribute [local irreducible] vc opsW opsD opV opW PureV ReadV Thn Blk
theorem LcR.at {w0 w:World}{Γ:List HP}{pr:Addr}{t:TTask}{a fv gv cv lv:Value}{us:List CUV}(h:LcR w0 pr t a fv gv cv lv us) (hw:Sat w0 w Γ):LcR w pr t a fv gv cv lv us :=
 ⟨h.box.at hw,h.vars.at hw,h.fst.at hw,h.goal.at hw,h.costs.at hw,h.list.at hw,h.len,h.un.at hw⟩
theorem qrD {w:World}{t:TTask}{pr:Addr}{a fv gv cv lv:Value}{us:List CUV}(h:LcR w pr t a fv gv cv lv us) (hg:GoodT t):HVal w (.iface 67 (.pointer (some pr))) t (lmH t) :=
 ⟨_,_,_,_,rfl,qlv _,inferInstance,fun _ _ _ _ hs hsv hok=>qll (h.at hs) hg hsv hok⟩
set_option maxRecDepth 8000 in
set_option maxHeartbeats 2000000 in
theorem qrL {w0:World}{a b c d:Value}{vs:List OpV}{t:TTask}(ht:RTask w0 a b c d vs t) (hg:GoodT t) :
  Calls Tryz.prog 9 #[.agg #[a,b,c,d]] w0 fun e w'=>∃ p,e=.returned (.tuple #[.pointer (some p),.nilIface])∧Sat w0 w' [RdH fun w=>REst w p t (lmH t)]:=by
 have hw:=Sat.start w0
 refine qab (args:=[.agg #[a,b,c,d]]) mixed Tryz.func9 rfl (by kernel_rfl) (Nat.le_of_ble_eq_true rfl) ?_
 repeat (first|refine qaa ?_|(refine qaf ?_;clear hw;intro p w hw))
 obtain⟨pt,hpt⟩:∃ pt,pt=p:=⟨p,rfl⟩
 subst hpt
 refine qac rfl (qpT (ht.at hw) hg) ?_
 rintro _ w' ⟨pr,a2,fv,gv,cv,lv,us,rfl,hk'⟩
 replace hw:=hw.call1 hk'
 clear hk'
 refine⟨_,rfl,?_⟩
 repeat refine qaa ?_
 refine qac rfl (qdf (h:=.iface 67 (.pointer (some pr))) (H:=lmH t) (ht.at hw) hg ⟨_,_,rfl⟩) ?_
 rintro _ w' ⟨pe,rfl,hk'⟩
 replace hw:=hw.call1 hk'
 clear hk'
 refine⟨_,rfl,?_⟩
 repeat refine qaa ?_
 have hw2:Sat w0 w' [RdH fun w=>HVal w (.iface 67 (.pointer (some pr))) t (lmH t)→REst w pe t (lmH t),RdH fun w=>LcR w pr t a2 fv gv cv lv us,Box pt 26 [a,b,c,d]]:=hw
 have hw3:=Sat.rd (Δ:=[RdH fun w=>HVal w (.iface 67 (.pointer (some pr))) t (lmH t)→REst w pe t (lmH t),RdH fun w=>LcR w pr t a2 fv gv cv lv us]) (φ:=fun w=>REst w pe t (lmH t)) (fun _ w h=>(h.rdE 0 rfl) (qrD (h.rdE 1 rfl) hg)) hw2
 exact qav (v:=.pointer (some pe)) (v':=.nilIface) rfl rfl rfl ⟨pe,rfl,hw3.sel⟩
end Go.Proofs.YtkmbenhffledpaaGreat
/-
  Contracts of the heap of items and of the package 'container/heap' over it.
-/
namespace Go.Proofs.YtkmbenhffledpaaGreat
open Go.Sl
attribute [local irreducible] vc opsW opsD opV opW PureV ReadV Thn Blk
set_option maxRecDepth 8000 in
theorem qcF {w0:World}{h:Value}{xs:List Item}{i j:Nat}{ii jj:Int}(hx:RS tItem w0 h xs) (ei:ii=i) (ej:jj=j) (hi:i<xs.length) (hj:j<xs.length) :
  Calls Tryz.prog 220 #[h,.int .i64 ii,.int .i64 jj] w0 fun e w'=>e=.returned (.bool (ilt (hg tItem.dflt xs i) (hg tItem.dflt xs j)))∧Sat w0 w' []:=by
 subst ei ej
 have hw:=Sat.start w0
 refine qab (args:=[h,.int .i64 i,.int .i64 j]) mixed Tryz.func220 rfl (by kernel_rfl) (Nat.le_of_ble_eq_true rfl) ?_
 repeat (first|refine qaa ?_|(refine qag ?_;clear hw;intro w hw))
 exact qae (v:=.bool (ilt (hg tItem.dflt xs i) (hg tItem.dflt xs j))) rfl rfl ⟨rfl,hw⟩
set_option maxRecDepth 8000 in
theorem qcG {w0 w:World}{Γ:List HP}{h:Value}{xs:List Item}{i j:Nat}{ii jj:Int}(ei:ii=i) (ej:jj=j) (hi:i<xs.length) (hj:j<xs.length) (hw:Sat w0 w (OS tItem 269 h xs::Γ)) :
  Calls Tryz.prog 223 #[h,.int .i64 ii,.int .i64 jj] w fun e w'=>e=.returned (.tuple #[])∧Sat w0 w' (OS tItem 269 h (sw tItem.dflt xs i j)::Γ):=by
 subst ei ej
 refine qab (args:=[h,.int .i64 i,.int .i64 j]) mixed Tryz.func223 rfl (by kernel_rfl) (Nat.le_of_ble_eq_true rfl) ?_
 repeat (first|refine qaa ?_|(refine qag ?_;clear hw;intro w hw))
 refine qb5 (s:=h) (j:=i) (x':=hg tItem.dflt xs j) rfl rfl rfl rfl hw inferInstance (by omega) ?_
 clear hw
 intro w hw
 have hl:(xs.set i (hg tItem.dflt xs j)).length=xs.length:=by simp
 repeat refine qaa ?_
 refine qb5 (s:=h) (j:=j) (x':=hg tItem.dflt xs i) rfl rfl rfl rfl hw inferInstance (by omega) ?_
 clear hw
 intro w hw
 repeat refine qaa ?_
 exact qaz rfl ⟨rfl,hw⟩
set_option maxRecDepth 8000 in
theorem qnC {w0 w:World}{Γ:List HP}{q:Addr}{h:Value}{xs:List Item}{v:Item}(hl:xs.length<1048576) (hw:Sat w0 w (OS tItem 269 h xs::Box q 267 [h]::Γ)) :
  Calls Tryz.prog 222 #[.pointer (some q),.iface 269 (.agg #[.int .i64 v.dist,.int .i64 v.state])] w fun e w'=>e=.returned (.tuple #[])∧∃ h',Sat w0 w' (OS tItem 269 h' (xs++[v])::Box q 267 [h']::Γ):=by
 refine qab (args:=[.pointer (some q),.iface 269 (.agg #[.int .i64 v.dist,.int .i64 v.state])]) mixed Tryz.func222 rfl (by kernel_rfl) (Nat.le_of_ble_eq_true rfl) ?_
 repeat (first|refine qaa ?_|(refine qaf ?_;clear hw;intro p w hw)|(refine qai ?_;clear hw;intro w hw))
 refine qas [.op 0,.op 1,.op 2,.op 3,.op 4,.op 5,.chk 3,.op 6,.op 7,.op 8] hw (by kernel_rfl) ?_;clear hw;intro w hw
 repeat refine qaa ?_
 refine qah tItem (x1:=v) rfl rfl rfl (Nat.le_of_ble_eq_true rfl) (Nat.zero_lt_succ _) hw ?_
 clear hw
 intro s w hw
 repeat (first|refine qaa ?_|(refine qai ?_;clear hw;intro w hw)|(refine qaq ?_;clear hw;intro s w hw))
 exact qaz rfl ⟨rfl,_,hw.tail.tail⟩
set_option maxRecDepth 8000 in
theorem qp7 {w0 w:World}{Γ:List HP}{q:Addr}{h:Value}{xs:List Item}(hl:0<xs.length) (hb:xs.length≤1048576) (hw:Sat w0 w (OS tItem 269 h xs::Box q 267 [h]::Γ)) :
  Calls Tryz.prog 221 #[.pointer (some q)] w fun e w'=>e=.returned (.iface 269 ((.agg #[.int .i64 (hg tItem.dflt xs (xs.length-1)).dist,.int .i64 (hg tItem.dflt xs (xs.length-1)).state])))∧∃ h',Sat w0 w' (OS tItem 269 h' (xs.take (xs.length-1))::Box q 267 [h']::Γ):=by
 refine qab (args:=[.pointer (some q)]) mixed Tryz.func221 rfl (by kernel_rfl) (Nat.le_of_ble_eq_true rfl) ?_
 repeat (first|refine qaa ?_|(refine qaf ?_;clear hw;intro p w hw)|(refine qag ?_;clear hw;intro w hw))
 have hk:(((xs.length:Nat):Int)-1).toNat=xs.length-1:=by omega
 replace hw:=Sat.sub (s:=h) (xs:=xs) hw inferInstance 0 (((xs.length:Nat):Int)-1).toNat (by omega) (by omega)
 repeat (first|refine qaa ?_|(refine qag ?_;clear hw;intro w hw))
 refine qae (v:=.iface 269 ((.agg #[.int .i64 (hg tItem.dflt xs (((xs.length:Nat):Int)-1).toNat).dist,.int .i64 (hg tItem.dflt xs (((xs.length:Nat):Int)-1).toNat).state]))) rfl rfl ⟨by rw [hk],ssub h tItem.sz 0 (((xs.length:Nat):Int)-1).toNat,?_⟩
 have hc:cut xs 0 (((xs.length:Nat):Int)-1).toNat=xs.take (xs.length-1):=by rw [hk];simp [cut]
 rw [hc] at hw
 exact hw.tail
set_option maxRecDepth 8000 in
theorem qgU {w0:World}{h:Value}{xs:List Item}(hx:RS tItem w0 h xs) :
  Calls Tryz.prog 151 #[h] w0 fun e w'=>e=.returned (.int .i64 xs.length)∧Sat w0 w' []:=by
 have hw:=Sat.start w0
 refine qab (args:=[h]) mixed Tryz.func151 rfl (by kernel_rfl) (Nat.le_of_ble_eq_true rfl) ?_
 repeat refine qaa ?_
 exact qae (v:=.int .i64 xs.length) rfl rfl ⟨rfl,hw⟩
set_option maxHeartbeats 1000000 in
set_option maxRecDepth 8000 in
theorem qrK {w0 w:World}{Γ:List HP}{q:Addr}{h:Value}{xs:List Item}{j:Nat}{jj:Int}(ej:jj=j) (U:UpI tItem.dflt ilt xs j) (hb:xs.length≤1048576) (hw:Sat w0 w (OS tItem 269 h xs::Box q 267 [h]::Γ)) :
  Calls Tryz.prog 154 #[.iface 265 (.pointer (some q)),.int .i64 jj] w fun e w'=>e=.returned (.tuple #[])∧∃ ys,IsHeap tItem.dflt ilt ys∧ys.Perm xs∧Sat w0 w' (OS tItem 269 h ys::Box q 267 [h]::Γ):=by
 subst ej
 refine qab (args:=[.iface 265 (.pointer (some q)),.int .i64 j]) mixed Tryz.func154 rfl (by kernel_rfl) (Nat.le_of_ble_eq_true rfl) ?_
 repeat refine qaa ?_
 refine qao [1,4,5,6,7,8,9,10,11,12,13,14,15,16,17,18,19,20,21,22] (G:=Nat) (H:=List Item) (fun j ys=>[(1,.int .i64 j)]) (fun j ys w=>UpI tItem.dflt ilt ys j∧ys.Perm xs∧Sat w0 w (OS tItem 269 h ys::Box q 267 [h]::Γ)) (fun j ys=>j) j xs (fun _ _=>rfl) ⟨rfl,trivial⟩ ⟨U,.refl _,hw⟩ ?_
 clear hw U
 rintro σ j ys w ⟨U,hp,hw⟩
 have hlt:=U.inb
 have hyl:=hp.length_eq
 repeat refine qaa ?_
 simp only [qfV]
 by_cases hij:(j-1) / 2=j
 ·have hdec:decide ((((j-1) / 2:Nat):Int)=(j:Int))=true:=decide_eq_true (by omega)
  simp only [hdec]
  repeat refine qaa ?_
  exact qaz rfl ⟨rfl,ys,U.done (.inl hij),hp,hw⟩
 ·have hdec:decide ((((j-1) / 2:Nat):Int)=(j:Int))=false:=decide_eq_false (by omega)
  simp only [hdec,gvff]
  repeat refine qaa ?_
  refine qar (u:=h) rfl rfl (hw.box0 inferInstance rfl) (qcF (rsO hw) rfl rfl hlt (show (j-1) / 2<ys.length by omega)) ?_
  rintro _ w' ⟨rfl,hk⟩
  replace hw:=hw.call0 hk
  clear hk
  cases hL:ilt (hg tItem.dflt ys j) (hg tItem.dflt ys ((j-1) / 2)) with
  | false =>
   refine⟨_,rfl,?_⟩
   repeat refine qaa ?_
   exact qaz rfl ⟨rfl,ys,U.done (.inr hL),hp,hw⟩
  | true =>
   refine⟨_,rfl,?_⟩
   repeat refine qaa ?_
   refine qar (u:=h) rfl rfl (hw.box0 inferInstance rfl) (qcG rfl rfl (show (j-1) / 2<ys.length by omega) hlt hw) ?_
   clear hw
   rintro _ w ⟨rfl,hw⟩
   refine⟨_,rfl,?_⟩
   repeat refine qaa ?_
   exact⟨(j-1) / 2,_,⟨rfl,trivial⟩,agr,⟨U.step hij hL,(qbm (by omega) hlt).trans hp,hw⟩,by omega⟩
set_option maxHeartbeats 2000000 in
set_option maxRecDepth 8000 in
theorem qnD {w0 w:World}{Γ:List HP}{q:Addr}{h:Value}{xs:List Item}{n:Nat}{nn:Int}(en:nn=n) (D:DnI tItem.dflt ilt xs n 0) (hb:xs.length≤1048576) (hw:Sat w0 w (OS tItem 269 h xs::Box q 267 [h]::Γ)) :
  Calls Tryz.prog 155 #[.iface 265 (.pointer (some q)),.int .i64 0,.int .i64 nn] w fun e w'=>∃ b ys,e=.returned (.bool b)∧HeapN tItem.dflt ilt ys n∧ys.Perm xs∧(∀ k,n≤k→hg tItem.dflt ys k=hg tItem.dflt xs k)∧Sat w0 w' (OS tItem 269 h ys::Box q 267 [h]::Γ):=by
 subst en
 refine qab (args:=[.iface 265 (.pointer (some q)),.int .i64 0,.int .i64 n]) mixed Tryz.func155 rfl (by kernel_rfl) (Nat.le_of_ble_eq_true rfl) ?_
 repeat refine qaa ?_
 refine qao [7,8,9,10,12,13,14,15,16,17,18,19,20,21,22,23,24,25,26,27,28,29,30,31,32,33,34,35,36,37,38,39,40,41,42,43,44] (G:=Nat) (H:=List Item) (fun i ys=>[(7,.int .i64 i)]) (fun i ys w=>DnI tItem.dflt ilt ys n i∧i≤n∧ys.Perm xs∧(∀ k,n≤k→hg tItem.dflt ys k=hg tItem.dflt xs k)∧Sat w0 w (OS tItem 269 h ys::Box q 267 [h]::Γ)) (fun i ys=>n-i) 0 xs (fun _ _=>rfl) ⟨rfl,trivial⟩ ⟨D,Nat.zero_le _,.refl _,fun _ _=>rfl,hw⟩ ?_
 clear hw D
 rintro σ i ys w ⟨D,hin,hp,hkeep,hw⟩
 have hle1:=D.le
 have hyl:=hp.length_eq
 repeat refine qaa ?_
 refine go_if (fun h1 => ?_) (fun h1 => ?_)
 ·repeat refine qaa ?_
  exact qae (v:=.bool _) rfl rfl ⟨_,ys,rfl,D.leaf (by omega),hp,hkeep,hw⟩
 ·have hin':2*i+1<n:=by omega
  repeat refine qaa ?_
  by_cases h2:2*i+2<n
  ·have hdec:decide (2*(i:Int)+1+1<(n:Int))=true:=decide_eq_true (by omega)
   simp only [hdec,gvtt]
   repeat refine qaa ?_
   refine qar (u:=h) rfl rfl (hw.box0 inferInstance rfl) (qcF (i:=2*i+2) (j:=2*i+1) (rsO hw) (by omega) (by omega) (by omega) (by omega)) ?_
   rintro _ w' ⟨rfl,hk⟩
   replace hw:=hw.call0 hk
   clear hk
   cases hL:ilt (hg tItem.dflt ys (2*i+2)) (hg tItem.dflt ys (2*i+1)) with
   | true =>
    refine⟨_,rfl,?_⟩
    repeat refine qaY ?_
    refine qb0 [9,34] (G:=Nat) (fun j=>[(9,.int .i64 j)]) (fun j w=>(j=2*i+1∨j=2*i+2)∧j<n∧(∀ c,0<c→c<n→(c-1) / 2=i→hle ilt (hg tItem.dflt ys j) (hg tItem.dflt ys c))∧Sat w0 w (OS tItem 269 h ys::Box q 267 [h]::Γ)) (fun _=>rfl) ?_ ?_
    ·repeat refine qaa ?_
     refine⟨2*i+2,⟨?_,trivial⟩,agr,.inr rfl,h2,fun c h0 h1 hc => ?_,hw⟩
     ·show Value.int .i64 (2*(i:Int)+1+1)=_
      congr 1
     ·have:c=2*i+1∨c=2*i+2:=by omega
      rcases this with rfl|rfl
      ·exact qjr hL
      ·exact qbK _
    ·clear hw
     rintro σ1 j w ⟨hj,hjn,hmin,hw⟩
     repeat refine qaa ?_
     refine qar (u:=h) rfl rfl (hw.box0 inferInstance rfl) (qcF (rsO hw) rfl rfl (show j<ys.length by omega) (show i<ys.length by omega)) ?_
     rintro _ w' ⟨rfl,hk⟩
     replace hw:=hw.call0 hk
     clear hk
     cases hL:ilt (hg tItem.dflt ys j) (hg tItem.dflt ys i) with
     | false =>
      refine⟨_,rfl,?_⟩
      repeat refine qaa ?_
      exact qae (v:=.bool _) rfl rfl ⟨_,ys,rfl,D.done hmin hL,hp,hkeep,hw⟩
     | true =>
      refine⟨_,rfl,?_⟩
      repeat refine qaa ?_
      refine qar (u:=h) rfl rfl (hw.box0 inferInstance rfl) (qcG rfl rfl (show i<ys.length by omega) (show j<ys.length by omega) hw) ?_
      clear hw
      rintro _ w ⟨rfl,hw⟩
      refine⟨_,rfl,?_⟩
      repeat refine qaa ?_
      refine⟨j,_,⟨rfl,trivial⟩,agr,⟨D.step hj hjn hmin hL,by omega,(qbm (by omega) (by omega)).trans hp,fun k hk => ?_,hw⟩,by omega⟩
      rw [qbh (by omega) (by omega),if_neg (by omega),if_neg (by omega)]
      exact hkeep k hk
   | false =>
    refine⟨_,rfl,?_⟩
    repeat refine qaY ?_
    refine qb0 [9,34] (G:=Nat) (fun j=>[(9,.int .i64 j)]) (fun j w=>(j=2*i+1∨j=2*i+2)∧j<n∧(∀ c,0<c→c<n→(c-1) / 2=i→hle ilt (hg tItem.dflt ys j) (hg tItem.dflt ys c))∧Sat w0 w (OS tItem 269 h ys::Box q 267 [h]::Γ)) (fun _=>rfl) ?_ ?_
    ·repeat refine qaa ?_
     refine⟨2*i+1,⟨?_,trivial⟩,agr,.inl rfl,hin',fun c h0 h1 hc => ?_,hw⟩
     ·show Value.int .i64 (2*(i:Int)+1)=_
      congr 1
     ·have:c=2*i+1∨c=2*i+2:=by omega
      rcases this with rfl|rfl
      ·exact qbK _
      ·exact hL
    ·clear hw
     rintro σ1 j w ⟨hj,hjn,hmin,hw⟩
     repeat refine qaa ?_
     refine qar (u:=h) rfl rfl (hw.box0 inferInstance rfl) (qcF (rsO hw) rfl rfl (show j<ys.length by omega) (show i<ys.length by omega)) ?_
     rintro _ w' ⟨rfl,hk⟩
     replace hw:=hw.call0 hk
     clear hk
     cases hL:ilt (hg tItem.dflt ys j) (hg tItem.dflt ys i) with
     | false =>
      refine⟨_,rfl,?_⟩
      repeat refine qaa ?_
      exact qae (v:=.bool _) rfl rfl ⟨_,ys,rfl,D.done hmin hL,hp,hkeep,hw⟩
     | true =>
      refine⟨_,rfl,?_⟩
      repeat refine qaa ?_
      refine qar (u:=h) rfl rfl (hw.box0 inferInstance rfl) (qcG rfl rfl (show i<ys.length by omega) (show j<ys.length by omega) hw) ?_
      clear hw
      rintro _ w ⟨rfl,hw⟩
      refine⟨_,rfl,?_⟩
      repeat refine qaa ?_
      refine⟨j,_,⟨rfl,trivial⟩,agr,⟨D.step hj hjn hmin hL,by omega,(qbm (by omega) (by omega)).trans hp,fun k hk => ?_,hw⟩,by omega⟩
      rw [qbh (by omega) (by omega),if_neg (by omega),if_neg (by omega)]
      exact hkeep k hk
  ·have hdec:decide (2*(i:Int)+1+1<(n:Int))=false:=decide_eq_false (by omega)
   simp only [hdec]
   repeat refine qaY ?_
   refine qb0 [9,34] (G:=Nat) (fun j=>[(9,.int .i64 j)]) (fun j w=>(j=2*i+1∨j=2*i+2)∧j<n∧(∀ c,0<c→c<n→(c-1) / 2=i→hle ilt (hg tItem.dflt ys j) (hg tItem.dflt ys c))∧Sat w0 w (OS tItem 269 h ys::Box q 267 [h]::Γ)) (fun _=>rfl) ?_ ?_
   ·repeat refine qaa ?_
    refine⟨2*i+1,⟨?_,trivial⟩,agr,.inl rfl,hin',fun c h0 h1 hc => ?_,hw⟩
    ·show Value.int .i64 (2*(i:Int)+1)=_
     congr 1
    ·have:c=2*i+1:=by omega
     subst this;exact qbK _
   ·clear hw
    rintro σ1 j w ⟨hj,hjn,hmin,hw⟩
    repeat refine qaa ?_
    refine qar (u:=h) rfl rfl (hw.box0 inferInstance rfl) (qcF (rsO hw) rfl rfl (show j<ys.length by omega) (show i<ys.length by omega)) ?_
    rintro _ w' ⟨rfl,hk⟩
    replace hw:=hw.call0 hk
    clear hk
    cases hL:ilt (hg tItem.dflt ys j) (hg tItem.dflt ys i) with
    | false =>
     refine⟨_,rfl,?_⟩
     repeat refine qaa ?_
     exact qae (v:=.bool _) rfl rfl ⟨_,ys,rfl,D.done hmin hL,hp,hkeep,hw⟩
    | true =>
     refine⟨_,rfl,?_⟩
     repeat refine qaa ?_
     refine qar (u:=h) rfl rfl (hw.box0 inferInstance rfl) (qcG rfl rfl (show i<ys.length by omega) (show j<ys.length by omega) hw) ?_
     clear hw
     rintro _ w ⟨rfl,hw⟩
     refine⟨_,rfl,?_⟩
     repeat refine qaa ?_
     refine⟨j,_,⟨rfl,trivial⟩,agr,⟨D.step hj hjn hmin hL,by omega,(qbm (by omega) (by omega)).trans hp,fun k hk => ?_,hw⟩,by omega⟩
     rw [qbh (by omega) (by omega),if_neg (by omega),if_neg (by omega)]
     exact hkeep k hk
set_option maxRecDepth 8000 in
theorem qdJ {w0 w:World}{Γ:List HP}{q:Addr}{h:Value}{xs:List Item}{v:Item}(H:IsHeap tItem.dflt ilt xs) (hb:xs.length<1048576) (hw:Sat w0 w (OS tItem 269 h xs::Box q 267 [h]::Γ)) :
  Calls Tryz.prog 125 #[.iface 265 (.pointer (some q)),.iface 269 (.agg #[.int .i64 v.dist,.int .i64 v.state])] w fun e w'=>e=.returned (.tuple #[])∧∃ h' ys,IsHeap tItem.dflt ilt ys∧ys.Perm (v::xs)∧Sat w0 w' (OS tItem 269 h' ys::Box q 267 [h']::Γ):=by
 refine qab (args:=[.iface 265 (.pointer (some q)),.iface 269 (.agg #[.int .i64 v.dist,.int .i64 v.state])]) mixed Tryz.func125 rfl (by kernel_rfl) (Nat.le_of_ble_eq_true rfl) ?_
 repeat refine qaa ?_
 refine qb4 rfl rfl (qnC (v:=v) (by omega) hw) ?_
 clear hw
 rintro _ w ⟨rfl,h',hw⟩
 refine⟨_,rfl,?_⟩
 repeat refine qaa ?_
 refine qar (u:=h') rfl rfl (hw.box0 inferInstance rfl) (qgU (rsO hw)) ?_
 rintro _ w' ⟨rfl,hk⟩
 replace hw:=hw.call0 hk
 clear hk
 refine⟨_,rfl,?_⟩
 have hl:(xs++[v]).length=xs.length+1:=by simp
 repeat refine qaa ?_
 refine qac rfl (qrK (j:=xs.length) (by rw [hl];omega) (qig H) (by omega) hw) ?_
 clear hw
 rintro _ w ⟨rfl,ys,h1,h2,hw⟩
 refine⟨_,rfl,?_⟩
 repeat refine qaa ?_
 exact qaz rfl ⟨rfl,h',ys,h1,h2.trans (List.perm_append_comm (l₁:=xs) (l₂:=[v])),hw⟩
set_option maxRecDepth 8000 in
theorem qi7 {w0 w:World}{Γ:List HP}{q:Addr}{h:Value}{xs:List Item}(H:IsHeap tItem.dflt ilt xs) (hl:0<xs.length) (hb:xs.length≤1048576) (hw:Sat w0 w (OS tItem 269 h xs::Box q 267 [h]::Γ)) :
  Calls Tryz.prog 126 #[.iface 265 (.pointer (some q))] w fun e w'=>∃ v h' ys,e=.returned (.iface 269 (.agg #[.int .i64 v.dist,.int .i64 v.state]))∧IsHeap tItem.dflt ilt ys∧xs.Perm (v::ys)∧(∀ x∈xs,hle ilt v x)∧Sat w0 w' (OS tItem 269 h' ys::Box q 267 [h']::Γ):=by
 refine qab (args:=[.iface 265 (.pointer (some q))]) mixed Tryz.func126 rfl (by kernel_rfl) (Nat.le_of_ble_eq_true rfl) ?_
 repeat refine qaa ?_
 refine qar (u:=h) rfl rfl (hw.box0 inferInstance rfl) (qgU (rsO hw)) ?_
 rintro _ w' ⟨rfl,hk⟩
 replace hw:=hw.call0 hk
 clear hk
 refine⟨_,rfl,?_⟩
 repeat refine qaa ?_
 refine qar (u:=h) rfl rfl (hw.box0 inferInstance rfl) (qcG (i:=0) (j:=xs.length-1) rfl (by omega) hl (by omega) hw) ?_
 clear hw
 rintro _ w ⟨rfl,hw⟩
 refine⟨_,rfl,?_⟩
 repeat refine qaa ?_
 refine qac rfl (qnD (n:=xs.length-1) (by omega) (qky H hl) (by rw [qe3];exact hb) hw) ?_
 clear hw
 rintro _ w ⟨b,ys,rfl,h1,h2,h3,hw⟩
 have hp:=h2.trans (qbm hl (show xs.length-1<xs.length by omega))
 have hyl:=hp.length_eq
 refine⟨_,rfl,?_⟩
 repeat refine qaa ?_
 refine qb4 rfl rfl (qp7 (by omega) (by omega) hw) ?_
 clear hw
 rintro _ w ⟨rfl,h',hw⟩
 refine⟨_,rfl,?_⟩
 repeat refine qaa ?_
 have hlast:hg tItem.dflt ys (xs.length-1)=hg tItem.dflt xs 0:=by
  rw [h3 _ (Nat.le_refl _),qbh hl (by omega),if_pos rfl]
 obtain⟨hh,hpp⟩:=qii hl hp h1 hlast
 rw [hyl] at hw
 refine qae (v:=.iface 269 ((.agg #[.int .i64 (hg tItem.dflt ys (ys.length-1)).dist,.int .i64 (hg tItem.dflt ys (ys.length-1)).state]))) rfl rfl ⟨hg tItem.dflt xs 0,h',_,by rw [hyl,hlast],hh,hpp,fun x hx=>qih H hx,hw⟩
end Go.Proofs.YtkmbenhffledpaaGreat
