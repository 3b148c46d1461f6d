/-
  Contract of 'relax.New' for a right task and no costs of its own.
-/
import Derived.Test.YtggdgcmjcahbbaaGreatDoorWRlxN
import Derived.Test.YtggdgcmjcahbbaaGreatDoorWEst
set_option linter.unusedSimpArgs false
set_option linter.unusedVariables false
namespace Go.Proofs.YtggdgcmjcahbbaaGreatDoor
open Go.Sl Go
attribute [local irreducible] vc opsW opsD opV opW PureV ReadV Thn Blk
structure RRlx (w:World) (pr:Addr) (t:TTask):Prop where
 ex:∃ a c fv uv nv frv us ss,BoxR w pr [a,.slice none 0 0,c,.slice none 0 0,fv,.int .i64 (factN t:Int),uv,nv,frv]∧RS tInt w a t.vars∧RS tFact w c t.goal∧RS tInt w fv (fstL t.vars t.vars.length)∧RS tUn w uv us∧us.length=(unT t).length∧UnF us (unT t) w∧RS tVal w nv ss∧ss.length=factN t∧(∀ f,f<factN t→RS tInt w (vget ss f) (nedL (unT t) f))∧RS tInt w frv (freL (unT t))
set_option maxRecDepth 8000 in
set_option maxHeartbeats 8000000 in
theorem qmV {w0:World}{a b c d:Value}{vs:List OpV}{t:TTask}(ht:RTask w0 a b c d vs t) (hg:GoodT t) :
  Calls Tryz.prog 42 #[.agg #[a,b,c,d],.slice none 0 0] w0 fun e w'=>∃ p,e=.returned (.tuple #[.pointer (some p),.nilIface])∧Sat w0 w' [RdH fun w=>RRlx w p t]:=by
 have ht':=ht
 obtain⟨ha,hb,hc,hd⟩:=ht
 have hdr:=hd.rs
 have hdl:=hd.len
 have hvl:=hg.vars
 have hol:=hg.ops
 have hgl:=qaO hg.goal
 have hw:=Sat.start w0
 refine qab (args:=[.agg #[a,b,c,d],.slice none 0 0]) mixed Tryz.func42 rfl (by kernel_rfl) (Nat.le_of_ble_eq_true rfl) ?_
 repeat (first|refine qaa ?_|(refine qaf ?_;clear hw;intro p w hw))
 obtain⟨pt,hpt⟩:∃ pt,pt=p:=⟨p,rfl⟩
 subst hpt
 refine qad rfl (qa5 (ht'.at hw)) ?_
 rintro _ w' ⟨rfl,hk'⟩
 replace hw:=hw.call0 hk'
 clear hk'
 refine⟨_,rfl,?_⟩
 rw [qat ((qaM t).2 hg)]
 replace hw:=hw.nil (T:=tInt) (e:=3)
 have hz:(([]:List Int).length:Int)=0:=rfl
 repeat refine qaa ?_
 refine qaj [4,5,8,36,37,38,39,40,41,42,43,44,45,46,47] (G:=Unit) (fun _=>[(36,.int .i64 0)]) (fun _ w=>Sat w0 w [OS tInt 3 (.slice none 0 0) [],Box pt 26 [a,b,c,d]]) (fun _=>0) () (fun _=>rfl) ⟨rfl,trivial⟩ hw ?_
 clear hw
 rintro σ _ w hw
 repeat refine qaa ?_
 replace hw:=hw.tail
 refine qaD [.op 0,.op 1,.op 3,.op 4,.op 2,.chk 4,.op 5,.op 6,.op 7,.op 8,.op 9] hw (by kernel_rfl) ?_;clear hw;intro w hw
 repeat refine qaa ?_
 refine qad rfl (qaE (ha.at hw) (by omega)) ?_
 rintro _ w' ⟨a2,rfl,hk'⟩
 replace hw:=hw.call1 hk'
 clear hk'
 refine⟨_,rfl,?_⟩
 repeat refine qaa ?_
 refine qad rfl (qfi (hc.at hw) (by omega)) ?_
 rintro _ w' ⟨c2,rfl,hk'⟩
 replace hw:=hw.call1 hk'
 clear hk'
 refine⟨_,rfl,?_⟩
 repeat refine qaa ?_
 have oa:=(rsO (s:=a2) hw).one
 have oc:=(rsO (s:=c2) hw).one
 refine qbT (v1:=a2) (v2:=c2) rfl rfl rfl (by simp only [List.all_cons,List.all_nil,oa,oc];rfl) ?_
 repeat refine qaa ?_
 refine qeG (vs:=[(0,.agg #[a2,.slice none 0 0,c2,.slice none 0 0])]) (ls:=[(0,[a2,.slice none 0 0,c2,.slice none 0 0])]) rfl rfl rfl ?_
 repeat (first|refine qaa ?_|(refine qaf ?_;clear hw;intro p w hw))
 obtain⟨pr,hpr⟩:∃ pr,pr=p:=⟨p,rfl⟩
 subst hpr
 replace hw:Sat w0 w [Box pr 134 [a2,.slice none 0 0,c2,.slice none 0 0,.slice none 0 0,.int .i64 0,.slice none 0 0,.slice none 0 0,.slice none 0 0],OS tFact 88 c2 t.goal,OS tInt 3 a2 t.vars,Box pt 26 [a,b,c,d]]:=hw
 replace hw:=hw.nil (T:=tInt) (e:=3)
 refine qao [11,60,61,62,63,64,65,66,67,68,69,70,71,72,73,74,75,76,77,78,79,80,81,82,83,84,85] (G:=Nat) (H:=Value) (fun k _=>[(60,.int .i64 k)]) (fun k fv w=>k≤t.vars.length∧Sat w0 w [OS tInt 3 fv (fstL t.vars k),Box pr 134 [a2,.slice none 0 0,c2,.slice none 0 0,fv,.int .i64 (firstV t.vars k),.slice none 0 0,.slice none 0 0,.slice none 0 0],OS tFact 88 c2 t.goal,OS tInt 3 a2 t.vars,Box pt 26 [a,b,c,d]]) (fun k _=>t.vars.length-k) 0 (.slice none 0 0) (fun _ _=>rfl) ⟨rfl,trivial⟩ ⟨Nat.zero_le _,hw⟩ ?_
 clear hw
 rintro σ k fv w ⟨hk,hw⟩
 have hfl:=qgM t.vars k
 repeat refine qaa ?_
 refine go_if (fun h1 => ?_) (fun h1 => ?_)
 ·have hkl:k<t.vars.length:=by omega
  have hdk:=hg.dom k hkl
  have hf0:=qcj hg.pos (b:=k) (by omega)
  have hf1:=qdp (fun i hi=>(hg.dom i hi).2) (b:=k) (by omega)
  repeat refine qaa ?_
  refine qaD [.op 0,.op 1,.op 2,.op 3,.op 4,.op 5,.op 6,.op 7,.op 8,.op 9,.chk 4,.op 10,.op 11,.op 12,.op 13] hw (by kernel_rfl) ?_;clear hw;intro w hw
  repeat (first|refine qaa ?_|(refine qas ?_;clear hw;intro w hw)|(refine qap ?_;clear hw;intro s w hw))
  rw [←qms,←qbC hkl] at hw
  exact⟨k+1,s,⟨rfl,trivial⟩,agr,⟨by omega,hw.tail⟩,by omega⟩
 have hke:k=t.vars.length:=by omega
 subst hke
 rw [←qdq hg] at hw
 have hN:=qjD hg
 repeat (first|refine qaa ?_|(refine qas ?_;clear hw;intro w hw)|(refine qap ?_;clear hw;intro s w hw))
 obtain⟨nv,hnv⟩:∃ nv,nv=s:=⟨s,rfl⟩
 subst hnv
 have hw1:Sat w0 w (RowsAt tInt 3 (List.replicate (factN t) (.slice none 0 0)) (nedR (unK t 0) (factN t))::OS tVal 22 nv (List.replicate (factN t) (.slice none 0 0))::Box pr 134 [a2,.slice none 0 0,c2,.slice none 0 0,fv,.int .i64 (factN t:Int),(.slice none 0 0),nv,(.slice none 0 0)]::OS tInt 3 fv (fstL t.vars t.vars.length)::OS tUn 138 (.slice none 0 0) ([]:List UnV)::RdH (UnF ([]:List UnV) (unK t 0))::OS tInt 3 (.slice none 0 0) (freL (unK t 0))::OS tInt 3 (.slice none 0 0) []::OS tFact 88 c2 t.goal::OS tInt 3 a2 t.vars::[Box pt 26 [a,b,c,d]]):=by
  rw [Int.toNat_natCast] at hw
  have g1:Sat w0 w [OS tVal 22 nv (List.replicate (factN t) (.slice none 0 0)),OS tInt 3 fv (fstL t.vars t.vars.length),Box pr 134 [a2,.slice none 0 0,c2,.slice none 0 0,fv,.int .i64 (factN t:Int),.slice none 0 0,nv,.slice none 0 0],OS tFact 88 c2 t.goal,OS tInt 3 a2 t.vars,Box pt 26 [a,b,c,d]]:=hw
  have g2:=Sat.rd0 (φ:=UnF [] []) (fun w i hi=>absurd hi (Nat.not_lt_zero _)) ((((g1.nil (T:=tInt) (e:=3)).nil (T:=tInt) (e:=3)).nil (T:=tUn) (e:=138)).rowsNil (T:=tInt) (e:=3) (factN t))
  have hu0:unK t 0=[]:=by simp [unK]
  rw [←qoa] at g2
  rw [hu0,qod]
  exact g2.selG
 clear hw
 have hw:=hw1
 clear hw1
 refine qaj [12,13,14,15,16,97,98,99,100,101,102,103,104,105,106,107,108,109,110,111,112,113,114,115,116,117,118,119,120,121,122,123,124,125,126,127,128,129,130,131,132,133,134,135,136,137] (G:=Nat) (fun k=>[(97,.int .i64 k)]) (fun k w=>k≤t.ops.length∧∃ uv frv us ss,us.length=(unK t k).length∧Sat w0 w (RowsAt tInt 3 ss (nedR (unK t k) (factN t))::OS tVal 22 nv ss::Box pr 134 [a2,.slice none 0 0,c2,.slice none 0 0,fv,.int .i64 (factN t:Int),uv,nv,frv]::OS tInt 3 fv (fstL t.vars t.vars.length)::OS tUn 138 uv us::RdH (UnF us (unK t k))::OS tInt 3 frv (freL (unK t k))::OS tInt 3 (.slice none 0 0) []::OS tFact 88 c2 t.goal::OS tInt 3 a2 t.vars::[Box pt 26 [a,b,c,d]])) (fun k=>t.ops.length-k) 0 (fun _=>rfl) ⟨rfl,trivial⟩ ⟨Nat.zero_le _,_,_,_,_,rfl,hw⟩ ?_
 clear hw
 rintro σ1 k w ⟨hk,uv,frv,us,ss,hul,hw⟩
 repeat refine qaa ?_
 refine go_if (fun h2 => ?_) (fun h2 => ?_)
 ·have hkl:k<t.ops.length:=by omega
  have hop:=hd.at_ k hkl
  have hone:=hop.one
  have hpre:=hop.pre
  have hgo:=hg.op k hkl
  have hpl:=qaO hgo.pre
  have hel:=hgo.effs
  obtain⟨es,hes⟩:=hop.effs
  have hesr:=hes.rs
  have hesl:=hes.len
  repeat (first|refine qaa ?_|(refine qaf ?_;clear hw;intro p w hw)|(refine qas ?_;clear hw;intro w hw))
  obtain⟨p13,hp13⟩:∃ p13,p13=p:=⟨p,rfl⟩
  subst hp13
  have hw1:Sat w0 w (RowsAt tInt 3 ss (nedR (unK t k++unO t.vars k (t.ops.getD k dOp) 0) (factN t))::OS tVal 22 nv ss::Box pr 134 [a2,.slice none 0 0,c2,.slice none 0 0,fv,.int .i64 (factN t:Int),uv,nv,frv]::OS tInt 3 fv (fstL t.vars t.vars.length)::OS tUn 138 uv us::RdH (UnF us (unK t k++unO t.vars k (t.ops.getD k dOp) 0))::OS tInt 3 frv (freL (unK t k++unO t.vars k (t.ops.getD k dOp) 0))::Box p13 49 (tOp.enc (eget tOp vs k))::OS tInt 3 (.slice none 0 0) []::OS tFact 88 c2 t.goal::OS tInt 3 a2 t.vars::[Box pt 26 [a,b,c,d]]):=by
   have hu0:unO t.vars k (t.ops.getD k dOp) 0=[]:=rfl
   rw [hu0,List.append_nil]
   exact hw.selG
  clear hw
  have hw:=hw1
  clear hw1
  refine qaj [15,16,114,115,116,117,118,119,120,121,122,123,124,125,126,127,128,129,130,131,132,133,134,135,136] (G:=Nat) (fun j=>[(114,.int .i64 j)]) (fun j w=>j≤(t.ops.getD k dOp).effs.length∧∃ uv frv us ss,us.length=(unK t k++unO t.vars k (t.ops.getD k dOp) j).length∧Sat w0 w (RowsAt tInt 3 ss (nedR (unK t k++unO t.vars k (t.ops.getD k dOp) j) (factN t))::OS tVal 22 nv ss::Box pr 134 [a2,.slice none 0 0,c2,.slice none 0 0,fv,.int .i64 (factN t:Int),uv,nv,frv]::OS tInt 3 fv (fstL t.vars t.vars.length)::OS tUn 138 uv us::RdH (UnF us (unK t k++unO t.vars k (t.ops.getD k dOp) j))::OS tInt 3 frv (freL (unK t k++unO t.vars k (t.ops.getD k dOp) j))::Box p13 49 (tOp.enc (eget tOp vs k))::OS tInt 3 (.slice none 0 0) []::OS tFact 88 c2 t.goal::OS tInt 3 a2 t.vars::[Box pt 26 [a,b,c,d]])) (fun j=>(t.ops.getD k dOp).effs.length-j) 0 (fun _=>rfl) ⟨rfl,trivial⟩ ⟨Nat.zero_le _,_,_,_,_,by rw [show unO t.vars k (t.ops.getD k dOp) 0=[] from rfl,List.append_nil];exact hul,hw⟩ ?_
  clear hw hul
  clear uv frv us ss
  rintro σ2 j w ⟨hj,uv,frv,us,ss,hul,hw⟩
  repeat refine qaa ?_
  refine go_if (fun h3 => ?_) (fun h3 => ?_)
  ·have hjl:j<(t.ops.getD k dOp).effs.length:=by omega
   have hue:=hes.at_ j hjl
   have hgf:=hgo.eff j hjl
   have hueo:=hue.one
   have hwh:=hue.when
   repeat (first|refine qaa ?_|(refine qaf ?_;clear hw;intro p w hw)|(refine qas ?_;clear hw;intro w hw))
   obtain⟨p16,hp16⟩:∃ p16,p16=p:=⟨p,rfl⟩
   subst hp16
   refine qaD [.op 0,.op 1,.op 2,.op 3,.op 4,.op 5,.op 6,.op 7,.op 8,.op 12,.op 13,.op 14,.op 15,.op 9,.chk 13,.chk 15,.op 10,.chk 13,.chk 15,.op 11,.chk 13,.chk 15,.op 16] hw (by kernel_rfl) ?_;clear hw;intro w hw
   repeat refine qaa ?_
   have hfo:FactOk t.vars ⟨(eget tEff es j).var,(eget tEff es j).val⟩:=by rw [hue.var,hue.val];exact qaL hgf
   refine qad rfl (qcm (f:=⟨(eget tEff es j).var,(eget tEff es j).val⟩) (boxRO (p:=pr) hw) (rsO (s:=fv) hw) hg.pos (fun i hi=>(hg.dom i hi).2) hvl hfo) ?_
   rintro _ w' ⟨rfl,hk'⟩
   replace hw:=hw.call0 hk'
   clear hk'
   refine⟨_,rfl,?_⟩
   repeat refine qaa ?_
   refine qlZ (v1:=.int .i64 (k:Int)) (v2:=.int .i64 (j:Int)) (v3:=.int .i64 (eget tOp vs k).cost) (v4:=.int .i64 (numF t.vars ⟨(eget tEff es j).var,(eget tEff es j).val⟩)) rfl rfl rfl rfl rfl rfl ?_
   repeat refine qaa ?_
   have hwp:RS tFact w0 (eget tOp vs k).pre (t.ops.getD k dOp).pre:=hpre
   have hkp:∀ f∈(t.ops.getD k dOp).pre,FactOk t.vars f:=fun f hf=>by
    obtain⟨i,hi,rfl⟩:=List.getElem_of_mem hf
    have:=(hgo.pre i hi).1
    rwa [qak hi] at this
   have hkw:∀ f∈((t.ops.getD k dOp).effs.getD j dEff).when,FactOk t.vars f:=fun f hf=>by
    obtain⟨i,hi,rfl⟩:=List.getElem_of_mem hf
    have:=(hgf.1 i hi).1
    rwa [qak hi] at this
   have hwl:=qaO hgf.1
   have hUl:(unK t k++unO t.vars k (t.ops.getD k dOp) j).length≤1048576:=by
    have h5:=qiC hg (k:=k) (by omega)
    rw [List.length_append,ql1];omega
   have hw1:Sat w0 w' (RowsAt tInt 3 ss (nedR (unK t k++unO t.vars k (t.ops.getD k dOp) j) (factN t))::OS tVal 22 nv ss::Box pr 134 [a2,.slice none 0 0,c2,.slice none 0 0,fv,.int .i64 (factN t:Int),uv,nv,frv]::OS tInt 3 fv (fstL t.vars t.vars.length)::OS tUn 138 uv us::RdH (UnF us (unK t k++unO t.vars k (t.ops.getD k dOp) j))::OS tInt 3 frv (freL (unK t k++unO t.vars k (t.ops.getD k dOp) j))::Box p16 90 (tEff.enc (eget tEff es j))::Box p13 49 (tOp.enc (eget tOp vs k))::OS tInt 3 (.slice none 0 0) []::OS tFact 88 c2 t.goal::OS tInt 3 a2 t.vars::[Box pt 26 [a,b,c,d]]):=hw.selG
   refine qad rfl (qmK (l1:=(t.ops.getD k dOp).pre) (l2:=((t.ops.getD k dOp).effs.getD j dEff).when) (vars:=t.vars) (N:=factN t) hg.pos (fun i hi=>(hg.dom i hi).2) hvl (qdq hg) hN hUl hwp hwh hkp hkw (by omega) (by omega) hul hw1) ?_
   clear hw hw1
   rintro _ w ⟨rfl,uv2,frv2,us2,ss2,hul2,hw⟩
   refine⟨_,rfl,?_⟩
   have hue1:=hue.var
   have hue2:=hue.val
   have hco:=hop.cost
   rw [hue1,hue2,hco,List.append_assoc,show Un.mk (k:Int) (j:Int) (t.ops.getD k dOp).cost (numF t.vars ⟨((t.ops.getD k dOp).effs.getD j dEff).var,((t.ops.getD k dOp).effs.getD j dEff).val⟩) (needsL t.vars ((t.ops.getD k dOp).effs.getD j dEff).when (needsL t.vars (t.ops.getD k dOp).pre []))=unE t.vars k (t.ops.getD k dOp) j from rfl,←qnO] at hw hul2
   repeat refine qaa ?_
   exact⟨j+1,⟨rfl,trivial⟩,agr,⟨by omega,uv2,frv2,us2,ss2,hul2,hw.selG⟩,by omega⟩
  have hje:j=(t.ops.getD k dOp).effs.length:=by omega
  subst hje
  rw [←qjC] at hw hul
  repeat refine qaa ?_
  exact⟨k+1,⟨rfl,trivial⟩,agr,⟨by omega,uv,frv,us,ss,hul,hw.selG⟩,by omega⟩
 have hke:k=t.ops.length:=by omega
 subst hke
 have hssl:ss.length=factN t:=by rw [hw.rowsLen,qgN]
 repeat refine qaa ?_
 have hw2:=Sat.rd (Δ:=[RowsAt tInt 3 ss (nedR (unK t t.ops.length) (factN t)),OS tVal 22 nv ss,Box pr 134 [a2,.slice none 0 0,c2,.slice none 0 0,fv,.int .i64 (factN t:Int),uv,nv,frv],OS tInt 3 fv (fstL t.vars t.vars.length),OS tUn 138 uv us,RdH (UnF us (unK t t.ops.length)),OS tInt 3 frv (freL (unK t t.ops.length)),OS tInt 3 (.slice none 0 0) [],OS tFact 88 c2 t.goal,OS tInt 3 a2 t.vars]) (φ:=fun w=>RRlx w pr t) (fun _ w h=>by
  refine⟨a2,c2,fv,uv,nv,frv,us,ss,h.boxR 2 rfl,h.rs 9 rfl,h.rs 8 rfl,h.rs 3 rfl,h.rs 4 rfl,hul,h.rdE 5 rfl,h.rs 1 rfl,hssl,fun f hf => ?_,h.rs 6 rfl⟩
  have h3:Sat _ w [RowsAt tInt 3 ss (nedR (unK t t.ops.length) (factN t))]:=h.sel
  have h4:=h3.row (i:=f) (by rw [qgN];exact hf)
  rw [qpB hf] at h4
  exact h4) hw
 exact qaq (v:=.pointer (some pr)) (v':=.nilIface) rfl rfl rfl ⟨pr,rfl,hw2.sel⟩
end Go.Proofs.YtggdgcmjcahbbaaGreatDoor
