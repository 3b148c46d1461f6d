/-
  The statement 'EstimatePatterns' returns true.
-/
import Derived.Test.YtggdgcmjcahbbaaGreatDoorWCanE
import Derived.Test.YtggdgcmjcahbbaaGreatDoorWSatE
import Derived.Test.YtggdgcmjcahbbaaGreatDoorWSome
import Derived.Test.YtggdgcmjcahbbaaGreatDoorWI47
set_option linter.unusedSimpArgs false
set_option linter.unusedVariables false
namespace Go.Proofs.YtggdgcmjcahbbaaGreatDoor
open Go.Sl Go
attribute [local irreducible] vc opsW opsD opV opW PureV ReadV Thn Blk
theorem dTrueP {h:Decidable True}:@decide True h=true:=decide_eq_true trivial
set_option maxRecDepth 8000 in
set_option maxHeartbeats 4000000 in
theorem qgV {w0:World}{a b c d:Value}{vs:List OpV}{t:TTask}{size:Int}(ht:RTask w0 a b c d vs t) (hs:SmallT t) :
  Calls Tryz.prog 6 #[.agg #[a,b,c,d],.int .i64 size] w0 fun e w'=>∃ ov,e=.returned (.tuple #[ov,.nilIface])∧Sat w0 w' [RdH fun w=>∃ ss,RLs w ov ss (chsL t size)]:=by
 have hg:=hs.good
 have hsl:=qgt (t:=t) hs.vars (m:=clip3 size) (by unfold clip3;omega)
 have hc3:clip3 size≤3:=by unfold clip3;omega
 have hw:=Sat.start w0
 refine qab (args:=[.agg #[a,b,c,d],.int .i64 size]) mixed Tryz.func6 rfl (by kernel_rfl) (Nat.le_of_ble_eq_true rfl) ?_
 repeat (first|refine qaa ?_|(refine qaf ?_;clear hw;intro p w hw))
 obtain⟨pt,hpt⟩:∃ pt,pt=p:=⟨p,rfl⟩
 subst hpt
 refine qad rfl (qcl (ht.at hw) hg hs.vars) ?_
 rintro _ w' ⟨lv,os,rfl,hk'⟩
 replace hw:=hw.call2 hk'
 clear hk'
 refine⟨_,rfl,?_⟩
 have hol:os.length=(sysL t (clip3 size)).length:=hw.rowsLen
 replace hw:=hw.nil (T:=tVal) (e:=22)
 repeat refine qaa ?_
 have hw1:Sat w0 w' [OS tVal 22 (.slice none 0 0) (os.take (min 0 32)),RowsAt tInt 3 os (sysL t (clip3 size)),OS tVal 22 lv os,Box pt 26 [a,b,c,d]]:=hw
 refine qao [8,10,11,12,24,25,26,27,28,29,30,31,32,33,34,35,36,37,38,39,40,41,42,43,44,45] (G:=Nat) (H:=Value) (fun k ov=>[(24,.int .i64 k),(8,ov)]) (fun k ov w=>k≤os.length∧Sat w0 w [OS tVal 22 ov (os.take (min k 32)),RowsAt tInt 3 os (sysL t (clip3 size)),OS tVal 22 lv os,Box pt 26 [a,b,c,d]]) (fun k _=>os.length-k) 0 (.slice none 0 0) (fun _ _=>rfl) ⟨rfl,rfl,trivial⟩ ⟨Nat.zero_le _,hw1⟩ ?_
 clear hw hw1
 rintro σ k ov w ⟨hk,hw⟩
 have htl:(os.take (min k 32)).length=min k 32:=by rw [List.length_take];omega
 repeat refine qaa ?_
 refine go_if (fun h1 => ?_) (fun h1 => ?_)
 ·have hkl:k<os.length:=by omega
  have hkm:k<(sysL t (clip3 size)).length:=by omega
  have hrow:=hw.swap.row hkm
  have he1:pErr t ((sysL t (clip3 size)).getD k [])=0:=(qdc hs (qgU (by rw [qak hkm];exact List.getElem_mem hkm))).1
  obtain⟨L,hL⟩:∃ L,L=(sysL t (clip3 size)).getD k []:=⟨_,rfl⟩
  rw [←hL] at he1 hrow
  repeat refine qaa ?_
  refine qad rfl (qcn (vp:=vget os k) (L:=L) (ht.at hw) hrow) ?_
  rintro _ w' ⟨cv,ev,gv,rfl,hk'⟩
  rw [he1,qdM] at hk'
  rw [he1,qat rfl,qdM,qiP]
  have hw2:=hw.call hk'
  clear hk' hw
  have hw:=hw2
  clear hw2
  refine⟨_,rfl,?_⟩
  have o1:=(hw.rs 0 rfl).one
  have o2:=(hw.rs 1 rfl).one
  have o3:=(hw.rs 2 rfl).one
  repeat (first|refine qaa ?_|(refine qaf ?_;clear hw;intro p w hw))
  refine qaB (n:=5) (p:=p) (vs:=[.int .i64 (cntL t.vars L),.int .i64 (idxL t.vars L t.init),cv,ev,gv]) rfl rfl hw inferInstance rfl rfl (by simp only [List.all_cons,List.all_nil,o1,o2,o3];rfl) ?_
  clear hw
  intro w hw
  by_cases h32:k<32
  ·have hm1:min k 32=k:=by omega
   have hm2:min (k+1) 32=k+1:=by omega
   have hd:decide (((os.take (min k 32)).length:Int)<32)=true:=decide_eq_true (by omega)
   repeat refine qaa ?_
   simp only [hd,beq_self_eq_true,qaP,qaQ,Bool.false_and,Bool.true_and,Bool.false_or,Bool.true_or,Bool.not_true,Bool.not_false,Bool.cond_true,Bool.cond_false,gv_fI,gv_tI]
   repeat (first|refine qaa ?_|(refine qap ?_;clear hw;intro s w hw))
   obtain⟨ov2,hov2⟩:∃ ov2,ov2=s:=⟨s,rfl⟩
   subst hov2
   rw [hm1,←qf2 hkl,←hm2] at hw
   exact⟨k+1,ov2,⟨rfl,rfl,trivial⟩,agr,⟨by omega,hw.tail.tail.tail.tail.tail⟩,by omega⟩
  ·have hm:min (k+1) 32=min k 32:=by omega
   have hd:decide (((os.take (min k 32)).length:Int)<32)=false:=decide_eq_false (by omega)
   repeat refine qaa ?_
   simp only [hd,beq_self_eq_true,qaP,qaQ,Bool.false_and,Bool.true_and,Bool.false_or,Bool.true_or,Bool.not_true,Bool.not_false,Bool.cond_true,Bool.cond_false,gv_fI,gv_tI]
   repeat refine qaa ?_
   rw [←hm] at hw
   exact⟨k+1,ov,⟨rfl,rfl,trivial⟩,agr,⟨by omega,hw.tail.tail.tail.tail⟩,by omega⟩
 repeat refine qaa ?_
 have hke:os.take (min k 32)=os.take 32:=by
  by_cases h:os.length≤32
  ·rw [List.take_of_length_le (by omega),List.take_of_length_le h]
  ·rw [show min k 32=32 by omega]
 rw [hke] at hw
 exact qaq (v:=ov) (v':=.nilIface) rfl rfl rfl ⟨ov,rfl,(Sat.rd (Δ:=[OS tVal 22 ov (os.take 32),RowsAt tInt 3 os (sysL t (clip3 size)),OS tVal 22 lv os,Box pt 26 [a,b,c,d]]) (Γ:=[]) (φ:=fun w=>∃ ss,RLs w ov ss (chsL t size)) (fun _ _ h=>qiS h) hw).only⟩
set_option maxRecDepth 8000 in
set_option maxHeartbeats 8000000 in
theorem qb7 {w0:World}{a b c d:Value}{vs:List OpV}{t:TTask}{size:Int}(ht:RTask w0 a b c d vs t) (hT:TabB w0) :
  Calls Tryz.prog 3 #[.agg #[a,b,c,d],.int .i64 size] w0 fun e w'=>e=.returned (.bool true)∧Sat w0 w' []:=by
 have hvb:=ht.vars.big
 have hw:=Sat.start w0
 refine qab (args:=[.agg #[a,b,c,d],.int .i64 size]) mixed Tryz.func3 rfl (by kernel_rfl) (Nat.le_of_ble_eq_true rfl) ?_
 repeat (first|refine qaa ?_|(refine qaf ?_;clear hw;intro p w hw))
 obtain⟨pt,hpt⟩:∃ pt,pt=p:=⟨p,rfl⟩
 subst hpt
 refine qad rfl (qkN (ht.at hw)) ?_
 rintro _ w' ⟨⟨r,rfl,hr⟩,hk'⟩
 replace hw:=hw.call0 hk'
 clear hk'
 refine⟨_,rfl,?_⟩
 have hvr:=ht.vars
 cases r
 ·repeat refine qaa ?_
  refine qad rfl qcq ?_
  rintro _ w' ⟨rfl,hk'⟩
  replace hw:=hw.call0 hk'
  clear hk'
  refine⟨_,rfl,?_⟩
  repeat refine qaa ?_
  exact qae (v:=.bool true) rfl rfl ⟨rfl,qbr hw⟩
 have hs:=hr.1 rfl
 have hg:=hs.good
 by_cases h6:(6:Int)<(t.vars.length:Int)
 ·have hd:decide ((6:Int)<(t.vars.length:Int))=true:=decide_eq_true h6
  repeat refine qaa ?_
  simp only [hd,beq_self_eq_true,qaP,qaQ,Bool.false_and,Bool.true_and,Bool.false_or,Bool.true_or,Bool.not_true,Bool.not_false,Bool.cond_true,Bool.cond_false,gv_fI,gv_tI]
  repeat refine qaa ?_
  refine qad rfl qcq ?_
  rintro _ w' ⟨rfl,hk'⟩
  replace hw:=hw.call0 hk'
  clear hk'
  refine⟨_,rfl,?_⟩
  repeat refine qaa ?_
  exact qae (v:=.bool true) rfl rfl ⟨rfl,qbr hw⟩
 have hd:decide ((6:Int)<(t.vars.length:Int))=false:=decide_eq_false h6
 repeat refine qaa ?_
 simp only [hd,beq_self_eq_true,qaP,qaQ,Bool.false_and,Bool.true_and,Bool.false_or,Bool.true_or,Bool.not_true,Bool.not_false,Bool.cond_true,Bool.cond_false,gv_fI,gv_tI]
 repeat refine qaa ?_
 refine qad rfl qcq ?_
 rintro _ w' ⟨rfl,hk'⟩
 replace hw:=hw.call0 hk'
 clear hk'
 refine⟨_,rfl,?_⟩
 replace hw:Sat w0 w' [Box pt 26 [a,b,c,d]]:=hw
 repeat refine qaa ?_
 refine qad rfl (qgV (ht.at hw) hs) ?_
 rintro _ w' ⟨lc,rfl,hk'⟩
 replace hw:=hw.call1 hk'
 clear hk'
 refine⟨_,rfl,?_⟩
 rcases ql7 (size:=size) hs with hE|⟨hE,hP⟩
 ·repeat refine qaa ?_
  refine qad rfl (qcN (size:=size) (ht.at hw) hs (hT.at hw)) ?_
  rintro _ w' (⟨_,rfl,hk'⟩|⟨_,_,_,_,hC,_⟩)
  rotate_left
  ·have:=hC.pats.cerr;omega
  replace hw:=hw.call0 hk'
  clear hk'
  refine⟨_,rfl,?_⟩
  have hev:errV 10=.iface 74 (.int .i64 10):=qan (by decide)
  rw [hev]
  repeat refine qaa ?_
  refine qad rfl (qcr (size:=size) (ht.at hw) hs) ?_
  rintro _ w' ⟨pb,Ds1,Ps1,rfl,hR1,hk'⟩
  replace hw:=hw.call1 hk'
  clear hk'
  refine⟨_,rfl,?_⟩
  repeat refine qaa ?_
  obtain⟨ls2,hls2⟩:=hw.rdE 1 rfl
  refine qad rfl (qdO (ht.at hw) hls2 (hT.at hw)) ?_
  rintro _ w' (⟨h1,rfl,hk'⟩|⟨h1,_⟩|⟨h1,_⟩)
  rotate_left
  ·omega
  ·omega
  replace hw:=hw.call0 hk'
  clear hk'
  refine⟨_,rfl,?_⟩
  rw [hE,hev]
  repeat refine qaa ?_
  obtain⟨ls3,hls3⟩:=hw.rdE 1 rfl
  refine qad rfl (qgW (ht.at hw) hls3 (fun _ _ _ i hi=>qcL hs hi)) ?_
  rintro _ w' (⟨h1,_⟩|⟨_,_,_,_,pd,Ds2,Ps2,rfl,hR2,hk'⟩)
  ·exact absurd (qgT hs) h1
  replace hw:=hw.call1 hk'
  clear hk'
  refine⟨_,rfl,?_⟩
  repeat refine qaa ?_
  refine qad rfl (hev ▸ qbI (10)) ?_
  rintro _ w' ⟨rfl,hk'⟩
  replace hw:=hw.call0 hk'
  clear hk'
  refine⟨_,rfl,?_⟩
  repeat refine qaa ?_
  refine qad rfl (hev ▸ qbI (10)) ?_
  rintro _ w' ⟨rfl,hk'⟩
  replace hw:=hw.call0 hk'
  clear hk'
  refine⟨_,rfl,?_⟩
  repeat refine qaa ?_
  refine qad rfl (qat rfl ▸ qbI (0)) ?_
  rintro _ w' ⟨rfl,hk'⟩
  replace hw:=hw.call0 hk'
  clear hk'
  refine⟨_,rfl,?_⟩
  repeat refine qaa ?_
  refine qad rfl (qat rfl ▸ qbI (0)) ?_
  rintro _ w' ⟨rfl,hk'⟩
  replace hw:=hw.call0 hk'
  clear hk'
  refine⟨_,rfl,?_⟩
  repeat refine qaa ?_
  refine qad rfl (qfk (ht.at hw) hs) ?_
  rintro _ w' ⟨ov,os,ss,Zs,rfl,hZ,hZl,hZ0,hk'⟩
  replace hw:=hw.call2 hk'
  clear hk'
  refine⟨_,rfl,?_⟩
  have hosl:=hZ.1
  replace hw:Sat w0 w' [RowsAt tInt 3 ss (statesL t.vars),OS tVal 22 ov os,RdH (fun w=>RPt w pd t (chsL t size) Ds2 Ps2),RdH (fun w=>REst w pb t (satH t (chsL t size) Ds1)),Box pt 26 [a,b,c,d]]:=hw.selG
  repeat refine qaa ?_
  refine qaj [4,16,78,79,80,81,82,83,84,85,86,87,88,89,90,91,92,93,94,95,96,97,98,99,100,101,102,103,104,105,106] (G:=Nat) (fun k=>[(78,.int .i64 k)]) (fun k w=>k≤Zs.length∧Sat w0 w [RowsAt tInt 3 ss (statesL t.vars),OS tVal 22 ov os,RdH (fun w=>RPt w pd t (chsL t size) Ds2 Ps2),RdH (fun w=>REst w pb t (satH t (chsL t size) Ds1)),Box pt 26 [a,b,c,d]]) (fun k=>Zs.length-k) 0 (fun _=>rfl) ⟨rfl,trivial⟩ ⟨Nat.zero_le _,hw⟩ ?_
  clear hw
  rintro σ k w ⟨hk,hw⟩
  repeat refine qaa ?_
  refine go_if (fun h1 => ?_) (fun h1 => ?_)
  ·have hkl:k<Zs.length:=by omega
   have hok:=hZ.ok hg hkl
   have hrs:∀ {Γ:List HP}(w:World),Sat w0 w (RowsAt tInt 3 ss (statesL t.vars)::Γ)→RS tInt w (vget os k) (Zs.getD k []):=fun w h=>hZ.rs ht.init h hkl
   obtain⟨z,hz⟩:∃ z,z=Zs.getD k []:=⟨_,rfl⟩
   rw [←hz] at hok hrs
   obtain⟨m1,hm1⟩:∃ m1,m1=valPt t (chsL t size) Ds1 z:=⟨_,rfl⟩
   have hv1:estV t (satH t (chsL t size) Ds1) z=m1:=by rw [estV,if_pos hok,qiR hok,hm1]
   have hv2:valPt t (chsL t size) Ds2 z=m1:=by rw [hm1,(hR1.unique hR2).1]
   repeat refine qaa ?_
   refine qad rfl (qaS (hw.rdE 3 rfl) (hrs _ hw)) ?_
   rintro _ w' ⟨rfl,hk'⟩
   replace hw:=hw.call0 hk'
   clear hk'
   refine⟨_,rfl,?_⟩
   rw [hv1]
   repeat refine qaa ?_
   refine qad rfl (qc1 (hw.rdE 2 rfl) hR2 (qcK t size) (fun _ hi=>qcL hs hi) (hrs _ hw)) ?_
   rintro _ w' ⟨rfl,hk'⟩
   replace hw:=hw.call0 hk'
   clear hk'
   refine⟨_,rfl,?_⟩
   rw [hv2]
   have hd1:decide (m1=m1)=true:=decide_eq_true rfl
   repeat refine qaa ?_
   simp only [hd1,dTrueP,beq_self_eq_true,qaP,qaQ,Bool.false_and,Bool.true_and,Bool.false_or,Bool.true_or,Bool.not_true,Bool.not_false,Bool.cond_true,Bool.cond_false,gv_fI,gv_tI]
   repeat refine qaa ?_
   exact⟨k+1,⟨rfl,trivial⟩,agr,⟨by omega,hw⟩,by omega⟩
  repeat refine qaa ?_
  exact qae (v:=.bool true) rfl rfl ⟨rfl,qbr hw⟩
 repeat refine qaa ?_
 refine qad rfl (qcN (size:=size) (ht.at hw) hs (hT.at hw)) ?_
 rintro _ w' (⟨h1,_⟩|⟨pa,Ds3,Cs3,rfl,hC1,hk'⟩)
 ·omega
 replace hw:=hw.call1 hk'
 clear hk'
 refine⟨_,rfl,?_⟩
 repeat refine qaa ?_
 refine qad rfl (qcr (size:=size) (ht.at hw) hs) ?_
 rintro _ w' ⟨pb,Ds1,Ps1,rfl,hR1,hk'⟩
 replace hw:=hw.call1 hk'
 clear hk'
 refine⟨_,rfl,?_⟩
 repeat refine qaa ?_
 obtain⟨ls2,hls2⟩:=hw.rdE 2 rfl
 refine qad rfl (qjl (ht.at hw) hls2 (hT.at hw) hP) ?_
 rintro _ w' ⟨pc,Ds4,Cs4,rfl,hC2,hk'⟩
 replace hw:=hw.call1 hk'
 clear hk'
 refine⟨_,rfl,?_⟩
 repeat refine qaa ?_
 obtain⟨ls3,hls3⟩:=hw.rdE 3 rfl
 refine qad rfl (qgW (ht.at hw) hls3 (fun _ _ _ i hi=>qcL hs hi)) ?_
 rintro _ w' (⟨h1,_⟩|⟨_,_,_,_,pd,Ds2,Ps2,rfl,hR2,hk'⟩)
 ·exact absurd (qgT hs) h1
 replace hw:=hw.call1 hk'
 clear hk'
 refine⟨_,rfl,?_⟩
 repeat refine qaa ?_
 refine qad rfl (qat rfl ▸ qbI (0)) ?_
 rintro _ w' ⟨rfl,hk'⟩
 replace hw:=hw.call0 hk'
 clear hk'
 refine⟨_,rfl,?_⟩
 repeat refine qaa ?_
 refine qad rfl (qat rfl ▸ qbI (0)) ?_
 rintro _ w' ⟨rfl,hk'⟩
 replace hw:=hw.call0 hk'
 clear hk'
 refine⟨_,rfl,?_⟩
 repeat refine qaa ?_
 refine qad rfl (qat rfl ▸ qbI (0)) ?_
 rintro _ w' ⟨rfl,hk'⟩
 replace hw:=hw.call0 hk'
 clear hk'
 refine⟨_,rfl,?_⟩
 repeat refine qaa ?_
 refine qad rfl (qat rfl ▸ qbI (0)) ?_
 rintro _ w' ⟨rfl,hk'⟩
 replace hw:=hw.call0 hk'
 clear hk'
 refine⟨_,rfl,?_⟩
 repeat refine qaa ?_
 refine qad rfl (qfk (ht.at hw) hs) ?_
 rintro _ w' ⟨ov,os,ss,Zs,rfl,hZ,hZl,hZ0,hk'⟩
 replace hw:=hw.call2 hk'
 clear hk'
 refine⟨_,rfl,?_⟩
 have hosl:=hZ.1
 replace hw:Sat w0 w' [RowsAt tInt 3 ss (statesL t.vars),OS tVal 22 ov os,RdH (fun w=>RPt w pd t (chsL t size) Ds2 Ps2),RdH (fun w=>REst w pb t (satH t (chsL t size) Ds1)),RdH (fun w=>RCan w pc t (chsL t size) Ds4 Cs4),RdH (fun w=>REst w pa t (canH t (chsL t size) Ds3 Cs3)),Box pt 26 [a,b,c,d]]:=hw.selG
 repeat refine qaa ?_
 refine qaj [4,16,78,79,80,81,82,83,84,85,86,87,88,89,90,91,92,93,94,95,96,97,98,99,100,101,102,103,104,105,106] (G:=Nat) (fun k=>[(78,.int .i64 k)]) (fun k w=>k≤Zs.length∧Sat w0 w [RowsAt tInt 3 ss (statesL t.vars),OS tVal 22 ov os,RdH (fun w=>RPt w pd t (chsL t size) Ds2 Ps2),RdH (fun w=>REst w pb t (satH t (chsL t size) Ds1)),RdH (fun w=>RCan w pc t (chsL t size) Ds4 Cs4),RdH (fun w=>REst w pa t (canH t (chsL t size) Ds3 Cs3)),Box pt 26 [a,b,c,d]]) (fun k=>Zs.length-k) 0 (fun _=>rfl) ⟨rfl,trivial⟩ ⟨Nat.zero_le _,hw⟩ ?_
 clear hw
 rintro σ k w ⟨hk,hw⟩
 repeat refine qaa ?_
 refine go_if (fun h1 => ?_) (fun h1 => ?_)
 ·have hkl:k<Zs.length:=by omega
  have hok:=hZ.ok hg hkl
  have hrs:∀ {Γ:List HP}(w:World),Sat w0 w (RowsAt tInt 3 ss (statesL t.vars)::Γ)→RS tInt w (vget os k) (Zs.getD k []):=fun w h=>hZ.rs ht.init h hkl
  obtain⟨z,hz⟩:∃ z,z=Zs.getD k []:=⟨_,rfl⟩
  rw [←hz] at hok hrs
  obtain⟨m1,hm1⟩:∃ m1,m1=valPt t (chsL t size) Ds1 z:=⟨_,rfl⟩
  have hv1:estV t (satH t (chsL t size) Ds1) z=m1:=by rw [estV,if_pos hok,qiR hok,hm1]
  have hv2:valPt t (chsL t size) Ds2 z=m1:=by rw [hm1,(hR1.unique hR2).1]
  obtain⟨m2,hm2⟩:∃ m2,m2=canV t (chsL t size) Ds3 Cs3 z:=⟨_,rfl⟩
  have hv3:estV t (canH t (chsL t size) Ds3 Cs3) z=m2:=by rw [estV,if_pos hok,ql6 hok,hm2]
  have hv4:canV t (chsL t size) Ds4 Cs4 z=m2:=by rw [hm2];exact (hC1.uniq hC2 hok).symm
  repeat refine qaa ?_
  refine qad rfl (qaS (hw.rdE 5 rfl) (hrs _ hw)) ?_
  rintro _ w' ⟨rfl,hk'⟩
  replace hw:=hw.call0 hk'
  clear hk'
  refine⟨_,rfl,?_⟩
  rw [hv3]
  repeat refine qaa ?_
  refine qad rfl (qfn (hw.rdE 4 rfl) hC2 (hrs _ hw) hok) ?_
  rintro _ w' ⟨rfl,hk'⟩
  replace hw:=hw.call0 hk'
  clear hk'
  refine⟨_,rfl,?_⟩
  rw [hv4]
  have hd2:decide (m2=m2)=true:=decide_eq_true rfl
  repeat refine qaa ?_
  simp only [hd2,dTrueP,beq_self_eq_true,qaP,qaQ,Bool.false_and,Bool.true_and,Bool.false_or,Bool.true_or,Bool.not_true,Bool.not_false,Bool.cond_true,Bool.cond_false,gv_fI,gv_tI]
  repeat refine qaa ?_
  refine qad rfl (qaS (hw.rdE 3 rfl) (hrs _ hw)) ?_
  rintro _ w' ⟨rfl,hk'⟩
  replace hw:=hw.call0 hk'
  clear hk'
  refine⟨_,rfl,?_⟩
  rw [hv1]
  repeat refine qaa ?_
  refine qad rfl (qc1 (hw.rdE 2 rfl) hR2 (qcK t size) (fun _ hi=>qcL hs hi) (hrs _ hw)) ?_
  rintro _ w' ⟨rfl,hk'⟩
  replace hw:=hw.call0 hk'
  clear hk'
  refine⟨_,rfl,?_⟩
  rw [hv2]
  have hd1:decide (m1=m1)=true:=decide_eq_true rfl
  repeat refine qaa ?_
  simp only [hd1,dTrueP,beq_self_eq_true,qaP,qaQ,Bool.false_and,Bool.true_and,Bool.false_or,Bool.true_or,Bool.not_true,Bool.not_false,Bool.cond_true,Bool.cond_false,gv_fI,gv_tI]
  repeat refine qaa ?_
  exact⟨k+1,⟨rfl,trivial⟩,agr,⟨by omega,hw⟩,by omega⟩
 repeat refine qaa ?_
 exact qae (v:=.bool true) rfl rfl ⟨rfl,qbr hw⟩
end Go.Proofs.YtggdgcmjcahbbaaGreatDoor
