/-
  Contracts of 'estimate.sameEffect' and what compares lists of them.
-/
import Derived.Test.YtggdgcmjcahbbaaGreatDoorWEq
set_option linter.unusedSimpArgs false
set_option linter.unusedVariables false
namespace Go.Proofs.YtggdgcmjcahbbaaGreatDoor
open Go.Sl Go
attribute [local irreducible] vc opsW opsD opV opW PureV ReadV Thn Blk
theorem qaP:(true == false)=false:=rfl
theorem qaQ:(false == true)=false:=rfl
theorem gv_fI (v:Value):gv false v=undef:=by unfold gv;rfl
theorem gv_tI (v:Value):gv true v=v:=qac rfl
theorem qiD {w0 w:World}{Γ:List HP}{v:EffV}{e:Eff}(h:REff w0 v e) (hw:Sat w0 w Γ):REff w v e:=⟨h.var,h.val,h.when.at hw⟩
theorem qjF {w0 w:World}{Γ:List HP}{s:Value}{vs:List EffV}{es:List Eff}(h:REffs w0 s vs es) (hw:Sat w0 w Γ):REffs w s vs es:=⟨h.rs.at hw,h.len,fun i hi=>qiD (h.at_ i hi) hw⟩
theorem qpp {x y:Eff}(h1:x.var=y.var) (h2:x.val=y.val) (h3:x.when=y.when):x=y:=by cases x;cases y;simp_all
set_option maxRecDepth 8000 in
set_option maxHeartbeats 2000000 in
theorem qfm {w0:World}{x y:EffV}{ex ey:Eff}(hx:REff w0 x ex) (hy:REff w0 y ey) :
  Calls Tryz.prog 93 #[.agg (tEff.enc x).toArray,.agg (tEff.enc y).toArray] w0 fun e w'=>(∃ r,e=.returned (.bool r)∧(r=true↔ex=ey))∧Sat w0 w' []:=by
 have ox:=hx.one
 have oy:=hy.one
 have vx:=hx.var
 have vy:=hy.var
 have lx:=hx.val
 have ly:=hy.val
 have hwx:=hx.when
 have hwy:=hy.when
 have hw:=Sat.start w0
 refine qab (args:=[.agg (tEff.enc x).toArray,.agg (tEff.enc y).toArray]) mixed Tryz.func93 rfl (by kernel_rfl) (Nat.le_of_ble_eq_true rfl) ?_
 by_cases h1:x.var=y.var
 rotate_left
 ·have hd1:decide (x.var=y.var)=false:=decide_eq_false h1
  repeat (first|refine qaa ?_|(refine qaf ?_;clear hw;intro p w hw))
  simp only [hd1,beq_self_eq_true,qaP,qaQ,Bool.false_and,Bool.true_and,Bool.not_true,Bool.not_false,Bool.cond_true,Bool.cond_false,gv_fI,gv_tI]
  repeat refine qaa ?_
  exact qae (v:=.bool false) rfl rfl ⟨⟨false,rfl,iffF fun e=>h1 (by rw [vx,vy,e])⟩,hw.sel⟩
 have hd1:decide (x.var=y.var)=true:=decide_eq_true h1
 by_cases h2:x.val=y.val
 rotate_left
 ·have hd2:decide (x.val=y.val)=false:=decide_eq_false h2
  repeat (first|refine qaa ?_|(refine qaf ?_;clear hw;intro p w hw))
  simp only [hd1,hd2,beq_self_eq_true,qaP,qaQ,Bool.false_and,Bool.true_and,Bool.not_true,Bool.not_false,Bool.cond_true,Bool.cond_false,gv_fI,gv_tI]
  repeat refine qaa ?_
  exact qae (v:=.bool false) rfl rfl ⟨⟨false,rfl,iffF fun e=>h2 (by rw [lx,ly,e])⟩,hw.sel⟩
 have hd2:decide (x.val=y.val)=true:=decide_eq_true h2
 repeat (first|refine qaa ?_|(refine qaf ?_;clear hw;intro p w hw))
 simp only [hd1,hd2,beq_self_eq_true,qaP,qaQ,Bool.false_and,Bool.true_and,Bool.not_true,Bool.not_false,Bool.cond_true,Bool.cond_false,gv_fI,gv_tI]
 repeat refine qaa ?_
 refine qad rfl (qcY (hwx.at hw) (hwy.at hw)) ?_
 rintro _ w' ⟨⟨r,rfl,hr⟩,hk'⟩
 replace hw:=hw.call0 hk'
 clear hk'
 refine⟨_,rfl,?_⟩
 repeat refine qaa ?_
 exact qae (v:=.bool r) rfl rfl ⟨⟨r,rfl,hr.trans ⟨fun h=>qpp (by rw [←vx,←vy,h1]) (by rw [←lx,←ly,h2]) h,fun h=>by rw [h]⟩⟩,hw.sel⟩
set_option maxRecDepth 8000 in
set_option maxHeartbeats 2000000 in
theorem qi0 {w0:World}{xa xb:Value}{va vb:List EffV}{A B:List Eff}(hA:REffs w0 xa va A) (hB:REffs w0 xb vb B) :
  Calls Tryz.prog 92 #[xa,xb,.func (.func 93) #[] #[]] w0 fun e w'=>(∃ r,e=.returned (.bool r)∧(r=true↔A=B))∧Sat w0 w' []:=by
 have hAr:=hA.rs
 have hBr:=hB.rs
 have hAl:=hA.len
 have hBl:=hB.len
 have hAb:=hAr.big
 have hBb:=hBr.big
 have hw:=Sat.start w0
 refine qab (args:=[xa,xb,.func (.func 93) #[] #[]]) mixed Tryz.func92 rfl (by kernel_rfl) (Nat.le_of_ble_eq_true rfl) ?_
 repeat refine qaa ?_
 refine go_if (fun h1 => ?_) (fun h1 => ?_)
 ·repeat refine qaa ?_
  exact qae (v:=.bool false) rfl rfl ⟨⟨false,rfl,iffF fun e=>by rw [e] at hAl;omega⟩,hw.sel⟩
 repeat refine qaa ?_
 refine qaj [6,7,8,9,17,18,19,20,21,22,23,24,25,26,27,28,29,30,31] (G:=Nat) (fun i=>[(17,.int .i64 i)]) (fun i w=>i≤A.length∧(∀ m,m<i→A.getD m dEff=B.getD m dEff)∧Sat w0 w []) (fun i=>A.length-i) 0 (fun _=>rfl) ⟨rfl,trivial⟩ ⟨Nat.zero_le _,fun i hi=>absurd hi (Nat.not_lt_zero _),hw.sel⟩ ?_
 clear hw
 rintro σ i w ⟨hi,hno,hw⟩
 repeat refine qaa ?_
 refine go_if (fun h2 => ?_) (fun h2 => ?_)
 ·have hil:i<A.length:=by omega
  have hea:=hA.at_ i hil
  have heb:=hB.at_ i (by omega)
  have oa:=hea.one
  have ob:=heb.one
  repeat (first|refine qaa ?_|(refine qaf ?_;clear hw;intro p w hw)|(refine qag ?_;clear hw;intro w hw))
  refine qbi (cs:=[]) rfl rfl (qfm (qiD hea hw) (qiD heb hw)) ?_
  rintro _ w' ⟨⟨r,rfl,hr⟩,hk'⟩
  replace hw:=hw.call0 hk'
  clear hk'
  refine⟨_,rfl,?_⟩
  cases r
  ·repeat refine qaa ?_
   exact qae (v:=.bool false) rfl rfl ⟨⟨false,rfl,iffF fun e=>by have:=hr.2 (by rw [e]);cases this⟩,hw.sel⟩
  ·repeat refine qaa ?_
   refine⟨i+1,⟨rfl,trivial⟩,agr,⟨by omega,fun m hm => ?_,hw.sel⟩,by omega⟩
   by_cases e:m=i
   ·subst e;exact hr.1 rfl
   ·exact hno m (by omega)
 have hie:i=A.length:=by omega
 subst hie
 repeat refine qaa ?_
 exact qae (v:=.bool true) rfl rfl ⟨⟨true,rfl,iffT (qgb (by omega) hno)⟩,hw.sel⟩
theorem qpX {x y:TOp}(h1:x.name=y.name) (h2:x.cost=y.cost) (h3:x.pre=y.pre) (h4:x.effs=y.effs):x=y:=by cases x;cases y;simp_all
set_option maxRecDepth 8000 in
set_option maxHeartbeats 2000000 in
theorem qi1 {w0:World}{x y:OpV}{ox oy:TOp}(hx:ROp w0 x ox) (hy:ROp w0 y oy) :
  Calls Tryz.prog 73 #[.agg (tOp.enc x).toArray,.agg (tOp.enc y).toArray] w0 fun e w'=>(∃ r,e=.returned (.bool r)∧(r=true↔ox=oy))∧Sat w0 w' []:=by
 have ax:=hx.one
 have ay:=hy.one
 have hw:=Sat.start w0
 refine qab (args:=[.agg (tOp.enc x).toArray,.agg (tOp.enc y).toArray]) mixed Tryz.func73 rfl (by kernel_rfl) (Nat.le_of_ble_eq_true rfl) ?_
 have nx:=hx.name
 have ny:=hy.name
 have kx:=hx.cost
 have ky:=hy.cost
 have px:=hx.pre
 have py:=hy.pre
 obtain⟨ex,hex⟩:=hx.effs
 obtain⟨ey,hey⟩:=hy.effs
 repeat (first|refine qaa ?_|(refine qaf ?_;clear hw;intro p w hw))
 refine qai rfl (qlQ (a:=x.name) (b:=y.name) rfl rfl) ?_
 by_cases h1:x.name=y.name
 rotate_left
 ·have hd1:decide (x.name=y.name)=false:=decide_eq_false h1
  repeat refine qaa ?_
  simp only [hd1,beq_self_eq_true,qaP,qaQ,Bool.false_and,Bool.true_and,Bool.not_true,Bool.not_false,Bool.cond_true,Bool.cond_false,gv_fI,gv_tI]
  repeat refine qaa ?_
  exact qae (v:=.bool false) rfl rfl ⟨⟨false,rfl,iffF fun e=>h1 (by rw [nx,ny,e])⟩,hw.sel⟩
 have hd1:decide (x.name=y.name)=true:=decide_eq_true h1
 by_cases h2:x.cost=y.cost
 rotate_left
 ·have hd2:decide (x.cost=y.cost)=false:=decide_eq_false h2
  repeat refine qaa ?_
  simp only [hd1,hd2,beq_self_eq_true,qaP,qaQ,Bool.false_and,Bool.true_and,Bool.not_true,Bool.not_false,Bool.cond_true,Bool.cond_false,gv_fI,gv_tI]
  repeat refine qaa ?_
  exact qae (v:=.bool false) rfl rfl ⟨⟨false,rfl,iffF fun e=>h2 (by rw [kx,ky,e])⟩,hw.sel⟩
 have hd2:decide (x.cost=y.cost)=true:=decide_eq_true h2
 repeat refine qaa ?_
 simp only [hd1,hd2,beq_self_eq_true,qaP,qaQ,Bool.false_and,Bool.true_and,Bool.not_true,Bool.not_false,Bool.cond_true,Bool.cond_false,gv_fI,gv_tI]
 repeat refine qaa ?_
 refine qad rfl (qcY (px.at hw) (py.at hw)) ?_
 rintro _ w' ⟨⟨r,rfl,hr⟩,hk'⟩
 replace hw:=hw.call0 hk'
 clear hk'
 refine⟨_,rfl,?_⟩
 cases r
 ·repeat refine qaa ?_
  exact qae (v:=.bool false) rfl rfl ⟨⟨false,rfl,iffF fun e=>by have:=hr.2 (by rw [e]);cases this⟩,hw.sel⟩
 repeat refine qaa ?_
 refine qad rfl (qi0 (qjF hex hw) (qjF hey hw)) ?_
 rintro _ w' ⟨⟨r2,rfl,hr2⟩,hk'⟩
 replace hw:=hw.call0 hk'
 clear hk'
 refine⟨_,rfl,?_⟩
 repeat refine qaa ?_
 exact qae (v:=.bool r2) rfl rfl ⟨⟨r2,rfl,hr2.trans ⟨fun h=>qpX (by rw [←nx,←ny,h1]) (by rw [←kx,←ky,h2]) (hr.1 rfl) h,fun h=>by rw [h]⟩⟩,hw.sel⟩
set_option maxRecDepth 8000 in
set_option maxHeartbeats 2000000 in
theorem qkU {w0:World}{xa xb:Value}{va vb:List OpV}{A B:List TOp}(hA:ROps w0 xa va A) (hB:ROps w0 xb vb B) :
  Calls Tryz.prog 72 #[xa,xb,.func (.func 73) #[] #[]] w0 fun e w'=>(∃ r,e=.returned (.bool r)∧(r=true↔A=B))∧Sat w0 w' []:=by
 have hAr:=hA.rs
 have hBr:=hB.rs
 have hAl:=hA.len
 have hBl:=hB.len
 have hAb:=hAr.big
 have hBb:=hBr.big
 have hw:=Sat.start w0
 refine qab (args:=[xa,xb,.func (.func 73) #[] #[]]) mixed Tryz.func72 rfl (by kernel_rfl) (Nat.le_of_ble_eq_true rfl) ?_
 repeat refine qaa ?_
 refine go_if (fun h1 => ?_) (fun h1 => ?_)
 ·repeat refine qaa ?_
  exact qae (v:=.bool false) rfl rfl ⟨⟨false,rfl,iffF fun e=>by rw [e] at hAl;omega⟩,hw.sel⟩
 repeat refine qaa ?_
 refine qaj [6,7,8,9,17,18,19,20,21,22,23,24,25,26,27,28,29,30,31] (G:=Nat) (fun i=>[(17,.int .i64 i)]) (fun i w=>i≤A.length∧(∀ m,m<i→A.getD m dOp=B.getD m dOp)∧Sat w0 w []) (fun i=>A.length-i) 0 (fun _=>rfl) ⟨rfl,trivial⟩ ⟨Nat.zero_le _,fun i hi=>absurd hi (Nat.not_lt_zero _),hw.sel⟩ ?_
 clear hw
 rintro σ i w ⟨hi,hno,hw⟩
 repeat refine qaa ?_
 refine go_if (fun h2 => ?_) (fun h2 => ?_)
 ·have hil:i<A.length:=by omega
  have hea:=hA.at_ i hil
  have heb:=hB.at_ i (by omega)
  have oa:=hea.one
  have ob:=heb.one
  repeat (first|refine qaa ?_|(refine qaf ?_;clear hw;intro p w hw)|(refine qag ?_;clear hw;intro w hw))
  refine qbi (cs:=[]) rfl rfl (qi1 (hea.at hw) (heb.at hw)) ?_
  rintro _ w' ⟨⟨r,rfl,hr⟩,hk'⟩
  replace hw:=hw.call0 hk'
  clear hk'
  refine⟨_,rfl,?_⟩
  cases r
  ·repeat refine qaa ?_
   exact qae (v:=.bool false) rfl rfl ⟨⟨false,rfl,iffF fun e=>by have:=hr.2 (by rw [e]);cases this⟩,hw.sel⟩
  ·repeat refine qaa ?_
   refine⟨i+1,⟨rfl,trivial⟩,agr,⟨by omega,fun m hm => ?_,hw.sel⟩,by omega⟩
   by_cases e:m=i
   ·subst e;exact hr.1 rfl
   ·exact hno m (by omega)
 have hie:i=A.length:=by omega
 subst hie
 repeat refine qaa ?_
 exact qae (v:=.bool true) rfl rfl ⟨⟨true,rfl,iffT (qgb (by omega) hno)⟩,hw.sel⟩
theorem qnT {x y:TTask}(h1:x.vars=y.vars) (h2:x.init=y.init) (h3:x.goal=y.goal) (h4:x.ops=y.ops):x=y:=by cases x;cases y;simp_all
set_option maxRecDepth 8000 in
set_option maxHeartbeats 2000000 in
theorem qh2 {w0:World}{a b c d a2 b2 c2 d2:Value}{vs us:List OpV}{t u:TTask}(ht:RTask w0 a b c d vs t) (hu:RTask w0 a2 b2 c2 d2 us u) :
  Calls Tryz.prog 44 #[.agg #[a,b,c,d],.agg #[a2,b2,c2,d2]] w0 fun e w'=>(∃ r,e=.returned (.bool r)∧(r=true↔t=u))∧Sat w0 w' []:=by
 have ht':=ht
 have hu':=hu
 obtain⟨ha,hb,hc,hd⟩:=ht
 obtain⟨ha2,hb2,hc2,hd2⟩:=hu
 have hw:=Sat.start w0
 refine qab (args:=[.agg #[a,b,c,d],.agg #[a2,b2,c2,d2]]) mixed Tryz.func44 rfl (by kernel_rfl) (Nat.le_of_ble_eq_true rfl) ?_
 repeat (first|refine qaa ?_|(refine qaf ?_;clear hw;intro p w hw))
 refine qad rfl (qff (ha.at hw) (ha2.at hw)) ?_
 rintro _ w' ⟨⟨r,rfl,hr⟩,hk'⟩
 replace hw:=hw.call0 hk'
 clear hk'
 refine⟨_,rfl,?_⟩
 cases r
 ·repeat refine qaa ?_
  exact qae (v:=.bool false) rfl rfl ⟨⟨false,rfl,iffF fun e=>by have:=hr.2 (by rw [e]);cases this⟩,hw.sel⟩
 repeat refine qaa ?_
 refine qad rfl (qff (hb.at hw) (hb2.at hw)) ?_
 rintro _ w' ⟨⟨r2,rfl,hr2⟩,hk'⟩
 replace hw:=hw.call0 hk'
 clear hk'
 refine⟨_,rfl,?_⟩
 cases r2
 ·repeat refine qaa ?_
  exact qae (v:=.bool false) rfl rfl ⟨⟨false,rfl,iffF fun e=>by have:=hr2.2 (by rw [e]);cases this⟩,hw.sel⟩
 repeat refine qaa ?_
 refine qad rfl (qcY (hc.at hw) (hc2.at hw)) ?_
 rintro _ w' ⟨⟨r3,rfl,hr3⟩,hk'⟩
 replace hw:=hw.call0 hk'
 clear hk'
 refine⟨_,rfl,?_⟩
 cases r3
 ·repeat refine qaa ?_
  exact qae (v:=.bool false) rfl rfl ⟨⟨false,rfl,iffF fun e=>by have:=hr3.2 (by rw [e]);cases this⟩,hw.sel⟩
 repeat refine qaa ?_
 refine qad rfl (qkU (hd.at hw) (hd2.at hw)) ?_
 rintro _ w' ⟨⟨r4,rfl,hr4⟩,hk'⟩
 replace hw:=hw.call0 hk'
 clear hk'
 refine⟨_,rfl,?_⟩
 repeat refine qaa ?_
 exact qae (v:=.bool r4) rfl rfl ⟨⟨r4,rfl,hr4.trans ⟨fun h=>qnT (hr.1 rfl) (hr2.1 rfl) (hr3.1 rfl) h,fun h=>by rw [h]⟩⟩,hw.sel⟩
end Go.Proofs.YtggdgcmjcahbbaaGreatDoor
