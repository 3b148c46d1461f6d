/-
  Several texts as one: WSameT, WTRank, WEst, WSucC.
-/
import Derived.Test.YtdadmnlenbdfbaaGreatMW3
import Derived.Test.YtdadmnlenbdfbaaGreatMW1
import Derived.Test.YtdadmnlenbdfbaaGreatMTA
import Derived.Test.YtdadmnlenbdfbaaGreatMSlB
set_option linter.unusedSimpArgs false
set_option linter.unusedVariables false
/-
  Contracts of 'estimate.sameEffect' and what compares lists of them.
-/
namespace Go.Proofs.YtdadmnlenbdfbaaGreat
open Go.Sl Go
attribute [local irreducible] vc opsW opsD opV opW PureV ReadV Thn Blk
theorem qbu:(true == false)=false:=rfl
theorem qbv:(false == true)=false:=rfl
theorem gv_fI (v:Value):gv false v=undef:=by unfold gv;rfl
theorem gv_tI (v:Value):gv true v=v:=qah rfl
theorem qgu {w0 w:World}{Γ:List HP}{v:EffV}{e:Eff}(h:REff w0 v e) (hw:Sat w0 w Γ):REff w v e:=⟨h.var,h.val,h.when.at hw⟩
theorem qhn {w0 w:World}{Γ:List HP}{s:Value}{vs:List EffV}{es:List Eff}(h:REffs w0 s vs es) (hw:Sat w0 w Γ):REffs w s vs es:=⟨h.rs.at hw,h.len,fun i hi=>qgu (h.at_ i hi) hw⟩
theorem qlW {x y:Eff}(h1:x.var=y.var) (h2:x.val=y.val) (h3:x.when=y.when):x=y:=by cases x;cases y;simp_all
set_option maxRecDepth 8000 in
set_option maxHeartbeats 2000000 in
theorem qeq {w0:World}{x y:EffV}{ex ey:Eff}(hx:REff w0 x ex) (hy:REff w0 y ey) :
  Calls Tryz.prog 78 #[.agg (tEff.enc x).toArray,.agg (tEff.enc y).toArray] w0 fun e w'=>(∃ r,e=.returned (.bool r)∧(r=true↔ex=ey))∧Sat w0 w' []:=by
 have ox:=hx.one
 have oy:=hy.one
 have vx:=hx.var
 have vy:=hy.var
 have lx:=hx.val
 have ly:=hy.val
 have hwx:=hx.when
 have hwy:=hy.when
 have hw:=Sat.start w0
 refine qaf (args:=[.agg (tEff.enc x).toArray,.agg (tEff.enc y).toArray]) mixed Tryz.func78 rfl (by kernel_rfl) (Nat.le_of_ble_eq_true rfl) ?_
 by_cases h1:x.var=y.var
 rotate_left
 ·have hd1:decide (x.var=y.var)=false:=decide_eq_false h1
  repeat (first|refine qac ?_|(refine qaa ?_;clear hw;intro p w hw)|(refine qae ?_;clear hw;intro w hw)|(refine qab ?_;clear hw;intro s w hw))
  simp only [hd1,beq_self_eq_true,qbu,qbv,Bool.false_and,Bool.true_and,Bool.not_true,Bool.not_false,Bool.cond_true,Bool.cond_false,gv_fI,gv_tI]
  repeat (first|refine qac ?_|(refine qaa ?_;clear hw;intro p w hw)|(refine qae ?_;clear hw;intro w hw)|(refine qab ?_;clear hw;intro s w hw))
  exact qai (v:=.bool false) rfl rfl ⟨⟨false,rfl,iffF fun e=>h1 (by rw [vx,vy,e])⟩,hw.sel⟩
 have hd1:decide (x.var=y.var)=true:=decide_eq_true h1
 by_cases h2:x.val=y.val
 rotate_left
 ·have hd2:decide (x.val=y.val)=false:=decide_eq_false h2
  repeat (first|refine qac ?_|(refine qaa ?_;clear hw;intro p w hw)|(refine qae ?_;clear hw;intro w hw)|(refine qab ?_;clear hw;intro s w hw))
  simp only [hd1,hd2,beq_self_eq_true,qbu,qbv,Bool.false_and,Bool.true_and,Bool.not_true,Bool.not_false,Bool.cond_true,Bool.cond_false,gv_fI,gv_tI]
  repeat (first|refine qac ?_|(refine qaa ?_;clear hw;intro p w hw)|(refine qae ?_;clear hw;intro w hw)|(refine qab ?_;clear hw;intro s w hw))
  exact qai (v:=.bool false) rfl rfl ⟨⟨false,rfl,iffF fun e=>h2 (by rw [lx,ly,e])⟩,hw.sel⟩
 have hd2:decide (x.val=y.val)=true:=decide_eq_true h2
 repeat (first|refine qac ?_|(refine qaa ?_;clear hw;intro p w hw)|(refine qae ?_;clear hw;intro w hw)|(refine qab ?_;clear hw;intro s w hw))
 simp only [hd1,hd2,beq_self_eq_true,qbu,qbv,Bool.false_and,Bool.true_and,Bool.not_true,Bool.not_false,Bool.cond_true,Bool.cond_false,gv_fI,gv_tI]
 repeat (first|refine qac ?_|(refine qaa ?_;clear hw;intro p w hw)|(refine qae ?_;clear hw;intro w hw)|(refine qab ?_;clear hw;intro s w hw))
 refine qag rfl (qcu (hwx.at hw) (hwy.at hw)) ?_
 rintro _ w' ⟨⟨r,rfl,hr⟩,hk'⟩
 replace hw:=hw.call0 hk'
 clear hk'
 refine⟨_,rfl,?_⟩
 repeat (first|refine qac ?_|(refine qaa ?_;clear hw;intro p w hw)|(refine qae ?_;clear hw;intro w hw)|(refine qab ?_;clear hw;intro s w hw))
 exact qai (v:=.bool r) rfl rfl ⟨⟨r,rfl,hr.trans ⟨fun h=>qlW (by rw [←vx,←vy,h1]) (by rw [←lx,←ly,h2]) h,fun h=>by rw [h]⟩⟩,hw.sel⟩
set_option maxRecDepth 8000 in
set_option maxHeartbeats 2000000 in
theorem qgV {w0:World}{xa xb:Value}{va vb:List EffV}{A B:List Eff}(hA:REffs w0 xa va A) (hB:REffs w0 xb vb B) :
  Calls Tryz.prog 77 #[xa,xb,.func (.func 78) #[] #[]] w0 fun e w'=>(∃ r,e=.returned (.bool r)∧(r=true↔A=B))∧Sat w0 w' []:=by
 have hAr:=hA.rs
 have hBr:=hB.rs
 have hAl:=hA.len
 have hBl:=hB.len
 have hAb:=hAr.big
 have hBb:=hBr.big
 have hw:=Sat.start w0
 refine qaf (args:=[xa,xb,.func (.func 78) #[] #[]]) mixed Tryz.func77 rfl (by kernel_rfl) (Nat.le_of_ble_eq_true rfl) ?_
 repeat (first|refine qac ?_|(refine qaa ?_;clear hw;intro p w hw)|(refine qad ?_;clear hw;intro w hw)|(refine qab ?_;clear hw;intro s w hw))
 refine go_if (fun h1 => ?_) (fun h1 => ?_)
 ·repeat (first|refine qac ?_|(refine qaa ?_;clear hw;intro p w hw)|(refine qad ?_;clear hw;intro w hw)|(refine qab ?_;clear hw;intro s w hw))
  exact qai (v:=.bool false) rfl rfl ⟨⟨false,rfl,iffF fun e=>by rw [e] at hAl;omega⟩,hw.sel⟩
 repeat (first|refine qac ?_|(refine qaa ?_;clear hw;intro p w hw)|(refine qad ?_;clear hw;intro w hw)|(refine qab ?_;clear hw;intro s w hw))
 refine qao [6,7,8,9,17,18,19,20,21,22,23,24,25,26,27,28,29,30,31] (G:=Nat) (fun i=>[(17,.int .i64 i)]) (fun i w=>i≤A.length∧(∀ m,m<i→A.getD m dEff=B.getD m dEff)∧Sat w0 w []) (fun i=>A.length-i) 0 (fun _=>rfl) ⟨rfl,trivial⟩ ⟨Nat.zero_le _,fun i hi=>absurd hi (Nat.not_lt_zero _),hw.sel⟩ ?_
 clear hw
 rintro σ i w ⟨hi,hno,hw⟩
 repeat (first|refine qac ?_|(refine qaa ?_;clear hw;intro p w hw)|(refine qad ?_;clear hw;intro w hw)|(refine qab ?_;clear hw;intro s w hw))
 refine go_if (fun h2 => ?_) (fun h2 => ?_)
 ·have hil:i<A.length:=by omega
  have hea:=hA.at_ i hil
  have heb:=hB.at_ i (by omega)
  have oa:=hea.one
  have ob:=heb.one
  repeat (first|refine qac ?_|(refine qaa ?_;clear hw;intro p w hw)|(refine qad ?_;clear hw;intro w hw)|(refine qab ?_;clear hw;intro s w hw))
  refine qa9 (cs:=[]) rfl rfl (qeq (qgu hea hw) (qgu heb hw)) ?_
  rintro _ w' ⟨⟨r,rfl,hr⟩,hk'⟩
  replace hw:=hw.call0 hk'
  clear hk'
  refine⟨_,rfl,?_⟩
  cases r
  ·repeat (first|refine qac ?_|(refine qaa ?_;clear hw;intro p w hw)|(refine qad ?_;clear hw;intro w hw)|(refine qab ?_;clear hw;intro s w hw))
   exact qai (v:=.bool false) rfl rfl ⟨⟨false,rfl,iffF fun e=>by have:=hr.2 (by rw [e]);cases this⟩,hw.sel⟩
  ·repeat (first|refine qac ?_|(refine qaa ?_;clear hw;intro p w hw)|(refine qad ?_;clear hw;intro w hw)|(refine qab ?_;clear hw;intro s w hw))
   refine⟨i+1,⟨rfl,trivial⟩,agr,⟨by omega,fun m hm => ?_,hw.sel⟩,by omega⟩
   by_cases e:m=i
   ·subst e;exact hr.1 rfl
   ·exact hno m (by omega)
 have hie:i=A.length:=by omega
 subst hie
 repeat (first|refine qac ?_|(refine qaa ?_;clear hw;intro p w hw)|(refine qad ?_;clear hw;intro w hw)|(refine qab ?_;clear hw;intro s w hw))
 exact qai (v:=.bool true) rfl rfl ⟨⟨true,rfl,iffT (qeX (by omega) hno)⟩,hw.sel⟩
theorem qmz {x y:TOp}(h1:x.name=y.name) (h2:x.cost=y.cost) (h3:x.pre=y.pre) (h4:x.effs=y.effs):x=y:=by cases x;cases y;simp_all
set_option maxRecDepth 8000 in
set_option maxHeartbeats 2000000 in
theorem qgW {w0:World}{x y:OpV}{ox oy:TOp}(hx:ROp w0 x ox) (hy:ROp w0 y oy) :
  Calls Tryz.prog 59 #[.agg (tOp.enc x).toArray,.agg (tOp.enc y).toArray] w0 fun e w'=>(∃ r,e=.returned (.bool r)∧(r=true↔ox=oy))∧Sat w0 w' []:=by
 have ax:=hx.one
 have ay:=hy.one
 have hw:=Sat.start w0
 refine qaf (args:=[.agg (tOp.enc x).toArray,.agg (tOp.enc y).toArray]) mixed Tryz.func59 rfl (by kernel_rfl) (Nat.le_of_ble_eq_true rfl) ?_
 have nx:=hx.name
 have ny:=hy.name
 have kx:=hx.cost
 have ky:=hy.cost
 have px:=hx.pre
 have py:=hy.pre
 obtain⟨ex,hex⟩:=hx.effs
 obtain⟨ey,hey⟩:=hy.effs
 repeat (first|refine qac ?_|(refine qaa ?_;clear hw;intro p w hw)|(refine qae ?_;clear hw;intro w hw)|(refine qab ?_;clear hw;intro s w hw))
 refine qaE rfl (qjp (a:=x.name) (b:=y.name) rfl rfl) ?_
 by_cases h1:x.name=y.name
 rotate_left
 ·have hd1:decide (x.name=y.name)=false:=decide_eq_false h1
  repeat (first|refine qac ?_|(refine qaa ?_;clear hw;intro p w hw)|(refine qae ?_;clear hw;intro w hw)|(refine qab ?_;clear hw;intro s w hw))
  simp only [hd1,beq_self_eq_true,qbu,qbv,Bool.false_and,Bool.true_and,Bool.not_true,Bool.not_false,Bool.cond_true,Bool.cond_false,gv_fI,gv_tI]
  repeat (first|refine qac ?_|(refine qaa ?_;clear hw;intro p w hw)|(refine qae ?_;clear hw;intro w hw)|(refine qab ?_;clear hw;intro s w hw))
  exact qai (v:=.bool false) rfl rfl ⟨⟨false,rfl,iffF fun e=>h1 (by rw [nx,ny,e])⟩,hw.sel⟩
 have hd1:decide (x.name=y.name)=true:=decide_eq_true h1
 by_cases h2:x.cost=y.cost
 rotate_left
 ·have hd2:decide (x.cost=y.cost)=false:=decide_eq_false h2
  repeat (first|refine qac ?_|(refine qaa ?_;clear hw;intro p w hw)|(refine qae ?_;clear hw;intro w hw)|(refine qab ?_;clear hw;intro s w hw))
  simp only [hd1,hd2,beq_self_eq_true,qbu,qbv,Bool.false_and,Bool.true_and,Bool.not_true,Bool.not_false,Bool.cond_true,Bool.cond_false,gv_fI,gv_tI]
  repeat (first|refine qac ?_|(refine qaa ?_;clear hw;intro p w hw)|(refine qae ?_;clear hw;intro w hw)|(refine qab ?_;clear hw;intro s w hw))
  exact qai (v:=.bool false) rfl rfl ⟨⟨false,rfl,iffF fun e=>h2 (by rw [kx,ky,e])⟩,hw.sel⟩
 have hd2:decide (x.cost=y.cost)=true:=decide_eq_true h2
 repeat (first|refine qac ?_|(refine qaa ?_;clear hw;intro p w hw)|(refine qae ?_;clear hw;intro w hw)|(refine qab ?_;clear hw;intro s w hw))
 simp only [hd1,hd2,beq_self_eq_true,qbu,qbv,Bool.false_and,Bool.true_and,Bool.not_true,Bool.not_false,Bool.cond_true,Bool.cond_false,gv_fI,gv_tI]
 repeat (first|refine qac ?_|(refine qaa ?_;clear hw;intro p w hw)|(refine qae ?_;clear hw;intro w hw)|(refine qab ?_;clear hw;intro s w hw))
 refine qag rfl (qcu (px.at hw) (py.at hw)) ?_
 rintro _ w' ⟨⟨r,rfl,hr⟩,hk'⟩
 replace hw:=hw.call0 hk'
 clear hk'
 refine⟨_,rfl,?_⟩
 cases r
 ·repeat (first|refine qac ?_|(refine qaa ?_;clear hw;intro p w hw)|(refine qae ?_;clear hw;intro w hw)|(refine qab ?_;clear hw;intro s w hw))
  exact qai (v:=.bool false) rfl rfl ⟨⟨false,rfl,iffF fun e=>by have:=hr.2 (by rw [e]);cases this⟩,hw.sel⟩
 repeat (first|refine qac ?_|(refine qaa ?_;clear hw;intro p w hw)|(refine qae ?_;clear hw;intro w hw)|(refine qab ?_;clear hw;intro s w hw))
 refine qag rfl (qgV (qhn hex hw) (qhn hey hw)) ?_
 rintro _ w' ⟨⟨r2,rfl,hr2⟩,hk'⟩
 replace hw:=hw.call0 hk'
 clear hk'
 refine⟨_,rfl,?_⟩
 repeat (first|refine qac ?_|(refine qaa ?_;clear hw;intro p w hw)|(refine qae ?_;clear hw;intro w hw)|(refine qab ?_;clear hw;intro s w hw))
 exact qai (v:=.bool r2) rfl rfl ⟨⟨r2,rfl,hr2.trans ⟨fun h=>qmz (by rw [←nx,←ny,h1]) (by rw [←kx,←ky,h2]) (hr.1 rfl) h,fun h=>by rw [h]⟩⟩,hw.sel⟩
set_option maxRecDepth 8000 in
set_option maxHeartbeats 2000000 in
theorem qir {w0:World}{xa xb:Value}{va vb:List OpV}{A B:List TOp}(hA:ROps w0 xa va A) (hB:ROps w0 xb vb B) :
  Calls Tryz.prog 58 #[xa,xb,.func (.func 59) #[] #[]] w0 fun e w'=>(∃ r,e=.returned (.bool r)∧(r=true↔A=B))∧Sat w0 w' []:=by
 have hAr:=hA.rs
 have hBr:=hB.rs
 have hAl:=hA.len
 have hBl:=hB.len
 have hAb:=hAr.big
 have hBb:=hBr.big
 have hw:=Sat.start w0
 refine qaf (args:=[xa,xb,.func (.func 59) #[] #[]]) mixed Tryz.func58 rfl (by kernel_rfl) (Nat.le_of_ble_eq_true rfl) ?_
 repeat (first|refine qac ?_|(refine qaa ?_;clear hw;intro p w hw)|(refine qad ?_;clear hw;intro w hw)|(refine qab ?_;clear hw;intro s w hw))
 refine go_if (fun h1 => ?_) (fun h1 => ?_)
 ·repeat (first|refine qac ?_|(refine qaa ?_;clear hw;intro p w hw)|(refine qad ?_;clear hw;intro w hw)|(refine qab ?_;clear hw;intro s w hw))
  exact qai (v:=.bool false) rfl rfl ⟨⟨false,rfl,iffF fun e=>by rw [e] at hAl;omega⟩,hw.sel⟩
 repeat (first|refine qac ?_|(refine qaa ?_;clear hw;intro p w hw)|(refine qad ?_;clear hw;intro w hw)|(refine qab ?_;clear hw;intro s w hw))
 refine qao [6,7,8,9,17,18,19,20,21,22,23,24,25,26,27,28,29,30,31] (G:=Nat) (fun i=>[(17,.int .i64 i)]) (fun i w=>i≤A.length∧(∀ m,m<i→A.getD m dOp=B.getD m dOp)∧Sat w0 w []) (fun i=>A.length-i) 0 (fun _=>rfl) ⟨rfl,trivial⟩ ⟨Nat.zero_le _,fun i hi=>absurd hi (Nat.not_lt_zero _),hw.sel⟩ ?_
 clear hw
 rintro σ i w ⟨hi,hno,hw⟩
 repeat (first|refine qac ?_|(refine qaa ?_;clear hw;intro p w hw)|(refine qad ?_;clear hw;intro w hw)|(refine qab ?_;clear hw;intro s w hw))
 refine go_if (fun h2 => ?_) (fun h2 => ?_)
 ·have hil:i<A.length:=by omega
  have hea:=hA.at_ i hil
  have heb:=hB.at_ i (by omega)
  have oa:=hea.one
  have ob:=heb.one
  repeat (first|refine qac ?_|(refine qaa ?_;clear hw;intro p w hw)|(refine qad ?_;clear hw;intro w hw)|(refine qab ?_;clear hw;intro s w hw))
  refine qa9 (cs:=[]) rfl rfl (qgW (hea.at hw) (heb.at hw)) ?_
  rintro _ w' ⟨⟨r,rfl,hr⟩,hk'⟩
  replace hw:=hw.call0 hk'
  clear hk'
  refine⟨_,rfl,?_⟩
  cases r
  ·repeat (first|refine qac ?_|(refine qaa ?_;clear hw;intro p w hw)|(refine qad ?_;clear hw;intro w hw)|(refine qab ?_;clear hw;intro s w hw))
   exact qai (v:=.bool false) rfl rfl ⟨⟨false,rfl,iffF fun e=>by have:=hr.2 (by rw [e]);cases this⟩,hw.sel⟩
  ·repeat (first|refine qac ?_|(refine qaa ?_;clear hw;intro p w hw)|(refine qad ?_;clear hw;intro w hw)|(refine qab ?_;clear hw;intro s w hw))
   refine⟨i+1,⟨rfl,trivial⟩,agr,⟨by omega,fun m hm => ?_,hw.sel⟩,by omega⟩
   by_cases e:m=i
   ·subst e;exact hr.1 rfl
   ·exact hno m (by omega)
 have hie:i=A.length:=by omega
 subst hie
 repeat (first|refine qac ?_|(refine qaa ?_;clear hw;intro p w hw)|(refine qad ?_;clear hw;intro w hw)|(refine qab ?_;clear hw;intro s w hw))
 exact qai (v:=.bool true) rfl rfl ⟨⟨true,rfl,iffT (qeX (by omega) hno)⟩,hw.sel⟩
theorem qkp {x y:TTask}(h1:x.vars=y.vars) (h2:x.init=y.init) (h3:x.goal=y.goal) (h4:x.ops=y.ops):x=y:=by cases x;cases y;simp_all
set_option maxRecDepth 8000 in
set_option maxHeartbeats 2000000 in
theorem qgg {w0:World}{a b c d a2 b2 c2 d2:Value}{vs us:List OpV}{t u:TTask}(ht:RTask w0 a b c d vs t) (hu:RTask w0 a2 b2 c2 d2 us u) :
  Calls Tryz.prog 34 #[.agg #[a,b,c,d],.agg #[a2,b2,c2,d2]] w0 fun e w'=>(∃ r,e=.returned (.bool r)∧(r=true↔t=u))∧Sat w0 w' []:=by
 have ht':=ht
 have hu':=hu
 obtain⟨ha,hb,hc,hd⟩:=ht
 obtain⟨ha2,hb2,hc2,hd2⟩:=hu
 have hw:=Sat.start w0
 refine qaf (args:=[.agg #[a,b,c,d],.agg #[a2,b2,c2,d2]]) mixed Tryz.func34 rfl (by kernel_rfl) (Nat.le_of_ble_eq_true rfl) ?_
 repeat (first|refine qac ?_|(refine qaa ?_;clear hw;intro p w hw)|(refine qae ?_;clear hw;intro w hw)|(refine qab ?_;clear hw;intro s w hw))
 refine qag rfl (qcv (ha.at hw) (ha2.at hw)) ?_
 rintro _ w' ⟨⟨r,rfl,hr⟩,hk'⟩
 replace hw:=hw.call0 hk'
 clear hk'
 refine⟨_,rfl,?_⟩
 cases r
 ·repeat (first|refine qac ?_|(refine qaa ?_;clear hw;intro p w hw)|(refine qae ?_;clear hw;intro w hw)|(refine qab ?_;clear hw;intro s w hw))
  exact qai (v:=.bool false) rfl rfl ⟨⟨false,rfl,iffF fun e=>by have:=hr.2 (by rw [e]);cases this⟩,hw.sel⟩
 repeat (first|refine qac ?_|(refine qaa ?_;clear hw;intro p w hw)|(refine qae ?_;clear hw;intro w hw)|(refine qab ?_;clear hw;intro s w hw))
 refine qag rfl (qcv (hb.at hw) (hb2.at hw)) ?_
 rintro _ w' ⟨⟨r2,rfl,hr2⟩,hk'⟩
 replace hw:=hw.call0 hk'
 clear hk'
 refine⟨_,rfl,?_⟩
 cases r2
 ·repeat (first|refine qac ?_|(refine qaa ?_;clear hw;intro p w hw)|(refine qae ?_;clear hw;intro w hw)|(refine qab ?_;clear hw;intro s w hw))
  exact qai (v:=.bool false) rfl rfl ⟨⟨false,rfl,iffF fun e=>by have:=hr2.2 (by rw [e]);cases this⟩,hw.sel⟩
 repeat (first|refine qac ?_|(refine qaa ?_;clear hw;intro p w hw)|(refine qae ?_;clear hw;intro w hw)|(refine qab ?_;clear hw;intro s w hw))
 refine qag rfl (qcu (hc.at hw) (hc2.at hw)) ?_
 rintro _ w' ⟨⟨r3,rfl,hr3⟩,hk'⟩
 replace hw:=hw.call0 hk'
 clear hk'
 refine⟨_,rfl,?_⟩
 cases r3
 ·repeat (first|refine qac ?_|(refine qaa ?_;clear hw;intro p w hw)|(refine qae ?_;clear hw;intro w hw)|(refine qab ?_;clear hw;intro s w hw))
  exact qai (v:=.bool false) rfl rfl ⟨⟨false,rfl,iffF fun e=>by have:=hr3.2 (by rw [e]);cases this⟩,hw.sel⟩
 repeat (first|refine qac ?_|(refine qaa ?_;clear hw;intro p w hw)|(refine qae ?_;clear hw;intro w hw)|(refine qab ?_;clear hw;intro s w hw))
 refine qag rfl (qir (hd.at hw) (hd2.at hw)) ?_
 rintro _ w' ⟨⟨r4,rfl,hr4⟩,hk'⟩
 replace hw:=hw.call0 hk'
 clear hk'
 refine⟨_,rfl,?_⟩
 repeat (first|refine qac ?_|(refine qaa ?_;clear hw;intro p w hw)|(refine qae ?_;clear hw;intro w hw)|(refine qab ?_;clear hw;intro s w hw))
 exact qai (v:=.bool r4) rfl rfl ⟨⟨r4,rfl,hr4.trans ⟨fun h=>qkp (hr.1 rfl) (hr2.1 rfl) (hr3.1 rfl) h,fun h=>by rw [h]⟩⟩,hw.sel⟩
end Go.Proofs.YtdadmnlenbdfbaaGreat
/-
  Contracts of 'task.States', 'task.counted', 'task.Rank'.
-/
namespace Go.Proofs.YtdadmnlenbdfbaaGreat
open Go.Sl Go
attribute [local irreducible] vc opsW opsD opV opW PureV ReadV Thn Blk
end Go.Proofs.YtdadmnlenbdfbaaGreat
/-
  Contract of 'estimate.copied': a task that shares no memory with another one.
-/
namespace Go.Proofs.YtdadmnlenbdfbaaGreat
open Go.Sl Go
attribute [local irreducible] vc opsW opsD opV opW PureV ReadV Thn Blk
set_option maxRecDepth 8000 in
theorem qa6 {w0:World}{a:Value}{xs:List Fact}(ha:RS tFact w0 a xs) (hn:xs.length≤1099511627776) :
  Calls Tryz.prog 31 #[a] w0 fun e w'=>∃ s,e=.returned s∧Sat w0 w' [OS tFact 73 s xs]:=by
 have hw:=Sat.start w0
 refine qaf (args:=[a]) mixed Tryz.func31 rfl (by kernel_rfl) (Nat.le_of_ble_eq_true rfl) ?_
 repeat (first|refine qac ?_|(refine qaa ?_;clear hw;intro p w hw)|(refine qad ?_;clear hw;intro w hw)|(refine qab ?_;clear hw;intro s w hw))
 refine qag rfl (qbi ha hn) ?_
 rintro _ w' ⟨s,rfl,hk'⟩
 replace hw:=hw.call1 hk'
 clear hk'
 refine⟨_,rfl,?_⟩
 repeat (first|refine qac ?_|(refine qaa ?_;clear hw;intro p w hw)|(refine qad ?_;clear hw;intro w hw)|(refine qab ?_;clear hw;intro s w hw))
 exact qai (v:=s) rfl rfl ⟨_,rfl,hw⟩
structure EffI (E:List Eff) (us:List EffV) (j:Nat) (es:List EffV):Prop where
 len:es.length=E.length
 fld:∀ i,i<E.length→(eget tEff es i).var=(E.getD i dEff).var∧(eget tEff es i).val=(E.getD i dEff).val
 old:∀ i,j≤i→i<E.length→(eget tEff es i).when=(eget tEff us i).when
def EffW (E:List Eff) (j:Nat) (es:List EffV) (w:World):Prop:=∀ i,i<j→RS tFact w (eget tEff es i).when (E.getD i dEff).when
theorem qfg {α:Type}{T:Ty α}{xs:List α}{i j:Nat}{x:α}(hj:j<xs.length):eget T (xs.set j x) i=if i=j then x else eget T xs i:=by
 rw [qaA,qaA]
 by_cases e:i=j
 ·subst e;rw [if_pos rfl];simp [List.getD,hj]
 ·rw [if_neg e];simp only [List.getD];rw [List.getElem?_set_ne (fun h=>e h.symm)]
theorem EffI.step {E:List Eff}{us es:List EffV}{j:Nat}(h:EffI E us j es) (hj:j<E.length) {s:Value}:EffI E us (j+1) (es.set j ⟨s,(eget tEff es j).var,(eget tEff es j).val⟩):=by
 have hl:=h.len
 refine⟨by simp [hl],fun i hi => ?_,fun i hi hi2 => ?_⟩
 ·rw [qfg (by omega)]
  split
  ·rename_i e;rw [e];exact h.fld j hj
  ·exact h.fld i hi
 ·rw [qfg (by omega),if_neg (by omega)]
  exact h.old i (by omega) hi2
theorem EffW.step {E:List Eff}{es:List EffV}{j:Nat}{w:World}(h:EffW E j es w) (hj:j<es.length) {s:Value}{a b:Int}(hs:RS tFact w s (E.getD j dEff).when):EffW E (j+1) (es.set j ⟨s,a,b⟩) w:=fun i hi=>by
 rw [qfg hj]
 split
 ·rename_i e;subst e;exact hs
 ·exact h i (by omega)
def OpsF (t:TTask) (k:Nat) (ws:List OpV) (w:World):Prop:=∀ i,i<k→ROp w (eget tOp ws i) (t.ops.getD i dOp)
theorem qkS {α:Type}{T:Ty α}{xs:List α}{x:α}{i:Nat}:eget T (xs++[x]) i=if i<xs.length then eget T xs i else if i=xs.length then x else T.dflt:=by
 rw [qaA,qaA]
 by_cases h:i<xs.length
 ·rw [if_pos h];simp [List.getD_eq_getElem?_getD,List.getElem?_append_left h]
 ·rw [if_neg h]
  by_cases e:i=xs.length
  ·subst e;rw [if_pos rfl];simp [List.getD_eq_getElem?_getD]
  ·rw [if_neg e];simp [List.getD_eq_getElem?_getD,List.getElem?_append_right (Nat.le_of_not_lt h),List.getElem?_cons,show ¬i-xs.length=0 by omega]
theorem OpsF.step {t:TTask}{k:Nat}{ws:List OpV}{w:World}{v:OpV}(h:OpsF t k ws w) (hl:ws.length=k) (hv:ROp w v (t.ops.getD k dOp)):OpsF t (k+1) (ws++[v]) w:=fun i hi=>by
 rw [qkS]
 by_cases e:i<k
 ·rw [if_pos (by omega)];exact h i e
 ·have e2:i=k:=by omega
  rw [if_neg (by omega),if_pos (by omega),e2];exact hv
theorem qig {w:World}{s:Value}{us:List EffV}{E:List Eff}(h:REffs w s us E):∀ x∈us,∀ v∈tEff.enc x,v.oneCell'=true:=fun x hx v hv=>by
 obtain⟨i,hi,rfl⟩:=List.getElem_of_mem hx
 have h1:=(h.at_ i (by have:=h.len;omega)).one
 rw [qaA,qak hi] at h1
 exact List.all_eq_true.1 h1 v hv
def HeadF (t:TTask) (a b c:Value) (w:World):Prop:=RS tInt w a t.vars∧RS tInt w b t.init∧RS tFact w c t.goal
set_option maxRecDepth 8000 in
set_option maxHeartbeats 4000000 in
theorem qbR {w0:World}{a b c d:Value}{vs:List OpV}{t:TTask}(ht:RTask w0 a b c d vs t) (hg:GoodT t) :
  Calls Tryz.prog 20 #[.agg #[a,b,c,d]] w0 fun e w'=>∃ a2 b2 c2 d2 vs2,e=.returned (.agg #[a2,b2,c2,d2])∧Sat w0 w' [RdH fun w=>RTask w a2 b2 c2 d2 vs2 t]:=by
 have ht':=ht
 obtain⟨ha,hb,hc,hd⟩:=ht
 have hdr:=hd.rs
 have hdl:=hd.len
 have hol:=hg.ops
 have hvl:=hg.vars
 have hil:=hg.init.1
 have hgl:=qaO hg.goal
 have hw:=Sat.start w0
 refine qaf (args:=[.agg #[a,b,c,d]]) mixed Tryz.func20 rfl (by kernel_rfl) (Nat.le_of_ble_eq_true rfl) ?_
 refine qeB ?_
 refine qbx ?_
 refine qlJ ?_
 clear hw
 intro pt w hw
 replace hw:Sat w0 w [Box pt 26 [a,b,c,d]]:=hw
 refine qfp ?_
 clear hw
 intro pr w hw
 repeat (first|refine qac ?_|(refine qaa ?_;clear hw;intro p w hw)|(refine qae ?_;clear hw;intro w hw)|(refine qab ?_;clear hw;intro s w hw))
 refine qby [7,8,9,10,11,12,13,14,15,16,3] (G:=Addr × Value × Value × Value) (fun g=>[(3,.pointer (some g.1))]) (fun g w=>Sat w0 w [Box g.1 26 [g.2.1,g.2.2.1,g.2.2.2,.slice none 0 0],OS tInt 3 g.2.1 t.vars,OS tInt 3 g.2.2.1 t.init,OS tFact 73 g.2.2.2 t.goal,Box pr 26 [.slice none 0 0,.slice none 0 0,.slice none 0 0,.slice none 0 0],Box pt 26 [a,b,c,d]]) (fun _=>rfl) ?_ ?_
 ·refine qbf (.step 0 [.op 0] (.step 3 [.op 3] (.step 6 [.op 6] (.step 1 [.op 1] (.step 4 [.op 4] (.step 7 [.op 7] (.alt 2 [.op 2,.chk 4,.chk 7] (.alt 5 [.op 5,.chk 7] (.alt 8 [.op 8] (.alt 9 [.op 9] (.step 10 [.op 10,.chk 1,.chk 4,.chk 7] (.step 11 [.op 11] (.lin []))) (.alt 10 [.op 10,.chk 1,.chk 4,.chk 7] (.step 9 [.op 9] (.step 11 [.op 11] (.lin []))) (.stop))) (.alt 10 [.op 10,.chk 1,.chk 4,.chk 7] (.step 8 [.op 8] (.step 9 [.op 9] (.step 11 [.op 11] (.lin [])))) (.stop))) (.alt 10 [.op 10,.chk 1,.chk 4,.chk 7] (.step 5 [.op 5,.chk 7] (.step 8 [.op 8] (.step 9 [.op 9] (.step 11 [.op 11] (.lin []))))) (.stop))) (.alt 10 [.op 10,.chk 1,.chk 4,.chk 7] (.step 2 [.op 2,.chk 4,.chk 7] (.step 5 [.op 5,.chk 7] (.step 8 [.op 8] (.step 9 [.op 9] (.step 11 [.op 11] (.lin [])))))) (.stop))))))))) hw (by kernel_rfl) (by kernel_rfl) ?_;clear hw;intro w hw
  repeat (first|refine qac ?_|(refine qaa ?_;clear hw;intro p w hw)|(refine qae ?_;clear hw;intro w hw)|(refine qab ?_;clear hw;intro s w hw))
  refine qax ?_ (qax ?_ qaG)
  ·repeat (first|refine qac ?_|(refine qaa ?_;clear hw;intro p w hw)|(refine qae ?_;clear hw;intro w hw)|(refine qab ?_;clear hw;intro s w hw))
   refine qag rfl (qaZ (ha.at hw) (by omega)) ?_
   rintro _ w' ⟨a2,rfl,hk'⟩
   replace hw:=hw.call1 hk'
   clear hk'
   refine⟨_,rfl,?_⟩
   repeat (first|refine qac ?_|(refine qaa ?_;clear hw;intro p w hw)|(refine qae ?_;clear hw;intro w hw)|(refine qab ?_;clear hw;intro s w hw))
   refine qax ?_ (qax ?_ qaG)
   ·repeat (first|refine qac ?_|(refine qaa ?_;clear hw;intro p w hw)|(refine qae ?_;clear hw;intro w hw)|(refine qab ?_;clear hw;intro s w hw))
    refine qag rfl (qaZ (hb.at hw) (by omega)) ?_
    rintro _ w' ⟨b2,rfl,hk'⟩
    replace hw:=hw.call1 hk'
    clear hk'
    refine⟨_,rfl,?_⟩
    repeat (first|refine qac ?_|(refine qaa ?_;clear hw;intro p w hw)|(refine qae ?_;clear hw;intro w hw)|(refine qab ?_;clear hw;intro s w hw))
    refine qax ?_ (qax ?_ qaG)
    ·repeat (first|refine qac ?_|(refine qaa ?_;clear hw;intro p w hw)|(refine qae ?_;clear hw;intro w hw)|(refine qab ?_;clear hw;intro s w hw))
     refine qag rfl (qa6 (hc.at hw) (by omega)) ?_
     rintro _ w' ⟨c2,rfl,hk'⟩
     replace hw:=hw.call1 hk'
     clear hk'
     refine⟨_,rfl,?_⟩
     repeat (first|refine qac ?_|(refine qaa ?_;clear hw;intro p w hw)|(refine qae ?_;clear hw;intro w hw)|(refine qab ?_;clear hw;intro s w hw))
     refine qax ?_ (qax ?_ qaG)
     ·repeat (first|refine qac ?_|(refine qaa ?_;clear hw;intro p w hw)|(refine qae ?_;clear hw;intro w hw)|(refine qab ?_;clear hw;intro s w hw))
      have oa:=(rsO (s:=a2) hw).one
      have ob:=(rsO (s:=b2) hw).one
      have oc:=(rsO (s:=c2) hw).one
      refine qa8 (v1:=a2) (v2:=b2) (v3:=c2) rfl rfl rfl rfl (by simp only [List.all_cons,List.all_nil,oa,ob,oc];rfl) ?_
      repeat (first|refine qac ?_|(refine qaa ?_;clear hw;intro p w hw)|(refine qae ?_;clear hw;intro w hw)|(refine qab ?_;clear hw;intro s w hw))
      obtain⟨po,hpo⟩:∃ po,po=p:=⟨p,rfl⟩
      subst hpo
      repeat (first|refine qac ?_|(refine qaa ?_;clear hw;intro p w hw)|(refine qab ?_;clear hw;intro s w hw))
      refine qaS (n:=4) (p:=po) (vs:=[a2,b2,c2,.slice none 0 0]) rfl rfl hw inferInstance rfl rfl (by simp only [List.all_cons,List.all_nil,oa,ob,oc];rfl) ?_
      clear hw
      intro w hw
      repeat (first|refine qac ?_|(refine qaa ?_;clear hw;intro p w hw)|(refine qae ?_;clear hw;intro w hw)|(refine qab ?_;clear hw;intro s w hw))
      have hw2:Sat w0 w [Box po 26 [a2,b2,c2,.slice none 0 0],OS tInt 3 a2 t.vars,OS tInt 3 b2 t.init,OS tFact 73 c2 t.goal,Box pr 26 [.slice none 0 0,.slice none 0 0,.slice none 0 0,.slice none 0 0],Box pt 26 [a,b,c,d]]:=hw.sel
      exact⟨(po,a2,b2,c2),⟨rfl,trivial⟩,agr,hw2⟩
     ·repeat (first|refine qac ?_|(refine qaa ?_;clear hw;intro p w hw)|(refine qae ?_;clear hw;intro w hw)|(refine qab ?_;clear hw;intro s w hw))
      obtain⟨po,hpo⟩:∃ po,po=p:=⟨p,rfl⟩
      subst hpo
      repeat (first|refine qac ?_|(refine qaa ?_;clear hw;intro p w hw)|(refine qae ?_;clear hw;intro w hw)|(refine qab ?_;clear hw;intro s w hw))
      have oa:=(rsO (s:=a2) hw).one
      have ob:=(rsO (s:=b2) hw).one
      have oc:=(rsO (s:=c2) hw).one
      refine qa8 (v1:=a2) (v2:=b2) (v3:=c2) rfl rfl rfl rfl (by simp only [List.all_cons,List.all_nil,oa,ob,oc];rfl) ?_
      repeat (first|refine qac ?_|(refine qaa ?_;clear hw;intro p w hw)|(refine qab ?_;clear hw;intro s w hw))
      refine qaS (n:=4) (p:=po) (vs:=[a2,b2,c2,.slice none 0 0]) rfl rfl hw inferInstance rfl rfl (by simp only [List.all_cons,List.all_nil,oa,ob,oc];rfl) ?_
      clear hw
      intro w hw
      repeat (first|refine qac ?_|(refine qaa ?_;clear hw;intro p w hw)|(refine qae ?_;clear hw;intro w hw)|(refine qab ?_;clear hw;intro s w hw))
      have hw2:Sat w0 w [Box po 26 [a2,b2,c2,.slice none 0 0],OS tInt 3 a2 t.vars,OS tInt 3 b2 t.init,OS tFact 73 c2 t.goal,Box pr 26 [.slice none 0 0,.slice none 0 0,.slice none 0 0,.slice none 0 0],Box pt 26 [a,b,c,d]]:=hw.sel
      exact⟨(po,a2,b2,c2),⟨rfl,trivial⟩,agr,hw2⟩
    ·repeat (first|refine qac ?_|(refine qaa ?_;clear hw;intro p w hw)|(refine qae ?_;clear hw;intro w hw)|(refine qab ?_;clear hw;intro s w hw))
     obtain⟨po,hpo⟩:∃ po,po=p:=⟨p,rfl⟩
     subst hpo
     repeat (first|refine qac ?_|(refine qaa ?_;clear hw;intro p w hw)|(refine qae ?_;clear hw;intro w hw)|(refine qab ?_;clear hw;intro s w hw))
     refine qag rfl (qa6 (hc.at hw) (by omega)) ?_
     rintro _ w' ⟨c2,rfl,hk'⟩
     replace hw:=hw.call1 hk'
     clear hk'
     refine⟨_,rfl,?_⟩
     repeat (first|refine qac ?_|(refine qaa ?_;clear hw;intro p w hw)|(refine qae ?_;clear hw;intro w hw)|(refine qab ?_;clear hw;intro s w hw))
     repeat (first|refine qac ?_|(refine qaa ?_;clear hw;intro p w hw)|(refine qae ?_;clear hw;intro w hw)|(refine qab ?_;clear hw;intro s w hw))
     have oa:=(rsO (s:=a2) hw).one
     have ob:=(rsO (s:=b2) hw).one
     have oc:=(rsO (s:=c2) hw).one
     refine qa8 (v1:=a2) (v2:=b2) (v3:=c2) rfl rfl rfl rfl (by simp only [List.all_cons,List.all_nil,oa,ob,oc];rfl) ?_
     repeat (first|refine qac ?_|(refine qaa ?_;clear hw;intro p w hw)|(refine qab ?_;clear hw;intro s w hw))
     refine qaS (n:=4) (p:=po) (vs:=[a2,b2,c2,.slice none 0 0]) rfl rfl hw inferInstance rfl rfl (by simp only [List.all_cons,List.all_nil,oa,ob,oc];rfl) ?_
     clear hw
     intro w hw
     repeat (first|refine qac ?_|(refine qaa ?_;clear hw;intro p w hw)|(refine qae ?_;clear hw;intro w hw)|(refine qab ?_;clear hw;intro s w hw))
     have hw2:Sat w0 w [Box po 26 [a2,b2,c2,.slice none 0 0],OS tInt 3 a2 t.vars,OS tInt 3 b2 t.init,OS tFact 73 c2 t.goal,Box pr 26 [.slice none 0 0,.slice none 0 0,.slice none 0 0,.slice none 0 0],Box pt 26 [a,b,c,d]]:=hw.sel
     exact⟨(po,a2,b2,c2),⟨rfl,trivial⟩,agr,hw2⟩
   ·repeat (first|refine qac ?_|(refine qaa ?_;clear hw;intro p w hw)|(refine qae ?_;clear hw;intro w hw)|(refine qab ?_;clear hw;intro s w hw))
    obtain⟨po,hpo⟩:∃ po,po=p:=⟨p,rfl⟩
    subst hpo
    repeat (first|refine qac ?_|(refine qaa ?_;clear hw;intro p w hw)|(refine qae ?_;clear hw;intro w hw)|(refine qab ?_;clear hw;intro s w hw))
    refine qag rfl (qaZ (hb.at hw) (by omega)) ?_
    rintro _ w' ⟨b2,rfl,hk'⟩
    replace hw:=hw.call1 hk'
    clear hk'
    refine⟨_,rfl,?_⟩
    repeat (first|refine qac ?_|(refine qaa ?_;clear hw;intro p w hw)|(refine qae ?_;clear hw;intro w hw)|(refine qab ?_;clear hw;intro s w hw))
    repeat (first|refine qac ?_|(refine qaa ?_;clear hw;intro p w hw)|(refine qae ?_;clear hw;intro w hw)|(refine qab ?_;clear hw;intro s w hw))
    refine qag rfl (qa6 (hc.at hw) (by omega)) ?_
    rintro _ w' ⟨c2,rfl,hk'⟩
    replace hw:=hw.call1 hk'
    clear hk'
    refine⟨_,rfl,?_⟩
    repeat (first|refine qac ?_|(refine qaa ?_;clear hw;intro p w hw)|(refine qae ?_;clear hw;intro w hw)|(refine qab ?_;clear hw;intro s w hw))
    repeat (first|refine qac ?_|(refine qaa ?_;clear hw;intro p w hw)|(refine qae ?_;clear hw;intro w hw)|(refine qab ?_;clear hw;intro s w hw))
    have oa:=(rsO (s:=a2) hw).one
    have ob:=(rsO (s:=b2) hw).one
    have oc:=(rsO (s:=c2) hw).one
    refine qa8 (v1:=a2) (v2:=b2) (v3:=c2) rfl rfl rfl rfl (by simp only [List.all_cons,List.all_nil,oa,ob,oc];rfl) ?_
    repeat (first|refine qac ?_|(refine qaa ?_;clear hw;intro p w hw)|(refine qab ?_;clear hw;intro s w hw))
    refine qaS (n:=4) (p:=po) (vs:=[a2,b2,c2,.slice none 0 0]) rfl rfl hw inferInstance rfl rfl (by simp only [List.all_cons,List.all_nil,oa,ob,oc];rfl) ?_
    clear hw
    intro w hw
    repeat (first|refine qac ?_|(refine qaa ?_;clear hw;intro p w hw)|(refine qae ?_;clear hw;intro w hw)|(refine qab ?_;clear hw;intro s w hw))
    have hw2:Sat w0 w [Box po 26 [a2,b2,c2,.slice none 0 0],OS tInt 3 a2 t.vars,OS tInt 3 b2 t.init,OS tFact 73 c2 t.goal,Box pr 26 [.slice none 0 0,.slice none 0 0,.slice none 0 0,.slice none 0 0],Box pt 26 [a,b,c,d]]:=hw.sel
    exact⟨(po,a2,b2,c2),⟨rfl,trivial⟩,agr,hw2⟩
  ·repeat (first|refine qac ?_|(refine qaa ?_;clear hw;intro p w hw)|(refine qae ?_;clear hw;intro w hw)|(refine qab ?_;clear hw;intro s w hw))
   obtain⟨po,hpo⟩:∃ po,po=p:=⟨p,rfl⟩
   subst hpo
   repeat (first|refine qac ?_|(refine qaa ?_;clear hw;intro p w hw)|(refine qae ?_;clear hw;intro w hw)|(refine qab ?_;clear hw;intro s w hw))
   refine qag rfl (qaZ (ha.at hw) (by omega)) ?_
   rintro _ w' ⟨a2,rfl,hk'⟩
   replace hw:=hw.call1 hk'
   clear hk'
   refine⟨_,rfl,?_⟩
   repeat (first|refine qac ?_|(refine qaa ?_;clear hw;intro p w hw)|(refine qae ?_;clear hw;intro w hw)|(refine qab ?_;clear hw;intro s w hw))
   repeat (first|refine qac ?_|(refine qaa ?_;clear hw;intro p w hw)|(refine qae ?_;clear hw;intro w hw)|(refine qab ?_;clear hw;intro s w hw))
   refine qag rfl (qaZ (hb.at hw) (by omega)) ?_
   rintro _ w' ⟨b2,rfl,hk'⟩
   replace hw:=hw.call1 hk'
   clear hk'
   refine⟨_,rfl,?_⟩
   repeat (first|refine qac ?_|(refine qaa ?_;clear hw;intro p w hw)|(refine qae ?_;clear hw;intro w hw)|(refine qab ?_;clear hw;intro s w hw))
   repeat (first|refine qac ?_|(refine qaa ?_;clear hw;intro p w hw)|(refine qae ?_;clear hw;intro w hw)|(refine qab ?_;clear hw;intro s w hw))
   refine qag rfl (qa6 (hc.at hw) (by omega)) ?_
   rintro _ w' ⟨c2,rfl,hk'⟩
   replace hw:=hw.call1 hk'
   clear hk'
   refine⟨_,rfl,?_⟩
   repeat (first|refine qac ?_|(refine qaa ?_;clear hw;intro p w hw)|(refine qae ?_;clear hw;intro w hw)|(refine qab ?_;clear hw;intro s w hw))
   repeat (first|refine qac ?_|(refine qaa ?_;clear hw;intro p w hw)|(refine qae ?_;clear hw;intro w hw)|(refine qab ?_;clear hw;intro s w hw))
   have oa:=(rsO (s:=a2) hw).one
   have ob:=(rsO (s:=b2) hw).one
   have oc:=(rsO (s:=c2) hw).one
   refine qa8 (v1:=a2) (v2:=b2) (v3:=c2) rfl rfl rfl rfl (by simp only [List.all_cons,List.all_nil,oa,ob,oc];rfl) ?_
   repeat (first|refine qac ?_|(refine qaa ?_;clear hw;intro p w hw)|(refine qab ?_;clear hw;intro s w hw))
   refine qaS (n:=4) (p:=po) (vs:=[a2,b2,c2,.slice none 0 0]) rfl rfl hw inferInstance rfl rfl (by simp only [List.all_cons,List.all_nil,oa,ob,oc];rfl) ?_
   clear hw
   intro w hw
   repeat (first|refine qac ?_|(refine qaa ?_;clear hw;intro p w hw)|(refine qae ?_;clear hw;intro w hw)|(refine qab ?_;clear hw;intro s w hw))
   have hw2:Sat w0 w [Box po 26 [a2,b2,c2,.slice none 0 0],OS tInt 3 a2 t.vars,OS tInt 3 b2 t.init,OS tFact 73 c2 t.goal,Box pr 26 [.slice none 0 0,.slice none 0 0,.slice none 0 0,.slice none 0 0],Box pt 26 [a,b,c,d]]:=hw.sel
   exact⟨(po,a2,b2,c2),⟨rfl,trivial⟩,agr,hw2⟩
 clear hw
 rintro σ0 ⟨po,a2,b2,c2⟩ w hw
 simp only at hw
 have hw1:Sat w0 w [OS tOp 44 (.slice none 0 0) [],RdH (OpsF t 0 []),RdH (HeadF t a2 b2 c2),Box po 26 [a2,b2,c2,.slice none 0 0],Box pr 26 [.slice none 0 0,.slice none 0 0,.slice none 0 0,.slice none 0 0],Box pt 26 [a,b,c,d]]:=by
  have hw2:Sat w0 w [OS tInt 3 a2 t.vars,OS tInt 3 b2 t.init,OS tFact 73 c2 t.goal,Box po 26 [a2,b2,c2,.slice none 0 0],Box pr 26 [.slice none 0 0,.slice none 0 0,.slice none 0 0,.slice none 0 0],Box pt 26 [a,b,c,d]]:=hw.sel
  have hw3:=Sat.rd (Δ:=[OS tInt 3 a2 t.vars,OS tInt 3 b2 t.init,OS tFact 73 c2 t.goal]) (φ:=HeadF t a2 b2 c2) (fun _ w h=>⟨h.rs 0 rfl,h.rs 1 rfl,h.rs 2 rfl⟩) hw2
  exact (Sat.rd0 (φ:=OpsF t 0 []) (fun w i hi=>absurd hi (Nat.not_lt_zero _)) hw3).nil
 clear hw
 have hw:=hw1
 clear hw1
 repeat (first|refine qac ?_|(refine qaa ?_;clear hw;intro p w hw)|(refine qad ?_;clear hw;intro w hw)|(refine qab ?_;clear hw;intro s w hw))
 refine qa7 [5,6,20,21,22,23,24,25,26,27,28,29,30,31,32,33,34,35,36,37,38,39,40,41,42,43,44,45,46,47,48,49,50,51,52,53,54,55,56,57] (G:=Nat) (H:=Value) (I:=List OpV) (fun k _ _=>[(20,.int .i64 k)]) (fun k dv ws w=>k≤t.ops.length∧ws.length=k∧Sat w0 w [OS tOp 44 dv ws,RdH (OpsF t k ws),RdH (HeadF t a2 b2 c2),Box po 26 [a2,b2,c2,dv],Box pr 26 [.slice none 0 0,.slice none 0 0,.slice none 0 0,.slice none 0 0],Box pt 26 [a,b,c,d]]) (fun k _ _=>t.ops.length-k) 0 (.slice none 0 0) [] (fun _ _ _=>rfl) ⟨rfl,trivial⟩ ⟨Nat.zero_le _,rfl,hw⟩ ?_
 clear hw
 rintro σ k dv ws w ⟨hk,hwl,hw⟩
 repeat (first|refine qac ?_|(refine qaa ?_;clear hw;intro p w hw)|(refine qad ?_;clear hw;intro w hw)|(refine qab ?_;clear hw;intro s w hw))
 refine go_if (fun h1 => ?_) (fun h1 => ?_)
 ·have hkl:k<t.ops.length:=by omega
  have hop:=hd.at_ k hkl
  have hone:=hop.one
  have hpre:=hop.pre
  have hgo:=hg.op k hkl
  have hpl:=qaO hgo.pre
  have hel:=hgo.effs
  obtain⟨us,hus⟩:=hop.effs
  have husr:=hus.rs
  have husl:=hus.len
  repeat (first|refine qac ?_|(refine qaa ?_;clear hw;intro p w hw)|(refine qae ?_;clear hw;intro w hw)|(refine qab ?_;clear hw;intro s w hw))
  obtain⟨p5,hp5⟩:∃ p5,p5=p:=⟨p,rfl⟩
  subst hp5
  refine qay [.op 0,.op 1,.op 3,.op 4,.op 2,.chk 4,.op 6,.op 5,.op 7,.op 8,.op 9] hw (by kernel_rfl) ?_;clear hw;intro w hw
  repeat (first|refine qac ?_|(refine qaa ?_;clear hw;intro p w hw)|(refine qae ?_;clear hw;intro w hw)|(refine qab ?_;clear hw;intro s w hw))
  refine qag rfl (qa6 (hpre.at hw) (by omega)) ?_
  rintro _ w' ⟨pv,rfl,hk'⟩
  replace hw:=hw.call1 hk'
  clear hk'
  refine⟨_,rfl,?_⟩
  repeat (first|refine qac ?_|(refine qaa ?_;clear hw;intro p w hw)|(refine qae ?_;clear hw;intro w hw)|(refine qab ?_;clear hw;intro s w hw))
  refine qag rfl (qgZ (husr.at hw) (by omega) (qig hus)) ?_
  rintro _ w' ⟨ev,rfl,hk'⟩
  replace hw:=hw.call1 hk'
  clear hk'
  refine⟨_,rfl,?_⟩
  have opv:=(rsO (s:=pv) hw).one
  have oev:=(rsO (s:=ev) hw).one
  repeat (first|refine qac ?_|(refine qaa ?_;clear hw;intro p w hw)|(refine qab ?_;clear hw;intro s w hw))
  refine qhL (k:=2) (p:=p5) (v:=pv) rfl rfl opv hw inferInstance (by rw [tOp.ok];decide) ?_
  clear hw
  intro w hw
  repeat (first|refine qac ?_|(refine qaa ?_;clear hw;intro p w hw)|(refine qab ?_;clear hw;intro s w hw))
  refine qhL (k:=3) (p:=p5) (v:=ev) rfl rfl oev hw inferInstance (by rw [List.length_set,tOp.ok];decide) ?_
  clear hw
  intro w hw
  have hw1:Sat w0 w [RdH (EffW (t.ops.getD k dOp).effs 0 us),OS tEff 75 ev us,Box p5 44 (tOp.enc ⟨(eget tOp vs k).name,(eget tOp vs k).cost,pv,ev⟩),OS tFact 73 pv (t.ops.getD k dOp).pre,OS tOp 44 dv ws,RdH (OpsF t k ws),RdH (HeadF t a2 b2 c2),Box po 26 [a2,b2,c2,dv],Box pr 26 [.slice none 0 0,.slice none 0 0,.slice none 0 0,.slice none 0 0],Box pt 26 [a,b,c,d]]:=by
   have hw2:Sat w0 w [OS tEff 75 ev us,OS tFact 73 pv (t.ops.getD k dOp).pre,Box p5 44 (tOp.enc ⟨(eget tOp vs k).name,(eget tOp vs k).cost,pv,ev⟩),OS tOp 44 dv ws,RdH (OpsF t k ws),RdH (HeadF t a2 b2 c2),Box po 26 [a2,b2,c2,dv],Box pr 26 [.slice none 0 0,.slice none 0 0,.slice none 0 0,.slice none 0 0],Box pt 26 [a,b,c,d]]:=hw
   exact (Sat.rd0 (φ:=EffW (t.ops.getD k dOp).effs 0 us) (fun w i hi=>absurd hi (Nat.not_lt_zero _)) hw2).sel
  clear hw
  have hw:=hw1
  clear hw1
  have hE0:EffI (t.ops.getD k dOp).effs us 0 us:=⟨husl,fun i hi=>⟨(hus.at_ i hi).var,(hus.at_ i hi).val⟩,fun i _ _=>rfl⟩
  repeat (first|refine qac ?_|(refine qaa ?_;clear hw;intro p w hw)|(refine qae ?_;clear hw;intro w hw)|(refine qab ?_;clear hw;intro s w hw))
  refine qat [6,35,36,37,38,39,40,41,42,43,44,45,46,47,48,49,50] (G:=Nat) (H:=List EffV) (fun j _=>[(35,.int .i64 j)]) (fun j es w=>j≤(t.ops.getD k dOp).effs.length∧EffI (t.ops.getD k dOp).effs us j es∧Sat w0 w [RdH (EffW (t.ops.getD k dOp).effs j es),OS tEff 75 ev es,Box p5 44 (tOp.enc ⟨(eget tOp vs k).name,(eget tOp vs k).cost,pv,ev⟩),OS tFact 73 pv (t.ops.getD k dOp).pre,OS tOp 44 dv ws,RdH (OpsF t k ws),RdH (HeadF t a2 b2 c2),Box po 26 [a2,b2,c2,dv],Box pr 26 [.slice none 0 0,.slice none 0 0,.slice none 0 0,.slice none 0 0],Box pt 26 [a,b,c,d]]) (fun j _=>(t.ops.getD k dOp).effs.length-j) 0 us (fun _ _=>rfl) ⟨rfl,trivial⟩ ⟨Nat.zero_le _,hE0,hw⟩ ?_
  clear hw
  rintro σ1 j es w ⟨hj,hE,hw⟩
  have hesl:=hE.len
  repeat (first|refine qac ?_|(refine qaa ?_;clear hw;intro p w hw)|(refine qad ?_;clear hw;intro w hw)|(refine qab ?_;clear hw;intro s w hw))
  refine go_if (fun h2 => ?_) (fun h2 => ?_)
  ·have hjl:j<(t.ops.getD k dOp).effs.length:=by omega
   have hue:=hus.at_ j hjl
   have hfj:=hE.fld j hjl
   have hoj:=hE.old j (Nat.le_refl _) hjl
   have hfl:=qaO (hgo.eff j hjl).1
   have hwhen:RS tFact w0 (eget tEff es j).when ((t.ops.getD k dOp).effs.getD j dEff).when:=by rw [hoj];exact hue.when
   repeat (first|refine qac ?_|(refine qaa ?_;clear hw;intro p w hw)|(refine qae ?_;clear hw;intro w hw)|(refine qab ?_;clear hw;intro s w hw))
   refine qay [.op 0,.op 1,.op 2,.op 3,.op 4,.op 5,.op 6,.op 7,.op 8,.op 9,.chk 1,.op 10,.op 11,.op 12] hw (by kernel_rfl) ?_;clear hw;intro w hw
   repeat (first|refine qac ?_|(refine qaa ?_;clear hw;intro p w hw)|(refine qae ?_;clear hw;intro w hw)|(refine qab ?_;clear hw;intro s w hw))
   refine qag rfl (qa6 (hwhen.at hw) (by omega)) ?_
   rintro _ w' ⟨fv,rfl,hk'⟩
   replace hw:=hw.call1 hk'
   clear hk'
   refine⟨_,rfl,?_⟩
   have ofv:=(rsO (s:=fv) hw).one
   repeat (first|refine qac ?_|(refine qaa ?_;clear hw;intro p w hw)|(refine qab ?_;clear hw;intro s w hw))
   refine qf6 (T:=tEff) (s:=ev) (j:=j) (k:=0) (v:=fv) (x':=⟨fv,(eget tEff es j).var,(eget tEff es j).val⟩) rfl rfl ofv hw inferInstance (by omega) (Nat.zero_lt_succ _) (by rw [←qaA];rfl) ?_
   clear hw
   intro w hw
   have hw1:Sat w0 w [RdH (EffW (t.ops.getD k dOp).effs (j+1) (es.set j ⟨fv,(eget tEff es j).var,(eget tEff es j).val⟩)),OS tEff 75 ev (es.set j ⟨fv,(eget tEff es j).var,(eget tEff es j).val⟩),Box p5 44 (tOp.enc ⟨(eget tOp vs k).name,(eget tOp vs k).cost,pv,ev⟩),OS tFact 73 pv (t.ops.getD k dOp).pre,OS tOp 44 dv ws,RdH (OpsF t k ws),RdH (HeadF t a2 b2 c2),Box po 26 [a2,b2,c2,dv],Box pr 26 [.slice none 0 0,.slice none 0 0,.slice none 0 0,.slice none 0 0],Box pt 26 [a,b,c,d]]:=by
    have hw2:Sat w0 w [OS tFact 73 fv ((t.ops.getD k dOp).effs.getD j dEff).when,RdH (EffW (t.ops.getD k dOp).effs j es),OS tEff 75 ev (es.set j ⟨fv,(eget tEff es j).var,(eget tEff es j).val⟩),Box p5 44 (tOp.enc ⟨(eget tOp vs k).name,(eget tOp vs k).cost,pv,ev⟩),OS tFact 73 pv (t.ops.getD k dOp).pre,OS tOp 44 dv ws,RdH (OpsF t k ws),RdH (HeadF t a2 b2 c2),Box po 26 [a2,b2,c2,dv],Box pr 26 [.slice none 0 0,.slice none 0 0,.slice none 0 0,.slice none 0 0],Box pt 26 [a,b,c,d]]:=hw
    exact Sat.rd2 (χ:=EffW (t.ops.getD k dOp).effs (j+1) (es.set j ⟨fv,(eget tEff es j).var,(eget tEff es j).val⟩)) (fun w h1 h2=>h2.step (by omega) h1) (Sat.rd (Δ:=[OS tFact 73 fv ((t.ops.getD k dOp).effs.getD j dEff).when]) (φ:=fun w=>RS tFact w fv ((t.ops.getD k dOp).effs.getD j dEff).when) (fun _ _ h=>h.rs 0 rfl) hw2)
   repeat (first|refine qac ?_|(refine qaa ?_;clear hw;intro p w hw)|(refine qae ?_;clear hw;intro w hw)|(refine qab ?_;clear hw;intro s w hw))
   exact⟨j+1,_,⟨rfl,trivial⟩,agr,⟨by omega,hE.step hjl,hw1⟩,by omega⟩
  have hje:j=(t.ops.getD k dOp).effs.length:=by omega
  subst hje
  obtain⟨vo,hvo⟩:∃ vo:OpV,vo=⟨(eget tOp vs k).name,(eget tOp vs k).cost,pv,ev⟩:=⟨_,rfl⟩
  rw [←hvo] at hw
  have hvo1:∀ v∈tOp.enc vo,v.oneCell'=true:=by
   rw [hvo]
   intro v hv
   simp only [tOp,List.mem_cons,List.not_mem_nil,or_false] at hv
   rcases hv with rfl|rfl|rfl|rfl
   ·rfl
   ·rfl
   ·exact opv
   ·exact oev
  have hw1:Sat w0 w [RdH fun w=>ROp w vo (t.ops.getD k dOp),Box p5 44 (tOp.enc vo),OS tOp 44 dv ws,RdH (OpsF t k ws),RdH (HeadF t a2 b2 c2),Box po 26 [a2,b2,c2,dv],Box pr 26 [.slice none 0 0,.slice none 0 0,.slice none 0 0,.slice none 0 0],Box pt 26 [a,b,c,d]]:=by
   have hw2:Sat w0 w [RdH (EffW (t.ops.getD k dOp).effs (t.ops.getD k dOp).effs.length es),OS tEff 75 ev es,OS tFact 73 pv (t.ops.getD k dOp).pre,Box p5 44 (tOp.enc vo),OS tOp 44 dv ws,RdH (OpsF t k ws),RdH (HeadF t a2 b2 c2),Box po 26 [a2,b2,c2,dv],Box pr 26 [.slice none 0 0,.slice none 0 0,.slice none 0 0,.slice none 0 0],Box pt 26 [a,b,c,d]]:=hw.sel
   refine Sat.rd (Δ:=[RdH (EffW (t.ops.getD k dOp).effs (t.ops.getD k dOp).effs.length es),OS tEff 75 ev es,OS tFact 73 pv (t.ops.getD k dOp).pre]) (φ:=fun w=>ROp w vo (t.ops.getD k dOp)) (fun _ w h => ?_) hw2
   have hff:=h.rdE 0 rfl
   rw [hvo]
   exact⟨hop.name,hop.size,hop.cost,h.rs 2 rfl,es,h.rs 1 rfl,hE.len,fun i hi=>⟨(hE.fld i hi).1,(hE.fld i hi).2,hff i hi⟩⟩
  clear hw
  have hw:=hw1
  clear hw1
  repeat (first|refine qac ?_|(refine qaa ?_;clear hw;intro p w hw)|(refine qae ?_;clear hw;intro w hw)|(refine qab ?_;clear hw;intro s w hw))
  refine qal tOp (x1:=vo) rfl rfl rfl (Nat.le_of_ble_eq_true rfl) (Nat.zero_lt_succ _) hw ?_
  clear hw
  intro bs w hw
  repeat (first|refine qac ?_|(refine qaa ?_;clear hw;intro p w hw)|(refine qae ?_;clear hw;intro w hw)|(refine qab ?_;clear hw;intro s w hw))
  refine qaM (s:=dv) (s2:=bs) inferInstance rfl rfl (rsO hw) rfl rfl (fun x hx v hv=>by rw [List.mem_singleton.1 hx] at hv;exact hvo1 v hv) (by simp only [List.length_cons,List.length_nil];omega) (by unfold big;simp only [List.length_cons,List.length_nil];omega) hw ?_
  clear hw
  intro dv2 w hw
  have odv:=(rsO (s:=dv2) hw).one
  repeat (first|refine qac ?_|(refine qaa ?_;clear hw;intro p w hw)|(refine qae ?_;clear hw;intro w hw)|(refine qab ?_;clear hw;intro s w hw))
  have hw1:Sat w0 w [OS tOp 44 dv2 (ws++[vo]),RdH (OpsF t (k+1) (ws++[vo])),RdH (HeadF t a2 b2 c2),Box po 26 [a2,b2,c2,dv2],Box pr 26 [.slice none 0 0,.slice none 0 0,.slice none 0 0,.slice none 0 0],Box pt 26 [a,b,c,d]]:=by
   have hw2:Sat w0 w [OS tOp 44 bs [vo],RdH fun w=>ROp w vo (t.ops.getD k dOp),Box p5 44 (tOp.enc vo),OS tOp 44 dv2 (ws++[vo]),RdH (OpsF t k ws),RdH (HeadF t a2 b2 c2),Box po 26 [a2,b2,c2,dv2],Box pr 26 [.slice none 0 0,.slice none 0 0,.slice none 0 0,.slice none 0 0],Box pt 26 [a,b,c,d]]:=hw
   have hw3:Sat w0 w [RdH fun w=>ROp w vo (t.ops.getD k dOp),RdH (OpsF t k ws),OS tOp 44 dv2 (ws++[vo]),RdH (HeadF t a2 b2 c2),Box po 26 [a2,b2,c2,dv2],Box pr 26 [.slice none 0 0,.slice none 0 0,.slice none 0 0,.slice none 0 0],Box pt 26 [a,b,c,d]]:=hw2.sel
   exact (Sat.rd2 (χ:=OpsF t (k+1) (ws++[vo])) (fun w h1 h2=>h2.step hwl h1) hw3).swap
  exact⟨k+1,_,_,⟨rfl,trivial⟩,agr,⟨by omega,by simp [hwl],hw1⟩,by omega⟩
 have hke:k=t.ops.length:=by omega
 subst hke
 have odv:=(rsO (s:=dv) hw).one
 have hw1:Sat w0 w [RdH fun w=>RTask w a2 b2 c2 dv ws t,Box po 26 [a2,b2,c2,dv],Box pr 26 [.slice none 0 0,.slice none 0 0,.slice none 0 0,.slice none 0 0],Box pt 26 [a,b,c,d]] :=
  Sat.rd (Δ:=[OS tOp 44 dv ws,RdH (OpsF t t.ops.length ws),RdH (HeadF t a2 b2 c2)]) (φ:=fun w=>RTask w a2 b2 c2 dv ws t) (fun _ w h=>⟨(h.rdE 2 rfl).1,(h.rdE 2 rfl).2.1,(h.rdE 2 rfl).2.2,h.rs 0 rfl,hwl,h.rdE 1 rfl⟩) hw
 clear hw
 have hw:=hw1
 clear hw1
 have ht2:=hw.rdE 0 rfl
 have o1:=ht2.vars.one
 have o2:=ht2.init.one
 have o3:=ht2.goal.one
 repeat (first|refine qac ?_|(refine qaa ?_;clear hw;intro p w hw)|(refine qab ?_;clear hw;intro s w hw))
 refine qaS (n:=4) (p:=pr) (vs:=[a2,b2,c2,dv]) rfl rfl hw inferInstance rfl rfl (by simp only [List.all_cons,List.all_nil,o1,o2,o3,odv];rfl) ?_
 clear hw
 intro w hw
 repeat (first|refine qac ?_|(refine qaa ?_;clear hw;intro p w hw)|(refine qae ?_;clear hw;intro w hw)|(refine qab ?_;clear hw;intro s w hw))
 exact qbK (p:=pr) (vs:=[a2,b2,c2,dv]) rfl rfl rfl (hw.boxR 2 rfl) ⟨a2,b2,c2,dv,ws,rfl,hw.sel⟩
end Go.Proofs.YtdadmnlenbdfbaaGreat
/-
  Contract of 'succgen.copied'.
-/
namespace Go.Proofs.YtdadmnlenbdfbaaGreat
open Go.Sl Go
attribute [local irreducible] vc opsW opsD opV opW PureV ReadV Thn Blk
end Go.Proofs.YtdadmnlenbdfbaaGreat
