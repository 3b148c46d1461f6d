/-
  Several texts as one: WSameT, WPack, WPack2, WReg.
-/
import Derived.Test.YtkmbenhffledpaaGreatMW3
import Derived.Test.YtkmbenhffledpaaGreatMTA
import Derived.Test.YtkmbenhffledpaaGreatMSlB
set_option linter.unusedSimpArgs false
set_option linter.unusedVariables false
/-
  Contracts of 'estimate.sameEffect' and what compares lists of them.
-/
namespace Go.Proofs.YtkmbenhffledpaaGreat
open Go.Sl Go
attribute [local irreducible] vc opsW opsD opV opW PureV ReadV Thn Blk
theorem qal:(true == false)=false:=rfl
theorem qam:(false == true)=false:=rfl
theorem gv_fI (v:Value):gv false v=undef:=by unfold gv;rfl
theorem gv_tI (v:Value):gv true v=v:=qad rfl
theorem qkU {w0 w:World}{Γ:List HP}{v:EffV}{e:Eff}(h:REff w0 v e) (hw:Sat w0 w Γ):REff w v e:=⟨h.var,h.val,h.when.at hw⟩
theorem qml {w0 w:World}{Γ:List HP}{s:Value}{vs:List EffV}{es:List Eff}(h:REffs w0 s vs es) (hw:Sat w0 w Γ):REffs w s vs es:=⟨h.rs.at hw,h.len,fun i hi=>qkU (h.at_ i hi) hw⟩
theorem qs4 {x y:Eff}(h1:x.var=y.var) (h2:x.val=y.val) (h3:x.when=y.when):x=y:=by cases x;cases y;simp_all
set_option maxRecDepth 8000 in
set_option maxHeartbeats 2000000 in
theorem qgS {w0:World}{x y:EffV}{ex ey:Eff}(hx:REff w0 x ex) (hy:REff w0 y ey) :
  Calls Tryz.prog 132 #[.agg (tEff.enc x).toArray,.agg (tEff.enc y).toArray] w0 fun e w'=>(∃ r,e=.returned (.bool r)∧(r=true↔ex=ey))∧Sat w0 w' []:=by
 have ox:=hx.one
 have oy:=hy.one
 have vx:=hx.var
 have vy:=hy.var
 have lx:=hx.val
 have ly:=hy.val
 have hwx:=hx.when
 have hwy:=hy.when
 have hw:=Sat.start w0
 refine qab (args:=[.agg (tEff.enc x).toArray,.agg (tEff.enc y).toArray]) mixed Tryz.func132 rfl (by kernel_rfl) (Nat.le_of_ble_eq_true rfl) ?_
 by_cases h1:x.var=y.var
 rotate_left
 ·have hd1:decide (x.var=y.var)=false:=decide_eq_false h1
  repeat (first|refine qaa ?_|(refine qaf ?_;clear hw;intro p w hw))
  simp only [hd1,beq_self_eq_true,qal,qam,Bool.false_and,Bool.true_and,Bool.not_true,Bool.not_false,Bool.cond_true,Bool.cond_false,gv_fI,gv_tI]
  repeat refine qaa ?_
  exact qae (v:=.bool false) rfl rfl ⟨⟨false,rfl,iffF fun e=>h1 (by rw [vx,vy,e])⟩,hw.sel⟩
 have hd1:decide (x.var=y.var)=true:=decide_eq_true h1
 by_cases h2:x.val=y.val
 rotate_left
 ·have hd2:decide (x.val=y.val)=false:=decide_eq_false h2
  repeat (first|refine qaa ?_|(refine qaf ?_;clear hw;intro p w hw))
  simp only [hd1,hd2,beq_self_eq_true,qal,qam,Bool.false_and,Bool.true_and,Bool.not_true,Bool.not_false,Bool.cond_true,Bool.cond_false,gv_fI,gv_tI]
  repeat refine qaa ?_
  exact qae (v:=.bool false) rfl rfl ⟨⟨false,rfl,iffF fun e=>h2 (by rw [lx,ly,e])⟩,hw.sel⟩
 have hd2:decide (x.val=y.val)=true:=decide_eq_true h2
 repeat (first|refine qaa ?_|(refine qaf ?_;clear hw;intro p w hw))
 simp only [hd1,hd2,beq_self_eq_true,qal,qam,Bool.false_and,Bool.true_and,Bool.not_true,Bool.not_false,Bool.cond_true,Bool.cond_false,gv_fI,gv_tI]
 repeat refine qaa ?_
 refine qac rfl (qdX (hwx.at hw) (hwy.at hw)) ?_
 rintro _ w' ⟨⟨r,rfl,hr⟩,hk'⟩
 replace hw:=hw.call0 hk'
 clear hk'
 refine⟨_,rfl,?_⟩
 repeat refine qaa ?_
 exact qae (v:=.bool r) rfl rfl ⟨⟨r,rfl,hr.trans ⟨fun h=>qs4 (by rw [←vx,←vy,h1]) (by rw [←lx,←ly,h2]) h,fun h=>by rw [h]⟩⟩,hw.sel⟩
set_option maxRecDepth 8000 in
set_option maxHeartbeats 2000000 in
theorem qlj {w0:World}{xa xb:Value}{va vb:List EffV}{A B:List Eff}(hA:REffs w0 xa va A) (hB:REffs w0 xb vb B) :
  Calls Tryz.prog 131 #[xa,xb,.func (.func 132) #[] #[]] w0 fun e w'=>(∃ r,e=.returned (.bool r)∧(r=true↔A=B))∧Sat w0 w' []:=by
 have hAr:=hA.rs
 have hBr:=hB.rs
 have hAl:=hA.len
 have hBl:=hB.len
 have hAb:=hAr.big
 have hBb:=hBr.big
 have hw:=Sat.start w0
 refine qab (args:=[xa,xb,.func (.func 132) #[] #[]]) mixed Tryz.func131 rfl (by kernel_rfl) (Nat.le_of_ble_eq_true rfl) ?_
 repeat refine qaa ?_
 refine go_if (fun h1 => ?_) (fun h1 => ?_)
 ·repeat refine qaa ?_
  exact qae (v:=.bool false) rfl rfl ⟨⟨false,rfl,iffF fun e=>by rw [e] at hAl;omega⟩,hw.sel⟩
 repeat refine qaa ?_
 refine qap [6,7,8,9,17,18,19,20,21,22,23,24,25,26,27,28,29,30,31] (G:=Nat) (fun i=>[(17,.int .i64 i)]) (fun i w=>i≤A.length∧(∀ m,m<i→A.getD m dEff=B.getD m dEff)∧Sat w0 w []) (fun i=>A.length-i) 0 (fun _=>rfl) ⟨rfl,trivial⟩ ⟨Nat.zero_le _,fun i hi=>absurd hi (Nat.not_lt_zero _),hw.sel⟩ ?_
 clear hw
 rintro σ i w ⟨hi,hno,hw⟩
 repeat refine qaa ?_
 refine go_if (fun h2 => ?_) (fun h2 => ?_)
 ·have hil:i<A.length:=by omega
  have hea:=hA.at_ i hil
  have heb:=hB.at_ i (by omega)
  have oa:=hea.one
  have ob:=heb.one
  repeat (first|refine qaa ?_|(refine qaf ?_;clear hw;intro p w hw)|(refine qag ?_;clear hw;intro w hw))
  refine qbM (cs:=[]) rfl rfl (qgS (qkU hea hw) (qkU heb hw)) ?_
  rintro _ w' ⟨⟨r,rfl,hr⟩,hk'⟩
  replace hw:=hw.call0 hk'
  clear hk'
  refine⟨_,rfl,?_⟩
  cases r
  ·repeat refine qaa ?_
   exact qae (v:=.bool false) rfl rfl ⟨⟨false,rfl,iffF fun e=>by have:=hr.2 (by rw [e]);cases this⟩,hw.sel⟩
  ·repeat refine qaa ?_
   refine⟨i+1,⟨rfl,trivial⟩,agr,⟨by omega,fun m hm => ?_,hw.sel⟩,by omega⟩
   by_cases e:m=i
   ·subst e;exact hr.1 rfl
   ·exact hno m (by omega)
 have hie:i=A.length:=by omega
 subst hie
 repeat refine qaa ?_
 exact qae (v:=.bool true) rfl rfl ⟨⟨true,rfl,iffT (qgr (by omega) hno)⟩,hw.sel⟩
theorem qtt {x y:TOp}(h1:x.name=y.name) (h2:x.cost=y.cost) (h3:x.pre=y.pre) (h4:x.effs=y.effs):x=y:=by cases x;cases y;simp_all
set_option maxRecDepth 8000 in
set_option maxHeartbeats 2000000 in
theorem qlk {w0:World}{x y:OpV}{ox oy:TOp}(hx:ROp w0 x ox) (hy:ROp w0 y oy) :
  Calls Tryz.prog 101 #[.agg (tOp.enc x).toArray,.agg (tOp.enc y).toArray] w0 fun e w'=>(∃ r,e=.returned (.bool r)∧(r=true↔ox=oy))∧Sat w0 w' []:=by
 have ax:=hx.one
 have ay:=hy.one
 have hw:=Sat.start w0
 refine qab (args:=[.agg (tOp.enc x).toArray,.agg (tOp.enc y).toArray]) mixed Tryz.func101 rfl (by kernel_rfl) (Nat.le_of_ble_eq_true rfl) ?_
 have nx:=hx.name
 have ny:=hy.name
 have kx:=hx.cost
 have ky:=hy.cost
 have px:=hx.pre
 have py:=hy.pre
 obtain⟨ex,hex⟩:=hx.effs
 obtain⟨ey,hey⟩:=hy.effs
 repeat (first|refine qaa ?_|(refine qaf ?_;clear hw;intro p w hw))
 refine qau rfl (qnH (a:=x.name) (b:=y.name) rfl rfl) ?_
 by_cases h1:x.name=y.name
 rotate_left
 ·have hd1:decide (x.name=y.name)=false:=decide_eq_false h1
  repeat refine qaa ?_
  simp only [hd1,beq_self_eq_true,qal,qam,Bool.false_and,Bool.true_and,Bool.not_true,Bool.not_false,Bool.cond_true,Bool.cond_false,gv_fI,gv_tI]
  repeat refine qaa ?_
  exact qae (v:=.bool false) rfl rfl ⟨⟨false,rfl,iffF fun e=>h1 (by rw [nx,ny,e])⟩,hw.sel⟩
 have hd1:decide (x.name=y.name)=true:=decide_eq_true h1
 by_cases h2:x.cost=y.cost
 rotate_left
 ·have hd2:decide (x.cost=y.cost)=false:=decide_eq_false h2
  repeat refine qaa ?_
  simp only [hd1,hd2,beq_self_eq_true,qal,qam,Bool.false_and,Bool.true_and,Bool.not_true,Bool.not_false,Bool.cond_true,Bool.cond_false,gv_fI,gv_tI]
  repeat refine qaa ?_
  exact qae (v:=.bool false) rfl rfl ⟨⟨false,rfl,iffF fun e=>h2 (by rw [kx,ky,e])⟩,hw.sel⟩
 have hd2:decide (x.cost=y.cost)=true:=decide_eq_true h2
 repeat refine qaa ?_
 simp only [hd1,hd2,beq_self_eq_true,qal,qam,Bool.false_and,Bool.true_and,Bool.not_true,Bool.not_false,Bool.cond_true,Bool.cond_false,gv_fI,gv_tI]
 repeat refine qaa ?_
 refine qac rfl (qdX (px.at hw) (py.at hw)) ?_
 rintro _ w' ⟨⟨r,rfl,hr⟩,hk'⟩
 replace hw:=hw.call0 hk'
 clear hk'
 refine⟨_,rfl,?_⟩
 cases r
 ·repeat refine qaa ?_
  exact qae (v:=.bool false) rfl rfl ⟨⟨false,rfl,iffF fun e=>by have:=hr.2 (by rw [e]);cases this⟩,hw.sel⟩
 repeat refine qaa ?_
 refine qac rfl (qlj (qml hex hw) (qml hey hw)) ?_
 rintro _ w' ⟨⟨r2,rfl,hr2⟩,hk'⟩
 replace hw:=hw.call0 hk'
 clear hk'
 refine⟨_,rfl,?_⟩
 repeat refine qaa ?_
 exact qae (v:=.bool r2) rfl rfl ⟨⟨r2,rfl,hr2.trans ⟨fun h=>qtt (by rw [←nx,←ny,h1]) (by rw [←kx,←ky,h2]) (hr.1 rfl) h,fun h=>by rw [h]⟩⟩,hw.sel⟩
set_option maxRecDepth 8000 in
set_option maxHeartbeats 2000000 in
theorem qnz {w0:World}{xa xb:Value}{va vb:List OpV}{A B:List TOp}(hA:ROps w0 xa va A) (hB:ROps w0 xb vb B) :
  Calls Tryz.prog 100 #[xa,xb,.func (.func 101) #[] #[]] w0 fun e w'=>(∃ r,e=.returned (.bool r)∧(r=true↔A=B))∧Sat w0 w' []:=by
 have hAr:=hA.rs
 have hBr:=hB.rs
 have hAl:=hA.len
 have hBl:=hB.len
 have hAb:=hAr.big
 have hBb:=hBr.big
 have hw:=Sat.start w0
 refine qab (args:=[xa,xb,.func (.func 101) #[] #[]]) mixed Tryz.func100 rfl (by kernel_rfl) (Nat.le_of_ble_eq_true rfl) ?_
 repeat refine qaa ?_
 refine go_if (fun h1 => ?_) (fun h1 => ?_)
 ·repeat refine qaa ?_
  exact qae (v:=.bool false) rfl rfl ⟨⟨false,rfl,iffF fun e=>by rw [e] at hAl;omega⟩,hw.sel⟩
 repeat refine qaa ?_
 refine qap [6,7,8,9,17,18,19,20,21,22,23,24,25,26,27,28,29,30,31] (G:=Nat) (fun i=>[(17,.int .i64 i)]) (fun i w=>i≤A.length∧(∀ m,m<i→A.getD m dOp=B.getD m dOp)∧Sat w0 w []) (fun i=>A.length-i) 0 (fun _=>rfl) ⟨rfl,trivial⟩ ⟨Nat.zero_le _,fun i hi=>absurd hi (Nat.not_lt_zero _),hw.sel⟩ ?_
 clear hw
 rintro σ i w ⟨hi,hno,hw⟩
 repeat refine qaa ?_
 refine go_if (fun h2 => ?_) (fun h2 => ?_)
 ·have hil:i<A.length:=by omega
  have hea:=hA.at_ i hil
  have heb:=hB.at_ i (by omega)
  have oa:=hea.one
  have ob:=heb.one
  repeat (first|refine qaa ?_|(refine qaf ?_;clear hw;intro p w hw)|(refine qag ?_;clear hw;intro w hw))
  refine qbM (cs:=[]) rfl rfl (qlk (hea.at hw) (heb.at hw)) ?_
  rintro _ w' ⟨⟨r,rfl,hr⟩,hk'⟩
  replace hw:=hw.call0 hk'
  clear hk'
  refine⟨_,rfl,?_⟩
  cases r
  ·repeat refine qaa ?_
   exact qae (v:=.bool false) rfl rfl ⟨⟨false,rfl,iffF fun e=>by have:=hr.2 (by rw [e]);cases this⟩,hw.sel⟩
  ·repeat refine qaa ?_
   refine⟨i+1,⟨rfl,trivial⟩,agr,⟨by omega,fun m hm => ?_,hw.sel⟩,by omega⟩
   by_cases e:m=i
   ·subst e;exact hr.1 rfl
   ·exact hno m (by omega)
 have hie:i=A.length:=by omega
 subst hie
 repeat refine qaa ?_
 exact qae (v:=.bool true) rfl rfl ⟨⟨true,rfl,iffT (qgr (by omega) hno)⟩,hw.sel⟩
theorem qrl {x y:TTask}(h1:x.vars=y.vars) (h2:x.init=y.init) (h3:x.goal=y.goal) (h4:x.ops=y.ops):x=y:=by cases x;cases y;simp_all
set_option maxRecDepth 8000 in
set_option maxHeartbeats 2000000 in
theorem qp5 {w0:World}{a b c d a2 b2 c2 d2:Value}{vs us:List OpV}{t u:TTask}(ht:RTask w0 a b c d vs t) (hu:RTask w0 a2 b2 c2 d2 us u) :
  Calls Tryz.prog 63 #[.agg #[a,b,c,d],.agg #[a2,b2,c2,d2]] w0 fun e w'=>(∃ r,e=.returned (.bool r)∧(r=true↔t=u))∧Sat w0 w' []:=by
 have ht':=ht
 have hu':=hu
 obtain⟨ha,hb,hc,hd⟩:=ht
 obtain⟨ha2,hb2,hc2,hd2⟩:=hu
 have hw:=Sat.start w0
 refine qab (args:=[.agg #[a,b,c,d],.agg #[a2,b2,c2,d2]]) mixed Tryz.func63 rfl (by kernel_rfl) (Nat.le_of_ble_eq_true rfl) ?_
 repeat (first|refine qaa ?_|(refine qaf ?_;clear hw;intro p w hw))
 refine qac rfl (qgQ (ha.at hw) (ha2.at hw)) ?_
 rintro _ w' ⟨⟨r,rfl,hr⟩,hk'⟩
 replace hw:=hw.call0 hk'
 clear hk'
 refine⟨_,rfl,?_⟩
 cases r
 ·repeat refine qaa ?_
  exact qae (v:=.bool false) rfl rfl ⟨⟨false,rfl,iffF fun e=>by have:=hr.2 (by rw [e]);cases this⟩,hw.sel⟩
 repeat refine qaa ?_
 refine qac rfl (qgQ (hb.at hw) (hb2.at hw)) ?_
 rintro _ w' ⟨⟨r2,rfl,hr2⟩,hk'⟩
 replace hw:=hw.call0 hk'
 clear hk'
 refine⟨_,rfl,?_⟩
 cases r2
 ·repeat refine qaa ?_
  exact qae (v:=.bool false) rfl rfl ⟨⟨false,rfl,iffF fun e=>by have:=hr2.2 (by rw [e]);cases this⟩,hw.sel⟩
 repeat refine qaa ?_
 refine qac rfl (qdX (hc.at hw) (hc2.at hw)) ?_
 rintro _ w' ⟨⟨r3,rfl,hr3⟩,hk'⟩
 replace hw:=hw.call0 hk'
 clear hk'
 refine⟨_,rfl,?_⟩
 cases r3
 ·repeat refine qaa ?_
  exact qae (v:=.bool false) rfl rfl ⟨⟨false,rfl,iffF fun e=>by have:=hr3.2 (by rw [e]);cases this⟩,hw.sel⟩
 repeat refine qaa ?_
 refine qac rfl (qnz (hd.at hw) (hd2.at hw)) ?_
 rintro _ w' ⟨⟨r4,rfl,hr4⟩,hk'⟩
 replace hw:=hw.call0 hk'
 clear hk'
 refine⟨_,rfl,?_⟩
 repeat refine qaa ?_
 exact qae (v:=.bool r4) rfl rfl ⟨⟨r4,rfl,hr4.trans ⟨fun h=>qrl (hr.1 rfl) (hr2.1 rfl) (hr3.1 rfl) h,fun h=>by rw [h]⟩⟩,hw.sel⟩
end Go.Proofs.YtkmbenhffledpaaGreat
/-
  Contracts of package 'pack': New, Pack, Unpack, Hash.
-/
namespace Go.Proofs.YtkmbenhffledpaaGreat
open Go.Sl Go
attribute [local irreducible] vc opsW opsD opV opW PureV ReadV Thn Blk
instance pkIntI:IntT Tryz.prog 3 .i64:=⟨by kernel_rfl⟩
instance pkIntU:IntT Tryz.prog 251 .u64:=⟨by kernel_rfl⟩
structure RPk (w:World) (p:Addr) (F:List Fld) (W:Nat):Prop where
 ex:∃ fv,BoxR w p [fv,.int .i64 (W:Int)]∧RS tFld w fv F
 w6:∀ i,i<F.length→(fld F i).width≤6
theorem pow6 {k:Nat}(h:k≤6):1≤2 ^ k∧2 ^ k≤64:=⟨Nat.one_le_two_pow,Nat.le_trans (Nat.pow_le_pow_right (by decide) h) (by decide)⟩
set_option maxRecDepth 8000 in
theorem qj8 {w0:World}{f:Fld}(h:f.bit+f.width≤64) (h6:f.width≤6) :
  Calls Tryz.prog 158 #[.agg (tFld.enc f).toArray] w0 fun e w'=>e=.returned (u64 (maskF f))∧Sat w0 w' []:=by
 obtain⟨g1,g2⟩:=pow6 h6
 have e1:1*2 ^ f.width % 18446744073709551616=2 ^ f.width:=by rw [Nat.one_mul,Nat.mod_eq_of_lt (by omega)]
 have e2:(2 ^ f.width-1)*2 ^ f.bit % 18446744073709551616=maskF f:=Nat.mod_eq_of_lt (qfx h)
 have hw:=Sat.start w0
 refine qab (args:=[.agg (tFld.enc f).toArray]) mixed Tryz.func158 rfl (by kernel_rfl) (Nat.le_of_ble_eq_true rfl) ?_
 repeat (first|refine qaa ?_|(refine qaf ?_;clear hw;intro p w hw)|(refine qag ?_;clear hw;intro w hw))
 refine qau rfl (qiL (a:=1) (b:=f.width) rfl rfl (by omega)) ?_
 rw [e1]
 refine qau rfl (qrg (a:=2 ^ f.width) (b:=1) rfl rfl g1 (by omega)) ?_
 repeat refine qaa ?_
 refine qau rfl (qiL (a:=2 ^ f.width-1) (b:=f.bit) rfl rfl (by omega)) ?_
 rw [e2]
 repeat refine qaa ?_
 exact qae (v:=u64 (maskF f)) rfl rfl ⟨rfl,hw.sel⟩
set_option maxRecDepth 8000 in
theorem qpQ {w0:World}{f:Fld}{wv:Value}{ws:List Nat}(h:f.bit+f.width≤64) (h6:f.width≤6) (hws:RS tU64 w0 wv ws) (hi:f.word<ws.length) (hlt:ws.getD f.word 0<18446744073709551616) :
  Calls Tryz.prog 157 #[.agg (tFld.enc f).toArray,wv] w0 fun e w'=>e=.returned (.int .i64 ((((ws.getD f.word 0) &&& maskF f) / 2 ^ f.bit:Nat):Int))∧Sat w0 w' []:=by
 have hml:=qfx h
 have hw:=Sat.start w0
 refine qab (args:=[.agg (tFld.enc f).toArray,wv]) mixed Tryz.func157 rfl (by kernel_rfl) (Nat.le_of_ble_eq_true rfl) ?_
 repeat (first|refine qaa ?_|(refine qaf ?_;clear hw;intro p w hw))
 refine qas [.op 0,.op 1,.op 2,.op 3,.op 4,.op 5,.op 8,.op 9,.op 6,.chk 2,.chk 4,.chk 9,.op 7,.op 10,.op 11,.op 12] hw (by kernel_rfl) ?_;clear hw;intro w hw
 repeat refine qaa ?_
 refine qac rfl (qj8 h h6) ?_
 rintro _ w' ⟨rfl,hk'⟩
 replace hw:=hw.call0 hk'
 clear hk'
 refine⟨_,rfl,?_⟩
 repeat refine qaa ?_
 refine qau rfl (qrd (a:=ws.getD f.word tU64.dflt) (b:=maskF f) rfl rfl hlt hml) ?_
 repeat refine qaa ?_
 refine qau rfl (qiM (a:=ws.getD f.word tU64.dflt &&& maskF f) (b:=f.bit) rfl rfl (by omega)) ?_
 have hsm:(ws.getD f.word tU64.dflt &&& maskF f) / 2 ^ f.bit≤63:=by
  have h1:(ws.getD f.word tU64.dflt &&& maskF f)≤maskF f:=Nat.and_le_right
  have h2:(ws.getD f.word tU64.dflt &&& maskF f) / 2 ^ f.bit≤maskF f / 2 ^ f.bit:=Nat.div_le_div_right h1
  have h3:maskF f / 2 ^ f.bit=2 ^ f.width-1:=by unfold maskF;exact Nat.mul_div_cancel _ (Nat.two_pow_pos _)
  have:=(pow6 h6).2
  omega
 obtain⟨q,hq⟩:∃ q,q=(ws.getD f.word tU64.dflt &&& maskF f) / 2 ^ f.bit:=⟨_,rfl⟩
 rw [←hq] at hsm ⊢
 repeat refine qaa ?_
 refine qau rfl (qpz (ks:=.u64) (n:=(q:Int)) rfl (by omega) (by omega)) ?_
 repeat refine qaa ?_
 exact qae (v:=.int .i64 (q:Int)) rfl rfl ⟨by rw [hq];rfl,hw.sel⟩
theorem qsv {h x M:Nat}(hM:M=(h ^^^ x)*13787848793156543929 % 18446744073709551616):M ^^^ (M / 2 ^ 29)=hshS h x:=by
 subst hM;unfold hshS;rfl
attribute [local irreducible] hshK hshS hshL
set_option maxRecDepth 8000 in
set_option maxHeartbeats 4000000 in
theorem qpR {w0:World}{p:Addr}{wv:Value}{ws:List Nat}(hws:RS tU64 w0 wv ws) (hlt:∀ x,x<ws.length→ws.getD x 0<18446744073709551616) :
  Calls Tryz.prog 170 #[.pointer (some p),wv] w0 fun e w'=>e=.returned (.int .i64 (hshL ws))∧Sat w0 w' []:=by
 have hb:=hws.big
 have hw:=Sat.start w0
 refine qab (args:=[.pointer (some p),wv]) mixed Tryz.func170 rfl (by kernel_rfl) (Nat.le_of_ble_eq_true rfl) ?_
 repeat refine qaa ?_
 refine qau rfl (ql6 (n:=ws.length) rfl (by omega)) ?_
 refine qau rfl (qre (a:=ws.length) (b:=11400714819323198485) rfl rfl) ?_
 have h0:=qj2 ws
 rw [←h0]
 repeat refine qaa ?_
 refine qap [5,7,16,17,18,19,20,21,22,23,24,25,26,27,28,29] (G:=Nat) (fun k=>[(16,.int .i64 k),(5,u64 (hshK ws k))]) (fun k w=>k≤ws.length∧Sat w0 w []) (fun k=>ws.length-k) 0 (fun _=>rfl) ⟨rfl,rfl,trivial⟩ ⟨Nat.zero_le _,hw⟩ ?_
 clear hw
 rintro σ k w ⟨hk,hw⟩
 repeat refine qaa ?_
 refine go_if (fun h1 => ?_) (fun h1 => ?_)
 ·have hkl:k<ws.length:=by omega
  have hkk:=qps ws (k:=k) hk
  have hwk:=hlt k hkl
  have hs:=qj1 hkl
  repeat refine qaa ?_
  refine qau rfl (ql5 (a:=hshK ws k) (b:=ws.getD k tU64.dflt) rfl rfl hkk hwk) ?_
  repeat refine qaa ?_
  refine qau rfl (qrf (a:=hshK ws k ^^^ ws.getD k tU64.dflt) (b:=13787848793156543929) rfl rfl) ?_
  obtain⟨M,hM⟩:∃ M,M=(hshK ws k ^^^ ws.getD k tU64.dflt)*13787848793156543929 % 18446744073709551616:=⟨_,rfl⟩
  have hMl:M<18446744073709551616:=by rw [hM];exact qiS _
  rw [←hM]
  repeat refine qaa ?_
  refine qau rfl (qiM (a:=M) (b:=29) rfl rfl (by omega)) ?_
  refine qau rfl (ql5 (a:=M) (b:=M / 2 ^ 29) rfl rfl hMl (Nat.lt_of_le_of_lt (Nat.div_le_self _ _) hMl)) ?_
  rw [qsv hM,←hs]
  repeat refine qaa ?_
  exact⟨k+1,⟨rfl,rfl,trivial⟩,agr,⟨by omega,hw⟩,by omega⟩
 have hke:k=ws.length:=by omega
 rw [hke]
 have hkk:=qps ws (k:=ws.length) (Nat.le_refl _)
 have hres:hshL ws=((hshK ws ws.length / 2 ^ 2:Nat):Int):=by unfold hshL;rfl
 rw [hres]
 generalize hshK ws ws.length=K at hkk ⊢
 repeat refine qaa ?_
 refine qau rfl (qiM (a:=K) (b:=2) rfl rfl (by omega)) ?_
 have hq:K / 2 ^ 2<4611686018427387904:=by omega
 generalize K / 2 ^ 2=q at hq ⊢
 repeat refine qaa ?_
 refine qau rfl (qpz (ks:=.u64) (n:=(q:Int)) rfl (by omega) (by omega)) ?_
 repeat refine qaa ?_
 exact qae (v:=.int .i64 (q:Int)) rfl rfl ⟨rfl,hw⟩
set_option maxRecDepth 8000 in
set_option maxHeartbeats 8000000 in
theorem qpS {w0:World}{p:Addr}{sv:Value}{s:List Int}{vars:List Int}{F:List Fld}{W:Nat}(hr:RPk w0 p F W) (hk:PkOk vars vars.length F W) (hvl:vars.length≤64) (hs:RS tInt w0 sv s) (hok:StateOk vars s) :
  Calls Tryz.prog 169 #[.pointer (some p),sv] w0 fun e w'=>∃ wv ws,e=.returned (.tuple #[wv,.nilIface])∧Pkd F s W vars.length ws∧Sat w0 w' [OS tU64 251 wv ws]:=by
 obtain⟨⟨fv,hbx,hF⟩,h6⟩:=hr
 have hFl:=hk.len
 have hsl:=hok.1
 have hW1:=hk.w1
 have hW2:=hk.w2
 have hw:=Sat.start w0
 refine qab (args:=[.pointer (some p),sv]) mixed Tryz.func169 rfl (by kernel_rfl) (Nat.le_of_ble_eq_true rfl) ?_
 have hd0:decide ((s.length:Int)=(F.length:Int))=true:=decide_eq_true (by omega)
 repeat refine qaa ?_
 simp only [hd0,Bool.not_true]
 repeat refine qaa ?_
 refine qiv tU64 0 (n:=(W:Int)) rfl rfl rfl rfl (by omega) (by omega) (by omega) hw ?_
 clear hw
 intro wv w hw
 rw [Int.toNat_natCast] at hw
 repeat refine qaa ?_
 refine qao [4,5,7,8,31,32,33,34,35,36,37,38,39,40,41,42,43,44,45,46,47,48,49,50,51,52,53,54,55,56,57,58,59,60,61,62,63,64,65,66] (G:=Nat) (H:=List Nat) (fun k _=>[(31,.int .i64 k)]) (fun k ws w=>k≤vars.length∧Pkd F s W k ws∧Sat w0 w [OS tU64 251 wv ws]) (fun k _=>vars.length-k) 0 (List.replicate W 0) (fun _ _=>rfl) ⟨rfl,trivial⟩ ⟨Nat.zero_le _,Pkd.zero F s W,hw⟩ ?_
 clear hw
 rintro σ k ws w ⟨hkl,hp,hw⟩
 repeat refine qaa ?_
 refine go_if (fun h1 => ?_) (fun h1 => ?_)
 ·have hki:k<vars.length:=by omega
  have hsk:=hok.2 k (by omega)
  have hsz:=hk.size k hki
  have hwd:=hk.wd k hki
  have hshl:=hk.shl hok hki
  have hwl:=hp.len
  have hlt:=hp.lt hk hok (Nat.le_of_lt hki) hwd.1
  have hv6:=hk.val_lt hok hki
  have hp6:=pow6 (h6 k (by omega))
  have hd1:decide (s.getD k tInt.dflt<0)=false:=decide_eq_false (by omega)
  have hd2:decide (((fld F k).size:Int)≤s.getD k tInt.dflt)=false:=decide_eq_false (by omega)
  repeat (first|refine qaa ?_|(refine qaf ?_;clear hw;intro p w hw)|(refine qai ?_;clear hw;intro w hw))
  obtain⟨p8,hp8⟩:∃ p8,p8=p:=⟨p,rfl⟩
  subst hp8
  replace hw:Sat w0 w [Box p8 277 (tFld.enc (fld F k)),OS tU64 251 wv ws]:=hw
  refine qbu ?_
  clear hw
  intro w hw
  repeat refine qaa ?_
  simp only [hd1,hd2,beq_self_eq_true,qal,qam,Bool.false_and,Bool.true_and,Bool.false_or,Bool.true_or,Bool.not_true,Bool.not_false,Bool.cond_true,Bool.cond_false,gv_fI,gv_tI]
  repeat refine qaa ?_
  refine qas [.op 0,.op 1,.op 2,.op 3,.op 4,.op 5,.op 6,.op 7,.op 8,.op 9,.op 10,.op 11,.op 12,.op 13,.op 14,.op 15] hw (by kernel_rfl) ?_;clear hw;intro w hw
  repeat refine qaa ?_
  refine qau rfl (qoZ (z:=s.getD k tInt.dflt) rfl (by omega) (by omega)) ?_
  repeat refine qaa ?_
  refine qau rfl (qiL (a:=(s.getD k tInt.dflt).toNat) (b:=(fld F k).bit) rfl rfl (by omega)) ?_
  rw [Nat.mod_eq_of_lt hshl]
  repeat refine qaa ?_
  refine qau rfl (qs1 (a:=ws.getD (fld F k).word tU64.dflt) (b:=(s.getD k tInt.dflt).toNat*2 ^ (fld F k).bit) rfl rfl hlt hshl) ?_
  repeat (first|refine qaa ?_|(refine qai ?_;clear hw;intro w hw))
  exact⟨k+1,_,⟨rfl,trivial⟩,agr,⟨by omega,hp.next hk hki,hw.tail⟩,by omega⟩
 have hke:k=vars.length:=by omega
 subst hke
 repeat refine qaa ?_
 exact qav (v:=wv) (v':=.nilIface) rfl rfl rfl ⟨wv,ws,rfl,hp,hw⟩
set_option maxRecDepth 8000 in
set_option maxHeartbeats 8000000 in
theorem qnk {w0:World}{av:Value}{vars:List Int}(ha:RS tInt w0 av vars) (hvl:vars.length≤64) (hd:∀ i,i<vars.length→1≤vars.getD i tInt.dflt∧vars.getD i tInt.dflt≤64) :
  Calls Tryz.prog 122 #[av] w0 fun e w'=>∃ p F W,e=.returned (.tuple #[.pointer (some p),.nilIface])∧PkOk vars vars.length F W∧Sat w0 w' [RdH fun w=>RPk w p F W]:=by
 have hw:=Sat.start w0
 refine qab (args:=[av]) mixed Tryz.func122 rfl (by kernel_rfl) (Nat.le_of_ble_eq_true rfl) ?_
 have hd0:decide ((64:Int)<(vars.length:Int))=false:=decide_eq_false (by omega)
 repeat refine qaa ?_
 simp only [hd0]
 repeat (first|refine qaa ?_|(refine qaf ?_;clear hw;intro p w hw))
 obtain⟨p4,hp4⟩:∃ p4,p4=p:=⟨p,rfl⟩
 subst hp4
 have hw1:Sat w0 w [OS tFld 277 (.slice none 0 0) [],Box p4 275 [.slice none 0 0,.int .i64 ((1:Nat):Int)]]:=Sat.nil (T:=tFld) (e:=277) hw
 clear hw
 have hw:=hw1
 clear hw1
 refine qao [2,3,5,7,8,17,18,19,20,21,22,23,24,25,26,27,28,29,30,31,32,33,34,35,36,37,38,39,40,41,42,43,44,45,46,47,48,49,50,51,52,53,54,55,56,57,58,59,60,61,62,63,64,65,66] (G:=Nat) (H:=Nat) (fun k bit=>[(17,.int .i64 k),(5,.int .i64 bit)]) (fun k bit w=>k≤vars.length∧∃ fv F W,PkI vars k F W bit∧(∀ i,i<F.length→(fld F i).width≤6)∧Sat w0 w [OS tFld 277 fv F,Box p4 275 [fv,.int .i64 (W:Int)]]) (fun k _=>vars.length-k) 0 0 (fun _ _=>rfl) ⟨rfl,rfl,trivial⟩ ⟨Nat.zero_le _,_,[],1,PkI.zero vars,fun i hi=>absurd hi (Nat.not_lt_zero _),hw⟩ ?_
 clear hw
 rintro σ k bit w ⟨hk,fv,F,W,hI,h6,hw⟩
 repeat refine qaa ?_
 refine go_if (fun h1 => ?_) (fun h1 => ?_)
 ·have hkl:k<vars.length:=by omega
  have hdk:=hd k hkl
  obtain⟨n,hn⟩:∃ n:Nat,vars.getD k tInt.dflt=(n:Int):=⟨(vars.getD k tInt.dflt).toNat,by omega⟩
  have hb64:=hI.b64
  have hFl:=hI.len
  have hW2:=hI.w2
  have hW1:=hI.w1
  have hd1:decide (vars.getD k tInt.dflt<1)=false:=decide_eq_false (by omega)
  have hd2:decide ((64:Int)<vars.getD k tInt.dflt)=false:=decide_eq_false (by omega)
  repeat refine qaa ?_
  simp only [hd1,hd2,beq_self_eq_true,qal,qam,Bool.false_and,Bool.true_and,Bool.false_or,Bool.true_or,Bool.not_true,Bool.not_false,Bool.cond_true,Bool.cond_false,gv_fI,gv_tI]
  repeat refine qaa ?_
  refine qap [8,28,29,30,31,32,33] (G:=Nat) (fun wi=>[(8,.int .i64 wi)]) (fun wi w=>wi≤6∧Sat w0 w [OS tFld 277 fv F,Box p4 275 [fv,.int .i64 (W:Int)]]) (fun wi=>6-wi) 0 (fun _=>rfl) ⟨rfl,trivial⟩ ⟨by omega,hw⟩ ?_
  clear hw
  rintro σ1 wi w ⟨hwi,hw⟩
  obtain⟨g1,g2⟩:=pow6 hwi
  repeat refine qaa ?_
  refine qau rfl (qsy (a:=1) (b:=wi) rfl rfl (by omega) (by omega)) ?_
  rw [Nat.one_mul]
  repeat refine qaa ?_
  refine go_if (fun h2 => ?_) (fun h2 => ?_)
  ·have hw6:wi<6:=Nat.lt_of_not_le fun h=>by
    have:wi=6:=by omega
    subst this
    omega
   repeat refine qaa ?_
   exact⟨wi+1,⟨rfl,trivial⟩,agr,⟨by omega,hw⟩,by omega⟩
  have hnf:n≤2 ^ wi:=by omega
  repeat refine qaa ?_
  refine go_if (fun h3 => ?_) (fun h3 => ?_)
  ·repeat (first|refine qaa ?_|(refine qai ?_;clear hw;intro w hw))
   obtain⟨W',hW'⟩:∃ W',W'=W+1:=⟨_,rfl⟩
   obtain⟨b',hb'⟩:∃ b':Nat,b'=0:=⟨_,rfl⟩
   have hc:(W'=W∧b'=bit)∨(W'=W+1∧b'=0):=.inr ⟨hW',hb'⟩
   have hb4:b'+wi≤64:=by omega
   have hw1:Sat w0 w [OS tFld 277 fv F,Box p4 275 [fv,.int .i64 (W':Int)]]:=by
    rw [hW'];exact hw
   clear hw
   have hw:=hw1
   clear hw1
   have hz:Value.int .i64 0=Value.int .i64 (b':Int):=by rw [hb'];rfl
   rw [hz]
   repeat refine qaa ?_
   refine qas [.op 0,.op 1,.op 2,.op 3,.op 4,.op 5,.op 6,.op 7,.op 8,.op 9,.op 10,.op 11,.op 12,.op 13,.chk 4,.op 14,.chk 4,.op 15,.op 16,.op 17,.op 18] hw (by kernel_rfl) ?_;clear hw;intro w hw
   repeat refine qaa ?_
   refine qen (v1:=.int .i64 ((W':Int)-1)) (v2:=.int .i64 (b':Int)) (v3:=.int .i64 (wi:Int)) (v4:=.int .i64 (vars.getD k tInt.dflt)) rfl rfl rfl rfl rfl rfl ?_
   repeat refine qaa ?_
   have hw1e:((W':Int)-1)=((W'-1:Nat):Int):=by omega
   refine qah tFld (x1:=⟨W'-1,b',wi,n⟩) rfl (by show [Value.int .i64 ((W':Int)-1),.int .i64 (b':Int),.int .i64 (wi:Int),.int .i64 (vars.getD k tInt.dflt)]=_;rw [hw1e,hn];rfl) rfl (Nat.le_of_ble_eq_true rfl) (Nat.zero_lt_succ _) hw ?_
   clear hw
   intro sl w hw
   repeat (first|refine qaa ?_|(refine qai ?_;clear hw;intro w hw)|(refine qaq ?_;clear hw;intro s w hw))
   have hI2:=hI.next (W':=W') (b':=b') (wi:=wi) (n:=n) hn.symm hnf hb4 hc (by omega)
   have h62:∀ i,i<(F++[(⟨W'-1,b',wi,n⟩:Fld)]).length→(fld (F++[(⟨W'-1,b',wi,n⟩:Fld)]) i).width≤6:=fun i hi=>by
    rw [qiR]
    by_cases e:i<F.length
    ·rw [if_pos e];exact h6 i e
    ·rw [if_neg e,if_pos (by simp at hi;omega)];exact hwi
   exact⟨k+1,b'+wi,⟨rfl,rfl,trivial⟩,agr,⟨by omega,s,_,W',hI2,h62,hw.tail⟩,by omega⟩
  ·obtain⟨W',hW'⟩:∃ W',W'=W:=⟨_,rfl⟩
   obtain⟨b',hb'⟩:∃ b':Nat,b'=bit:=⟨_,rfl⟩
   have hc:(W'=W∧b'=bit)∨(W'=W+1∧b'=0):=.inl ⟨hW',hb'⟩
   have hb4:b'+wi≤64:=by omega
   rw [←hW'] at hw
   rw [←hb']
   repeat refine qaa ?_
   refine qas [.op 0,.op 1,.op 2,.op 3,.op 4,.op 5,.op 6,.op 7,.op 8,.op 9,.op 10,.op 11,.op 12,.op 13,.chk 4,.op 14,.chk 4,.op 15,.op 16,.op 17,.op 18] hw (by kernel_rfl) ?_;clear hw;intro w hw
   repeat refine qaa ?_
   refine qen (v1:=.int .i64 ((W':Int)-1)) (v2:=.int .i64 (b':Int)) (v3:=.int .i64 (wi:Int)) (v4:=.int .i64 (vars.getD k tInt.dflt)) rfl rfl rfl rfl rfl rfl ?_
   repeat refine qaa ?_
   have hw1e:((W':Int)-1)=((W'-1:Nat):Int):=by omega
   refine qah tFld (x1:=⟨W'-1,b',wi,n⟩) rfl (by show [Value.int .i64 ((W':Int)-1),.int .i64 (b':Int),.int .i64 (wi:Int),.int .i64 (vars.getD k tInt.dflt)]=_;rw [hw1e,hn];rfl) rfl (Nat.le_of_ble_eq_true rfl) (Nat.zero_lt_succ _) hw ?_
   clear hw
   intro sl w hw
   repeat (first|refine qaa ?_|(refine qai ?_;clear hw;intro w hw)|(refine qaq ?_;clear hw;intro s w hw))
   have hI2:=hI.next (W':=W') (b':=b') (wi:=wi) (n:=n) hn.symm hnf hb4 hc (by omega)
   have h62:∀ i,i<(F++[(⟨W'-1,b',wi,n⟩:Fld)]).length→(fld (F++[(⟨W'-1,b',wi,n⟩:Fld)]) i).width≤6:=fun i hi=>by
    rw [qiR]
    by_cases e:i<F.length
    ·rw [if_pos e];exact h6 i e
    ·rw [if_neg e,if_pos (by simp at hi;omega)];exact hwi
   exact⟨k+1,b'+wi,⟨rfl,rfl,trivial⟩,agr,⟨by omega,s,_,W',hI2,h62,hw.tail⟩,by omega⟩
 have hke:k=vars.length:=by omega
 subst hke
 repeat refine qaa ?_
 have hw3:=Sat.rd (Δ:=[OS tFld 277 fv F,Box p4 275 [fv,.int .i64 (W:Int)]]) (φ:=fun w=>RPk w p4 F W) (Γ:=[]) (fun _ w h=>⟨⟨fv,h.boxR 1 rfl,h.rs 0 rfl⟩,h6⟩) hw
 exact qav (v:=.pointer (some p4)) (v':=.nilIface) rfl rfl rfl ⟨p4,F,W,rfl,hI.toPkOk,hw3⟩
end Go.Proofs.YtkmbenhffledpaaGreat
/-
  Contract of 'pack.Unpack'.
-/
namespace Go.Proofs.YtkmbenhffledpaaGreat
open Go.Sl Go
attribute [local irreducible] vc opsW opsD opV opW PureV ReadV Thn Blk
set_option maxRecDepth 8000 in
theorem qlb {w0:World}{a:Value}{xs:List Nat}(ha:RS tU64 w0 a xs) (hn:xs.length≤1048576) :
  Calls Tryz.prog 156 #[a] w0 fun e w'=>∃ s,e=.returned s∧Sat w0 w' [OS tU64 251 s xs]:=by
 have hw:=Sat.start w0
 obtain⟨ad,cap,hs⟩:=ha.shape
 subst hs
 refine qab (args:=[.slice ad xs.length cap]) mixed Tryz.func156 rfl (by kernel_rfl) (Nat.le_of_ble_eq_true rfl) ?_
 repeat refine qaa ?_
 refine qau rfl (qdo (a:=ad) (n:=xs.length) (c:=cap) rfl) ?_
 cases ad with
 | none =>
  have h0:xs=[]:=by
   rcases Nat.eq_zero_or_pos xs.length with h|h
   ·exact List.eq_nil_of_length_eq_zero h
   ·obtain⟨p,c2,he,_⟩:=ha.some (by decide) h
    cases he
  subst h0
  repeat refine qaa ?_
  exact qae (v:=.slice none 0 0) rfl rfl ⟨_,rfl,hw.nil⟩
 | some p =>
  repeat refine qaa ?_
  refine qaO tU64 hw ?_
  clear hw
  intro s1 w hw
  repeat (first|refine qaa ?_|(refine qaq ?_;clear hw;intro s w hw))
  rw [List.nil_append] at hw
  exact qae (v:=s) rfl rfl ⟨_,rfl,hw⟩
set_option maxRecDepth 8000 in
set_option maxHeartbeats 8000000 in
theorem qlc {w0:World}{p:Addr}{wv:Value}{z:List Int}{ws:List Nat}{vars:List Int}{F:List Fld}{W:Nat}(hr:RPk w0 p F W) (hk:PkOk vars vars.length F W) (hvl:vars.length≤64) (hws:RS tU64 w0 wv ws) (hp:Pkd F z W vars.length ws) (hok:StateOk vars z) :
  Calls Tryz.prog 128 #[.pointer (some p),wv] w0 fun e w'=>∃ sv,e=.returned (.tuple #[sv,.nilIface])∧Sat w0 w' [OS tInt 3 sv z]:=by
 obtain⟨⟨fv,hbx,hF⟩,h6⟩:=hr
 have hFl:=hk.len
 have hzl:=hok.1
 have hW1:=hk.w1
 have hW2:=hk.w2
 have hwl:=hp.len
 have hlt:∀ x,x<ws.length→ws.getD x 0<18446744073709551616:=fun x hx=>hp.lt hk hok (Nat.le_refl _) (by omega)
 have hw:=Sat.start w0
 refine qab (args:=[.pointer (some p),wv]) mixed Tryz.func128 rfl (by kernel_rfl) (Nat.le_of_ble_eq_true rfl) ?_
 have hd0:decide ((ws.length:Int)=(W:Int))=true:=decide_eq_true (by omega)
 repeat refine qaa ?_
 simp only [hd0,Bool.not_true]
 repeat (first|refine qaa ?_|(refine qaq ?_;clear hw;intro s w hw))
 refine qac rfl (qlb (hws.at hw) (by omega)) ?_
 rintro _ w' ⟨rv,rfl,hk'⟩
 replace hw:=hw.call1 hk'
 clear hk'
 refine⟨_,rfl,?_⟩
 obtain⟨ov,hov⟩:∃ ov,ov=s:=⟨s,rfl⟩
 subst hov
 have hr0:(List.replicate ((F.length:Nat):Int).toNat (0:Int)).length=F.length:=by simp
 have hw1:Sat w0 w' [OS tInt 3 ov (fillL vars.length (fun i=>z.getD i tInt.dflt) 0),OS tU64 251 rv ws]:=by
  rw [Int.toNat_natCast,hFl,←qeF vars.length (fun i=>z.getD i tInt.dflt)] at hw
  exact hw.swap
 clear hw
 have hw:=hw1
 clear hw1
 repeat refine qaa ?_
 refine qao [4,5,8,9,36,37,38,39,40,41,42,43,44,45,46,47,48,49,50,51,52,53,54,55,56,57,58,59,60,61,62,63,64] (G:=Nat) (H:=List Nat) (fun k _=>[(36,.int .i64 k)]) (fun k rs w=>k≤vars.length∧RstI F ws k rs∧Sat w0 w [OS tInt 3 ov (fillL vars.length (fun i=>z.getD i tInt.dflt) k),OS tU64 251 rv rs]) (fun k _=>vars.length-k) 0 ws (fun _ _=>rfl) ⟨rfl,trivial⟩ ⟨Nat.zero_le _,RstI.zero F ws,hw⟩ ?_
 clear hw
 rintro σ k rs w ⟨hkl,hR,hw⟩
 have hml:=qbt vars.length (fun i=>z.getD i tInt.dflt) k
 repeat refine qaa ?_
 refine go_if (fun h1 => ?_) (fun h1 => ?_)
 ·have hki:k<vars.length:=by omega
  have hzk:=hok.2 k (by omega)
  have hsz:=hk.size k hki
  have hwd:=hk.wd k hki
  have hg6:=h6 k (by omega)
  have hrl:=hR.len
  have hget:=hp.get hk hok hki
  have hzn:(((ws.getD (fld F k).word 0 &&& maskF (fld F k)) / 2 ^ (fld F k).bit:Nat):Int)=z.getD k tInt.dflt:=by rw [hget,Int.toNat_of_nonneg hzk.1]
  have hd1:decide (((fld F k).size:Int)≤z.getD k tInt.dflt)=false:=decide_eq_false (by omega)
  repeat (first|refine qaa ?_|(refine qaf ?_;clear hw;intro p w hw)|(refine qai ?_;clear hw;intro w hw))
  obtain⟨p9,hp9⟩:∃ p9,p9=p:=⟨p,rfl⟩
  subst hp9
  replace hw:Sat w0 w [Box p9 277 (tFld.enc (fld F k)),OS tInt 3 ov (fillL vars.length (fun i=>z.getD i tInt.dflt) k),OS tU64 251 rv rs]:=hw
  refine qac rfl (qpQ (f:=fld F k) hwd.2 hg6 (hws.at hw) (by omega) (hlt _ (by omega))) ?_
  rintro _ w' ⟨rfl,hk'⟩
  replace hw:=hw.call0 hk'
  clear hk'
  refine⟨_,rfl,?_⟩
  rw [hzn]
  repeat (first|refine qaa ?_|(refine qai ?_;clear hw;intro w hw))
  rw [show z.getD k tInt.dflt=(fun i=>z.getD i tInt.dflt) k from rfl,qfM] at hw
  have hml2:=qbt vars.length (fun i=>z.getD i tInt.dflt) (k+1)
  have hat:=qh7 (f:=fun i=>z.getD i tInt.dflt) hki (Nat.lt_succ_self k)
  refine qbu ?_
  clear hw
  intro w hw
  repeat refine qaa ?_
  rw [hat]
  simp only [hd1]
  repeat refine qaa ?_
  refine qas [.op 0,.op 1,.op 2,.op 3,.op 4,.op 5,.op 6,.chk 2,.chk 4,.op 7,.op 8,.op 9] hw (by kernel_rfl) ?_;clear hw;intro w hw
  repeat refine qaa ?_
  refine qac rfl (qj8 (f:=fld F k) hwd.2 hg6) ?_
  rintro _ w' ⟨rfl,hk'⟩
  replace hw:=hw.call0 hk'
  clear hk'
  refine⟨_,rfl,?_⟩
  repeat refine qaa ?_
  have hmk:=qfx hwd.2
  have hrs:=hR.lt hlt (x:=(fld F k).word) (by omega)
  refine qau rfl (qkS (a:=rs.getD (fld F k).word tU64.dflt) (b:=maskF (fld F k)) rfl rfl hrs hmk) ?_
  repeat (first|refine qaa ?_|(refine qai ?_;clear hw;intro w hw))
  exact⟨k+1,_,⟨rfl,trivial⟩,agr,⟨by omega,hR.next (by omega) hwd.2 hlt,hw.tail⟩,by omega⟩
 have hke:k=vars.length:=by omega
 subst hke
 have hrl:=hR.len
 have hfin:fillL vars.length (fun i=>z.getD i tInt.dflt) vars.length=z:=by
  refine List.ext_getElem (by rw [qbt,hzl]) fun i h2 h3 => ?_
  rw [qbt] at h2
  rw [←qaj (d:=tInt.dflt) (by rw [qbt];exact h2),qh7 h2 h2,qaj h3]
 rw [hfin] at hw
 repeat refine qaa ?_
 refine qap [4,5,11,67,68,69,70,71,72,73,74] (G:=Nat) (fun x=>[(67,.int .i64 x)]) (fun x w=>x≤rs.length∧Sat w0 w [OS tInt 3 ov z,OS tU64 251 rv rs]) (fun x=>rs.length-x) 0 (fun _=>rfl) ⟨rfl,trivial⟩ ⟨Nat.zero_le _,hw⟩ ?_
 clear hw
 rintro σ1 x w ⟨hx,hw⟩
 repeat refine qaa ?_
 refine go_if (fun h2 => ?_) (fun h2 => ?_)
 ·have hxl:x<rs.length:=by omega
  have hz0:((rs.getD x tU64.dflt:Nat):Int)=0:=by
   have:=hR.end_ hk hok hp hxl
   rw [show rs.getD x tU64.dflt=rs.getD x 0 from rfl,this];rfl
  repeat refine qaa ?_
  rw [hz0]
  repeat refine qaa ?_
  exact⟨x+1,⟨rfl,trivial⟩,agr,⟨by omega,hw⟩,by omega⟩
 repeat refine qaa ?_
 exact qav (v:=ov) (v':=.nilIface) rfl rfl rfl ⟨ov,rfl,hw.sel⟩
end Go.Proofs.YtkmbenhffledpaaGreat
/-
  Contracts of package 'registry': New, has, find.
-/
namespace Go.Proofs.YtkmbenhffledpaaGreat
open Go.Sl Go
attribute [local irreducible] vc opsW opsD opV opW PureV ReadV Thn Blk
instance rgMapT:MapT Tryz.prog 220 3 22:=⟨by kernel_rfl⟩
instance rgZero:ZeroV Tryz.prog 22 (.slice none 0 0):=⟨by kernel_rfl⟩
set_option maxRecDepth 8000 in
set_option maxHeartbeats 2000000 in
theorem qk6 {w0:World}{xa xb:Value}{A B:List Nat}(hA:RS tU64 w0 xa A) (hB:RS tU64 w0 xb B) :
  Calls Tryz.prog 171 #[xa,xb] w0 fun e w'=>(∃ r,e=.returned (.bool r)∧(r=true↔A=B))∧Sat w0 w' []:=by
 have hAb:=hA.big
 have hBb:=hB.big
 have hw:=Sat.start w0
 refine qab (args:=[xa,xb]) mixed Tryz.func171 rfl (by kernel_rfl) (Nat.le_of_ble_eq_true rfl) ?_
 repeat refine qaa ?_
 refine go_if (fun h1 => ?_) (fun h1 => ?_)
 ·repeat refine qaa ?_
  exact qae (v:=.bool false) rfl rfl ⟨⟨false,rfl,iffF fun e=>by rw [e] at h1;omega⟩,hw.sel⟩
 repeat refine qaa ?_
 refine qap [4,5,13,14,15,16,17,18,19,20,21,22,23,24,25] (G:=Nat) (fun i=>[(13,.int .i64 i)]) (fun i w=>i≤A.length∧(∀ m,m<i→A.getD m tU64.dflt=B.getD m tU64.dflt)∧Sat w0 w []) (fun i=>A.length-i) 0 (fun _=>rfl) ⟨rfl,trivial⟩ ⟨Nat.zero_le _,fun i hi=>absurd hi (Nat.not_lt_zero _),hw.sel⟩ ?_
 clear hw
 rintro σ i w ⟨hi,hno,hw⟩
 repeat refine qaa ?_
 refine go_if (fun h2 => ?_) (fun h2 => ?_)
 ·have hil:i<A.length:=by omega
  by_cases h3:A.getD i tU64.dflt=B.getD i tU64.dflt
  ·have hd:decide (((A.getD i tU64.dflt:Nat):Int)=((B.getD i tU64.dflt:Nat):Int))=true:=decide_eq_true (by rw [h3])
   repeat (first|refine qaY ?_|(refine qag ?_;clear hw;intro w hw))
   simp only [hd,Bool.not_true]
   repeat refine qaa ?_
   refine⟨i+1,⟨rfl,trivial⟩,agr,⟨by omega,fun m hm => ?_,hw.sel⟩,by omega⟩
   by_cases e:m=i
   ·subst e;exact h3
   ·exact hno m (by omega)
  ·have hd:decide (((A.getD i tU64.dflt:Nat):Int)=((B.getD i tU64.dflt:Nat):Int))=false:=decide_eq_false fun e=>h3 (by omega)
   repeat (first|refine qaY ?_|(refine qag ?_;clear hw;intro w hw))
   simp only [hd,Bool.not_false]
   repeat refine qaa ?_
   exact qae (v:=.bool false) rfl rfl ⟨⟨false,rfl,iffF fun e=>h3 (by rw [e])⟩,hw.sel⟩
 have hie:i=A.length:=by omega
 subst hie
 repeat refine qaa ?_
 exact qae (v:=.bool true) rfl rfl ⟨⟨true,rfl,⟨fun _=>qgr (d:=tU64.dflt) (by omega) fun m hm=>hno m hm,fun _=>rfl⟩⟩,hw.sel⟩
def EntF (es:List REnt) (wsl:List (List Nat)) (w:World):Prop:=∀ i,i<wsl.length→RS tU64 w (eget tREnt es i).words (wsl.getD i [])
def RegH (pr:Addr) (vars:List Int) (st:List (List Int)) (lk:List Lnk):HP:=fun h=>∃ pk F W ev mv es wsl kv bs,RegI vars F W st lk es wsl kv bs∧PkOk vars vars.length F W∧Pack (Box pr 223 [.pointer (some pk),ev,mv]::RdH (fun w=>RPk w pk F W)::OS tREnt 237 ev es::RdH (EntF es wsl)::MapO kInt mv kv::RowsAt tInt 3 (kv.map (·.2)) bs::[]) h
theorem Sat.regOpen {w0 w:World}{Γ:List HP}{pr:Addr}{vars:List Int}{st:List (List Int)}{lk:List Lnk}(h:Sat w0 w (RegH pr vars st lk::Γ)):∃ pk F W ev mv es wsl kv bs,RegI vars F W st lk es wsl kv bs∧PkOk vars vars.length F W∧Sat w0 w (Box pr 223 [.pointer (some pk),ev,mv]::RdH (fun w=>RPk w pk F W)::OS tREnt 237 ev es::RdH (EntF es wsl)::MapO kInt mv kv::RowsAt tInt 3 (kv.map (·.2)) bs::Γ):=by
 obtain⟨h1,h2,d,s1,s2,⟨pk,F,W,ev,mv,es,wsl,kv,bs,hI,hP,a⟩,g⟩:=h.sat
 have h3:Sat w0 w (Pack (Box pr 223 [.pointer (some pk),ev,mv]::RdH (fun w=>RPk w pk F W)::OS tREnt 237 ev es::RdH (EntF es wsl)::MapO kInt mv kv::RowsAt tInt 3 (kv.map (·.2)) bs::[])::Γ):=⟨h.below,h1,h2,d,s1,s2,a,g⟩
 exact⟨pk,F,W,ev,mv,es,wsl,kv,bs,hI,hP,h3.unpack⟩
theorem Sat.regClose {w0 w:World}{Γ:List HP}{pr pk:Addr}{vars:List Int}{st:List (List Int)}{lk:List Lnk}{F:List Fld}{W:Nat}{ev mv:Value}{es:List REnt}{wsl:List (List Nat)}{kv:List (Int × Value)}{bs:List (List Int)}(hI:RegI vars F W st lk es wsl kv bs) (hP:PkOk vars vars.length F W) (h:Sat w0 w (Box pr 223 [.pointer (some pk),ev,mv]::RdH (fun w=>RPk w pk F W)::OS tREnt 237 ev es::RdH (EntF es wsl)::MapO kInt mv kv::RowsAt tInt 3 (kv.map (·.2)) bs::Γ)):Sat w0 w (RegH pr vars st lk::Γ):=by
 have h2:Sat w0 w ([Box pr 223 [.pointer (some pk),ev,mv],RdH (fun w=>RPk w pk F W),OS tREnt 237 ev es,RdH (EntF es wsl),MapO kInt mv kv,RowsAt tInt 3 (kv.map (·.2)) bs]++Γ):=h
 exact (h2.pack).mono fun p a=>⟨pk,F,W,ev,mv,es,wsl,kv,bs,hI,hP,a⟩
theorem qso {w0 w:World}{Γ:List HP}{α:Type}{κ:α→Value}{m:Value}{kv:List (α × Value)}{i:Nat}(hw:Sat w0 w Γ) (hi:Γ[i]? = some (MapO κ m kv)):m.oneCell'=true:=by
 obtain⟨b,es,clock,rfl,_⟩:=qoW hw hi
 rfl
set_option maxRecDepth 8000 in
set_option maxHeartbeats 2000000 in
theorem qhS {w0:World}{av:Value}{vars:List Int}(ha:RS tInt w0 av vars) (hvl:vars.length≤64) (hd:∀ i,i<vars.length→1≤vars.getD i tInt.dflt∧vars.getD i tInt.dflt≤64) :
  Calls Tryz.prog 89 #[av] w0 fun e w'=>∃ p,e=.returned (.tuple #[.pointer (some p),.nilIface])∧Sat w0 w' [RegH p vars [] []]:=by
 have hw:=Sat.start w0
 refine qab (args:=[av]) mixed Tryz.func89 rfl (by kernel_rfl) (Nat.le_of_ble_eq_true rfl) ?_
 repeat refine qaa ?_
 refine qac rfl (qnk (ha.at hw) hvl hd) ?_
 rintro _ w' ⟨pk,F,W,rfl,hP,hk'⟩
 replace hw:=hw.call1 hk'
 clear hk'
 refine⟨_,rfl,?_⟩
 repeat refine qaa ?_
 refine qmY kInt hw ?_
 clear hw
 intro mv w hw
 repeat refine qaa ?_
 have om:=qso (i:=0) hw rfl
 refine qbT (v1:=.pointer (some pk)) (v2:=mv) rfl rfl rfl (by simp only [List.all_cons,List.all_nil,om];rfl) ?_
 refine qaV (vs:=[.pointer (some pk),.slice none 0 0,mv]) rfl hw ?_
 clear hw
 intro pr w hw
 repeat refine qaa ?_
 have hw1:Sat w0 w (Box pr 223 [.pointer (some pk),(.slice none 0 0),mv]::RdH (fun w=>RPk w pk F W)::OS tREnt 237 (.slice none 0 0) ([]:List REnt)::RdH (EntF ([]:List REnt) ([]:List (List Nat)))::MapO kInt mv ([]:List (Int × Value))::RowsAt tInt 3 (([]:List (Int × Value)).map (·.2)) ([]:List (List Int))::[]):=by
  have g1:Sat w0 w [Box pr 223 [.pointer (some pk),.slice none 0 0,mv],MapO kInt mv [],RdH fun w=>RPk w pk F W]:=hw
  have g2:=((Sat.rd0 (φ:=EntF [] []) (fun w i hi=>absurd hi (Nat.not_lt_zero _)) g1).nil (T:=tREnt) (e:=237)).rows0 (T:=tInt) (e:=3)
  have g3:Sat w0 w [Box pr 223 [.pointer (some pk),.slice none 0 0,mv],RdH (fun w=>RPk w pk F W),OS tREnt 237 (.slice none 0 0) [],RdH (EntF [] []),MapO kInt mv [],RowsAt tInt 3 [] []]:=g2.selG
  exact g3
 exact qav (v:=.pointer (some pr)) (v':=.nilIface) rfl rfl rfl ⟨pr,rfl,Sat.regClose (RegI.zero vars F W) hP hw1⟩
set_option maxRecDepth 8000 in
theorem qdD {w0:World}{pr:Addr}{c0 ev c2:Value}{es:List REnt}{z:Int}(hb:BoxR w0 pr [c0,ev,c2]) (hr:RS tREnt w0 ev es) :
  Calls Tryz.prog 127 #[.pointer (some pr),.int .i64 z] w0 fun e w'=>e=.returned (.bool (decide (0≤z∧z<es.length)))∧Sat w0 w' []:=by
 have hw:=Sat.start w0
 refine qab (args:=[.pointer (some pr),.int .i64 z]) mixed Tryz.func127 rfl (by kernel_rfl) (Nat.le_of_ble_eq_true rfl) ?_
 by_cases h0:0≤z
 ·have hd:decide (0≤z)=true:=decide_eq_true h0
  repeat refine qaa ?_
  simp only [hd,beq_self_eq_true,qal,qam,Bool.false_and,Bool.true_and,Bool.false_or,Bool.true_or,Bool.not_true,Bool.not_false,Bool.cond_true,Bool.cond_false,gv_fI,gv_tI]
  repeat refine qaa ?_
  exact qae (v:=.bool (decide (z<es.length))) rfl rfl ⟨by rw [show decide (z<(es.length:Int))=decide (0≤z∧z<(es.length:Int)) from decide_eq_decide.2 ⟨fun h=>⟨h0,h⟩,fun h=>h.2⟩],hw⟩
 ·have hd:decide (0≤z)=false:=decide_eq_false h0
  repeat refine qaa ?_
  simp only [hd,beq_self_eq_true,qal,qam,Bool.false_and,Bool.true_and,Bool.false_or,Bool.true_or,Bool.not_true,Bool.not_false,Bool.cond_true,Bool.cond_false,gv_fI,gv_tI]
  repeat refine qaa ?_
  exact qae (v:=.bool false) rfl rfl ⟨by rw [show decide (0≤z∧z<(es.length:Int))=false from decide_eq_false fun h=>h0 h.1],hw⟩
theorem qn0 {w0 w:World}{Γ:List HP}{vars:List Int}{st:List (List Int)}{lk:List Lnk}{F:List Fld}{W:Nat}{es:List REnt}{wsl:List (List Nat)}{kv:List (Int × Value)}{bs:List (List Int)}(hI:RegI vars F W st lk es wsl kv bs) (hw:Sat w0 w (RowsAt tInt 3 (kv.map (·.2)) bs::Γ)) (x:Int):RS tInt w ((mget kv x).getD (.slice none 0 0)) (hids wsl x):=by
 cases hm:mget kv x with
 | none =>
  rw [hI.none (qoV.1 hm)]
  exact RS.nil
 | some v =>
  cases hf:mfind x kv 0 with
  | none=>unfold mget at hm;rw [hf] at hm;cases hm
  | some q =>
   obtain⟨j,v'⟩:=q
   have hv:v'=v:=by unfold mget at hm;rw [hf] at hm;exact Option.some.inj hm
   subst hv
   obtain⟨_,hj⟩:=qdx hf
   rw [Nat.sub_zero] at hj
   have hjl:j<kv.length:=(List.getElem?_eq_some_iff.1 hj).1
   have h1:=hw.row (i:=j) (by rw [hI.bl];exact hjl)
   rw [hI.bk j x v' hj] at h1
   have h2:vget (kv.map (·.2)) j=v':=by
    rw [qa7];simp [List.getD,hj]
   rw [h2] at h1
   exact h1
def idxI (st:List (List Int)) (s:List Int):Int:=if s∈st then (st.idxOf s:Int) else -1
set_option maxRecDepth 8000 in
set_option maxHeartbeats 8000000 in
theorem qk7 {w0 w:World}{Γ:List HP}{pr pk:Addr}{sv ev mv:Value}{vars:List Int}{st:List (List Int)}{lk:List Lnk}{F:List Fld}{W:Nat}{es:List REnt}{wsl:List (List Nat)}{kv:List (Int × Value)}{bs:List (List Int)}{s:List Int}(hvl:vars.length≤64) (hI:RegI vars F W st lk es wsl kv bs) (hP:PkOk vars vars.length F W) (hnd:st.Nodup) (hn:st.length≤65536)
  (hs:RS tInt w sv s) (hok:StateOk vars s) (hw:Sat w0 w (Box pr 223 [.pointer (some pk),ev,mv]::RdH (fun w=>RPk w pk F W)::OS tREnt 237 ev es::RdH (EntF es wsl)::MapO kInt mv kv::RowsAt tInt 3 (kv.map (·.2)) bs::Γ)) :
  Calls Tryz.prog 153 #[.pointer (some pr),sv] w fun e w'=>∃ wv ws,e=.returned (.tuple #[wv,.int .i64 (hshL ws),.int .i64 (idxI st s),.nilIface])∧Pkd F s W vars.length ws∧Sat w0 w' (OS tU64 251 wv ws::Box pr 223 [.pointer (some pk),ev,mv]::RdH (fun w=>RPk w pk F W)::OS tREnt 237 ev es::RdH (EntF es wsl)::MapO kInt mv kv::RowsAt tInt 3 (kv.map (·.2)) bs::Γ):=by
 have hel:=hI.el
 have hwl:=hI.wl
 refine qab (args:=[.pointer (some pr),sv]) mixed Tryz.func153 rfl (by kernel_rfl) (Nat.le_of_ble_eq_true rfl) ?_
 repeat refine qaa ?_
 refine qac rfl (qpS (hw.rdE 1 rfl) hP hvl hs hok) ?_
 rintro _ w' ⟨wv,ws,rfl,hp,hk'⟩
 replace hw:=hw.call1 hk'
 clear hk'
 refine⟨_,rfl,?_⟩
 have hlt:∀ x,x<ws.length→ws.getD x 0<18446744073709551616:=fun x hx=>hp.lt hP hok (Nat.le_refl _) (by rw [←hp.len];exact hx)
 repeat refine qaa ?_
 refine qac rfl (qpR (rsO (s:=wv) hw) hlt) ?_
 rintro _ w' ⟨rfl,hk'⟩
 replace hw:=hw.call0 hk'
 clear hk'
 refine⟨_,rfl,?_⟩
 repeat refine qaa ?_
 refine qa2 rfl (qeq (m:=mv) (κ:=kInt) (q:=hshL ws) rfl rfl hw inferInstance) ?_
 obtain⟨bv,hbv⟩:∃ bv,bv=(mget kv (hshL ws)).getD (.slice none 0 0):=⟨_,rfl⟩
 rw [←hbv]
 have hB:∀ w1,Sat w0 w1 (OS tU64 251 wv ws::Box pr 223 [.pointer (some pk),ev,mv]::RdH (fun w=>RPk w pk F W)::OS tREnt 237 ev es::RdH (EntF es wsl)::MapO kInt mv kv::RowsAt tInt 3 (kv.map (·.2)) bs::Γ)→RS tInt w1 bv (hids wsl (hshL ws)):=fun w1 h=>by
  rw [hbv];exact qn0 hI (h.focus 6 rfl) _
 have hB0:=hB _ hw
 have hhl:=qma wsl (hshL ws)
 repeat refine qaa ?_
 refine qap [4,5,6,7,12,38,39,40,41,42,43,44,45,46,47,48,49,50,51,52,53,54,55] (G:=Nat) (fun x=>[(38,.int .i64 x)]) (fun x w=>x≤(hids wsl (hshL ws)).length∧(∀ m,m<x→wsl.getD ((hids wsl (hshL ws)).getD m tInt.dflt).toNat []≠ws)∧Sat w0 w (OS tU64 251 wv ws::Box pr 223 [.pointer (some pk),ev,mv]::RdH (fun w=>RPk w pk F W)::OS tREnt 237 ev es::RdH (EntF es wsl)::MapO kInt mv kv::RowsAt tInt 3 (kv.map (·.2)) bs::Γ)) (fun x=>(hids wsl (hshL ws)).length-x) 0 (fun _=>rfl) ⟨rfl,trivial⟩ ⟨Nat.zero_le _,fun m hm=>absurd hm (Nat.not_lt_zero _),hw⟩ ?_
 clear hw hB0
 rintro σ x w ⟨hx,hno,hw⟩
 have hB0:=hB _ hw
 repeat refine qaa ?_
 refine go_if (fun h1 => ?_) (fun h1 => ?_)
 ·have hxl:x<(hids wsl (hshL ws)).length:=by omega
  obtain⟨i,hie,hil,hih⟩:=qiG.1 (qak tInt.dflt hxl)
  have hib:((hids wsl (hshL ws)).getD x tInt.dflt).toNat=i:=by rw [hie];rfl
  have hb0:0≤(hids wsl (hshL ws)).getD x tInt.dflt∧(hids wsl (hshL ws)).getD x tInt.dflt<(es.length:Int):=by rw [hie];omega
  repeat refine qaa ?_
  have hEw:RS tU64 w (eget tREnt es ((hids wsl (hshL ws)).getD x tInt.dflt).toNat).words (wsl.getD i []):=by
   rw [hib];exact (hw.rdE 4 rfl) i hil
  refine qac rfl (qk6 hEw (rsO (s:=wv) hw)) ?_
  rintro _ w' ⟨⟨r,rfl,hr⟩,hk'⟩
  replace hw:=hw.call0 hk'
  clear hk'
  refine⟨_,rfl,?_⟩
  cases r
  ·have hne:wsl.getD i []≠ws:=fun e=>by cases hr.2 e
   repeat refine qaa ?_
   refine⟨x+1,⟨rfl,trivial⟩,agr,⟨by omega,fun m hm => ?_,hw⟩,by omega⟩
   by_cases e:m=x
   ·rw [e,hib];exact hne
   ·exact hno m (by omega)
  ·have heq:=hr.1 rfl
   have hst:=hI.same hP hok hp (i:=i) (by omega) heq
   have hmem:s∈st:=by rw [←hst];exact qak [] (by omega)
   have hidx:idxI st s=(hids wsl (hshL ws)).getD x tInt.dflt:=by
    unfold idxI
    rw [if_pos hmem,hie]
    obtain⟨k1,k2⟩:=qlU hmem
    rw [qlV hnd k1 (show i<st.length by omega) (by rw [k2,hst])]
   repeat refine qaa ?_
   exact qmb (v1:=wv) (v2:=.int .i64 (hshL ws)) (v3:=.int .i64 ((hids wsl (hshL ws)).getD x tInt.dflt)) (v4:=.nilIface) rfl rfl rfl rfl rfl ⟨wv,ws,by rw [hidx],hp,hw⟩
 have hno2:s∉st:=fun hmem=>by
  obtain⟨k1,k2⟩:=qlU hmem
  obtain⟨k3,k4⟩:=hI.hit hp k1 k2
  obtain⟨m,hm,he⟩:=List.getElem_of_mem k4
  refine hno m (by omega) ?_
  rw [qaj hm,he]
  exact k3
 have hidx:idxI st s = -1:=by unfold idxI;rw [if_neg hno2]
 repeat refine qaa ?_
 exact qmb (v1:=wv) (v2:=.int .i64 (hshL ws)) (v3:=.int .i64 (-1)) (v4:=.nilIface) rfl rfl rfl rfl rfl ⟨wv,ws,by rw [hidx],hp,hw⟩
end Go.Proofs.YtkmbenhffledpaaGreat
