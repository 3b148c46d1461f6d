/-
  Several texts as one: WClone, WEq, WSameT, WTRank.
-/
import Derived.Test.YtjdlohdcdmhigaaGreatDoorMW3
import Derived.Test.YtjdlohdcdmhigaaGreatDoorMTA
import Derived.Test.YtjdlohdcdmhigaaGreatDoorMW2
set_option linter.unusedSimpArgs false
set_option linter.unusedVariables false
/-
  Contracts of 'slices.Clone' over facts and effects.
-/
namespace Go.Proofs.YtjdlohdcdmhigaaGreatDoor
open Go.Sl Go
attribute [local irreducible] vc opsW opsD opV opW PureV ReadV Thn Blk
set_option maxRecDepth 8000 in
theorem qeW {w0:World}{a:Value}{xs:List Fact}(ha:RS tFact w0 a xs) (hn:xs.length≤1099511627776) :
  Calls Tryz.prog 91 #[a] w0 fun e w'=>∃ s,e=.returned s∧Sat w0 w' [OS tFact 69 s xs]:=by
 have hw:=Sat.start w0
 obtain⟨ad,cap,hs⟩:=ha.shape
 subst hs
 refine qaf (args:=[.slice ad xs.length cap]) mixed Tryz.func91 rfl (by kernel_rfl) (Nat.le_of_ble_eq_true rfl) ?_
 repeat (first|refine qac ?_|(refine qaa ?_;clear hw;intro p w hw)|(refine qae ?_;clear hw;intro w hw)|(refine qab ?_;clear hw;intro s w hw))
 refine qaw rfl (qcm (a:=ad) (n:=xs.length) (c:=cap) rfl) ?_
 cases ad with
 | none =>
  have h0:xs=[]:=by
   rcases Nat.eq_zero_or_pos xs.length with h|h
   ·exact List.eq_nil_of_length_eq_zero h
   ·obtain⟨p,c2,he,_⟩:=ha.some (by decide) h
    cases he
  subst h0
  repeat (first|refine qac ?_|(refine qaa ?_;clear hw;intro p w hw)|(refine qae ?_;clear hw;intro w hw)|(refine qab ?_;clear hw;intro s w hw))
  exact qai (v:=.slice none 0 0) rfl rfl ⟨_,rfl,hw.nil⟩
 | some p =>
  repeat (first|refine qac ?_|(refine qaa ?_;clear hw;intro p w hw)|(refine qae ?_;clear hw;intro w hw)|(refine qab ?_;clear hw;intro s w hw))
  refine qaJ tFact hw ?_
  clear hw
  intro s1 w hw
  repeat (first|refine qac ?_|(refine qaa ?_;clear hw;intro p w hw)|(refine qae ?_;clear hw;intro w hw)|(refine qab ?_;clear hw;intro s w hw))
  rw [List.nil_append] at hw
  exact qai (v:=s) rfl rfl ⟨_,rfl,hw⟩
set_option maxRecDepth 8000 in
theorem qia {w0:World}{a:Value}{xs:List EffV}(ha:RS tEff w0 a xs) (hn:xs.length≤1099511627776) (ho:∀ x∈xs,∀ v∈tEff.enc x,v.oneCell'=true) :
  Calls Tryz.prog 90 #[a] w0 fun e w'=>∃ s,e=.returned s∧Sat w0 w' [OS tEff 67 s xs]:=by
 have hw:=Sat.start w0
 obtain⟨ad,cap,hs⟩:=ha.shape
 subst hs
 refine qaf (args:=[.slice ad xs.length cap]) mixed Tryz.func90 rfl (by kernel_rfl) (Nat.le_of_ble_eq_true rfl) ?_
 repeat (first|refine qac ?_|(refine qaa ?_;clear hw;intro p w hw)|(refine qae ?_;clear hw;intro w hw)|(refine qab ?_;clear hw;intro s w hw))
 refine qaw rfl (qcm (a:=ad) (n:=xs.length) (c:=cap) rfl) ?_
 cases ad with
 | none =>
  have h0:xs=[]:=by
   rcases Nat.eq_zero_or_pos xs.length with h|h
   ·exact List.eq_nil_of_length_eq_zero h
   ·obtain⟨p,c2,he,_⟩:=ha.some (by decide) h
    cases he
  subst h0
  repeat (first|refine qac ?_|(refine qaa ?_;clear hw;intro p w hw)|(refine qae ?_;clear hw;intro w hw)|(refine qab ?_;clear hw;intro s w hw))
  exact qai (v:=.slice none 0 0) rfl rfl ⟨_,rfl,hw.nil⟩
 | some p =>
  repeat (first|refine qac ?_|(refine qaa ?_;clear hw;intro p w hw)|(refine qae ?_;clear hw;intro w hw)|(refine qab ?_;clear hw;intro s w hw))
  refine qaJ tEff hw ?_
  clear hw
  intro s1 w hw
  repeat (first|refine qac ?_|(refine qaa ?_;clear hw;intro p w hw)|(refine qae ?_;clear hw;intro w hw)|(refine qab ?_;clear hw;intro s w hw))
  refine qeH ?_ (hone:=ho)
  clear hw
  intro s w hw
  repeat (first|refine qac ?_|(refine qaa ?_;clear hw;intro p w hw)|(refine qae ?_;clear hw;intro w hw)|(refine qab ?_;clear hw;intro s w hw))
  rw [List.nil_append] at hw
  exact qai (v:=s) rfl rfl ⟨_,rfl,hw⟩
end Go.Proofs.YtjdlohdcdmhigaaGreatDoor
/-
  Contracts of 'slices.Equal' over ints and facts, and of 'idastar.key'.
-/
namespace Go.Proofs.YtjdlohdcdmhigaaGreatDoor
open Go.Sl Go
attribute [local irreducible] vc opsW opsD opV opW PureV ReadV Thn Blk
theorem qfD {α:Type}{d:α}{A B:List α}(hl:A.length=B.length) (h:∀ i,i<A.length→A.getD i d=B.getD i d):A=B:=by
 apply List.ext_getElem hl
 intro i h1 h2
 have:=h i h1
 rwa [getD_at h1,getD_at h2] at this
instance inWEq2:IntT Tryz.prog 3 .i64:=⟨by kernel_rfl⟩
theorem ql9 {x y:Fact}(h1:x.var=y.var) (h2:x.val=y.val):x=y:=by cases x;cases y;simp_all
instance inWEq3:EqIntsT Tryz.prog 69 2:=⟨by kernel_rfl⟩
set_option maxRecDepth 8000 in
set_option maxHeartbeats 2000000 in
theorem qcQ {w0:World}{xa xb:Value}{A B:List Fact}(hA:RS tFact w0 xa A) (hB:RS tFact w0 xb B) :
  Calls Tryz.prog 68 #[xa,xb] w0 fun e w'=>(∃ r,e=.returned (.bool r)∧(r=true↔A=B))∧Sat w0 w' []:=by
 have hAb:=hA.big
 have hBb:=hB.big
 have hw:=Sat.start w0
 refine qaf (args:=[xa,xb]) mixed Tryz.func68 rfl (by kernel_rfl) (Nat.le_of_ble_eq_true rfl) ?_
 repeat (first|refine qac ?_|(refine qaa ?_;clear hw;intro p w hw)|(refine qae ?_;clear hw;intro w hw)|(refine qab ?_;clear hw;intro s w hw))
 refine go_if (fun h1 => ?_) (fun h1 => ?_)
 ·repeat (first|refine qac ?_|(refine qaa ?_;clear hw;intro p w hw)|(refine qae ?_;clear hw;intro w hw)|(refine qab ?_;clear hw;intro s w hw))
  exact qai (v:=.bool false) rfl rfl ⟨⟨false,rfl,iffF fun e=>by rw [e] at h1;omega⟩,hw.sel⟩
 repeat (first|refine qac ?_|(refine qaa ?_;clear hw;intro p w hw)|(refine qae ?_;clear hw;intro w hw)|(refine qab ?_;clear hw;intro s w hw))
 refine qak [4,5,13,14,15,16,17,18,19,20,21,22,23,24,25] (G:=Nat) (fun i=>[(13,.int .i64 i)]) (fun i w=>i≤A.length∧(∀ m,m<i→A.getD m tFact.dflt=B.getD m tFact.dflt)∧Sat w0 w []) (fun i=>A.length-i) 0 (fun _=>rfl) ⟨rfl,trivial⟩ ⟨Nat.zero_le _,fun i hi=>absurd hi (Nat.not_lt_zero _),hw.sel⟩ ?_
 clear hw
 rintro σ i w ⟨hi,hno,hw⟩
 repeat (first|refine qac ?_|(refine qaa ?_;clear hw;intro p w hw)|(refine qae ?_;clear hw;intro w hw)|(refine qab ?_;clear hw;intro s w hw))
 refine go_if (fun h2 => ?_) (fun h2 => ?_)
 ·have hil:i<A.length:=by omega
  repeat (first|refine qac ?_|(refine qaa ?_;clear hw;intro p w hw)|(refine qae ?_;clear hw;intro w hw)|(refine qab ?_;clear hw;intro s w hw))
  refine qaw rfl (qjm (us:=[(A.getD i tFact.dflt).var,(A.getD i tFact.dflt).val]) (zs:=[(B.getD i tFact.dflt).var,(B.getD i tFact.dflt).val]) rfl rfl rfl rfl) ?_
  by_cases h3:A.getD i tFact.dflt=B.getD i tFact.dflt
  ·have hd:decide ([(A.getD i tFact.dflt).var,(A.getD i tFact.dflt).val]=[(B.getD i tFact.dflt).var,(B.getD i tFact.dflt).val])=true:=decide_eq_true (by rw [h3])
   repeat (first|refine qeI ?_|(refine qaa ?_;clear hw;intro p w hw)|(refine qae ?_;clear hw;intro w hw)|(refine qab ?_;clear hw;intro s w hw))
   simp only [hd,Bool.not_true]
   repeat (first|refine qac ?_|(refine qaa ?_;clear hw;intro p w hw)|(refine qae ?_;clear hw;intro w hw)|(refine qab ?_;clear hw;intro s w hw))
   refine⟨i+1,⟨rfl,trivial⟩,agr,⟨by omega,fun m hm => ?_,hw.sel⟩,by omega⟩
   by_cases e:m=i
   ·subst e;exact h3
   ·exact hno m (by omega)
  ·have hd:decide ([(A.getD i tFact.dflt).var,(A.getD i tFact.dflt).val]=[(B.getD i tFact.dflt).var,(B.getD i tFact.dflt).val])=false:=decide_eq_false fun e=>h3 (by
    injection e with e1 e2
    injection e2 with e2 _
    exact ql9 e1 e2)
   repeat (first|refine qeI ?_|(refine qaa ?_;clear hw;intro p w hw)|(refine qae ?_;clear hw;intro w hw)|(refine qab ?_;clear hw;intro s w hw))
   simp only [hd,Bool.not_false]
   repeat (first|refine qac ?_|(refine qaa ?_;clear hw;intro p w hw)|(refine qae ?_;clear hw;intro w hw)|(refine qab ?_;clear hw;intro s w hw))
   exact qai (v:=.bool false) rfl rfl ⟨⟨false,rfl,iffF fun e=>h3 (by rw [e])⟩,hw.sel⟩
 have hie:i=A.length:=by omega
 subst hie
 repeat (first|refine qac ?_|(refine qaa ?_;clear hw;intro p w hw)|(refine qae ?_;clear hw;intro w hw)|(refine qab ?_;clear hw;intro s w hw))
 exact qai (v:=.bool true) rfl rfl ⟨⟨true,rfl,iffT (qfD (by omega) hno)⟩,hw.sel⟩
set_option maxRecDepth 8000 in
set_option maxHeartbeats 2000000 in
theorem qbS {w0:World}{xa xb:Value}{A B:List Int}(hA:RS tInt w0 xa A) (hB:RS tInt w0 xb B) :
  Calls Tryz.prog 49 #[xa,xb] w0 fun e w'=>(∃ r,e=.returned (.bool r)∧(r=true↔A=B))∧Sat w0 w' []:=by
 have hAb:=hA.big
 have hBb:=hB.big
 have hw:=Sat.start w0
 refine qaf (args:=[xa,xb]) mixed Tryz.func49 rfl (by kernel_rfl) (Nat.le_of_ble_eq_true rfl) ?_
 repeat (first|refine qac ?_|(refine qaa ?_;clear hw;intro p w hw)|(refine qae ?_;clear hw;intro w hw)|(refine qab ?_;clear hw;intro s w hw))
 refine go_if (fun h1 => ?_) (fun h1 => ?_)
 ·repeat (first|refine qac ?_|(refine qaa ?_;clear hw;intro p w hw)|(refine qae ?_;clear hw;intro w hw)|(refine qab ?_;clear hw;intro s w hw))
  exact qai (v:=.bool false) rfl rfl ⟨⟨false,rfl,iffF fun e=>by rw [e] at h1;omega⟩,hw.sel⟩
 repeat (first|refine qac ?_|(refine qaa ?_;clear hw;intro p w hw)|(refine qae ?_;clear hw;intro w hw)|(refine qab ?_;clear hw;intro s w hw))
 refine qak [4,5,13,14,15,16,17,18,19,20,21,22,23,24,25] (G:=Nat) (fun i=>[(13,.int .i64 i)]) (fun i w=>i≤A.length∧(∀ m,m<i→A.getD m tInt.dflt=B.getD m tInt.dflt)∧Sat w0 w []) (fun i=>A.length-i) 0 (fun _=>rfl) ⟨rfl,trivial⟩ ⟨Nat.zero_le _,fun i hi=>absurd hi (Nat.not_lt_zero _),hw.sel⟩ ?_
 clear hw
 rintro σ i w ⟨hi,hno,hw⟩
 repeat (first|refine qac ?_|(refine qaa ?_;clear hw;intro p w hw)|(refine qae ?_;clear hw;intro w hw)|(refine qab ?_;clear hw;intro s w hw))
 refine go_if (fun h2 => ?_) (fun h2 => ?_)
 ·have hil:i<A.length:=by omega
  repeat (first|refine qac ?_|(refine qaa ?_;clear hw;intro p w hw)|(refine qae ?_;clear hw;intro w hw)|(refine qab ?_;clear hw;intro s w hw))
  refine go_if (fun h3 => ?_) (fun h3 => ?_)
  ·repeat (first|refine qac ?_|(refine qaa ?_;clear hw;intro p w hw)|(refine qae ?_;clear hw;intro w hw)|(refine qab ?_;clear hw;intro s w hw))
   exact qai (v:=.bool false) rfl rfl ⟨⟨false,rfl,iffF fun e=>by rw [e] at h3;exact h3 rfl⟩,hw.sel⟩
  ·repeat (first|refine qac ?_|(refine qaa ?_;clear hw;intro p w hw)|(refine qae ?_;clear hw;intro w hw)|(refine qab ?_;clear hw;intro s w hw))
   refine⟨i+1,⟨rfl,trivial⟩,agr,⟨by omega,fun m hm => ?_,hw.sel⟩,by omega⟩
   by_cases e:m=i
   ·subst e;exact h3
   ·exact hno m (by omega)
 have hie:i=A.length:=by omega
 subst hie
 repeat (first|refine qac ?_|(refine qaa ?_;clear hw;intro p w hw)|(refine qae ?_;clear hw;intro w hw)|(refine qab ?_;clear hw;intro s w hw))
 exact qai (v:=.bool true) rfl rfl ⟨⟨true,rfl,iffT (qfD (by omega) hno)⟩,hw.sel⟩
end Go.Proofs.YtjdlohdcdmhigaaGreatDoor
/-
  Contracts of 'estimate.sameEffect' and what compares lists of them.
-/
namespace Go.Proofs.YtjdlohdcdmhigaaGreatDoor
open Go.Sl Go
attribute [local irreducible] vc opsW opsD opV opW PureV ReadV Thn Blk
theorem qaX:(true == false)=false:=rfl
theorem qaY:(false == true)=false:=rfl
theorem gv_fI (v:Value):gv false v=undef:=by unfold gv;rfl
theorem gv_tI (v:Value):gv true v=v:=qag rfl
theorem qhQ {w0 w:World}{Γ:List HP}{v:EffV}{e:Eff}(h:REff w0 v e) (hw:Sat w0 w Γ):REff w v e:=⟨h.var,h.val,h.when.at hw⟩
theorem qiP {w0 w:World}{Γ:List HP}{s:Value}{vs:List EffV}{es:List Eff}(h:REffs w0 s vs es) (hw:Sat w0 w Γ):REffs w s vs es:=⟨h.rs.at hw,h.len,fun i hi=>qhQ (h.at_ i hi) hw⟩
theorem qn7 {x y:Eff}(h1:x.var=y.var) (h2:x.val=y.val) (h3:x.when=y.when):x=y:=by cases x;cases y;simp_all
set_option maxRecDepth 8000 in
set_option maxHeartbeats 2000000 in
theorem qeY {w0:World}{x y:EffV}{ex ey:Eff}(hx:REff w0 x ex) (hy:REff w0 y ey) :
  Calls Tryz.prog 104 #[.agg (tEff.enc x).toArray,.agg (tEff.enc y).toArray] w0 fun e w'=>(∃ r,e=.returned (.bool r)∧(r=true↔ex=ey))∧Sat w0 w' []:=by
 have ox:=hx.one
 have oy:=hy.one
 have vx:=hx.var
 have vy:=hy.var
 have lx:=hx.val
 have ly:=hy.val
 have hwx:=hx.when
 have hwy:=hy.when
 have hw:=Sat.start w0
 refine qaf (args:=[.agg (tEff.enc x).toArray,.agg (tEff.enc y).toArray]) mixed Tryz.func104 rfl (by kernel_rfl) (Nat.le_of_ble_eq_true rfl) ?_
 by_cases h1:x.var=y.var
 rotate_left
 ·have hd1:decide (x.var=y.var)=false:=decide_eq_false h1
  repeat (first|refine qac ?_|(refine qaa ?_;clear hw;intro p w hw)|(refine qad ?_;clear hw;intro w hw)|(refine qab ?_;clear hw;intro s w hw))
  simp only [hd1,beq_self_eq_true,qaX,qaY,Bool.false_and,Bool.true_and,Bool.not_true,Bool.not_false,Bool.cond_true,Bool.cond_false,gv_fI,gv_tI]
  repeat (first|refine qac ?_|(refine qaa ?_;clear hw;intro p w hw)|(refine qad ?_;clear hw;intro w hw)|(refine qab ?_;clear hw;intro s w hw))
  exact qai (v:=.bool false) rfl rfl ⟨⟨false,rfl,iffF fun e=>h1 (by rw [vx,vy,e])⟩,hw.sel⟩
 have hd1:decide (x.var=y.var)=true:=decide_eq_true h1
 by_cases h2:x.val=y.val
 rotate_left
 ·have hd2:decide (x.val=y.val)=false:=decide_eq_false h2
  repeat (first|refine qac ?_|(refine qaa ?_;clear hw;intro p w hw)|(refine qad ?_;clear hw;intro w hw)|(refine qab ?_;clear hw;intro s w hw))
  simp only [hd1,hd2,beq_self_eq_true,qaX,qaY,Bool.false_and,Bool.true_and,Bool.not_true,Bool.not_false,Bool.cond_true,Bool.cond_false,gv_fI,gv_tI]
  repeat (first|refine qac ?_|(refine qaa ?_;clear hw;intro p w hw)|(refine qad ?_;clear hw;intro w hw)|(refine qab ?_;clear hw;intro s w hw))
  exact qai (v:=.bool false) rfl rfl ⟨⟨false,rfl,iffF fun e=>h2 (by rw [lx,ly,e])⟩,hw.sel⟩
 have hd2:decide (x.val=y.val)=true:=decide_eq_true h2
 repeat (first|refine qac ?_|(refine qaa ?_;clear hw;intro p w hw)|(refine qad ?_;clear hw;intro w hw)|(refine qab ?_;clear hw;intro s w hw))
 simp only [hd1,hd2,beq_self_eq_true,qaX,qaY,Bool.false_and,Bool.true_and,Bool.not_true,Bool.not_false,Bool.cond_true,Bool.cond_false,gv_fI,gv_tI]
 repeat (first|refine qac ?_|(refine qaa ?_;clear hw;intro p w hw)|(refine qad ?_;clear hw;intro w hw)|(refine qab ?_;clear hw;intro s w hw))
 refine qah rfl (qcQ (hwx.at hw) (hwy.at hw)) ?_
 rintro _ w' ⟨⟨r,rfl,hr⟩,hk'⟩
 replace hw:=hw.call0 hk'
 clear hk'
 refine⟨_,rfl,?_⟩
 repeat (first|refine qac ?_|(refine qaa ?_;clear hw;intro p w hw)|(refine qad ?_;clear hw;intro w hw)|(refine qab ?_;clear hw;intro s w hw))
 exact qai (v:=.bool r) rfl rfl ⟨⟨r,rfl,hr.trans ⟨fun h=>qn7 (by rw [←vx,←vy,h1]) (by rw [←lx,←ly,h2]) h,fun h=>by rw [h]⟩⟩,hw.sel⟩
set_option maxRecDepth 8000 in
set_option maxHeartbeats 2000000 in
theorem qie {w0:World}{xa xb:Value}{va vb:List EffV}{A B:List Eff}(hA:REffs w0 xa va A) (hB:REffs w0 xb vb B) :
  Calls Tryz.prog 103 #[xa,xb,.func (.func 104) #[] #[]] w0 fun e w'=>(∃ r,e=.returned (.bool r)∧(r=true↔A=B))∧Sat w0 w' []:=by
 have hAr:=hA.rs
 have hBr:=hB.rs
 have hAl:=hA.len
 have hBl:=hB.len
 have hAb:=hAr.big
 have hBb:=hBr.big
 have hw:=Sat.start w0
 refine qaf (args:=[xa,xb,.func (.func 104) #[] #[]]) mixed Tryz.func103 rfl (by kernel_rfl) (Nat.le_of_ble_eq_true rfl) ?_
 repeat (first|refine qac ?_|(refine qaa ?_;clear hw;intro p w hw)|(refine qae ?_;clear hw;intro w hw)|(refine qab ?_;clear hw;intro s w hw))
 refine go_if (fun h1 => ?_) (fun h1 => ?_)
 ·repeat (first|refine qac ?_|(refine qaa ?_;clear hw;intro p w hw)|(refine qae ?_;clear hw;intro w hw)|(refine qab ?_;clear hw;intro s w hw))
  exact qai (v:=.bool false) rfl rfl ⟨⟨false,rfl,iffF fun e=>by rw [e] at hAl;omega⟩,hw.sel⟩
 repeat (first|refine qac ?_|(refine qaa ?_;clear hw;intro p w hw)|(refine qae ?_;clear hw;intro w hw)|(refine qab ?_;clear hw;intro s w hw))
 refine qak [6,7,8,9,17,18,19,20,21,22,23,24,25,26,27,28,29,30,31] (G:=Nat) (fun i=>[(17,.int .i64 i)]) (fun i w=>i≤A.length∧(∀ m,m<i→A.getD m dEff=B.getD m dEff)∧Sat w0 w []) (fun i=>A.length-i) 0 (fun _=>rfl) ⟨rfl,trivial⟩ ⟨Nat.zero_le _,fun i hi=>absurd hi (Nat.not_lt_zero _),hw.sel⟩ ?_
 clear hw
 rintro σ i w ⟨hi,hno,hw⟩
 repeat (first|refine qac ?_|(refine qaa ?_;clear hw;intro p w hw)|(refine qae ?_;clear hw;intro w hw)|(refine qab ?_;clear hw;intro s w hw))
 refine go_if (fun h2 => ?_) (fun h2 => ?_)
 ·have hil:i<A.length:=by omega
  have hea:=hA.at_ i hil
  have heb:=hB.at_ i (by omega)
  have oa:=hea.one
  have ob:=heb.one
  repeat (first|refine qac ?_|(refine qaa ?_;clear hw;intro p w hw)|(refine qae ?_;clear hw;intro w hw)|(refine qab ?_;clear hw;intro s w hw))
  refine qbu (cs:=[]) rfl rfl (qeY (qhQ hea hw) (qhQ heb hw)) ?_
  rintro _ w' ⟨⟨r,rfl,hr⟩,hk'⟩
  replace hw:=hw.call0 hk'
  clear hk'
  refine⟨_,rfl,?_⟩
  cases r
  ·repeat (first|refine qac ?_|(refine qaa ?_;clear hw;intro p w hw)|(refine qae ?_;clear hw;intro w hw)|(refine qab ?_;clear hw;intro s w hw))
   exact qai (v:=.bool false) rfl rfl ⟨⟨false,rfl,iffF fun e=>by have:=hr.2 (by rw [e]);cases this⟩,hw.sel⟩
  ·repeat (first|refine qac ?_|(refine qaa ?_;clear hw;intro p w hw)|(refine qae ?_;clear hw;intro w hw)|(refine qab ?_;clear hw;intro s w hw))
   refine⟨i+1,⟨rfl,trivial⟩,agr,⟨by omega,fun m hm => ?_,hw.sel⟩,by omega⟩
   by_cases e:m=i
   ·subst e;exact hr.1 rfl
   ·exact hno m (by omega)
 have hie:i=A.length:=by omega
 subst hie
 repeat (first|refine qac ?_|(refine qaa ?_;clear hw;intro p w hw)|(refine qae ?_;clear hw;intro w hw)|(refine qab ?_;clear hw;intro s w hw))
 exact qai (v:=.bool true) rfl rfl ⟨⟨true,rfl,iffT (qfD (by omega) hno)⟩,hw.sel⟩
theorem qov {x y:TOp}(h1:x.name=y.name) (h2:x.cost=y.cost) (h3:x.pre=y.pre) (h4:x.effs=y.effs):x=y:=by cases x;cases y;simp_all
set_option maxRecDepth 8000 in
set_option maxHeartbeats 2000000 in
theorem qif {w0:World}{x y:OpV}{ox oy:TOp}(hx:ROp w0 x ox) (hy:ROp w0 y oy) :
  Calls Tryz.prog 70 #[.agg (tOp.enc x).toArray,.agg (tOp.enc y).toArray] w0 fun e w'=>(∃ r,e=.returned (.bool r)∧(r=true↔ox=oy))∧Sat w0 w' []:=by
 have ax:=hx.one
 have ay:=hy.one
 have hw:=Sat.start w0
 refine qaf (args:=[.agg (tOp.enc x).toArray,.agg (tOp.enc y).toArray]) mixed Tryz.func70 rfl (by kernel_rfl) (Nat.le_of_ble_eq_true rfl) ?_
 have nx:=hx.name
 have ny:=hy.name
 have kx:=hx.cost
 have ky:=hy.cost
 have px:=hx.pre
 have py:=hy.pre
 obtain⟨ex,hex⟩:=hx.effs
 obtain⟨ey,hey⟩:=hy.effs
 repeat (first|refine qac ?_|(refine qaa ?_;clear hw;intro p w hw)|(refine qad ?_;clear hw;intro w hw)|(refine qab ?_;clear hw;intro s w hw))
 refine qaw rfl (qlg (a:=x.name) (b:=y.name) rfl rfl) ?_
 by_cases h1:x.name=y.name
 rotate_left
 ·have hd1:decide (x.name=y.name)=false:=decide_eq_false h1
  repeat (first|refine qac ?_|(refine qaa ?_;clear hw;intro p w hw)|(refine qad ?_;clear hw;intro w hw)|(refine qab ?_;clear hw;intro s w hw))
  simp only [hd1,beq_self_eq_true,qaX,qaY,Bool.false_and,Bool.true_and,Bool.not_true,Bool.not_false,Bool.cond_true,Bool.cond_false,gv_fI,gv_tI]
  repeat (first|refine qac ?_|(refine qaa ?_;clear hw;intro p w hw)|(refine qad ?_;clear hw;intro w hw)|(refine qab ?_;clear hw;intro s w hw))
  exact qai (v:=.bool false) rfl rfl ⟨⟨false,rfl,iffF fun e=>h1 (by rw [nx,ny,e])⟩,hw.sel⟩
 have hd1:decide (x.name=y.name)=true:=decide_eq_true h1
 by_cases h2:x.cost=y.cost
 rotate_left
 ·have hd2:decide (x.cost=y.cost)=false:=decide_eq_false h2
  repeat (first|refine qac ?_|(refine qaa ?_;clear hw;intro p w hw)|(refine qad ?_;clear hw;intro w hw)|(refine qab ?_;clear hw;intro s w hw))
  simp only [hd1,hd2,beq_self_eq_true,qaX,qaY,Bool.false_and,Bool.true_and,Bool.not_true,Bool.not_false,Bool.cond_true,Bool.cond_false,gv_fI,gv_tI]
  repeat (first|refine qac ?_|(refine qaa ?_;clear hw;intro p w hw)|(refine qad ?_;clear hw;intro w hw)|(refine qab ?_;clear hw;intro s w hw))
  exact qai (v:=.bool false) rfl rfl ⟨⟨false,rfl,iffF fun e=>h2 (by rw [kx,ky,e])⟩,hw.sel⟩
 have hd2:decide (x.cost=y.cost)=true:=decide_eq_true h2
 repeat (first|refine qac ?_|(refine qaa ?_;clear hw;intro p w hw)|(refine qad ?_;clear hw;intro w hw)|(refine qab ?_;clear hw;intro s w hw))
 simp only [hd1,hd2,beq_self_eq_true,qaX,qaY,Bool.false_and,Bool.true_and,Bool.not_true,Bool.not_false,Bool.cond_true,Bool.cond_false,gv_fI,gv_tI]
 repeat (first|refine qac ?_|(refine qaa ?_;clear hw;intro p w hw)|(refine qad ?_;clear hw;intro w hw)|(refine qab ?_;clear hw;intro s w hw))
 refine qah rfl (qcQ (px.at hw) (py.at hw)) ?_
 rintro _ w' ⟨⟨r,rfl,hr⟩,hk'⟩
 replace hw:=hw.call0 hk'
 clear hk'
 refine⟨_,rfl,?_⟩
 cases r
 ·repeat (first|refine qac ?_|(refine qaa ?_;clear hw;intro p w hw)|(refine qad ?_;clear hw;intro w hw)|(refine qab ?_;clear hw;intro s w hw))
  exact qai (v:=.bool false) rfl rfl ⟨⟨false,rfl,iffF fun e=>by have:=hr.2 (by rw [e]);cases this⟩,hw.sel⟩
 repeat (first|refine qac ?_|(refine qaa ?_;clear hw;intro p w hw)|(refine qad ?_;clear hw;intro w hw)|(refine qab ?_;clear hw;intro s w hw))
 refine qah rfl (qie (qiP hex hw) (qiP hey hw)) ?_
 rintro _ w' ⟨⟨r2,rfl,hr2⟩,hk'⟩
 replace hw:=hw.call0 hk'
 clear hk'
 refine⟨_,rfl,?_⟩
 repeat (first|refine qac ?_|(refine qaa ?_;clear hw;intro p w hw)|(refine qad ?_;clear hw;intro w hw)|(refine qab ?_;clear hw;intro s w hw))
 exact qai (v:=.bool r2) rfl rfl ⟨⟨r2,rfl,hr2.trans ⟨fun h=>qov (by rw [←nx,←ny,h1]) (by rw [←kx,←ky,h2]) (hr.1 rfl) h,fun h=>by rw [h]⟩⟩,hw.sel⟩
set_option maxRecDepth 8000 in
set_option maxHeartbeats 2000000 in
theorem qj8 {w0:World}{xa xb:Value}{va vb:List OpV}{A B:List TOp}(hA:ROps w0 xa va A) (hB:ROps w0 xb vb B) :
  Calls Tryz.prog 69 #[xa,xb,.func (.func 70) #[] #[]] w0 fun e w'=>(∃ r,e=.returned (.bool r)∧(r=true↔A=B))∧Sat w0 w' []:=by
 have hAr:=hA.rs
 have hBr:=hB.rs
 have hAl:=hA.len
 have hBl:=hB.len
 have hAb:=hAr.big
 have hBb:=hBr.big
 have hw:=Sat.start w0
 refine qaf (args:=[xa,xb,.func (.func 70) #[] #[]]) mixed Tryz.func69 rfl (by kernel_rfl) (Nat.le_of_ble_eq_true rfl) ?_
 repeat (first|refine qac ?_|(refine qaa ?_;clear hw;intro p w hw)|(refine qae ?_;clear hw;intro w hw)|(refine qab ?_;clear hw;intro s w hw))
 refine go_if (fun h1 => ?_) (fun h1 => ?_)
 ·repeat (first|refine qac ?_|(refine qaa ?_;clear hw;intro p w hw)|(refine qae ?_;clear hw;intro w hw)|(refine qab ?_;clear hw;intro s w hw))
  exact qai (v:=.bool false) rfl rfl ⟨⟨false,rfl,iffF fun e=>by rw [e] at hAl;omega⟩,hw.sel⟩
 repeat (first|refine qac ?_|(refine qaa ?_;clear hw;intro p w hw)|(refine qae ?_;clear hw;intro w hw)|(refine qab ?_;clear hw;intro s w hw))
 refine qak [6,7,8,9,17,18,19,20,21,22,23,24,25,26,27,28,29,30,31] (G:=Nat) (fun i=>[(17,.int .i64 i)]) (fun i w=>i≤A.length∧(∀ m,m<i→A.getD m dOp=B.getD m dOp)∧Sat w0 w []) (fun i=>A.length-i) 0 (fun _=>rfl) ⟨rfl,trivial⟩ ⟨Nat.zero_le _,fun i hi=>absurd hi (Nat.not_lt_zero _),hw.sel⟩ ?_
 clear hw
 rintro σ i w ⟨hi,hno,hw⟩
 repeat (first|refine qac ?_|(refine qaa ?_;clear hw;intro p w hw)|(refine qae ?_;clear hw;intro w hw)|(refine qab ?_;clear hw;intro s w hw))
 refine go_if (fun h2 => ?_) (fun h2 => ?_)
 ·have hil:i<A.length:=by omega
  have hea:=hA.at_ i hil
  have heb:=hB.at_ i (by omega)
  have oa:=hea.one
  have ob:=heb.one
  repeat (first|refine qac ?_|(refine qaa ?_;clear hw;intro p w hw)|(refine qae ?_;clear hw;intro w hw)|(refine qab ?_;clear hw;intro s w hw))
  refine qbu (cs:=[]) rfl rfl (qif (hea.at hw) (heb.at hw)) ?_
  rintro _ w' ⟨⟨r,rfl,hr⟩,hk'⟩
  replace hw:=hw.call0 hk'
  clear hk'
  refine⟨_,rfl,?_⟩
  cases r
  ·repeat (first|refine qac ?_|(refine qaa ?_;clear hw;intro p w hw)|(refine qae ?_;clear hw;intro w hw)|(refine qab ?_;clear hw;intro s w hw))
   exact qai (v:=.bool false) rfl rfl ⟨⟨false,rfl,iffF fun e=>by have:=hr.2 (by rw [e]);cases this⟩,hw.sel⟩
  ·repeat (first|refine qac ?_|(refine qaa ?_;clear hw;intro p w hw)|(refine qae ?_;clear hw;intro w hw)|(refine qab ?_;clear hw;intro s w hw))
   refine⟨i+1,⟨rfl,trivial⟩,agr,⟨by omega,fun m hm => ?_,hw.sel⟩,by omega⟩
   by_cases e:m=i
   ·subst e;exact hr.1 rfl
   ·exact hno m (by omega)
 have hie:i=A.length:=by omega
 subst hie
 repeat (first|refine qac ?_|(refine qaa ?_;clear hw;intro p w hw)|(refine qae ?_;clear hw;intro w hw)|(refine qab ?_;clear hw;intro s w hw))
 exact qai (v:=.bool true) rfl rfl ⟨⟨true,rfl,iffT (qfD (by omega) hno)⟩,hw.sel⟩
theorem qmK {x y:TTask}(h1:x.vars=y.vars) (h2:x.init=y.init) (h3:x.goal=y.goal) (h4:x.ops=y.ops):x=y:=by cases x;cases y;simp_all
set_option maxRecDepth 8000 in
set_option maxHeartbeats 2000000 in
theorem qhk {w0:World}{a b c d a2 b2 c2 d2:Value}{vs us:List OpV}{t u:TTask}(ht:RTask w0 a b c d vs t) (hu:RTask w0 a2 b2 c2 d2 us u) :
  Calls Tryz.prog 40 #[.agg #[a,b,c,d],.agg #[a2,b2,c2,d2]] w0 fun e w'=>(∃ r,e=.returned (.bool r)∧(r=true↔t=u))∧Sat w0 w' []:=by
 have ht':=ht
 have hu':=hu
 obtain⟨ha,hb,hc,hd⟩:=ht
 obtain⟨ha2,hb2,hc2,hd2⟩:=hu
 have hw:=Sat.start w0
 refine qaf (args:=[.agg #[a,b,c,d],.agg #[a2,b2,c2,d2]]) mixed Tryz.func40 rfl (by kernel_rfl) (Nat.le_of_ble_eq_true rfl) ?_
 repeat (first|refine qac ?_|(refine qaa ?_;clear hw;intro p w hw)|(refine qad ?_;clear hw;intro w hw)|(refine qab ?_;clear hw;intro s w hw))
 refine qah rfl (qbS (ha.at hw) (ha2.at hw)) ?_
 rintro _ w' ⟨⟨r,rfl,hr⟩,hk'⟩
 replace hw:=hw.call0 hk'
 clear hk'
 refine⟨_,rfl,?_⟩
 cases r
 ·repeat (first|refine qac ?_|(refine qaa ?_;clear hw;intro p w hw)|(refine qad ?_;clear hw;intro w hw)|(refine qab ?_;clear hw;intro s w hw))
  exact qai (v:=.bool false) rfl rfl ⟨⟨false,rfl,iffF fun e=>by have:=hr.2 (by rw [e]);cases this⟩,hw.sel⟩
 repeat (first|refine qac ?_|(refine qaa ?_;clear hw;intro p w hw)|(refine qad ?_;clear hw;intro w hw)|(refine qab ?_;clear hw;intro s w hw))
 refine qah rfl (qbS (hb.at hw) (hb2.at hw)) ?_
 rintro _ w' ⟨⟨r2,rfl,hr2⟩,hk'⟩
 replace hw:=hw.call0 hk'
 clear hk'
 refine⟨_,rfl,?_⟩
 cases r2
 ·repeat (first|refine qac ?_|(refine qaa ?_;clear hw;intro p w hw)|(refine qad ?_;clear hw;intro w hw)|(refine qab ?_;clear hw;intro s w hw))
  exact qai (v:=.bool false) rfl rfl ⟨⟨false,rfl,iffF fun e=>by have:=hr2.2 (by rw [e]);cases this⟩,hw.sel⟩
 repeat (first|refine qac ?_|(refine qaa ?_;clear hw;intro p w hw)|(refine qad ?_;clear hw;intro w hw)|(refine qab ?_;clear hw;intro s w hw))
 refine qah rfl (qcQ (hc.at hw) (hc2.at hw)) ?_
 rintro _ w' ⟨⟨r3,rfl,hr3⟩,hk'⟩
 replace hw:=hw.call0 hk'
 clear hk'
 refine⟨_,rfl,?_⟩
 cases r3
 ·repeat (first|refine qac ?_|(refine qaa ?_;clear hw;intro p w hw)|(refine qad ?_;clear hw;intro w hw)|(refine qab ?_;clear hw;intro s w hw))
  exact qai (v:=.bool false) rfl rfl ⟨⟨false,rfl,iffF fun e=>by have:=hr3.2 (by rw [e]);cases this⟩,hw.sel⟩
 repeat (first|refine qac ?_|(refine qaa ?_;clear hw;intro p w hw)|(refine qad ?_;clear hw;intro w hw)|(refine qab ?_;clear hw;intro s w hw))
 refine qah rfl (qj8 (hd.at hw) (hd2.at hw)) ?_
 rintro _ w' ⟨⟨r4,rfl,hr4⟩,hk'⟩
 replace hw:=hw.call0 hk'
 clear hk'
 refine⟨_,rfl,?_⟩
 repeat (first|refine qac ?_|(refine qaa ?_;clear hw;intro p w hw)|(refine qad ?_;clear hw;intro w hw)|(refine qab ?_;clear hw;intro s w hw))
 exact qai (v:=.bool r4) rfl rfl ⟨⟨r4,rfl,hr4.trans ⟨fun h=>qmK (hr.1 rfl) (hr2.1 rfl) (hr3.1 rfl) h,fun h=>by rw [h]⟩⟩,hw.sel⟩
end Go.Proofs.YtjdlohdcdmhigaaGreatDoor
/-
  Contracts of 'task.States', 'task.counted', 'task.Rank'.
-/
namespace Go.Proofs.YtjdlohdcdmhigaaGreatDoor
open Go.Sl Go
attribute [local irreducible] vc opsW opsD opV opW PureV ReadV Thn Blk
end Go.Proofs.YtjdlohdcdmhigaaGreatDoor
