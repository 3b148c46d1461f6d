/-
  Several texts as one: WFrac4, WLmk2, WLmk3, WLm1.
-/
import Derived.Test.YtdadmnlenbdfbaaGreatMW18
import Derived.Test.YtdadmnlenbdfbaaGreatMSlB
import Derived.Test.YtdadmnlenbdfbaaGreatMW2
import Derived.Test.YtdadmnlenbdfbaaGreatMW15
import Derived.Test.YtdadmnlenbdfbaaGreatMW1
import Derived.Test.YtdadmnlenbdfbaaGreatMW5
set_option linter.unusedSimpArgs false
set_option linter.unusedVariables false
/-
  Contracts of fraction.Add and Sub.
-/
namespace Go.Proofs.YtdadmnlenbdfbaaGreat
open Go.Sl Go
attribute [local irreducible] vc opsW opsD opV opW PureV ReadV Thn Blk
theorem qcG {x y X Y:Int}(h1 : -X≤x) (h2:x≤X) (h3:0≤y) (h4:y≤Y) : -(X*Y)≤x*y∧x*y≤X*Y:=by
 have e1:=Int.mul_le_mul_of_nonneg_right h2 h3
 have e2:=Int.mul_le_mul_of_nonneg_left h4 (show 0≤X by omega)
 have e3:=Int.mul_le_mul_of_nonneg_right (show -x≤X by omega) h3
 rw [Int.neg_mul] at e3
 omega
set_option maxRecDepth 8000 in
set_option maxHeartbeats 4000000 in
theorem qgf {w0:World}(a b:Frc) :
  Calls Tryz.prog 94 #[frcV a,frcV b] w0 fun e w'=>e=.returned (.tuple #[frcV (addF a b).2,errV (addF a b).1])∧Sat w0 w' []:=by
 have hw:=Sat.start w0
 obtain⟨R,hR⟩:∃ R,R=addF a b:=⟨_,rfl⟩
 rw [←hR]
 refine qaf (args:=[frcV a,frcV b]) mixed Tryz.func94 rfl (by kernel_rfl) (Nat.le_of_ble_eq_true rfl) ?_
 repeat (first|refine qac ?_|(refine qaa ?_;clear hw;intro p w hw)|(refine qad ?_;clear hw;intro w hw)|(refine qab ?_;clear hw;intro s w hw))
 refine qag rfl (qaz a) ?_
 rintro _ w' ⟨rfl,hk'⟩;replace hw:=hw.call0 hk';clear hk';refine⟨_,rfl,?_⟩
 by_cases pa:PrpF a
 ·by_cases pb:PrpF b
  ·rw [decide_eq_true pa]
   repeat (first|refine qac ?_|(refine qaa ?_;clear hw;intro p w hw)|(refine qae ?_;clear hw;intro w hw)|(refine qab ?_;clear hw;intro s w hw))
   refine qag rfl (qaz b) ?_
   rintro _ w' ⟨rfl,hk'⟩;replace hw:=hw.call0 hk';clear hk';refine⟨_,rfl,?_⟩
   rw [decide_eq_true pb]
   repeat (first|refine qac ?_|(refine qaa ?_;clear hw;intro p w hw)|(refine qae ?_;clear hw;intro w hw)|(refine qab ?_;clear hw;intro s w hw))
   obtain⟨a1,a2,a3,a4,a5⟩:=pa
   obtain⟨b1,b2,b3,b4,b5⟩:=pb
   have m1:=qcG (x:=a.num) (y:=b.den) (X:=1099511627776) (Y:=1048576) a3 a4 (by omega) b2
   have m2:=qcG (x:=b.num) (y:=a.den) (X:=1099511627776) (Y:=1048576) b3 b4 (by omega) a2
   have m3:=qcG (x:=a.den) (y:=b.den) (X:=1048576) (Y:=1048576) (by omega) a2 (by omega) b2
   have m4:0<a.den*b.den:=Int.mul_pos (by omega) (by omega)
   repeat (first|refine qac ?_|(refine qaa ?_;clear hw;intro p w hw)|(refine qad ?_;clear hw;intro w hw)|(refine qab ?_;clear hw;intro s w hw))
   have n1:¬(¬PrpF a∨¬PrpF b):=fun h=>h.elim (fun h=>h ⟨a1,a2,a3,a4,a5⟩) fun h=>h ⟨b1,b2,b3,b4,b5⟩
   have n2:¬a.den*b.den=0:=by omega
   first
   | (replace hR:R=newC (a.num*b.den+b.num*a.den) (a.den*b.den):=(by rw [hR];unfold addF newC;rw [if_neg n1,if_neg n2]);refine qag rfl (qbF (a:=a.num*b.den+b.num*a.den) (b:=a.den*b.den) (by omega) (by omega) (by omega) (by omega)) ?_)
   | (replace hR:R=newC (a.num*b.den-b.num*a.den) (a.den*b.den):=(by rw [hR];unfold subF newC;rw [if_neg n1,if_neg n2]);refine qag rfl (qbF (a:=a.num*b.den-b.num*a.den) (b:=a.den*b.den) (by omega) (by omega) (by omega) (by omega)) ?_)
   rintro _ w' ⟨rfl,hk'⟩;replace hw:=hw.call0 hk';clear hk';refine⟨_,rfl,?_⟩
   rw [←hR]
   repeat (first|refine qac ?_|(refine qaa ?_;clear hw;intro p w hw)|(refine qad ?_;clear hw;intro w hw)|(refine qab ?_;clear hw;intro s w hw))
   exact qar (vs:=[.int .i64 R.2.num,.int .i64 R.2.den]) rfl rfl rfl rfl (hw.boxR 0 rfl) ⟨rfl,hw.sel⟩
  ·rw [decide_eq_true pa]
   repeat (first|refine qac ?_|(refine qaa ?_;clear hw;intro p w hw)|(refine qae ?_;clear hw;intro w hw)|(refine qab ?_;clear hw;intro s w hw))
   refine qag rfl (qaz b) ?_
   rintro _ w' ⟨rfl,hk'⟩;replace hw:=hw.call0 hk';clear hk';refine⟨_,rfl,?_⟩
   rw [decide_eq_false pb]
   have e:R=(2,⟨0,0⟩):=by rw [hR];exact if_pos (Or.inr pb)
   repeat (first|refine qac ?_|(refine qaa ?_;clear hw;intro p w hw)|(refine qad ?_;clear hw;intro w hw)|(refine qab ?_;clear hw;intro s w hw))
   refine qau (vs:=[]) (ls:=[]) rfl rfl rfl ?_
   repeat (first|refine qac ?_|(refine qaa ?_;clear hw;intro p w hw)|(refine qad ?_;clear hw;intro w hw)|(refine qab ?_;clear hw;intro s w hw))
   subst e
   exact qar (vs:=[.int .i64 0,.int .i64 0]) rfl rfl rfl rfl (hw.boxR 0 rfl) ⟨rfl,hw.sel⟩
 ·rw [decide_eq_false pa]
  have e:R=(2,⟨0,0⟩):=by rw [hR];exact if_pos (Or.inl pa)
  repeat (first|refine qac ?_|(refine qaa ?_;clear hw;intro p w hw)|(refine qad ?_;clear hw;intro w hw)|(refine qab ?_;clear hw;intro s w hw))
  refine qau (vs:=[]) (ls:=[]) rfl rfl rfl ?_
  repeat (first|refine qac ?_|(refine qaa ?_;clear hw;intro p w hw)|(refine qad ?_;clear hw;intro w hw)|(refine qab ?_;clear hw;intro s w hw))
  subst e
  exact qar (vs:=[.int .i64 0,.int .i64 0]) rfl rfl rfl rfl (hw.boxR 0 rfl) ⟨rfl,hw.sel⟩
set_option maxRecDepth 8000 in
set_option maxHeartbeats 4000000 in
theorem qj0 {w0:World}(a b:Frc) :
  Calls Tryz.prog 106 #[frcV a,frcV b] w0 fun e w'=>e=.returned (.tuple #[frcV (subF a b).2,errV (subF a b).1])∧Sat w0 w' []:=by
 have hw:=Sat.start w0
 obtain⟨R,hR⟩:∃ R,R=subF a b:=⟨_,rfl⟩
 rw [←hR]
 refine qaf (args:=[frcV a,frcV b]) mixed Tryz.func106 rfl (by kernel_rfl) (Nat.le_of_ble_eq_true rfl) ?_
 repeat (first|refine qac ?_|(refine qaa ?_;clear hw;intro p w hw)|(refine qad ?_;clear hw;intro w hw)|(refine qab ?_;clear hw;intro s w hw))
 refine qag rfl (qaz a) ?_
 rintro _ w' ⟨rfl,hk'⟩;replace hw:=hw.call0 hk';clear hk';refine⟨_,rfl,?_⟩
 by_cases pa:PrpF a
 ·by_cases pb:PrpF b
  ·rw [decide_eq_true pa]
   repeat (first|refine qac ?_|(refine qaa ?_;clear hw;intro p w hw)|(refine qae ?_;clear hw;intro w hw)|(refine qab ?_;clear hw;intro s w hw))
   refine qag rfl (qaz b) ?_
   rintro _ w' ⟨rfl,hk'⟩;replace hw:=hw.call0 hk';clear hk';refine⟨_,rfl,?_⟩
   rw [decide_eq_true pb]
   repeat (first|refine qac ?_|(refine qaa ?_;clear hw;intro p w hw)|(refine qae ?_;clear hw;intro w hw)|(refine qab ?_;clear hw;intro s w hw))
   obtain⟨a1,a2,a3,a4,a5⟩:=pa
   obtain⟨b1,b2,b3,b4,b5⟩:=pb
   have m1:=qcG (x:=a.num) (y:=b.den) (X:=1099511627776) (Y:=1048576) a3 a4 (by omega) b2
   have m2:=qcG (x:=b.num) (y:=a.den) (X:=1099511627776) (Y:=1048576) b3 b4 (by omega) a2
   have m3:=qcG (x:=a.den) (y:=b.den) (X:=1048576) (Y:=1048576) (by omega) a2 (by omega) b2
   have m4:0<a.den*b.den:=Int.mul_pos (by omega) (by omega)
   repeat (first|refine qac ?_|(refine qaa ?_;clear hw;intro p w hw)|(refine qad ?_;clear hw;intro w hw)|(refine qab ?_;clear hw;intro s w hw))
   have n1:¬(¬PrpF a∨¬PrpF b):=fun h=>h.elim (fun h=>h ⟨a1,a2,a3,a4,a5⟩) fun h=>h ⟨b1,b2,b3,b4,b5⟩
   have n2:¬a.den*b.den=0:=by omega
   first
   | (replace hR:R=newC (a.num*b.den+b.num*a.den) (a.den*b.den):=(by rw [hR];unfold addF newC;rw [if_neg n1,if_neg n2]);refine qag rfl (qbF (a:=a.num*b.den+b.num*a.den) (b:=a.den*b.den) (by omega) (by omega) (by omega) (by omega)) ?_)
   | (replace hR:R=newC (a.num*b.den-b.num*a.den) (a.den*b.den):=(by rw [hR];unfold subF newC;rw [if_neg n1,if_neg n2]);refine qag rfl (qbF (a:=a.num*b.den-b.num*a.den) (b:=a.den*b.den) (by omega) (by omega) (by omega) (by omega)) ?_)
   rintro _ w' ⟨rfl,hk'⟩;replace hw:=hw.call0 hk';clear hk';refine⟨_,rfl,?_⟩
   rw [←hR]
   repeat (first|refine qac ?_|(refine qaa ?_;clear hw;intro p w hw)|(refine qad ?_;clear hw;intro w hw)|(refine qab ?_;clear hw;intro s w hw))
   exact qar (vs:=[.int .i64 R.2.num,.int .i64 R.2.den]) rfl rfl rfl rfl (hw.boxR 0 rfl) ⟨rfl,hw.sel⟩
  ·rw [decide_eq_true pa]
   repeat (first|refine qac ?_|(refine qaa ?_;clear hw;intro p w hw)|(refine qae ?_;clear hw;intro w hw)|(refine qab ?_;clear hw;intro s w hw))
   refine qag rfl (qaz b) ?_
   rintro _ w' ⟨rfl,hk'⟩;replace hw:=hw.call0 hk';clear hk';refine⟨_,rfl,?_⟩
   rw [decide_eq_false pb]
   have e:R=(2,⟨0,0⟩):=by rw [hR];exact if_pos (Or.inr pb)
   repeat (first|refine qac ?_|(refine qaa ?_;clear hw;intro p w hw)|(refine qad ?_;clear hw;intro w hw)|(refine qab ?_;clear hw;intro s w hw))
   refine qau (vs:=[]) (ls:=[]) rfl rfl rfl ?_
   repeat (first|refine qac ?_|(refine qaa ?_;clear hw;intro p w hw)|(refine qad ?_;clear hw;intro w hw)|(refine qab ?_;clear hw;intro s w hw))
   subst e
   exact qar (vs:=[.int .i64 0,.int .i64 0]) rfl rfl rfl rfl (hw.boxR 0 rfl) ⟨rfl,hw.sel⟩
 ·rw [decide_eq_false pa]
  have e:R=(2,⟨0,0⟩):=by rw [hR];exact if_pos (Or.inl pa)
  repeat (first|refine qac ?_|(refine qaa ?_;clear hw;intro p w hw)|(refine qad ?_;clear hw;intro w hw)|(refine qab ?_;clear hw;intro s w hw))
  refine qau (vs:=[]) (ls:=[]) rfl rfl rfl ?_
  repeat (first|refine qac ?_|(refine qaa ?_;clear hw;intro p w hw)|(refine qad ?_;clear hw;intro w hw)|(refine qab ?_;clear hw;intro s w hw))
  subst e
  exact qar (vs:=[.int .i64 0,.int .i64 0]) rfl rfl rfl rfl (hw.boxR 0 rfl) ⟨rfl,hw.sel⟩
end Go.Proofs.YtdadmnlenbdfbaaGreat
/-
  Contract of landmark's reached.
-/
namespace Go.Proofs.YtdadmnlenbdfbaaGreat
open Go.Sl Go
attribute [local irreducible] vc opsW opsD opV opW PureV ReadV Thn Blk
instance lmkEq:EqIntsT Tryz.prog 73 2:=⟨by kernel_rfl⟩
def initR (vars s:List Int) (v:Nat):List Bool:=(List.replicate (vars.getD v tInt.dflt).toNat false).set (s.getD v tInt.dflt).toNat true
def initB (vars s:List Int) (k:Nat):List (List Bool):=(List.range vars.length).map fun v=>if v<k then initR vars s v else []
theorem qbg (vars s:List Int) (k:Nat):(initB vars s k).length=vars.length:=by simp [initB]
theorem qe4 {vars s:List Int}{k v:Nat}(hv:v<vars.length):(initB vars s k).getD v []=if v<k then initR vars s v else []:=by
 rw [qak (by rw [qbg];exact hv)]
 simp [initB]
theorem qiU {vars s:List Int}{k:Nat}:(initB vars s k).set k (initR vars s k)=initB vars s (k+1):=by
 refine List.ext_getElem (by rw [List.length_set,qbg,qbg]) fun i h1 h2 => ?_
 rw [qbg] at h2
 rw [List.getElem_set]
 split
 ·rename_i e;subst e;simp [initB]
 ·rename_i e
  have:(i<k)=(i<k+1):=by apply propext;omega
  simp only [initB,List.getElem_map,List.getElem_range,this]
theorem qhZ (vars s:List Int):initB vars s 0=List.replicate vars.length []:=by
 refine List.ext_getElem (by rw [qbg,List.length_replicate]) fun i h1 h2 => ?_
 simp [initB]
theorem initI {t:TTask}{s:List Int}{w:Fact}(hok:StateOk t.vars s):RchI t s w (initB t.vars s t.vars.length):=by
 have hl:=hok.1
 refine⟨⟨qbg _ _ _,fun v hv => ?_⟩,fun f hf hat => ?_,fun v hv => ?_⟩
 ·rw [qe4 hv,if_pos hv];simp [initR]
 ·obtain⟨f1,f2,f3,f4⟩:=qcs hf
  unfold atB at hat
  rw [qe4 f2,if_pos f2] at hat
  have hs:=hok.2 f.var.toNat (by omega)
  have e:(s.getD f.var.toNat tInt.dflt).toNat=f.val.toNat:=by
   apply Classical.byContradiction
   intro hne
   rw [initR,List.getD,List.getElem?_set_ne hne,List.getElem?_replicate] at hat
   split at hat <;> cases hat
  have e2:f=⟨((f.var.toNat:Nat):Int),s.getD f.var.toNat tInt.dflt⟩:=by
   cases f
   simp only at *
   congr 1 <;> omega
  rw [e2]
  exact .st f2
 ·have hs:=hok.2 v (by omega)
  show ((initB t.vars s t.vars.length).getD (v:Int).toNat []).getD (s.getD v tInt.dflt).toNat false=true
  rw [Int.toNat_natCast,qe4 hv,if_pos hv]
  unfold initR
  rw [qak (by rw [List.length_set,List.length_replicate];omega),List.getElem_set_self]
theorem ClsB.succ {t:TTask}{w:Fact}{F:List (List Bool)}{i:Nat}{u:LUn}(h:ClsB t w F i) (hi:i<(unF t).length) (hu:u=(unF t).getD i dLUn) (h2:u.makes≠w→hasB F u.needs=true→atB F u.makes=true):ClsB t w F (i+1):=fun v hv=>by
 rw [List.take_add_one,List.getElem?_eq_getElem hi] at hv
 rcases List.mem_append.1 hv with hv|hv
 ·exact h v hv
 ·have e:v=u:=by rw [hu,qak hi];simpa using hv
  rw [e];exact h2
theorem qcI {x y:Fact}:[x.var,x.val]=[y.var,y.val]↔x=y:=by
 constructor
 ·intro h
  have h2:x.var=y.var∧x.val=y.val:=by simpa using h
  cases x;cases y
  simp only at h2
  rw [h2.1,h2.2]
 ·rintro rfl;rfl
set_option maxRecDepth 8000 in
set_option maxHeartbeats 8000000 in
theorem qcw {w0:World}{pr:Addr}{t:TTask}{a gv cv lv sv:Value}{us:List LUV}{z:List Int}{f:Fact}(hr:FinR w0 pr t a gv cv lv us) (hg:GoodT t) (hs:RS tInt w0 sv z) (hok:StateOk t.vars z) :
  Calls Tryz.prog 62 #[.pointer (some pr),sv,.agg #[.int .i64 f.var,.int .i64 f.val]] w0 fun e w'=>∃ fv ss F,e=.returned fv∧RchI t z f F∧ClsB t f F (unF t).length∧Sat w0 w' [OS tVal 154 fv ss,RowsAt tBool 4 ss F]:=by
 obtain⟨hb,hvr,hgr,hcr,hlr,hll,hF⟩:=hr
 have hvl:=hg.vars
 have hsl:=hok.1
 have hll2:=hlr.big
 have hw:=Sat.start w0
 refine qaf (args:=[.pointer (some pr),sv,.agg #[.int .i64 f.var,.int .i64 f.val]]) mixed Tryz.func62 rfl (by kernel_rfl) (Nat.le_of_ble_eq_true rfl) ?_
 repeat (first|refine qac ?_|(refine qaa ?_;clear hw;intro p w hw)|(refine qad ?_;clear hw;intro w hw)|(refine qab ?_;clear hw;intro s w hw))
 replace hw:=hw.rowsNil (T:=tBool) (e:=4) t.vars.length
 obtain⟨p5,rfl⟩:∃ x,x=p:=⟨_,rfl⟩
 obtain⟨fv,rfl⟩:∃ x,x=s:=⟨_,rfl⟩
 rw [Int.toNat_natCast,←qhZ t.vars z] at hw
 replace hw:Sat w0 w [RowsAt tBool 4 (List.replicate t.vars.length (.slice none 0 0)) (initB t.vars z 0),OS tVal 154 fv (List.replicate t.vars.length (.slice none 0 0)),Box p5 73 [.int .i64 f.var,.int .i64 f.val]]:=hw
 refine qat [8,9,24,25,26,27,28,29,30,31,32,33,34,35,36,37,38,39,40,41,42,43] (G:=Nat) (H:=List Value) (fun k _=>[(24,.int .i64 k)]) (fun k ss w=>k≤t.vars.length∧Sat w0 w [RowsAt tBool 4 ss (initB t.vars z k),OS tVal 154 fv ss,Box p5 73 [.int .i64 f.var,.int .i64 f.val]]) (fun k _=>t.vars.length-k) 0 _ (fun _ _=>rfl) ⟨rfl,trivial⟩ ⟨Nat.zero_le _,hw⟩ ?_
 clear hw
 rintro σ k ss w ⟨hk,hw⟩
 have hBl:=qbg t.vars z k
 have hsl2:=hw.rowsLen
 repeat (first|refine qac ?_|(refine qaa ?_;clear hw;intro p w hw)|(refine qad ?_;clear hw;intro w hw)|(refine qab ?_;clear hw;intro s w hw))
 refine go_if (fun h1 => ?_) (fun h1 => ?_)
 ·have hkl:k<t.vars.length:=by omega
  have hdk:=hg.dom k hkl
  have hz:=hok.2 k (by omega)
  repeat (first|refine qac ?_|(refine qaa ?_;clear hw;intro p w hw)|(refine qae ?_;clear hw;intro w hw)|(refine qab ?_;clear hw;intro s w hw))
  obtain⟨rv,rfl⟩:∃ x,x=s:=⟨_,rfl⟩
  replace hw:Sat w0 w [OS tBool 4 rv (List.replicate (t.vars.getD k tInt.dflt).toNat false),RowsAt tBool 4 ss (initB t.vars z k),OS tVal 154 fv (ss.set k rv),Box p5 73 [.int .i64 f.var,.int .i64 f.val]]:=hw.sel
  replace hw:=hw.rowNew (i:=k) (by omega)
  obtain⟨Δ,hw2,hb2⟩:=hw.rowOne (i:=k) (by rw [List.length_set];omega)
  rw [show ((initB t.vars z k).set k (List.replicate (t.vars.getD k tInt.dflt).toNat false)).getD k []=List.replicate (t.vars.getD k tInt.dflt).toNat false by rw [qak (by rw [List.length_set];omega),List.getElem_set_self]] at hw2
  clear hw
  have hw:=hw2
  clear hw2
  have hrl:(List.replicate (t.vars.getD k tInt.dflt).toNat false).length=(t.vars.getD k tInt.dflt).toNat:=List.length_replicate
  have hssl:(ss.set k rv).length=ss.length:=List.length_set
  repeat (first|refine qac ?_|(refine qaa ?_;clear hw;intro p w hw)|(refine qad ?_;clear hw;intro w hw)|(refine qab ?_;clear hw;intro s w hw))
  replace hw:Sat w0 w (OS tBool 4 (vget (ss.set k rv) k) (initR t.vars z k)::Pack Δ::[OS tVal 154 fv (ss.set k rv),Box p5 73 [.int .i64 f.var,.int .i64 f.val]]):=hw
  replace hw:=hb2 hw
  rw [List.set_set,qiU] at hw
  exact⟨k+1,_,⟨rfl,trivial⟩,agr,⟨by omega,hw⟩,by omega⟩
 have hke:k=t.vars.length:=by omega
 rw [hke] at hw
 have hI:=initI (w:=f) hok
 clear hBl hsl2 hke hk h1
 repeat (first|refine qac ?_|(refine qaa ?_;clear hw;intro p w hw)|(refine qad ?_;clear hw;intro w hw)|(refine qab ?_;clear hw;intro s w hw))
 refine qat [10,12,44,45,46,47,48,49,50,51,52,53,54,55,56,57,58,59,60,61,62,63,64,65,66,67,68,69,70,71,72,73,74,75,76,77,78,79,80,81,82,83,84,85,86,87,88] (G:=Bool) (H:=List (List Bool)) (fun ch _=>[(10,.bool ch)]) (fun ch F w=>RchI t z f F∧(ch=false→ClsB t f F (unF t).length)∧Sat w0 w [RowsAt tBool 4 ss F,OS tVal 154 fv ss,Box p5 73 [.int .i64 f.var,.int .i64 f.val]]) (fun ch F=>2*cntB F+(bif ch then 1 else 0)) true _ (fun _ _=>rfl) ⟨rfl,trivial⟩ ⟨hI,(fun h=>by cases h),hw⟩ ?_
 clear hw hI
 rintro σ1 ch F w ⟨hI,hC,hw⟩
 cases ch
 ·repeat (first|refine qac ?_|(refine qaa ?_;clear hw;intro p w hw)|(refine qad ?_;clear hw;intro w hw)|(refine qab ?_;clear hw;intro s w hw))
  exact qai (v:=fv) rfl rfl ⟨fv,ss,F,rfl,hI,hC rfl,hw.sel⟩
 clear hC
 repeat (first|refine qac ?_|(refine qaa ?_;clear hw;intro p w hw)|(refine qad ?_;clear hw;intro w hw)|(refine qab ?_;clear hw;intro s w hw))
 refine qa7 [10,12,50,51,52,53,54,55,56,57,58,59,60,61,62,63,64,65,66,67,68,69,70,71,72,73,74,75,76,77,78,79,80,81,82,83,84,85,86,87,88] (G:=Nat) (H:=Bool) (I:=List (List Bool)) (fun i ch _=>[(50,.int .i64 i),(10,.bool ch)]) (fun i ch F' w=>i≤us.length∧RchI t z f F'∧cntB F'≤cntB F∧(ch=true→cntB F'<cntB F)∧(ch=false→ClsB t f F' i)∧Sat w0 w [RowsAt tBool 4 ss F',OS tVal 154 fv ss,Box p5 73 [.int .i64 f.var,.int .i64 f.val]]) (fun i _ _=>us.length-i) 0 false F (fun _ _ _=>rfl) ⟨rfl,rfl,trivial⟩ ⟨Nat.zero_le _,hI,Nat.le_refl _,(fun h=>by cases h),fun _ u hu=>by simp at hu,hw⟩ ?_
 clear hw hI
 rintro σ2 i ch F' w ⟨hi,hI,hc1,hc2,hc3,hw⟩
 repeat (first|refine qac ?_|(refine qaa ?_;clear hw;intro p w hw)|(refine qad ?_;clear hw;intro w hw)|(refine qab ?_;clear hw;intro s w hw))
 refine go_if (fun h2 => ?_) (fun h2 => ?_)
 ·have hil:i<us.length:=by omega
  have hiu:i<(unF t).length:=by omega
  obtain⟨u,hu⟩:∃ u,u=(unF t).getD i dLUn:=⟨_,rfl⟩
  have hlu:=hF i hiu
  rw [←hu] at hlu
  obtain⟨l1,l2,l3⟩:=hlu
  have hum:u∈unF t:=by rw [hu];exact qan _ hiu
  obtain⟨o1,o2,o3⟩:=qi6 hg hum
  obtain⟨x1,x2,x3,x4⟩:=qcs o2
  have hFl:=hI.shp.len
  have hFr:=hI.shp.row _ x2
  have hsl2:=hw.rowsLen
  have ouk:=l3.one
  have hen:tLU.enc (eget tLU us i)=[.int .i64 (u.op:Int),(eget tLU us i).needs,.int .i64 u.makes.var,.int .i64 u.makes.val]:=by
   show [Value.int .i64 (eget tLU us i).op,(eget tLU us i).needs,.int .i64 (eget tLU us i).makes.var,.int .i64 (eget tLU us i).makes.val]=_
   rw [l1,l2]
  have houk:(tLU.enc (eget tLU us i)).all Value.oneCell'=true:=by
   rw [hen]
   simp only [List.all_cons,List.all_nil,ouk];rfl
  repeat (first|refine qac ?_|(refine qaa ?_;clear hw;intro p w hw)|(refine qae ?_;clear hw;intro w hw)|(refine qab ?_;clear hw;intro s w hw))
  obtain⟨p12,rfl⟩:∃ x,x=p:=⟨_,rfl⟩
  rw [hen] at hw
  refine qb2 ?_
  clear hw
  intro w hw
  repeat (first|refine qac ?_|(refine qaa ?_;clear hw;intro p w hw)|(refine qae ?_;clear hw;intro w hw)|(refine qab ?_;clear hw;intro s w hw))
  refine qaN rfl (qaQ (k:=2) (n:=2) (vs:=[.int .i64 u.makes.var,.int .i64 u.makes.val]) rfl (hw.boxR 0 rfl) rfl rfl) ?_
  repeat (first|refine qac ?_|(refine qaa ?_;clear hw;intro p w hw)|(refine qae ?_;clear hw;intro w hw)|(refine qab ?_;clear hw;intro s w hw))
  refine qaE rfl (qeF (us:=[u.makes.var,u.makes.val]) (zs:=[f.var,f.val]) rfl rfl rfl rfl) ?_
  by_cases q1:u.makes=f
  ·rw [decide_eq_true (qcI.2 q1)]
   repeat (first|refine qac ?_|(refine qaa ?_;clear hw;intro p w hw)|(refine qad ?_;clear hw;intro w hw)|(refine qab ?_;clear hw;intro s w hw))
   exact⟨i+1,ch,F',⟨rfl,rfl,trivial⟩,agr,⟨by omega,hI,hc1,hc2,fun h=>(hc3 h).succ hiu hu (fun h=>absurd q1 h),hw.tail⟩,by omega⟩
  rw [decide_eq_false fun h=>q1 (qcI.1 h)]
  have hro:RS tBool w (vget ss u.makes.var.toNat) (F'.getD u.makes.var.toNat []):=(hw.focus 1 rfl).row (by omega)
  repeat (first|refine qac ?_|(refine qaa ?_;clear hw;intro p w hw)|(refine qae ?_;clear hw;intro w hw)|(refine qab ?_;clear hw;intro s w hw))
  by_cases q2:atB F' u.makes=true
  ·have q2':(F'.getD u.makes.var.toNat []).getD u.makes.val.toNat tBool.dflt=true:=q2
   simp only [q2',beq_self_eq_true,qap,qaq,Bool.false_and,Bool.true_and,Bool.false_or,Bool.true_or,Bool.not_true,Bool.not_false,Bool.cond_true,Bool.cond_false,gv_fF,gv_tF]
   repeat (first|refine qac ?_|(refine qaa ?_;clear hw;intro p w hw)|(refine qad ?_;clear hw;intro w hw)|(refine qab ?_;clear hw;intro s w hw))
   exact⟨i+1,ch,F',⟨rfl,rfl,trivial⟩,agr,⟨by omega,hI,hc1,hc2,fun h=>(hc3 h).succ hiu hu (fun _ _=>q2),hw.tail⟩,by omega⟩
  have q2b:atB F' u.makes=false:=Bool.eq_false_iff.2 q2
  have q2':(F'.getD u.makes.var.toNat []).getD u.makes.val.toNat tBool.dflt=false:=q2b
  simp only [q2',beq_self_eq_true,qap,qaq,Bool.false_and,Bool.true_and,Bool.false_or,Bool.true_or,Bool.not_true,Bool.not_false,Bool.cond_true,Bool.cond_false,gv_fF,gv_tF]
  repeat (first|refine qac ?_|(refine qaa ?_;clear hw;intro p w hw)|(refine qae ?_;clear hw;intro w hw)|(refine qab ?_;clear hw;intro s w hw))
  refine qag rfl (qc7 (ss:=ss) (F:=F') ⟨rsO (s:=fv) hw,by omega,fun i hi=>(hw.focus 1 rfl).row hi⟩ hI.shp (l3.at hw) o3) ?_
  rintro _ w' ⟨rfl,hk'⟩
  replace hw:=hw.call0 hk'
  clear hk' hro
  refine⟨_,rfl,?_⟩
  by_cases q3:hasB F' u.needs=true
  ·rw [q3]
   replace hw:Sat w0 w' [RowsAt tBool 4 ss F',Box p12 98 [.int .i64 (u.op:Int),(eget tLU us i).needs,.int .i64 u.makes.var,.int .i64 u.makes.val],OS tVal 154 fv ss,Box p5 73 [.int .i64 f.var,.int .i64 f.val]]:=hw.sel
   obtain⟨Δ,hw2,hb2⟩:=hw.rowOne (i:=u.makes.var.toNat) (by omega)
   clear hw
   have hw:=hw2
   clear hw2
   repeat (first|refine qac ?_|(refine qaa ?_;clear hw;intro p w hw)|(refine qad ?_;clear hw;intro w hw)|(refine qab ?_;clear hw;intro s w hw))
   replace hw:=hb2 hw
   rw [show F'.set u.makes.var.toNat ((F'.getD u.makes.var.toNat []).set u.makes.val.toNat true)=setB F' u.makes from rfl] at hw
   have hfi:=hI.fire hg hok hum q1 q3
   have hct:=qmf hI.shp o2 q2b
   exact⟨i+1,true,setB F' u.makes,⟨rfl,rfl,trivial⟩,agr,⟨by omega,hfi,by omega,fun _=>by omega,(fun h=>by cases h),hw.sel⟩,by omega⟩
  ·rw [Bool.eq_false_iff.2 q3]
   repeat (first|refine qac ?_|(refine qaa ?_;clear hw;intro p w hw)|(refine qad ?_;clear hw;intro w hw)|(refine qab ?_;clear hw;intro s w hw))
   exact⟨i+1,ch,F',⟨rfl,rfl,trivial⟩,agr,⟨by omega,hI,hc1,hc2,fun h=>(hc3 h).succ hiu hu (fun _ h=>absurd h q3),hw.tail⟩,by omega⟩
 repeat (first|refine qac ?_|(refine qaa ?_;clear hw;intro p w hw)|(refine qad ?_;clear hw;intro w hw)|(refine qab ?_;clear hw;intro s w hw))
 refine⟨ch,F',⟨rfl,trivial⟩,agr,⟨hI,fun hch u hu hm=>hc3 hch u (by rw [List.take_of_length_le (by omega)];rw [List.take_of_length_le (Nat.le_refl _)] at hu;exact hu) hm,hw⟩,?_⟩
 cases ch
 ·simp only [cond_true,cond_false];omega
 ·have:=hc2 rfl
  simp only [cond_true];omega
end Go.Proofs.YtdadmnlenbdfbaaGreat
/-
  Contracts of landmark's Facts and achievers.
-/
namespace Go.Proofs.YtdadmnlenbdfbaaGreat
open Go.Sl Go
attribute [local irreducible] vc opsW opsD opV opW PureV ReadV Thn Blk
theorem qmk {t:TTask}(hg:GoodT t):∀ f∈t.goal,FactOk t.vars f:=fun f hf=>by
 obtain⟨i,hi,rfl⟩:=List.getElem_of_mem hf
 have:=(hg.goal i hi).1
 rwa [qak hi] at this
theorem qml {t:TTask}(hg:GoodT t):∀ f∈allF t.vars,FactOk t.vars f:=fun f hf=>by
 unfold allF allV at hf
 obtain⟨v,hv,hf⟩:=List.mem_flatMap.1 hf
 obtain⟨x,hx,rfl⟩:=List.mem_map.1 hf
 have hv:=List.mem_range.1 hv
 have hx:=List.mem_range.1 hx
 exact⟨Int.natCast_nonneg v,by show (v:Int)<_;omega,Int.natCast_nonneg x,by show (x:Int)<t.vars.getD (v:Int).toNat tInt.dflt;rw [Int.toNat_natCast];omega⟩
theorem qff {t:TTask}(hg:GoodT t):∀ k,k≤t.ops.length→((List.range k).flatMap (unKL t)).length≤64*k
 | 0,_=>by simp
 | k+1,h=>by
  have h1:=qff hg k (by omega)
  have h2:=(hg.op k (by omega)).effs
  rw [List.range_succ,List.flatMap_append,List.length_append]
  have h3:([k].flatMap (unKL t)).length=(t.ops.getD k dOp).effs.length:=by simp [unKL]
  omega
theorem qjA {t:TTask}(hg:GoodT t):(unF t).length≤262144:=by
 have h1:=qff hg t.ops.length (Nat.le_refl _)
 have h2:=hg.ops
 show ((List.range t.ops.length).flatMap (unKL t)).length≤_
 omega
open Classical in
set_option maxRecDepth 8000 in
set_option maxHeartbeats 8000000 in
theorem qg3 {w0:World}{pr:Addr}{t:TTask}{a gv cv lv sv:Value}{us:List LUV}{z:List Int}(hr:FinR w0 pr t a gv cv lv us) (hg:GoodT t) (hs:RS tInt w0 sv z) (hok:StateOk t.vars z) :
  Calls Tryz.prog 43 #[.pointer (some pr),sv] w0 fun e w'=>(¬RchG t z ⟨-1,-1⟩∧e=.returned (.tuple #[.slice none 0 0,errV 3])∧Sat w0 w' [])∨∃ ov,RchG t z ⟨-1,-1⟩∧e=.returned (.tuple #[ov,.nilIface])∧Sat w0 w' [OS tFact 73 ov (factsF t z)]:=by
 have hgk:=qmk hg
 have hak:=qml hg
 have hal:(allF t.vars).length≤4096:=by
  have:=qdH (fun i hi=>(hg.dom i hi).2) t.vars.length (Nat.le_refl _)
  have h2:allK t.vars t.vars.length=allF t.vars:=rfl
  rw [h2] at this
  have:=hg.vars
  omega
 have hzl:=hok.1
 have hw:=Sat.start w0
 refine qaf (args:=[.pointer (some pr),sv]) mixed Tryz.func43 rfl (by kernel_rfl) (Nat.le_of_ble_eq_true rfl) ?_
 have hbx:=hr.box
 have hvr:=hr.vars
 have hgr:=hr.goal
 repeat (first|refine qac ?_|(refine qaa ?_;clear hw;intro p w hw)|(refine qad ?_;clear hw;intro w hw)|(refine qab ?_;clear hw;intro s w hw))
 refine qag rfl (qbt (hvr.at hw) (hs.at hw)) ?_
 rintro _ w' ⟨⟨r,rfl,hr'⟩,hk'⟩
 replace hw:=hw.call0 hk'
 clear hk'
 refine⟨_,rfl,?_⟩
 obtain rfl:r=true:=hr'.2 hok
 repeat (first|refine qac ?_|(refine qaa ?_;clear hw;intro p w hw)|(refine qae ?_;clear hw;intro w hw)|(refine qab ?_;clear hw;intro s w hw))
 refine qay [.op 0,.op 1,.op 4,.op 5,.op 6,.op 7,.op 2,.chk 7,.op 3,.chk 7,.op 8,.op 9,.op 10] hw (by kernel_rfl) ?_;clear hw;intro w hw
 repeat (first|refine qac ?_|(refine qaa ?_;clear hw;intro p w hw)|(refine qae ?_;clear hw;intro w hw)|(refine qab ?_;clear hw;intro s w hw))
 refine qag rfl qfw ?_
 rintro _ w' ⟨rfl,hk'⟩
 replace hw:=hw.call0 hk'
 clear hk'
 refine⟨_,rfl,?_⟩
 repeat (first|refine qac ?_|(refine qaa ?_;clear hw;intro p w hw)|(refine qad ?_;clear hw;intro w hw)|(refine qab ?_;clear hw;intro s w hw))
 refine qag rfl (qcw (f:=⟨-1,-1⟩) (hr.at hw) hg (hs.at hw) hok) ?_
 rintro _ w' ⟨fv,ss,F,rfl,hI,hC,hk'⟩
 replace hw:=hw.call2 hk'
 clear hk'
 refine⟨_,rfl,?_⟩
 have hhas:=hI.has hC hgk
 repeat (first|refine qac ?_|(refine qaa ?_;clear hw;intro p w hw)|(refine qae ?_;clear hw;intro w hw)|(refine qab ?_;clear hw;intro s w hw))
 refine qag rfl (qc7 (ss:=ss) (F:=F) ⟨rsO (s:=fv) hw,(hw.focus 1 rfl).rowsLen,fun i hi=>(hw.focus 1 rfl).row hi⟩ hI.shp (hgr.at hw) hgk) ?_
 rintro _ w' ⟨rfl,hk'⟩
 replace hw:=hw.call0 hk'
 clear hk'
 refine⟨_,rfl,?_⟩
 by_cases q1:hasB F t.goal=true
 case neg =>
  rw [Bool.eq_false_iff.2 q1]
  repeat (first|refine qac ?_|(refine qaa ?_;clear hw;intro p w hw)|(refine qad ?_;clear hw;intro w hw)|(refine qab ?_;clear hw;intro s w hw))
  exact qaw (v:=.slice none 0 0) (v':=.iface 35 (.int .i64 3)) rfl rfl rfl (.inl ⟨fun h=>q1 (hhas.2 h),by rw [qaj (by decide)],qas hw⟩)
 have hRG:RchG t z ⟨-1,-1⟩:=hhas.1 q1
 rw [q1]
 repeat (first|refine qac ?_|(refine qaa ?_;clear hw;intro p w hw)|(refine qad ?_;clear hw;intro w hw)|(refine qab ?_;clear hw;intro s w hw))
 refine qag rfl (qj4 (hr.at hw) hg) ?_
 rintro _ w' ⟨ov,rfl,hk'⟩
 replace hw:=hw.call1 hk'
 clear hk'
 refine⟨_,rfl,?_⟩
 replace hw:=(hw.only).nil (T:=tFact) (e:=73)
 repeat (first|refine qac ?_|(refine qaa ?_;clear hw;intro p w hw)|(refine qad ?_;clear hw;intro w hw)|(refine qab ?_;clear hw;intro s w hw))
 refine qat [6,8,37,38,39,40,41,42,43,44,45,46,47,48,49,50,51,52,53,54,55,56,57,58,59,60,61,62,63,64,65] (G:=Nat) (H:=Value) (fun k xv=>[(37,.int .i64 k),(6,xv)]) (fun k xv w=>k≤(allF t.vars).length∧Sat w0 w [OS tFact 73 xv (((allF t.vars).take k).filter (lmB t z)),OS tFact 73 ov (allF t.vars)]) (fun k _=>(allF t.vars).length-k) 0 (.slice none 0 0) (fun _ _=>rfl) ⟨rfl,rfl,trivial⟩ ⟨Nat.zero_le _,hw⟩ ?_
 clear hw
 rintro σ k xv w ⟨hk,hw⟩
 have hxl:(((allF t.vars).take k).filter (lmB t z)).length≤k:=Nat.le_trans (List.length_filter_le _ _) (by rw [List.length_take];omega)
 repeat (first|refine qac ?_|(refine qaa ?_;clear hw;intro p w hw)|(refine qad ?_;clear hw;intro w hw)|(refine qab ?_;clear hw;intro s w hw))
 refine go_if (fun h1 => ?_) (fun h1 => ?_)
 ·have hkl:k<(allF t.vars).length:=by omega
  obtain⟨f,hf⟩:∃ f,f=(allF t.vars).getD k tFact.dflt:=⟨_,rfl⟩
  have hfm:f∈allF t.vars:=by rw [hf];exact qan _ hkl
  obtain⟨x1,x2,x3,x4⟩:=qcs (hak f hfm)
  have hsn:((allF t.vars).take (k+1)).filter (lmB t z)=if lmB t z f=true then ((allF t.vars).take k).filter (lmB t z)++[f] else ((allF t.vars).take k).filter (lmB t z):=by
   rw [qav tFact.dflt hkl,←hf,List.filter_append]
   by_cases h:lmB t z f=true
   ·rw [if_pos h,List.filter_cons_of_pos h];rfl
   ·rw [if_neg h,List.filter_cons_of_neg h];simp
  repeat (first|refine qac ?_|(refine qaa ?_;clear hw;intro p w hw)|(refine qae ?_;clear hw;intro w hw)|(refine qab ?_;clear hw;intro s w hw))
  obtain⟨p8,rfl⟩:∃ x,x=p:=⟨_,rfl⟩
  rw [←hf] at hw
  by_cases q2:z.getD f.var.toNat tInt.dflt=f.val
  ·have hB:lmB t z f=false:=by unfold lmB;exact decide_eq_false fun h=>h.1 q2
   rw [if_neg (by rw [hB];decide)] at hsn
   have hd:decide (z.getD f.var.toNat tInt.dflt=f.val)=true:=decide_eq_true q2
   refine qay [.op 0,.op 1,.op 2,.op 3,.op 4,.op 5,.op 6,.op 7,.op 8,.op 9,.op 10,.op 11,.op 13,.op 14,.op 15,.op 16,.op 12,.chk 16,.op 17,.op 18,.op 19] hw (by kernel_rfl) ?_;clear hw;intro w hw
   repeat (first|refine qac ?_|(refine qaa ?_;clear hw;intro p w hw)|(refine qae ?_;clear hw;intro w hw)|(refine qab ?_;clear hw;intro s w hw))
   simp only [hd,beq_self_eq_true,qap,qaq,Bool.false_and,Bool.true_and,Bool.false_or,Bool.true_or,Bool.not_true,Bool.not_false,Bool.cond_true,Bool.cond_false,gv_fF,gv_tF]
   repeat (first|refine qac ?_|(refine qaa ?_;clear hw;intro p w hw)|(refine qad ?_;clear hw;intro w hw)|(refine qab ?_;clear hw;intro s w hw))
   rw [←hsn] at hw
   exact⟨k+1,xv,⟨rfl,rfl,trivial⟩,agr,⟨by omega,hw.tail⟩,by omega⟩
  have hd:decide (z.getD f.var.toNat tInt.dflt=f.val)=false:=decide_eq_false q2
  refine qay [.op 0,.op 1,.op 2,.op 3,.op 4,.op 5,.op 6,.op 7,.op 8,.op 9,.op 10,.op 11,.op 13,.op 14,.op 15,.op 16,.op 12,.chk 16,.op 17,.op 18,.op 19] hw (by kernel_rfl) ?_;clear hw;intro w hw
  repeat (first|refine qac ?_|(refine qaa ?_;clear hw;intro p w hw)|(refine qae ?_;clear hw;intro w hw)|(refine qab ?_;clear hw;intro s w hw))
  simp only [hd,beq_self_eq_true,qap,qaq,Bool.false_and,Bool.true_and,Bool.false_or,Bool.true_or,Bool.not_true,Bool.not_false,Bool.cond_true,Bool.cond_false,gv_fF,gv_tF]
  repeat (first|refine qac ?_|(refine qaa ?_;clear hw;intro p w hw)|(refine qae ?_;clear hw;intro w hw)|(refine qab ?_;clear hw;intro s w hw))
  refine qag rfl (qcw (f:=f) (hr.at hw) hg (hs.at hw) hok) ?_
  rintro _ w' ⟨fv2,ss2,F2,rfl,hI2,hC2,hk'⟩
  replace hw:=hw.call2 hk'
  clear hk'
  refine⟨_,rfl,?_⟩
  have hhas2:=hI2.has hC2 hgk
  repeat (first|refine qac ?_|(refine qaa ?_;clear hw;intro p w hw)|(refine qae ?_;clear hw;intro w hw)|(refine qab ?_;clear hw;intro s w hw))
  refine qag rfl (qc7 (ss:=ss2) (F:=F2) ⟨rsO (s:=fv2) hw,(hw.focus 1 rfl).rowsLen,fun i hi=>(hw.focus 1 rfl).row hi⟩ hI2.shp (hgr.at hw) hgk) ?_
  rintro _ w' ⟨rfl,hk'⟩
  replace hw:=hw.call0 hk'
  clear hk'
  refine⟨_,rfl,?_⟩
  by_cases q3:hasB F2 t.goal=true
  ·have hB:lmB t z f=false:=by unfold lmB;exact decide_eq_false fun h=>h.2 (hhas2.1 q3)
   rw [if_neg (by rw [hB];decide)] at hsn
   rw [q3]
   repeat (first|refine qac ?_|(refine qaa ?_;clear hw;intro p w hw)|(refine qad ?_;clear hw;intro w hw)|(refine qab ?_;clear hw;intro s w hw))
   rw [←hsn] at hw
   exact⟨k+1,xv,⟨rfl,rfl,trivial⟩,agr,⟨by omega,hw.tail.tail.tail⟩,by omega⟩
  ·have hB:lmB t z f=true:=by unfold lmB;exact decide_eq_true ⟨q2,fun h=>q3 (hhas2.2 h)⟩
   rw [if_pos hB] at hsn
   rw [Bool.eq_false_iff.2 q3]
   repeat (first|refine qac ?_|(refine qaa ?_;clear hw;intro p w hw)|(refine qad ?_;clear hw;intro w hw)|(refine qab ?_;clear hw;intro s w hw))
   refine qal tFact (x1:=f) rfl rfl rfl (Nat.le_of_ble_eq_true rfl) (Nat.zero_lt_succ _) hw ?_
   clear hw
   intro sl w hw
   repeat (first|refine qac ?_|(refine qaa ?_;clear hw;intro p w hw)|(refine qad ?_;clear hw;intro w hw)|(refine qab ?_;clear hw;intro s w hw))
   rw [←hsn] at hw
   exact⟨k+1,_,⟨rfl,rfl,trivial⟩,agr,⟨by omega,hw.tail.tail.tail.tail⟩,by omega⟩
 rw [List.take_of_length_le (by omega)] at hw
 repeat (first|refine qac ?_|(refine qaa ?_;clear hw;intro p w hw)|(refine qad ?_;clear hw;intro w hw)|(refine qab ?_;clear hw;intro s w hw))
 exact qaw (v:=xv) (v':=.nilIface) rfl rfl rfl (.inr ⟨xv,hRG,rfl,hw.sel (Δ:=[OS tFact 73 xv ((allF t.vars).filter (lmB t z))])⟩)
open Classical in
set_option maxRecDepth 8000 in
set_option maxHeartbeats 8000000 in
theorem qka {w0:World}{pr:Addr}{t:TTask}{a gv cv lv sv:Value}{us:List LUV}{z:List Int}{f:Fact}(hr:FinR w0 pr t a gv cv lv us) (hg:GoodT t) (hs:RS tInt w0 sv z) (hok:StateOk t.vars z) :
  Calls Tryz.prog 44 #[.pointer (some pr),sv,.agg #[.int .i64 f.var,.int .i64 f.val]] w0 fun e w'=>∃ ov,e=.returned ov∧Sat w0 w' [OS tInt 3 ov (achF t z f)]:=by
 have hzl:=hok.1
 have hw:=Sat.start w0
 refine qaf (args:=[.pointer (some pr),sv,.agg #[.int .i64 f.var,.int .i64 f.val]]) mixed Tryz.func44 rfl (by kernel_rfl) (Nat.le_of_ble_eq_true rfl) ?_
 obtain⟨hb,hvr,hgr,hcr,hlr,hll,hF⟩:=id hr
 repeat (first|refine qac ?_|(refine qaa ?_;clear hw;intro p w hw)|(refine qad ?_;clear hw;intro w hw)|(refine qab ?_;clear hw;intro s w hw))
 obtain⟨p5,rfl⟩:∃ x,x=p:=⟨_,rfl⟩
 refine qag rfl (qcw (f:=f) (hr.at hw) hg (hs.at hw) hok) ?_
 rintro _ w' ⟨fv,ss,F,rfl,hI,hC,hk'⟩
 replace hw:=hw.call2 hk'
 clear hk'
 refine⟨_,rfl,?_⟩
 replace hw:=hw.nil (T:=tInt) (e:=3)
 replace hw:Sat w0 w' [OS tInt 3 (.slice none 0 0) [],OS tVal 154 fv ss,RowsAt tBool 4 ss F,Box p5 73 [.int .i64 f.var,.int .i64 f.val]]:=hw
 have hsl:=(hw.focus 2 rfl).rowsLen
 have hll2:=qjA hg
 have hll3:=hlr.big
 repeat (first|refine qac ?_|(refine qaa ?_;clear hw;intro p w hw)|(refine qad ?_;clear hw;intro w hw)|(refine qab ?_;clear hw;intro s w hw))
 refine qat [8,10,20,21,22,23,24,25,26,27,28,29,30,31,32,33,34,35,36,37,38,39] (G:=Nat) (H:=Value) (fun k xv=>[(20,.int .i64 k),(8,xv)]) (fun k xv w=>k≤us.length∧Sat w0 w [OS tInt 3 xv ((((unF t).take k).filter (acB t z f)).map fun u=>(u.op:Int)),OS tVal 154 fv ss,RowsAt tBool 4 ss F,Box p5 73 [.int .i64 f.var,.int .i64 f.val]]) (fun k _=>us.length-k) 0 (.slice none 0 0) (fun _ _=>rfl) ⟨rfl,rfl,trivial⟩ ⟨Nat.zero_le _,hw⟩ ?_
 clear hw
 rintro σ k xv w ⟨hk,hw⟩
 have hxl:((((unF t).take k).filter (acB t z f)).map fun u=>(u.op:Int)).length≤k:=by
  rw [List.length_map]
  exact Nat.le_trans (List.length_filter_le _ _) (by rw [List.length_take];omega)
 repeat (first|refine qac ?_|(refine qaa ?_;clear hw;intro p w hw)|(refine qad ?_;clear hw;intro w hw)|(refine qab ?_;clear hw;intro s w hw))
 refine go_if (fun h1 => ?_) (fun h1 => ?_)
 ·have hkl:k<us.length:=by omega
  have hku:k<(unF t).length:=by omega
  obtain⟨u,hu⟩:∃ u,u=(unF t).getD k dLUn:=⟨_,rfl⟩
  have hlu:=hF k hku
  rw [←hu] at hlu
  obtain⟨l1,l2,l3⟩:=hlu
  have hum:u∈unF t:=by rw [hu];exact qan _ hku
  obtain⟨o1,o2,o3⟩:=qi6 hg hum
  have ouk:=l3.one
  have hen:tLU.enc (eget tLU us k)=[.int .i64 (u.op:Int),(eget tLU us k).needs,.int .i64 u.makes.var,.int .i64 u.makes.val]:=by
   show [Value.int .i64 (eget tLU us k).op,(eget tLU us k).needs,.int .i64 (eget tLU us k).makes.var,.int .i64 (eget tLU us k).makes.val]=_
   rw [l1,l2]
  have houk:(tLU.enc (eget tLU us k)).all Value.oneCell'=true:=by
   rw [hen]
   simp only [List.all_cons,List.all_nil,ouk];rfl
  have hsn:(((unF t).take (k+1)).filter (acB t z f)).map (fun u=>(u.op:Int))=if acB t z f u=true then ((((unF t).take k).filter (acB t z f)).map fun u=>(u.op:Int))++[(u.op:Int)] else (((unF t).take k).filter (acB t z f)).map fun u=>(u.op:Int):=by
   rw [qav dLUn hku,←hu,List.filter_append]
   by_cases h:acB t z f u=true
   ·rw [if_pos h,List.filter_cons_of_pos h];simp
   ·rw [if_neg h,List.filter_cons_of_neg h];simp
  repeat (first|refine qac ?_|(refine qaa ?_;clear hw;intro p w hw)|(refine qae ?_;clear hw;intro w hw)|(refine qab ?_;clear hw;intro s w hw))
  obtain⟨p10,rfl⟩:∃ x,x=p:=⟨_,rfl⟩
  rw [hen] at hw
  refine qaN rfl (qaQ (k:=2) (n:=2) (vs:=[.int .i64 u.makes.var,.int .i64 u.makes.val]) rfl (hw.boxR 0 rfl) rfl rfl) ?_
  repeat (first|refine qac ?_|(refine qaa ?_;clear hw;intro p w hw)|(refine qae ?_;clear hw;intro w hw)|(refine qab ?_;clear hw;intro s w hw))
  refine qaE rfl (qh2 (us:=[u.makes.var,u.makes.val]) (zs:=[f.var,f.val]) rfl rfl rfl rfl) ?_
  by_cases q1:u.makes=f
  case neg =>
   have hB:acB t z f u=false:=by unfold acB;exact decide_eq_false fun h=>q1 h.1
   rw [if_neg (by rw [hB];decide)] at hsn
   rw [decide_eq_false fun h=>q1 (qcI.1 h)]
   repeat (first|refine qac ?_|(refine qaa ?_;clear hw;intro p w hw)|(refine qad ?_;clear hw;intro w hw)|(refine qab ?_;clear hw;intro s w hw))
   rw [←hsn] at hw
   exact⟨k+1,xv,⟨rfl,rfl,trivial⟩,agr,⟨by omega,hw.tail⟩,by omega⟩
  rw [decide_eq_true (qcI.2 q1)]
  repeat (first|refine qac ?_|(refine qaa ?_;clear hw;intro p w hw)|(refine qae ?_;clear hw;intro w hw)|(refine qab ?_;clear hw;intro s w hw))
  refine qag rfl (qc7 (ss:=ss) (F:=F) ⟨rsO (s:=fv) hw,hsl,fun i hi=>(hw.focus 3 rfl).row hi⟩ hI.shp (l3.at hw) o3) ?_
  rintro _ w' ⟨rfl,hk'⟩
  replace hw:=hw.call0 hk'
  clear hk'
  refine⟨_,rfl,?_⟩
  have hhas:=hI.has hC o3
  by_cases q2:hasB F u.needs=true
  ·have hB:acB t z f u=true:=by unfold acB;exact decide_eq_true ⟨q1,hhas.1 q2⟩
   rw [if_pos hB] at hsn
   rw [q2]
   repeat (first|refine qac ?_|(refine qaa ?_;clear hw;intro p w hw)|(refine qad ?_;clear hw;intro w hw)|(refine qab ?_;clear hw;intro s w hw))
   rw [←hsn] at hw
   exact⟨k+1,_,⟨rfl,rfl,trivial⟩,agr,⟨by omega,hw.tail.tail⟩,by omega⟩
  ·have hB:acB t z f u=false:=by unfold acB;exact decide_eq_false fun h=>q2 (hhas.2 h.2)
   rw [if_neg (by rw [hB];decide)] at hsn
   rw [Bool.eq_false_iff.2 q2]
   repeat (first|refine qac ?_|(refine qaa ?_;clear hw;intro p w hw)|(refine qad ?_;clear hw;intro w hw)|(refine qab ?_;clear hw;intro s w hw))
   rw [←hsn] at hw
   exact⟨k+1,xv,⟨rfl,rfl,trivial⟩,agr,⟨by omega,hw.tail⟩,by omega⟩
 have hke:(unF t).length≤k:=by omega
 rw [List.take_of_length_le hke] at hw hxl
 repeat (first|refine qac ?_|(refine qaa ?_;clear hw;intro p w hw)|(refine qad ?_;clear hw;intro w hw)|(refine qab ?_;clear hw;intro s w hw))
 refine qag rfl (qgl (s:=xv) hw (by omega)) ?_
 clear hw
 rintro _ w ⟨ov,rfl,hw⟩
 refine⟨_,rfl,?_⟩
 repeat (first|refine qac ?_|(refine qaa ?_;clear hw;intro p w hw)|(refine qad ?_;clear hw;intro w hw)|(refine qab ?_;clear hw;intro s w hw))
 exact qai (v:=ov) rfl rfl ⟨ov,rfl,hw.only⟩
end Go.Proofs.YtdadmnlenbdfbaaGreat
/-
  Contracts of LM-cut's 'greatest', 'highest'.
-/
namespace Go.Proofs.YtdadmnlenbdfbaaGreat
open Go.Sl Go
attribute [local irreducible] vc opsW opsD opV opW PureV ReadV Thn Blk
end Go.Proofs.YtdadmnlenbdfbaaGreat
