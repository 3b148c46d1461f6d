/-
  The statement 'EstimateLandmark' returns true.
-/
import Derived.Test.YtdadmnlenbdfbaaGreatMW2
import Derived.Test.YtdadmnlenbdfbaaGreatMW13
import Derived.Test.YtdadmnlenbdfbaaGreatWPar9
set_option linter.unusedSimpArgs false
set_option linter.unusedVariables false
namespace Go.Proofs.YtdadmnlenbdfbaaGreat
open Go.Sl Go
attribute [local irreducible] vc opsW opsD opV opW PureV ReadV Thn Blk
set_option maxRecDepth 8000 in
set_option maxHeartbeats 8000000 in
theorem qbX {w0:World}{a b c d:Value}{vs:List OpV}{t:TTask}{kind:Int}(ht:RTask w0 a b c d vs t) :
  Calls Tryz.prog 3 #[.agg #[a,b,c,d],.int .i64 kind] w0 fun e w'=>e=.returned (.bool true)∧Sat w0 w' []:=by
 have hw:=Sat.start w0
 refine qaf (args:=[.agg #[a,b,c,d],.int .i64 kind]) mixed Tryz.func3 rfl (by kernel_rfl) (Nat.le_of_ble_eq_true rfl) ?_
 repeat (first|refine qac ?_|(refine qaa ?_;clear hw;intro p w hw)|(refine qae ?_;clear hw;intro w hw)|(refine qab ?_;clear hw;intro s w hw))
 obtain⟨pt,hpt⟩:∃ pt,pt=p:=⟨p,rfl⟩
 subst hpt
 refine qag rfl (qiB (ht.at hw)) ?_
 rintro _ w' ⟨⟨r,rfl,hr⟩,hk'⟩
 replace hw:=hw.call0 hk'
 clear hk'
 refine⟨_,rfl,?_⟩
 cases r
 ·repeat (first|refine qac ?_|(refine qaa ?_;clear hw;intro p w hw)|(refine qae ?_;clear hw;intro w hw)|(refine qab ?_;clear hw;intro s w hw))
  refine qag rfl qdz ?_
  rintro _ w' ⟨rfl,hk'⟩;replace hw:=hw.call0 hk';clear hk';refine⟨_,rfl,?_⟩
  repeat (first|refine qac ?_|(refine qaa ?_;clear hw;intro p w hw)|(refine qae ?_;clear hw;intro w hw)|(refine qab ?_;clear hw;intro s w hw))
  exact qai (v:=.bool true) rfl rfl ⟨rfl,qas hw⟩
 have hs:=hr.1 rfl
 have hg:=hs.good
 repeat (first|refine qac ?_|(refine qaa ?_;clear hw;intro p w hw)|(refine qae ?_;clear hw;intro w hw)|(refine qab ?_;clear hw;intro s w hw))
 refine qag rfl qdz ?_
 rintro _ w' ⟨rfl,hk'⟩;replace hw:=hw.call0 hk';clear hk';refine⟨_,rfl,?_⟩
 repeat (first|refine qac ?_|(refine qaa ?_;clear hw;intro p w hw)|(refine qae ?_;clear hw;intro w hw)|(refine qab ?_;clear hw;intro s w hw))
 refine qag rfl (qfA (kind:=kind) (ht.at hw) hg) ?_
 rintro _ w' hres
 rcases hres with ⟨hkb,rfl,hk'⟩|⟨pb,hkg,rfl,hk'⟩
 ·replace hw:=hw.call0 hk'
  clear hk'
  refine⟨_,rfl,?_⟩
  have he1:errV 1=.iface 35 (.int .i64 1):=qaj (by decide)
  rw [he1]
  by_cases q1:kind<1
  ·have hd1:decide (kind<1)=true:=decide_eq_true q1
   repeat (first|refine qac ?_|(refine qaa ?_;clear hw;intro p w hw)|(refine qae ?_;clear hw;intro w hw)|(refine qab ?_;clear hw;intro s w hw))
   simp only [hd1,beq_self_eq_true,qap,qaq,Bool.false_and,Bool.true_and,Bool.and_true,Bool.and_false,Bool.false_or,Bool.true_or,Bool.or_false,Bool.not_true,Bool.not_false,Bool.cond_true,Bool.cond_false,gv_fF,gv_tF]
   repeat (first|refine qac ?_|(refine qaa ?_;clear hw;intro p w hw)|(refine qae ?_;clear hw;intro w hw)|(refine qab ?_;clear hw;intro s w hw))
   refine qag rfl (he1 ▸ Is_spec 1 1) ?_
   rintro _ w' ⟨rfl,hk'⟩;replace hw:=hw.call0 hk';clear hk';refine⟨_,rfl,?_⟩
   rw [show decide ((1:Int)≠0∧(1:Int)=1)=true by decide]
   repeat (first|refine qac ?_|(refine qaa ?_;clear hw;intro p w hw)|(refine qad ?_;clear hw;intro w hw)|(refine qab ?_;clear hw;intro s w hw))
   exact qai (v:=.bool true) rfl rfl ⟨rfl,qas hw⟩
  ·have hd1:decide (kind<1)=false:=decide_eq_false q1
   have hd2:decide (3<kind)=true:=decide_eq_true (by omega)
   repeat (first|refine qac ?_|(refine qaa ?_;clear hw;intro p w hw)|(refine qae ?_;clear hw;intro w hw)|(refine qab ?_;clear hw;intro s w hw))
   simp only [hd1,hd2,beq_self_eq_true,qap,qaq,Bool.false_and,Bool.true_and,Bool.and_true,Bool.and_false,Bool.false_or,Bool.true_or,Bool.or_false,Bool.not_true,Bool.not_false,Bool.cond_true,Bool.cond_false,gv_fF,gv_tF]
   repeat (first|refine qac ?_|(refine qaa ?_;clear hw;intro p w hw)|(refine qae ?_;clear hw;intro w hw)|(refine qab ?_;clear hw;intro s w hw))
   refine qag rfl (he1 ▸ Is_spec 1 1) ?_
   rintro _ w' ⟨rfl,hk'⟩;replace hw:=hw.call0 hk';clear hk';refine⟨_,rfl,?_⟩
   rw [show decide ((1:Int)≠0∧(1:Int)=1)=true by decide]
   repeat (first|refine qac ?_|(refine qaa ?_;clear hw;intro p w hw)|(refine qad ?_;clear hw;intro w hw)|(refine qab ?_;clear hw;intro s w hw))
   exact qai (v:=.bool true) rfl rfl ⟨rfl,qas hw⟩
 replace hw:=hw.call1 hk'
 clear hk'
 refine⟨_,rfl,?_⟩
 obtain⟨hk1,hk3⟩:=hkg
 have hd1:decide (kind<1)=false:=decide_eq_false (by omega)
 have hd2:decide (3<kind)=false:=decide_eq_false (by omega)
 repeat (first|refine qac ?_|(refine qaa ?_;clear hw;intro p w hw)|(refine qae ?_;clear hw;intro w hw)|(refine qab ?_;clear hw;intro s w hw))
 simp only [hd1,hd2,beq_self_eq_true,qap,qaq,Bool.false_and,Bool.true_and,Bool.and_true,Bool.and_false,Bool.false_or,Bool.true_or,Bool.or_false,Bool.not_true,Bool.not_false,Bool.cond_true,Bool.cond_false,gv_fF,gv_tF]
 repeat (first|refine qac ?_|(refine qaa ?_;clear hw;intro p w hw)|(refine qae ?_;clear hw;intro w hw)|(refine qab ?_;clear hw;intro s w hw))
 refine qag rfl (qg9 (ht.at hw) hs) ?_
 rintro _ w' ⟨ov,os,ss,Zs,rfl,hZ,hZl,hZ0,hk'⟩
 replace hw:=hw.call2 hk'
 clear hk'
 refine⟨_,rfl,?_⟩
 have hosl:=hZ.1
 replace hw:Sat w0 w' [RowsAt tInt 3 ss (statesL t.vars),OS tVal 22 ov os,RdH (fun w=>REst w pb t (lmkH t kind)),Box pt 26 [a,b,c,d]]:=hw
 repeat (first|refine qac ?_|(refine qaa ?_;clear hw;intro p w hw)|(refine qae ?_;clear hw;intro w hw)|(refine qab ?_;clear hw;intro s w hw))
 refine qao [4,7,8,9,10,42,43,44,45,46,47,48,49,50,51,52,53,54,55,56,57,58,59,60,61,62,63] (G:=Nat) (fun k=>[(42,.int .i64 k)]) (fun k w=>k≤Zs.length∧Sat w0 w [RowsAt tInt 3 ss (statesL t.vars),OS tVal 22 ov os,RdH (fun w=>REst w pb t (lmkH t kind)),Box pt 26 [a,b,c,d]]) (fun k=>Zs.length-k) 0 (fun _=>rfl) ⟨rfl,trivial⟩ ⟨Nat.zero_le _,hw⟩ ?_
 clear hw
 rintro σ k w ⟨hk,hw⟩
 repeat (first|refine qac ?_|(refine qaa ?_;clear hw;intro p w hw)|(refine qad ?_;clear hw;intro w hw)|(refine qab ?_;clear hw;intro s w hw))
 refine go_if (fun h1 => ?_) (fun h1 => ?_)
 ·have hkl:k<Zs.length:=by omega
  have hok:=hZ.ok hg hkl
  have hrs:∀ {Γ:List HP}(w:World),Sat w0 w (RowsAt tInt 3 ss (statesL t.vars)::Γ)→RS tInt w (vget os k) (Zs.getD k []):=fun w h=>hZ.rs ht.init h hkl
  obtain⟨z,hz⟩:∃ z,z=Zs.getD k []:=⟨_,rfl⟩
  rw [←hz] at hok hrs
  repeat (first|refine qac ?_|(refine qaa ?_;clear hw;intro p w hw)|(refine qae ?_;clear hw;intro w hw)|(refine qab ?_;clear hw;intro s w hw))
  refine go_if (fun h2 => ?_) (fun h2 => ?_)
  ·repeat (first|refine qac ?_|(refine qaa ?_;clear hw;intro p w hw)|(refine qad ?_;clear hw;intro w hw)|(refine qab ?_;clear hw;intro s w hw))
   exact qai (v:=.bool true) rfl rfl ⟨rfl,qas hw⟩
  repeat (first|refine qac ?_|(refine qaa ?_;clear hw;intro p w hw)|(refine qae ?_;clear hw;intro w hw)|(refine qab ?_;clear hw;intro s w hw))
  refine qag rfl (qeS hk1 hk3 (ht.at hw) hg (hrs _ hw) hok) ?_
  rintro _ w' ⟨rfl,hk'⟩;replace hw:=hw.call0 hk';clear hk';refine⟨_,rfl,?_⟩
  obtain⟨V,hV⟩:∃ V,V=lmkE t z kind:=⟨_,rfl⟩
  have hH:estV t (lmkH t kind) z=if V.1=0 then V.2 else 0:=by rw [estV,if_pos hok,hV];rfl
  rw [←hV]
  by_cases he:V.1=0
  ·rw [if_pos he] at hH
   rw [qam he]
   repeat (first|refine qac ?_|(refine qaa ?_;clear hw;intro p w hw)|(refine qae ?_;clear hw;intro w hw)|(refine qab ?_;clear hw;intro s w hw))
   refine qag rfl (qaW (hw.rdE 2 rfl) (hrs _ hw)) ?_
   rintro _ w' ⟨rfl,hk'⟩;replace hw:=hw.call0 hk';clear hk';refine⟨_,rfl,?_⟩
   rw [hH]
   have hd:decide (V.2=V.2)=true:=decide_eq_true rfl
   repeat (first|refine qac ?_|(refine qaa ?_;clear hw;intro p w hw)|(refine qae ?_;clear hw;intro w hw)|(refine qab ?_;clear hw;intro s w hw))
   simp only [hd,dTrueE,beq_self_eq_true,qap,qaq,Bool.false_and,Bool.true_and,Bool.and_true,Bool.and_false,Bool.false_or,Bool.true_or,Bool.or_false,Bool.not_true,Bool.not_false,Bool.cond_true,Bool.cond_false,gv_fF,gv_tF]
   repeat (first|refine qac ?_|(refine qaa ?_;clear hw;intro p w hw)|(refine qad ?_;clear hw;intro w hw)|(refine qab ?_;clear hw;intro s w hw))
   exact⟨k+1,⟨rfl,trivial⟩,agr,⟨by omega,hw⟩,by omega⟩
  ·rw [if_neg he] at hH
   rw [qaj he]
   repeat (first|refine qac ?_|(refine qaa ?_;clear hw;intro p w hw)|(refine qae ?_;clear hw;intro w hw)|(refine qab ?_;clear hw;intro s w hw))
   refine qag rfl (qaW (hw.rdE 2 rfl) (hrs _ hw)) ?_
   rintro _ w' ⟨rfl,hk'⟩;replace hw:=hw.call0 hk';clear hk';refine⟨_,rfl,?_⟩
   rw [hH]
   repeat (first|refine qac ?_|(refine qaa ?_;clear hw;intro p w hw)|(refine qad ?_;clear hw;intro w hw)|(refine qab ?_;clear hw;intro s w hw))
   exact⟨k+1,⟨rfl,trivial⟩,agr,⟨by omega,hw⟩,by omega⟩
 repeat (first|refine qac ?_|(refine qaa ?_;clear hw;intro p w hw)|(refine qad ?_;clear hw;intro w hw)|(refine qab ?_;clear hw;intro s w hw))
 exact qai (v:=.bool true) rfl rfl ⟨rfl,qas hw⟩
end Go.Proofs.YtdadmnlenbdfbaaGreat
