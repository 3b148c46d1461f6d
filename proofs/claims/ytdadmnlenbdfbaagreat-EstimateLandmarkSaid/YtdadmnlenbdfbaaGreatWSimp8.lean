/-
  Contract of simplex.Solve.
-/
import Derived.Test.YtdadmnlenbdfbaaGreatWSimp5
import Derived.Test.YtdadmnlenbdfbaaGreatWSimp7
import Derived.Test.YtdadmnlenbdfbaaGreatMW17
import Derived.Test.YtdadmnlenbdfbaaGreatMSlB
set_option linter.unusedSimpArgs false
set_option linter.unusedVariables false
namespace Go.Proofs.YtdadmnlenbdfbaaGreat
open Go.Sl Go
attribute [local irreducible] vc opsW opsD opV opW PureV ReadV Thn Blk
theorem qge:∀ {l:List Frc}{i k:Nat},(∀ j,j<k→¬0<(l.getD j tFrc.dflt).num)→k≤l.length→fstP i l=fstP (i+k) (l.drop k)
 | _,i,0,_,_=>rfl
 | [],_,_+1,_,hk=>absurd hk (by simp)
 | f::l,i,k+1,h,hk=>by
  have h0:¬0<f.num:=h 0 (Nat.succ_pos _)
  have ih:=qge (l:=l) (i:=i+1) (k:=k) (fun j hj=>by have:=h (j+1) (by omega);rwa [List.getD_cons_succ] at this) (by simpa using hk)
  rw [List.drop_succ_cons,show i+(k+1)=i+1+k by omega,←ih]
  conv=>lhs;unfold fstP
  rw [if_neg h0]
set_option maxRecDepth 8000 in
theorem qkf {w0:World}{lv:Value}{l:List Frc}(hl:RS tFrc w0 lv l) :
  Calls Tryz.prog 89 #[lv,.func (.func 90) #[] #[]] w0 fun e w'=>e=.returned (.int .i64 (fstP 0 l))∧Sat w0 w' []:=by
 have hll:=hl.big
 have hw:=Sat.start w0
 refine qaf (args:=[lv,.func (.func 90) #[] #[]]) mixed Tryz.func89 rfl (by kernel_rfl) (Nat.le_of_ble_eq_true rfl) ?_
 repeat (first|refine qac ?_|(refine qaa ?_;clear hw;intro p w hw)|(refine qad ?_;clear hw;intro w hw)|(refine qab ?_;clear hw;intro s w hw))
 refine qao [4,5,8,9,10,11,12,13,14,15,16,17,18] (G:=Nat) (fun k=>[(8,.int .i64 k)]) (fun k w=>k≤l.length∧(∀ i,i<k→¬0<(l.getD i tFrc.dflt).num)∧Sat w0 w []) (fun k=>l.length-k) 0 (fun _=>rfl) ⟨rfl,trivial⟩ ⟨Nat.zero_le _,fun i hi=>absurd hi (Nat.not_lt_zero _),hw⟩ ?_
 clear hw
 rintro σ k w ⟨hk,hpre,hw⟩
 have hsk:=qge (i:=0) hpre hk
 repeat (first|refine qac ?_|(refine qaa ?_;clear hw;intro p w hw)|(refine qad ?_;clear hw;intro w hw)|(refine qab ?_;clear hw;intro s w hw))
 refine go_if (fun h1 => ?_) (fun h1 => ?_)
 ·have hkl:k<l.length:=by omega
  repeat (first|refine qac ?_|(refine qaa ?_;clear hw;intro p w hw)|(refine qad ?_;clear hw;intro w hw)|(refine qab ?_;clear hw;intro s w hw))
  refine qa9 (cs:=[]) rfl rfl (qgm (l.getD k tFrc.dflt)) ?_
  rintro _ w' ⟨rfl,hk'⟩;replace hw:=hw.call0 hk';clear hk';refine⟨_,rfl,?_⟩
  rw [qaR tFrc.dflt hkl] at hsk
  by_cases hc:0<(l.getD k tFrc.dflt).num
  ·rw [decide_eq_true hc]
   repeat (first|refine qac ?_|(refine qaa ?_;clear hw;intro p w hw)|(refine qad ?_;clear hw;intro w hw)|(refine qab ?_;clear hw;intro s w hw))
   exact qai (v:=.int .i64 k) rfl rfl ⟨by rw [hsk,fstP,if_pos hc,Nat.zero_add],hw⟩
  ·rw [decide_eq_false hc]
   repeat (first|refine qac ?_|(refine qaa ?_;clear hw;intro p w hw)|(refine qad ?_;clear hw;intro w hw)|(refine qab ?_;clear hw;intro s w hw))
   refine⟨k+1,⟨rfl,trivial⟩,agr,⟨by omega,fun i hi => ?_,hw⟩,by omega⟩
   by_cases e:i=k
   ·rw [e];exact hc
   ·exact hpre i (by omega)
 have hke:k=l.length:=by omega
 rw [hke,List.drop_length] at hsk
 repeat (first|refine qac ?_|(refine qaa ?_;clear hw;intro p w hw)|(refine qad ?_;clear hw;intro w hw)|(refine qab ?_;clear hw;intro s w hw))
 exact qai (v:=.int .i64 (-1)) rfl rfl ⟨by rw [hsk,fstP],hw⟩
end Go.Proofs.YtdadmnlenbdfbaaGreat
