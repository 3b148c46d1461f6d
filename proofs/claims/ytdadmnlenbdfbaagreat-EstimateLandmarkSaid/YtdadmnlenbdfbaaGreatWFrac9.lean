/-
  Contract of fraction.Sum.
-/
import Derived.Test.YtdadmnlenbdfbaaGreatWFrac8
import Derived.Test.YtdadmnlenbdfbaaGreatMTA
set_option linter.unusedSimpArgs false
set_option linter.unusedVariables false
namespace Go.Proofs.YtdadmnlenbdfbaaGreat
open Go.Sl Go
attribute [local irreducible] vc opsW opsD opV opW PureV ReadV Thn Blk
set_option maxRecDepth 8000 in
set_option maxHeartbeats 4000000 in
theorem qj7 {w0:World}{lv:Value}{l:List Frc}(hl:RS tFrc w0 lv l) :
  Calls Tryz.prog 74 #[lv] w0 fun e w'=>e=.returned (.tuple #[frcV (sumF ⟨0,1⟩ l).2,errV (sumF ⟨0,1⟩ l).1])∧Sat w0 w' []:=by
 have hw:=Sat.start w0
 obtain⟨R,hR⟩:∃ R,R=sumF ⟨0,1⟩ l:=⟨_,rfl⟩
 rw [←hR]
 refine qaf (args:=[lv]) mixed Tryz.func74 rfl (by kernel_rfl) (Nat.le_of_ble_eq_true rfl) ?_
 repeat (first|refine qac ?_|(refine qaa ?_;clear hw;intro p w hw)|(refine qad ?_;clear hw;intro w hw)|(refine qab ?_;clear hw;intro s w hw))
 rename_i p2 _ _
 have hll:=hl.big
 obtain⟨p4,rfl⟩:∃ x,x=p:=⟨_,rfl⟩
 refine qat [3,6,7,8,12,13,14,15,16,17,18,19,20,21,22,23,24,25,26,27] (G:=Nat) (H:=Frc) (fun k _=>[(12,.int .i64 k)]) (fun k s w=>k≤l.length∧R=sumF s (l.drop k)∧Sat w0 w [Box p4 146 [.int .i64 s.num,.int .i64 s.den],Box p2 146 [.int .i64 0,.int .i64 0]]) (fun k _=>l.length-k) 0 ⟨0,1⟩ (fun _ _=>rfl) ⟨rfl,trivial⟩ ⟨Nat.zero_le _,hR,hw⟩ ?_
 clear hw
 rintro σ k s w ⟨hk,hR,hw⟩
 repeat (first|refine qac ?_|(refine qaa ?_;clear hw;intro p w hw)|(refine qad ?_;clear hw;intro w hw)|(refine qab ?_;clear hw;intro s w hw))
 refine go_if (fun h1 => ?_) (fun h1 => ?_)
 ·have hkl:k<l.length:=by omega
  have hd:l.drop k=l.getD k tFrc.dflt::l.drop (k+1):=by rw [qak hkl];exact List.drop_eq_getElem_cons hkl
  repeat (first|refine qac ?_|(refine qaa ?_;clear hw;intro p w hw)|(refine qad ?_;clear hw;intro w hw)|(refine qab ?_;clear hw;intro s w hw))
  obtain⟨f,hf⟩:∃ f,f=l.getD k tFrc.dflt:=⟨_,rfl⟩
  rw [←hf] at hd
  rw [hd] at hR
  refine qag rfl (qgf s (l.getD k tFrc.dflt)) ?_
  rintro _ w' ⟨rfl,hk'⟩;replace hw:=hw.call0 hk';clear hk';refine⟨_,rfl,?_⟩
  rw [←hf]
  unfold sumF at hR
  by_cases he:(addF s f).1=0
  ·rw [if_pos he] at hR
   rw [qam he]
   repeat (first|refine qac ?_|(refine qaa ?_;clear hw;intro p w hw)|(refine qad ?_;clear hw;intro w hw)|(refine qab ?_;clear hw;intro s w hw))
   refine⟨k+1,(addF s f).2,⟨rfl,trivial⟩,agr,⟨by omega,hR,hw.sel⟩,by omega⟩
  ·rw [if_neg he] at hR
   rw [qaj he]
   repeat (first|refine qac ?_|(refine qaa ?_;clear hw;intro p w hw)|(refine qad ?_;clear hw;intro w hw)|(refine qab ?_;clear hw;intro s w hw))
   refine qau (vs:=[]) (ls:=[]) rfl rfl rfl ?_
   repeat (first|refine qac ?_|(refine qaa ?_;clear hw;intro p w hw)|(refine qad ?_;clear hw;intro w hw)|(refine qab ?_;clear hw;intro s w hw))
   subst hR
   rw [qaj he]
   exact qar (p:=p2) (vs:=[.int .i64 0,.int .i64 0]) rfl rfl rfl rfl (hw.boxR 3 rfl) ⟨rfl,hw.sel⟩
 have hke:k=l.length:=by omega
 subst hke
 rw [List.drop_length] at hR
 repeat (first|refine qac ?_|(refine qaa ?_;clear hw;intro p w hw)|(refine qad ?_;clear hw;intro w hw)|(refine qab ?_;clear hw;intro s w hw))
 subst hR
 exact qar (p:=p2) (vs:=[.int .i64 s.num,.int .i64 s.den]) rfl rfl rfl rfl (hw.boxR 1 rfl) ⟨rfl,hw.sel⟩
end Go.Proofs.YtdadmnlenbdfbaaGreat
