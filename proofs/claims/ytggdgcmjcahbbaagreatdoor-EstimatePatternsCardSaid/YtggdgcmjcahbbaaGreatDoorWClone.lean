/-
  Contracts of 'slices.Clone' over facts and effects.
-/
import Derived.Test.YtggdgcmjcahbbaaGreatDoorMW3
set_option linter.unusedSimpArgs false
set_option linter.unusedVariables false
namespace Go.Proofs.YtggdgcmjcahbbaaGreatDoor
open Go.Sl Go
attribute [local irreducible] vc opsW opsD opV opW PureV ReadV Thn Blk
set_option maxRecDepth 8000 in
theorem qfi {w0:World}{a:Value}{xs:List Fact}(ha:RS tFact w0 a xs) (hn:xs.length≤1099511627776) :
  Calls Tryz.prog 66 #[a] w0 fun e w'=>∃ s,e=.returned s∧Sat w0 w' [OS tFact 88 s xs]:=by
 have hw:=Sat.start w0
 obtain⟨ad,cap,hs⟩:=ha.shape
 subst hs
 refine qab (args:=[.slice ad xs.length cap]) mixed Tryz.func66 rfl (by kernel_rfl) (Nat.le_of_ble_eq_true rfl) ?_
 repeat refine qaa ?_
 refine qai rfl (qcI (a:=ad) (n:=xs.length) (c:=cap) rfl) ?_
 cases ad with
 | none =>
  have h0:xs=[]:=by
   rcases Nat.eq_zero_or_pos xs.length with h|h
   ·exact List.eq_nil_of_length_eq_zero h
   ·obtain⟨p,c2,he,_⟩:=ha.some (by decide) h
    cases he
  subst h0
  repeat refine qaa ?_
  exact qae (v:=.slice none 0 0) rfl rfl ⟨_,rfl,hw.nil⟩
 | some p =>
  repeat refine qaa ?_
  refine qaH tFact hw ?_
  clear hw
  intro s1 w hw
  repeat (first|refine qaa ?_|(refine qap ?_;clear hw;intro s w hw))
  rw [List.nil_append] at hw
  exact qae (v:=s) rfl rfl ⟨_,rfl,hw⟩
set_option maxRecDepth 8000 in
theorem qiW {w0:World}{a:Value}{xs:List EffV}(ha:RS tEff w0 a xs) (hn:xs.length≤1099511627776) (ho:∀ x∈xs,∀ v∈tEff.enc x,v.oneCell'=true) :
  Calls Tryz.prog 81 #[a] w0 fun e w'=>∃ s,e=.returned s∧Sat w0 w' [OS tEff 90 s xs]:=by
 have hw:=Sat.start w0
 obtain⟨ad,cap,hs⟩:=ha.shape
 subst hs
 refine qab (args:=[.slice ad xs.length cap]) mixed Tryz.func81 rfl (by kernel_rfl) (Nat.le_of_ble_eq_true rfl) ?_
 repeat refine qaa ?_
 refine qai rfl (qcI (a:=ad) (n:=xs.length) (c:=cap) rfl) ?_
 cases ad with
 | none =>
  have h0:xs=[]:=by
   rcases Nat.eq_zero_or_pos xs.length with h|h
   ·exact List.eq_nil_of_length_eq_zero h
   ·obtain⟨p,c2,he,_⟩:=ha.some (by decide) h
    cases he
  subst h0
  repeat refine qaa ?_
  exact qae (v:=.slice none 0 0) rfl rfl ⟨_,rfl,hw.nil⟩
 | some p =>
  repeat refine qaa ?_
  refine qaH tEff hw ?_
  clear hw
  intro s1 w hw
  repeat refine qaa ?_
  refine qhW ?_ (hone:=ho)
  clear hw
  intro s w hw
  repeat refine qaa ?_
  rw [List.nil_append] at hw
  exact qae (v:=s) rfl rfl ⟨_,rfl,hw⟩
end Go.Proofs.YtggdgcmjcahbbaaGreatDoor
