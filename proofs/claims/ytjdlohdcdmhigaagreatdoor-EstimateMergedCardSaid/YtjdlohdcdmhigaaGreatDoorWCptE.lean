/-
  Contract of 'slices.Compact' over edges.
-/
import Derived.Test.YtjdlohdcdmhigaaGreatDoorMTA
import Derived.Test.YtjdlohdcdmhigaaGreatDoorMSlB
import Derived.Test.YtjdlohdcdmhigaaGreatDoorTypes
set_option linter.unusedSimpArgs false
set_option linter.unusedVariables false
namespace Go.Proofs.YtjdlohdcdmhigaaGreatDoor
open Go.Sl Go
attribute [local irreducible] vc opsW opsD opV opW PureV ReadV Thn Blk
instance inCptE0:EqIntsT Tryz.prog 196 3:=⟨by kernel_rfl⟩
instance inCptE1:EqAg Tryz.prog 196 tEdg:=⟨fun a b w=>by
 have h:=EqIntsT.run (P:=Tryz.prog) (t:=196) inferInstance (us:=[a.src,a.lab,a.dst]) (zs:=[b.src,b.lab,b.dst]) rfl rfl w
 have e:decide ([a.src,a.lab,a.dst]=[b.src,b.lab,b.dst])=decide (a=b):=by
  rw [decide_eq_decide]
  cases a;cases b;simp
 rw [e] at h
 exact h⟩
set_option maxRecDepth 8000 in
set_option maxHeartbeats 4000000 in
theorem qlY {w0 w:World}{Γ:List HP}{s:Value}{xs:List Edg}(hw:Sat w0 w (OS tEdg 196 s xs::Γ)) (hn:xs.length≤65536) :
  Calls Tryz.prog 183 #[s] w fun e w'=>∃ s',e=.returned s'∧Sat w0 w' (OS tEdg 196 s' (cpt xs)::Γ):=by
 refine qaf (args:=[s]) mixed Tryz.func183 rfl (by kernel_rfl) (Nat.le_of_ble_eq_true rfl) ?_
 repeat (first|refine qac ?_|(refine qaa ?_;clear hw;intro p w hw)|(refine qae ?_;clear hw;intro w hw)|(refine qab ?_;clear hw;intro s w hw))
 refine go_if (fun h1 => ?_) (fun h1 => ?_)
 ·have he:cpt xs=xs:=by
   match xs,h1 with
   | [],_=>rfl
   | [_],_=>rfl
   | _::_::_,h=>simp only [List.length_cons] at h;omega
  repeat (first|refine qac ?_|(refine qaa ?_;clear hw;intro p w hw)|(refine qae ?_;clear hw;intro w hw)|(refine qab ?_;clear hw;intro s w hw))
  exact qai (v:=s) rfl rfl ⟨s,rfl,by rw [he];exact hw.selG⟩
 have hl2:2≤xs.length:=by omega
 repeat (first|refine qac ?_|(refine qaa ?_;clear hw;intro p w hw)|(refine qae ?_;clear hw;intro w hw)|(refine qab ?_;clear hw;intro s w hw))
 refine qak [2,3,4,5,10,11,12,13,14,15,16,17,18,19,20,21,22,23,24,25,26,27,28,29,30,31,32,33,34,35,36,37,38,39,40,41,42,43,44,45,46,47,48,49,50,51,52,53,54,55,56,57,58,59] (G:=Nat) (fun k=>[(3,.int .i64 k)]) (fun k w=>1≤k∧k≤xs.length∧cpt (xs.take k)=xs.take k∧Sat w0 w (OS tEdg 196 s xs::Γ)) (fun k=>xs.length-k) 1 (fun _=>rfl) ⟨rfl,trivial⟩ ⟨Nat.le_refl _,by omega,by cases xs with|nil=>rfl|cons a r=>rfl,hw.selG⟩ ?_
 clear hw
 rintro σ k w ⟨hk0,hk,hcp,hw⟩
 repeat (first|refine qac ?_|(refine qaa ?_;clear hw;intro p w hw)|(refine qae ?_;clear hw;intro w hw)|(refine qab ?_;clear hw;intro s w hw))
 refine go_if (fun h2 => ?_) (fun h2 => ?_)
 ·have hkl:k<xs.length:=by omega
  have hct:=qeb tEdg.dflt hk0 hkl
  have ek:((k:Int)-1).toNat=k-1:=by omega
  rw [←ek] at hct
  repeat (first|refine qac ?_|(refine qaa ?_;clear hw;intro p w hw)|(refine qad ?_;clear hw;intro w hw)|(refine qab ?_;clear hw;intro s w hw))
  refine qbA ?_;clear hw;intro w hw
  repeat (first|refine qac ?_|(refine qaa ?_;clear hw;intro p w hw)|(refine qad ?_;clear hw;intro w hw)|(refine qab ?_;clear hw;intro s w hw))
  refine qaw rfl (qi4 (T:=tEdg) (a:=xs.getD k tEdg.dflt) (b:=xs.getD ((k:Int)-1).toNat tEdg.dflt) rfl rfl) ?_
  repeat (first|refine qac ?_|(refine qaa ?_;clear hw;intro p w hw)|(refine qad ?_;clear hw;intro w hw)|(refine qab ?_;clear hw;intro s w hw))
  refine go_if (fun h3 => ?_) (fun h3 => ?_)
  ·rw [if_pos h3.symm,List.append_nil,hcp] at hct
   repeat (first|refine qac ?_|(refine qaa ?_;clear hw;intro p w hw)|(refine qad ?_;clear hw;intro w hw)|(refine qab ?_;clear hw;intro s w hw))
   refine qaq [3,5,29,30,31,32,33,34,35,36,37,38,39,40,41,42,43,44,45,46,47,48,49,50,51,52,53] (G:=Nat) (H:=Nat) (fun k2 q=>[(3,.int .i64 q),(5,.int .i64 k2)]) (fun k2 q w=>1≤k2∧k+k2≤xs.length∧k≤q∧q<k+k2∧∃ C:List Edg,C.length=xs.length∧C.take q=cpt (xs.take (k+k2))∧(∀ j,k+k2≤j+1→C.getD j tEdg.dflt=xs.getD j tEdg.dflt)∧Sat w0 w (OS tEdg 196 s C::Γ)) (fun k2 _=>xs.length-(k+k2)) 1 k (fun _ _=>rfl) ⟨rfl,rfl,trivial⟩ ⟨Nat.le_refl _,by omega,Nat.le_refl _,by omega,xs,rfl,hct.symm,fun _ _=>rfl,hw.selG⟩ ?_
   clear hw
   rintro σ k2 q w ⟨hk2,hkn,hkq,hqk,C,hC,hCt,hCd,hw⟩
   have hcl:(cut C k xs.length).length=xs.length-k:=qcb (by omega)
   have hr:=qbR (T:=tEdg) (rsO (s:=s) hw) (lo:=k) (hi:=xs.length) (by omega) (by omega)
   repeat (first|refine qac ?_|(refine qaa ?_;clear hw;intro p w hw)|(refine qad ?_;clear hw;intro w hw)|(refine qab ?_;clear hw;intro s w hw))
   refine go_if (fun h4 => ?_) (fun h4 => ?_)
   ·have hml:k+k2<xs.length:=by omega
    have hct2:=qeb tEdg.dflt (show 0<k+k2 by omega) hml
    repeat (first|refine qac ?_|(refine qaa ?_;clear hw;intro p w hw)|(refine qad ?_;clear hw;intro w hw)|(refine qab ?_;clear hw;intro s w hw))
    refine qbA ?_;clear hw hr;intro w hw
    have hr:=qbR (T:=tEdg) (rsO (s:=s) hw) (lo:=k) (hi:=xs.length) (by omega) (by omega)
    have ek2:((k2:Int)-1).toNat=k2-1:=by omega
    have e1:(cut C k xs.length).getD k2 tEdg.dflt=xs.getD (k+k2) tEdg.dflt:=by rw [←hCd (k+k2) (by omega)];simp [cut,List.getD,List.getElem?_take,hml]
    have e2:(cut C k xs.length).getD ((k2:Int)-1).toNat tEdg.dflt=xs.getD (k+k2-1) tEdg.dflt:=by
     rw [←hCd (k+k2-1) (by omega),ek2]
     simp [cut,List.getD,List.getElem?_take,show k+(k2-1)=k+k2-1 by omega,show k+k2-1<xs.length by omega]
    repeat (first|refine qac ?_|(refine qaa ?_;clear hw;intro p w hw)|(refine qad ?_;clear hw;intro w hw)|(refine qab ?_;clear hw;intro s w hw))
    refine qaw rfl (qi5 (T:=tEdg) (a:=(cut C k xs.length).getD k2 tEdg.dflt) (b:=(cut C k xs.length).getD ((k2:Int)-1).toNat tEdg.dflt) rfl rfl) ?_
    repeat (first|refine qac ?_|(refine qaa ?_;clear hw;intro p w hw)|(refine qad ?_;clear hw;intro w hw)|(refine qab ?_;clear hw;intro s w hw))
    rw [e1,e2]
    refine go_if (fun h5 => ?_) (fun h5 => ?_)
    ·have h5':¬xs.getD (k+k2-1) tEdg.dflt=xs.getD (k+k2) tEdg.dflt:=fun e=>h5 e.symm
     rw [if_neg h5'] at hct2
     repeat (first|refine qac ?_|(refine qaa ?_;clear hw;intro p w hw)|(refine qad ?_;clear hw;intro w hw)|(refine qab ?_;clear hw;intro s w hw))
     refine qcl (T:=tEdg) (s:=s) (j:=q) (x':=(cut C k xs.length).getD k2 tEdg.dflt) rfl rfl rfl rfl hw inferInstance (by omega) ?_
     clear hw hr;intro w hw
     rw [e1] at hw
     repeat (first|refine qac ?_|(refine qaa ?_;clear hw;intro p w hw)|(refine qad ?_;clear hw;intro w hw)|(refine qab ?_;clear hw;intro s w hw))
     have hqC:q<C.length:=by omega
     refine⟨k2+1,q+1,⟨rfl,rfl,trivial⟩,agr,⟨by omega,by omega,by omega,by omega,C.set q (xs.getD (k+k2) tEdg.dflt),by rw [List.length_set];exact hC,?_,fun j hj => ?_,hw.selG⟩,by omega⟩
     ·rw [qaj tEdg.dflt (by rw [List.length_set];exact hqC),List.take_set_of_le (Nat.le_refl _),hCt,setD,if_pos ⟨rfl,hqC⟩]
      exact hct2.symm
     ·rw [setD,if_neg (by omega)];exact hCd j (by omega)
    ·have h5':xs.getD (k+k2-1) tEdg.dflt=xs.getD (k+k2) tEdg.dflt:=by
      exact h5.symm
     rw [if_pos h5',List.append_nil] at hct2
     repeat (first|refine qac ?_|(refine qaa ?_;clear hw;intro p w hw)|(refine qad ?_;clear hw;intro w hw)|(refine qab ?_;clear hw;intro s w hw))
     exact⟨k2+1,q,⟨rfl,rfl,trivial⟩,agr,⟨by omega,by omega,hkq,by omega,C,hC,by rw [hCt,←hct2];rfl,fun j hj=>hCd j (by omega),hw.selG⟩,by omega⟩
   ·have hme:k+k2=xs.length:=by omega
    have hqn:q≤xs.length:=by omega
    have hcq:cpt xs=C.take q:=by rw [hCt,hme,List.take_length]
    repeat (first|refine qac ?_|(refine qaa ?_;clear hw;intro p w hw)|(refine qad ?_;clear hw;intro w hw)|(refine qab ?_;clear hw;intro s w hw))
    have hr2:=qbR (T:=tEdg) (rsO (s:=s) hw) (lo:=q) (hi:=C.length) (by omega) (Nat.le_refl _)
    refine qio (T:=tEdg) (s:=s) (j:=q) (z:=(⟨0,0,0⟩:Edg)) rfl rfl rfl rfl hw inferInstance (by omega) ?_
    clear hw hr hr2;intro w hw
    have hql:(C.take q).length=q:=by rw [List.length_take];omega
    have hll:(C.take q++List.replicate (C.length-q) (⟨0,0,0⟩:Edg)).length=C.length:=by rw [List.length_append,hql,List.length_replicate];omega
    repeat (first|refine qac ?_|(refine qaa ?_;clear hw;intro p w hw)|(refine qad ?_;clear hw;intro w hw)|(refine qab ?_;clear hw;intro s w hw))
    have h2:=hw.sub (s:=s) own_here 0 q (Nat.zero_le _) (by rw [List.length_append,hql];omega)
    have e3:cut (C.take q++List.replicate (C.length-q) (⟨0,0,0⟩:Edg)) 0 q=C.take q:=by simp [cut,hql]
    rw [e3,←hcq] at h2
    exact qai (v:=ssub s tEdg.sz 0 q) rfl rfl ⟨_,rfl,h2.selG⟩
  ·rw [if_neg (fun e=>h3 e.symm),hcp] at hct
   repeat (first|refine qac ?_|(refine qaa ?_;clear hw;intro p w hw)|(refine qad ?_;clear hw;intro w hw)|(refine qab ?_;clear hw;intro s w hw))
   refine⟨k+1,⟨rfl,trivial⟩,agr,⟨by omega,by omega,?_,hw.selG⟩,by omega⟩
   rw [hct,qaj tEdg.dflt hkl]
 have hkn:k=xs.length:=by omega
 rw [hkn,List.take_length] at hcp
 repeat (first|refine qac ?_|(refine qaa ?_;clear hw;intro p w hw)|(refine qad ?_;clear hw;intro w hw)|(refine qab ?_;clear hw;intro s w hw))
 exact qai (v:=s) rfl rfl ⟨s,rfl,by rw [hcp];exact hw.selG⟩
end Go.Proofs.YtjdlohdcdmhigaaGreatDoor
