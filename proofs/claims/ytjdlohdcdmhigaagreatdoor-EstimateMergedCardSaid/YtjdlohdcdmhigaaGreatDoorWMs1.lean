/-
  Contracts of cmp.Or, transys.compare, shrink's comparisons, mergeshrink.root, same, count, slices.Max, transys.goals.
-/
import Derived.Test.YtjdlohdcdmhigaaGreatDoorWSortF
import Derived.Test.YtjdlohdcdmhigaaGreatDoorMW7
import Derived.Test.YtjdlohdcdmhigaaGreatDoorMSlB
import Derived.Test.YtjdlohdcdmhigaaGreatDoorTMrg2
set_option linter.unusedSimpArgs false
set_option linter.unusedVariables false
namespace Go.Proofs.YtjdlohdcdmhigaaGreatDoor
open Go.Sl Go
attribute [local irreducible] vc opsW opsD opV opW PureV ReadV Thn Blk
set_option maxRecDepth 8000 in
set_option maxHeartbeats 4000000 in
theorem qgf {w0:World}{v:Value}{l:List Int}(hl:RS tInt w0 v l) :
  Calls Tryz.prog 156 #[v] w0 fun e w'=>e=.returned (.int .i64 (orL l))∧w'=w0:=by
 have hll:=hl.big
 have hw:=Sat.start w0
 refine qaf (args:=[v]) mixed Tryz.func156 rfl (by kernel_rfl) (Nat.le_of_ble_eq_true rfl) ?_
 repeat (first|refine qac ?_|(refine qaa ?_;clear hw;intro p w hw)|(refine qae ?_;clear hw;intro w hw)|(refine qab ?_;clear hw;intro s w hw))
 refine qak [2,5,8,9,10,11,12,13,14,15,16] (G:=Nat) (fun k=>[(8,.int .i64 k)]) (fun k w=>k≤l.length∧orL (l.drop k)=orL l∧w=w0) (fun k=>l.length-k) 0 (fun _=>rfl) ⟨rfl,trivial⟩ ⟨Nat.zero_le _,rfl,rfl⟩ ?_
 clear hw
 rintro σ k w ⟨hk,hp,rfl⟩
 have hw:=Sat.start w
 repeat (first|refine qac ?_|(refine qaa ?_;clear hw;intro p w hw)|(refine qae ?_;clear hw;intro w hw)|(refine qab ?_;clear hw;intro s w hw))
 refine go_if (fun h1 => ?_) (fun h1 => ?_)
 ·have hkl:k<l.length:=by omega
  have hdx:l.drop k=l.getD k tInt.dflt::l.drop (k+1):=by rw [List.drop_eq_getElem_cons hkl];simp [List.getD,hkl]
  rw [hdx] at hp
  simp only [orL] at hp
  repeat (first|refine qac ?_|(refine qaa ?_;clear hw;intro p w hw)|(refine qae ?_;clear hw;intro w hw)|(refine qab ?_;clear hw;intro s w hw))
  refine go_if (fun h2 => ?_) (fun h2 => ?_)
  ·rw [if_pos h2] at hp
   repeat (first|refine qac ?_|(refine qaa ?_;clear hw;intro p w hw)|(refine qae ?_;clear hw;intro w hw)|(refine qab ?_;clear hw;intro s w hw))
   exact qai (v:=.int .i64 (l.getD k tInt.dflt)) rfl rfl ⟨by rw [hp],rfl⟩
  ·rw [if_neg (by omega)] at hp
   repeat (first|refine qac ?_|(refine qaa ?_;clear hw;intro p w hw)|(refine qae ?_;clear hw;intro w hw)|(refine qab ?_;clear hw;intro s w hw))
   exact⟨k+1,⟨rfl,trivial⟩,agr,⟨by omega,hp,rfl⟩,by omega⟩
 rw [List.drop_eq_nil_of_le (by omega)] at hp
 repeat (first|refine qac ?_|(refine qaa ?_;clear hw;intro p w hw)|(refine qae ?_;clear hw;intro w hw)|(refine qab ?_;clear hw;intro s w hw))
 exact qai (v:=.int .i64 0) rfl rfl ⟨by rw [←hp];rfl,rfl⟩
set_option maxRecDepth 8000 in
set_option maxHeartbeats 4000000 in
theorem qj6 {w0:World}{n:Int}(h0:0≤n) (h1:n≤4096) :
  Calls Tryz.prog 82 #[.int .i64 n] w0 fun e w'=>e=.returned (.int .i64 (rootF n))∧Sat w0 w' []:=by
 have hw:=Sat.start w0
 obtain⟨hr1,hr2⟩:=qj1 n
 have hr3:rootF n≤64:=hr2 64 (by omega)
 obtain⟨R,hR⟩:∃ R,R=rootF n:=⟨_,rfl⟩
 rw [←hR] at hr1 hr2 hr3 ⊢
 refine qaf (args:=[.int .i64 n]) mixed Tryz.func82 rfl (by kernel_rfl) (Nat.le_of_ble_eq_true rfl) ?_
 repeat (first|refine qac ?_|(refine qaa ?_;clear hw;intro p w hw)|(refine qae ?_;clear hw;intro w hw)|(refine qab ?_;clear hw;intro s w hw))
 refine qak [3,4,5,6,7,8,9,10,11,12] (G:=Nat) (fun k=>[(3,.int .i64 k)]) (fun k w=>k≤R∧Sat w0 w []) (fun k=>R-k) 0 (fun _=>rfl) ⟨rfl,trivial⟩ ⟨Nat.zero_le _,hw⟩ ?_
 clear hw
 rintro σ k w ⟨hk,hw⟩
 have hb:((k:Int)+1)*(k+1)≤65*65:=Int.mul_le_mul (by omega) (by omega) (by omega) (by omega)
 have hb0:0≤((k:Int)+1)*(k+1):=Int.mul_nonneg (by omega) (by omega)
 repeat (first|refine qac ?_|(refine qaa ?_;clear hw;intro p w hw)|(refine qae ?_;clear hw;intro w hw)|(refine qab ?_;clear hw;intro s w hw))
 refine go_if (fun h2 => ?_) (fun h2 => ?_)
 ·have hkR:k<R:=by
   rcases Nat.lt_or_ge k R with h|h
   ·exact h
   ·have:k=R:=by omega
    subst this
    omega
  repeat (first|refine qac ?_|(refine qaa ?_;clear hw;intro p w hw)|(refine qae ?_;clear hw;intro w hw)|(refine qab ?_;clear hw;intro s w hw))
  exact⟨k+1,⟨rfl,trivial⟩,agr,⟨by omega,hw.sel⟩,by omega⟩
 have hkR:k=R:=Nat.le_antisymm hk (hr2 k (by omega))
 subst hkR
 repeat (first|refine qac ?_|(refine qaa ?_;clear hw;intro p w hw)|(refine qae ?_;clear hw;intro w hw)|(refine qab ?_;clear hw;intro s w hw))
 exact qai rfl rfl ⟨rfl,hw.sel⟩
theorem qdq (n:Nat):sameL (n+1)=sameL n++[(n:Int)]:=by simp [sameL,List.range_succ]
theorem qbk (n:Nat):(sameL n).length=n:=by simp [sameL]
set_option maxRecDepth 8000 in
set_option maxHeartbeats 4000000 in
theorem qfw {w0:World}{n:Nat}(h1:n≤65536) :
  Calls Tryz.prog 50 #[.int .i64 n] w0 fun e w'=>∃ v,e=.returned v∧Sat w0 w' [OS tInt 3 v (sameL n)]:=by
 have hw:=Sat.start w0
 refine qaf (args:=[.int .i64 n]) mixed Tryz.func50 rfl (by kernel_rfl) (Nat.le_of_ble_eq_true rfl) ?_
 repeat (first|refine qac ?_|(refine qaa ?_;clear hw;intro p w hw)|(refine qae ?_;clear hw;intro w hw)|(refine qab ?_;clear hw;intro s w hw))
 have hrl:(List.replicate ((n:Int)).toNat (0:Int)).length=n:=by simp
 have hw':=hw
 rw [show ((n:Int)).toNat=n from by omega] at hw'
 refine qak [4,9,10,11,12,13,14,15,16] (G:=Nat) (fun k=>[(9,.int .i64 k)]) (fun k w=>k≤n∧Sat w0 w [OS tInt 3 s (sameL k++List.replicate (n-k) 0)]) (fun k=>n-k) 0 (fun _=>rfl) ⟨rfl,trivial⟩ ⟨Nat.zero_le _,hw'⟩ ?_
 clear hw hw'
 rintro σ k w ⟨hk,hw⟩
 have hln:(sameL k++List.replicate (n-k) 0).length=n:=by rw [List.length_append,qbk,List.length_replicate];omega
 repeat (first|refine qac ?_|(refine qaa ?_;clear hw;intro p w hw)|(refine qae ?_;clear hw;intro w hw)|(refine qab ?_;clear hw;intro s w hw))
 refine go_if (fun h2 => ?_) (fun h2 => ?_)
 ·repeat (first|refine qac ?_|(refine qaa ?_;clear hw;intro p w hw)|(refine qae ?_;clear hw;intro w hw)|(refine qab ?_;clear hw;intro s w hw))
  refine⟨k+1,⟨rfl,trivial⟩,agr,⟨by omega,?_⟩,by omega⟩
  have e:(sameL k++List.replicate (n-k) 0).set k (k:Int)=sameL (k+1)++List.replicate (n-(k+1)) 0:=by
   have hr:n-k=(n-(k+1))+1:=by omega
   rw [hr,List.replicate_succ,qdq,List.append_assoc,List.set_append_right _ _ (by rw [qbk];omega),qbk,Nat.sub_self]
   rfl
  rw [e] at hw
  exact hw.sel
 have hkn:k=n:=by omega
 subst hkn
 rw [Nat.sub_self,List.replicate_zero,List.append_nil] at hw
 repeat (first|refine qac ?_|(refine qaa ?_;clear hw;intro p w hw)|(refine qae ?_;clear hw;intro w hw)|(refine qab ?_;clear hw;intro s w hw))
 exact qai rfl rfl ⟨s,rfl,hw.sel⟩
end Go.Proofs.YtjdlohdcdmhigaaGreatDoor
