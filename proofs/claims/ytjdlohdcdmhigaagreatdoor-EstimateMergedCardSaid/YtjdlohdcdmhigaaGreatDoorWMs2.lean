/-
  Contracts of transys.goals, slices.Max, mergeshrink.count, transys.Valid.
-/
import Derived.Test.YtjdlohdcdmhigaaGreatDoorWMs1
set_option linter.unusedSimpArgs false
set_option linter.unusedVariables false
namespace Go.Proofs.YtjdlohdcdmhigaaGreatDoor
open Go.Sl Go
attribute [local irreducible] vc opsW opsD opV opW PureV ReadV Thn Blk
theorem qkz {g:List Bool}{k:Nat}(hk:k<g.length):gIdxK g (k+1)=gIdxK g k++(if g.getD k tBool.dflt then [(k:Int)] else []):=by
 unfold gIdxK
 rw [List.range_succ,List.filterMap_append]
 congr 1
 by_cases h:g.getD k tBool.dflt=true
 ·simp only [List.filterMap_cons,List.filterMap_nil,h,if_true]
 ·simp only [List.filterMap_cons,List.filterMap_nil,h,if_false,Bool.false_eq_true]
theorem qgs (g:List Bool):∀ k,(gIdxK g k).length≤k
 | 0=>by simp [gIdxK]
 | k+1=>by
  have:=qgs g k
  unfold gIdxK at *
  rw [List.range_succ,List.filterMap_append,List.length_append]
  have:(List.filterMap (fun i=>if g.getD i tBool.dflt=true then some (i:Int) else none) [k]).length≤1:=by
   simp only [List.filterMap_cons,List.filterMap_nil]
   split <;> simp
  omega
set_option maxRecDepth 8000 in
set_option maxHeartbeats 4000000 in
theorem qh9 {w0:World}{cv ev gv:Value}{S:SysV}(hS:RSys w0 cv ev gv S) (hb:S.goals.length≤4096) :
  Calls Tryz.prog 88 #[sysV S cv ev gv] w0 fun e w'=>∃ v,e=.returned v∧Sat w0 w' [OS tInt 3 v (gIdx S.goals)]:=by
 have hg:=hS.goals
 have hgl:=hg.big
 have hw:=Sat.start w0
 refine qaf (args:=[sysV S cv ev gv]) mixed Tryz.func88 rfl (by kernel_rfl) (Nat.le_of_ble_eq_true rfl) ?_
 unfold sysV
 repeat (first|refine qac ?_|(refine qaa ?_;clear hw;intro p w hw)|(refine qae ?_;clear hw;intro w hw)|(refine qab ?_;clear hw;intro s w hw))
 refine qak [3,4,5,9,10,11,12,13,14,15,16,17,18,19] (G:=Nat × Value) (fun x=>[(3,x.2),(9,.int .i64 x.1)]) (fun x w=>x.1≤S.goals.length∧Sat w0 w [OS tInt 3 x.2 (gIdxK S.goals x.1)]) (fun x=>S.goals.length-x.1) (0,.slice none 0 0) (fun _=>rfl) ⟨rfl,rfl,trivial⟩ ⟨Nat.zero_le _,(qbb hw).nil⟩ ?_
 clear hw
 rintro σ ⟨k,o⟩ w ⟨hk,hw⟩
 dsimp only at hk hw
 have hlk:=qgs S.goals k
 repeat (first|refine qac ?_|(refine qaa ?_;clear hw;intro p w hw)|(refine qae ?_;clear hw;intro w hw)|(refine qab ?_;clear hw;intro s w hw))
 refine go_if (fun h1 => ?_) (fun h1 => ?_)
 ·have hkl:k<S.goals.length:=by omega
  have hgt:=qkz hkl
  repeat (first|refine qac ?_|(refine qaa ?_;clear hw;intro p w hw)|(refine qae ?_;clear hw;intro w hw)|(refine qab ?_;clear hw;intro s w hw))
  by_cases hc:S.goals.getD k tBool.dflt=true
  ·rw [hc]
   rw [if_pos hc] at hgt
   repeat (first|refine qac ?_|(refine qaa ?_;clear hw;intro p w hw)|(refine qae ?_;clear hw;intro w hw)|(refine qab ?_;clear hw;intro s w hw))
   refine⟨(k+1,s),⟨rfl,rfl,trivial⟩,agr,⟨by omega,?_⟩,by omega⟩
   rw [hgt]
   exact hw.sel
  ·rw [Bool.eq_false_iff.2 hc]
   rw [if_neg hc,List.append_nil] at hgt
   repeat (first|refine qac ?_|(refine qaa ?_;clear hw;intro p w hw)|(refine qae ?_;clear hw;intro w hw)|(refine qab ?_;clear hw;intro s w hw))
   exact⟨(k+1,o),⟨rfl,rfl,trivial⟩,agr,⟨by omega,by rw [hgt];exact hw.sel⟩,by omega⟩
 have hkn:k=S.goals.length:=by omega
 subst hkn
 repeat (first|refine qac ?_|(refine qaa ?_;clear hw;intro p w hw)|(refine qae ?_;clear hw;intro w hw)|(refine qab ?_;clear hw;intro s w hw))
 exact qai rfl rfl ⟨o,rfl,by unfold gIdx;exact hw.sel⟩
theorem qkA {l:List Int}{k:Nat}(hk:k<l.length) (h0:0<k):maxQ (l.take (k+1))=max (maxQ (l.take k)) (l.getD k tInt.dflt):=by
 cases l with
 | nil=>simp at hk
 | cons x r =>
  obtain⟨j,rfl⟩:∃ j,k=j+1:=⟨k-1,by omega⟩
  have hr:j<r.length:=by simpa using hk
  unfold maxQ
  rw [List.take_succ_cons,List.take_succ_cons,qaj tInt.dflt hr]
  show (r.take j++[r.getD j tInt.dflt]).foldl max x=_
  rw [List.foldl_append]
  rfl
set_option maxRecDepth 8000 in
set_option maxHeartbeats 4000000 in
theorem qfv {w0:World}{v:Value}{l:List Int}(hl:RS tInt w0 v l) (h0:0<l.length) :
  Calls Tryz.prog 147 #[v] w0 fun e w'=>e=.returned (.int .i64 (maxQ l))∧Sat w0 w' []:=by
 have hll:=hl.big
 have hw:=Sat.start w0
 refine qaf (args:=[v]) mixed Tryz.func147 rfl (by kernel_rfl) (Nat.le_of_ble_eq_true rfl) ?_
 repeat (first|refine qac ?_|(refine qaa ?_;clear hw;intro p w hw)|(refine qae ?_;clear hw;intro w hw)|(refine qab ?_;clear hw;intro s w hw))
 refine go_if (fun h1 => ?_) (fun h1 => ?_)
 ·omega
 repeat (first|refine qac ?_|(refine qaa ?_;clear hw;intro p w hw)|(refine qae ?_;clear hw;intro w hw)|(refine qab ?_;clear hw;intro s w hw))
 refine qak [3,4,12,13,14,15,16,17,18,19,20,21,22,23] (G:=Nat) (fun k=>[(3,.int .i64 (maxQ (l.take k))),(4,.int .i64 k)]) (fun k w=>1≤k∧k≤l.length∧Sat w0 w []) (fun k=>l.length-k) 1 (fun _=>rfl) ⟨by rw [show l.take 1=[l.getD 0 tInt.dflt] from by cases l with|nil=>simp at h0|cons x r=>rfl];rfl,rfl,trivial⟩ ⟨Nat.le_refl _,h0,hw⟩ ?_
 clear hw
 rintro σ k w ⟨hk0,hk,hw⟩
 repeat (first|refine qac ?_|(refine qaa ?_;clear hw;intro p w hw)|(refine qae ?_;clear hw;intro w hw)|(refine qab ?_;clear hw;intro s w hw))
 refine go_if (fun h2 => ?_) (fun h2 => ?_)
 ·have hkl:k<l.length:=by omega
  repeat (first|refine qac ?_|(refine qaa ?_;clear hw;intro p w hw)|(refine qae ?_;clear hw;intro w hw)|(refine qab ?_;clear hw;intro s w hw))
  exact⟨k+1,⟨by rw [qkA hkl (by omega)];show Value.int .i64 _=Value.int .i64 _;congr 1;split <;> omega,rfl,trivial⟩,agr,⟨by omega,by omega,hw.sel⟩,by omega⟩
 rw [List.take_of_length_le (by omega)]
 repeat (first|refine qac ?_|(refine qaa ?_;clear hw;intro p w hw)|(refine qae ?_;clear hw;intro w hw)|(refine qab ?_;clear hw;intro s w hw))
 exact qai rfl rfl ⟨rfl,hw.sel⟩
set_option maxRecDepth 8000 in
set_option maxHeartbeats 4000000 in
theorem qeV {w0:World}{v:Value}{l:List Int}(hl:RS tInt w0 v l) (h0:0<l.length) (hm:0≤maxQ l∧maxQ l≤65536) :
  Calls Tryz.prog 119 #[v] w0 fun e w'=>e=.returned (.int .i64 (maxQ l+1))∧Sat w0 w' []:=by
 obtain⟨hm1,hm2⟩:=hm
 have hw:=Sat.start w0
 refine qaf (args:=[v]) mixed Tryz.func119 rfl (by kernel_rfl) (Nat.le_of_ble_eq_true rfl) ?_
 repeat (first|refine qac ?_|(refine qaa ?_;clear hw;intro p w hw)|(refine qae ?_;clear hw;intro w hw)|(refine qab ?_;clear hw;intro s w hw))
 refine qah rfl (qfv hl h0) ?_
 rintro _ w' ⟨rfl,hk'⟩;replace hw:=hw.call0 hk';clear hk';refine⟨_,rfl,?_⟩
 repeat (first|refine qac ?_|(refine qaa ?_;clear hw;intro p w hw)|(refine qae ?_;clear hw;intro w hw)|(refine qab ?_;clear hw;intro s w hw))
 exact qai rfl rfl ⟨rfl,hw.sel⟩
end Go.Proofs.YtjdlohdcdmhigaaGreatDoor
