/-
  Contract of transys.Distances.
-/
import Derived.Test.YtjdlohdcdmhigaaGreatDoorWSp
set_option linter.unusedSimpArgs false
set_option linter.unusedVariables false
namespace Go.Proofs.YtjdlohdcdmhigaaGreatDoor
open Go.Sl Go
attribute [local irreducible] vc opsW opsD opV opW PureV ReadV Thn Blk
theorem RSys.ones {w:World}{cv ev gv:Value}{S:SysV}(h:RSys w cv ev gv S):([Value.int .i64 S.st,.int .i64 S.ini,cv,ev,gv]).all Value.oneCell'=true:=by
 simp only [List.all_cons,List.all_nil,h.costs.one,h.edges.one,h.goals.one];rfl
theorem qhO {g:List Bool}{i:Int}:∀ {k:Nat},i∈gIdxK g k↔0≤i∧i<(k:Int)∧g.getD i.toNat tBool.dflt=true
 | k=>by
  unfold gIdxK
  rw [List.mem_filterMap]
  constructor
  ·rintro⟨j,hj,h⟩
   rw [List.mem_range] at hj
   split at h
   ·rename_i hg
    cases h
    exact⟨by omega,by omega,hg⟩
   ·cases h
  ·rintro⟨h0,h1,hg⟩
   exact⟨i.toNat,by rw [List.mem_range];omega,by rw [if_pos hg];congr 1;omega⟩
theorem qhP {g:List Bool}:∀ k:Nat,(gIdxK g k).Nodup
 | 0=>by simp [gIdxK]
 | k+1=>by
  have ih:=qhP (g:=g) k
  unfold gIdxK at *
  rw [List.range_succ,List.filterMap_append,List.nodup_append]
  refine⟨ih,by simp only [List.filterMap_cons,List.filterMap_nil];split <;> simp,fun a ha b hb e => ?_⟩
  have:=(qhO (g:=g) (k:=k)).1 ha
  rw [List.mem_filterMap] at hb
  obtain⟨j,hj,h⟩:=hb
  rw [List.mem_singleton] at hj
  split at h
  ·cases h;omega
  ·cases h
noncomputable def dstE (S:SysV):Int:=if valB S=true then 0 else 2
noncomputable def dstR (S:SysV):List Int:=if valB S=true then dstL S else []
set_option maxRecDepth 8000 in
set_option maxHeartbeats 4000000 in
theorem qlU {w0:World}{cv ev gv:Value}{S:SysV}(hS:RSys w0 cv ev gv S) :
  Calls Tryz.prog 53 #[sysV S cv ev gv] w0 fun e w'=>∃ v,e=.returned (.tuple #[v,errV (dstE S)])∧Sat w0 w' [OS tInt 3 v (dstR S)]:=by
 have hw:=Sat.start w0
 have ho:=hS.ones
 refine qaf (args:=[sysV S cv ev gv]) mixed Tryz.func53 rfl (by kernel_rfl) (Nat.le_of_ble_eq_true rfl) ?_
 unfold sysV
 repeat (first|refine qac ?_|(refine qaa ?_;clear hw;intro p w hw)|(refine qad ?_;clear hw;intro w hw)|(refine qab ?_;clear hw;intro s w hw))
 have hw:Sat w0 w [Box p 96 [.int .i64 S.st,.int .i64 S.ini,cv,ev,gv]]:=hw
 refine qah rfl (qcd (S:=S) (hS.at hw)) ?_
 rintro _ w' ⟨rfl,hk'⟩;replace hw:=hw.call0 hk';clear hk';refine⟨_,rfl,?_⟩
 by_cases hv:valB S=true
 ·rw [hv]
  have hvs:ValS S:=Classical.byContradiction fun h=>by rw [qb5 h] at hv;cases hv
  have hE:dstE S=0:=by unfold dstE;rw [if_pos hv]
  have hR:dstR S=spL S (gIdx S.goals) true:=by unfold dstR;rw [if_pos hv];rfl
  rw [hE,hR]
  repeat (first|refine qac ?_|(refine qaa ?_;clear hw;intro p w hw)|(refine qad ?_;clear hw;intro w hw)|(refine qab ?_;clear hw;intro s w hw))
  refine qax [.op 0,.op 1,.op 2,.chk 0,.op 3,.op 4,.op 5] hw (by kernel_rfl) ?_;clear hw;intro w hw
  repeat (first|refine qac ?_|(refine qaa ?_;clear hw;intro p w hw)|(refine qad ?_;clear hw;intro w hw)|(refine qab ?_;clear hw;intro s w hw))
  have hgl:S.goals.length≤4096:=by obtain⟨_,h2,_,_,h5,_⟩:=hvs;omega
  refine qah rfl (qh9 (S:=S) (hS.at hw) hgl) ?_
  rintro _ w' ⟨fv,rfl,hk'⟩;replace hw:=hw.call1 hk';clear hk';refine⟨_,rfl,?_⟩
  repeat (first|refine qac ?_|(refine qaa ?_;clear hw;intro p w hw)|(refine qad ?_;clear hw;intro w hw)|(refine qab ?_;clear hw;intro s w hw))
  refine qah rfl (qm6 (S:=S) (fr:=gIdx S.goals) (hS.at hw) hvs (hw.rs 0 rfl) (qhP _) (fun i hi => ?_)) ?_
  ·have:=(qhO (g:=S.goals) (k:=S.goals.length)).1 hi
   obtain⟨_,_,_,_,h5,_⟩:=hvs
   omega
  rintro _ w' ⟨v,rfl,hk'⟩;replace hw:=hw.call1 hk';clear hk';refine⟨_,rfl,?_⟩
  repeat (first|refine qac ?_|(refine qaa ?_;clear hw;intro p w hw)|(refine qad ?_;clear hw;intro w hw)|(refine qab ?_;clear hw;intro s w hw))
  exact qay (v:=v) (v':=.nilIface) rfl rfl rfl ⟨v,by rw [qas rfl],hw.sel⟩
 ·rw [Bool.not_eq_true] at hv
  rw [hv]
  have hE:dstE S=2:=by unfold dstE;rw [if_neg (by rw [hv];simp)]
  have hR:dstR S=[]:=by unfold dstR;rw [if_neg (by rw [hv];simp)]
  rw [hE,hR]
  repeat (first|refine qac ?_|(refine qaa ?_;clear hw;intro p w hw)|(refine qae ?_;clear hw;intro w hw)|(refine qab ?_;clear hw;intro s w hw))
  exact qay (v:=.slice none 0 0) (v':=.iface 63 (.int .i64 2)) rfl rfl rfl ⟨_,by rw [qan (by decide)],(qbb hw).nil⟩
end Go.Proofs.YtjdlohdcdmhigaaGreatDoor
