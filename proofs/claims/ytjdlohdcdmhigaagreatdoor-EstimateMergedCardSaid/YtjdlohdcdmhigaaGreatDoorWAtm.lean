/-
  Contract of transys.Atomic; stages in memory.
-/
import Derived.Test.YtjdlohdcdmhigaaGreatDoorWSml
import Derived.Test.YtjdlohdcdmhigaaGreatDoorTStg
set_option linter.unusedSimpArgs false
set_option linter.unusedVariables false
namespace Go.Proofs.YtjdlohdcdmhigaaGreatDoor
open Go.Sl Go
attribute [local irreducible] vc opsW opsD opV opW PureV ReadV Thn Blk
set_option maxRecDepth 8000 in
set_option maxHeartbeats 4000000 in
theorem qlT {w0:World}{a b c d:Value}{vs:List OpV}{t:TTask}{v:Int}(ht:RTask w0 a b c d vs t) :
  Calls Tryz.prog 83 #[.agg #[a,b,c,d],.int .i64 v] w0 fun e w'=>∃ cv ev gv,e=.returned (.tuple #[sysV (sysE t [v] (pErr t [v])) cv ev gv,errV (pErr t [v])])∧SysAt w0 w' cv ev gv (sysE t [v] (pErr t [v])):=by
 have hw:=Sat.start w0
 refine qaf (args:=[.agg #[a,b,c,d],.int .i64 v]) mixed Tryz.func83 rfl (by kernel_rfl) (Nat.le_of_ble_eq_true rfl) ?_
 repeat (first|refine qac ?_|(refine qaa ?_;clear hw;intro p w hw)|(refine qad ?_;clear hw;intro w hw)|(refine qab ?_;clear hw;intro s w hw))
 obtain⟨pr,hpr⟩:∃ q,q=p:=⟨p,rfl⟩
 subst hpr
 refine qah rfl (qdN (ht.at hw) (hw.rs 0 rfl)) ?_
 rintro _ w' ⟨cv,ev,gv,rfl,hk'⟩;replace hw:=hw.call hk';clear hk';refine⟨_,rfl,?_⟩
 simp only [List.cons_append,List.nil_append] at hw
 obtain⟨er,her⟩:∃ x,x=errV (pErr t [v]):=⟨_,rfl⟩
 obtain⟨S,hS⟩:∃ x,x=sysE t [v] (pErr t [v]):=⟨_,rfl⟩
 rw [←her,←hS]
 rw [←hS] at hw
 have o1:=(rsO (s:=cv) hw).one
 have o2:=(rsO (s:=ev) hw).one
 have o3:=(rsO (s:=gv) hw).one
 unfold sysV
 repeat (first|refine qac ?_|(refine qaa ?_;clear hw;intro p w hw)|(refine qad ?_;clear hw;intro w hw)|(refine qab ?_;clear hw;intro s w hw))
 refine qao (n:=5) (p:=pr) (vs:=[.int .i64 S.st,.int .i64 S.ini,cv,ev,gv]) rfl rfl hw inferInstance rfl rfl (by simp only [List.all_cons,List.all_nil,o1,o2,o3];rfl) ?_
 clear hw;intro w hw
 repeat (first|refine qac ?_|(refine qaa ?_;clear hw;intro p w hw)|(refine qad ?_;clear hw;intro w hw)|(refine qab ?_;clear hw;intro s w hw))
 refine qar (p:=pr) (vs:=[.int .i64 S.st,.int .i64 S.ini,cv,ev,gv]) rfl rfl (v':=er) rfl rfl (fun j v hv=>qau (i:=4) hw rfl hv) ⟨cv,ev,gv,rfl,?_⟩
 exact hw.sel
structure StgM where
 var:Int
 cls:Value
 aft:Value
 sts:Int
def tStg:Ty StgM:=⟨4,fun x=>[.int .i64 x.var,x.cls,x.aft,.int .i64 x.sts],fun _=>rfl,⟨0,.slice none 0 0,.slice none 0 0,0⟩⟩
structure StR (ms:List StgM) (L:List StgV) (w:World):Prop where
 len:ms.length=L.length
 var:∀ i,i<L.length→(ms.getD i tStg.dflt).var=(L.getD i ⟨0,[],[],0⟩).var
 sts:∀ i,i<L.length→(ms.getD i tStg.dflt).sts=(L.getD i ⟨0,[],[],0⟩).sts
 cls:∀ i,i<L.length→RS tInt w (ms.getD i tStg.dflt).cls (L.getD i ⟨0,[],[],0⟩).cls
 aft:∀ i,i<L.length→RS tInt w (ms.getD i tStg.dflt).aft (L.getD i ⟨0,[],[],0⟩).aft
theorem qc8 {α:Type}{l:List α}{x d:α}{i:Nat}:(l++[x]).getD i d=if i<l.length then l.getD i d else if i=l.length then x else d:=by
 by_cases h:i<l.length
 ·rw [if_pos h];simp [List.getD,List.getElem?_append_left h]
 ·rw [if_neg h]
  by_cases e:i=l.length
  ·rw [if_pos e];subst e;simp [List.getD]
  ·rw [if_neg e];simp [List.getD,List.getElem?_append_right (Nat.not_lt.1 h),List.getElem?_eq_none (show [x].length≤i-l.length by simp;omega)]
theorem StR.snoc {ms:List StgM}{L:List StgV}{w:World}{m:StgM}{y:StgV}(h:StR ms L w) (h1:m.var=y.var) (h2:m.sts=y.sts) (h3:RS tInt w m.cls y.cls) (h4:RS tInt w m.aft y.aft):StR (ms++[m]) (L++[y]) w:=by
 have hl:=h.len
 refine⟨by rw [List.length_append,List.length_append,hl];rfl,fun i hi => ?_,fun i hi => ?_,fun i hi => ?_,fun i hi => ?_⟩ <;>
 ·rw [List.length_append,List.length_singleton] at hi
  rw [qc8,qc8,hl]
  by_cases e:i<L.length
  ·rw [if_pos e,if_pos e]
   first|exact h.var i e|exact h.sts i e|exact h.cls i e|exact h.aft i e
  ·have e2:i=L.length:=by omega
   rw [if_neg e,if_neg e,if_pos e2,if_pos e2]
   first|exact h1|exact h2|exact h3|exact h4
theorem StR.nil {w:World}:StR [] [] w:=⟨rfl,fun _ h=>by simp at h,fun _ h=>by simp at h,fun _ h=>by simp at h,fun _ h=>by simp at h⟩
end Go.Proofs.YtjdlohdcdmhigaaGreatDoor
