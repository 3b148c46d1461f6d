/-
  Contract of landmark's Cuts.
-/
import Derived.Test.YtdadmnlenbdfbaaGreatMW19
import Derived.Test.YtdadmnlenbdfbaaGreatMW3
import Derived.Test.YtdadmnlenbdfbaaGreatMW20
set_option linter.unusedSimpArgs false
set_option linter.unusedVariables false
namespace Go.Proofs.YtdadmnlenbdfbaaGreat
open Go.Sl Go
attribute [local irreducible] vc opsW opsD opV opW PureV ReadV Thn Blk
def CutF (cs:List CutV) (C:List (List Int)) (w:World):Prop:=∀ i:Nat,i<C.length→RS tInt w (eget tCut cs i).ops (C.getD i [])
structure RCut (w:World) (v:Value) (cs:List CutV) (C:List (List Int)):Prop where
 rs:RS tCut w v cs
 len:cs.length=C.length
 ops:CutF cs C w
theorem CutF.at {w0 w:World}{Γ:List HP}{cs:List CutV}{C:List (List Int)}(h:CutF cs C w0) (hw:Sat w0 w Γ):CutF cs C w:=fun i hi=>(h i hi).at hw
theorem RCut.at {w0 w:World}{Γ:List HP}{v:Value}{cs:List CutV}{C:List (List Int)}(h:RCut w0 v cs C) (hw:Sat w0 w Γ):RCut w v cs C:=⟨h.rs.at hw,h.len,h.ops.at hw⟩
theorem CutF.snoc {w:World}{cs:List CutV}{C:List (List Int)}{v:CutV}{c:List Int}(h:CutF cs C w) (hl:cs.length=C.length) (h2:RS tInt w v.ops c):CutF (cs++[v]) (C++[c]) w:=fun i hi=>by
 rw [List.length_append,List.length_singleton] at hi
 by_cases e:i=C.length
 ·subst e
  have e1:eget tCut (cs++[v]) C.length=v:=by rw [qaA,List.getD,←hl,List.getElem?_append_right (Nat.le_refl _),Nat.sub_self];rfl
  have e2:(C++[c]).getD C.length []=c:=by rw [List.getD,List.getElem?_append_right (Nat.le_refl _),Nat.sub_self];rfl
  rw [e1,e2];exact h2
 ·have e1:eget tCut (cs++[v]) i=eget tCut cs i:=by rw [qaA,qaA,List.getD,List.getElem?_append_left (by omega)];rfl
  have e2:(C++[c]).getD i []=C.getD i []:=by rw [List.getD,List.getElem?_append_left (by omega)];rfl
  rw [e1,e2];exact h i (by omega)
set_option maxRecDepth 8000 in
theorem qle {w0:World}{pc:Addr}{xo kv ky:Value}{n:Int}{X K:List Int}(hx:RS tInt w0 xo X) (hb:BoxR w0 pc [kv,ky]) (hk:RS tInt w0 kv K) :
  Calls Tryz.prog 46 #[.agg #[xo,.int .i64 n],.pointer (some pc)] w0 fun e w'=>(∃ r,e=.returned (.bool r)∧(r=true↔X=K))∧Sat w0 w' []:=by
 have hw:=Sat.start w0
 have ox:=hx.one
 refine qaf (args:=[.agg #[xo,.int .i64 n],.pointer (some pc)]) mixed Tryz.func46 rfl (by kernel_rfl) (Nat.le_of_ble_eq_true rfl) ?_
 refine qeB ?_
 refine qbx ?_
 refine qbr (vs:=[xo,.int .i64 n]) rfl hw ?_
 clear hw
 intro p2 w hw
 repeat (first|refine qac ?_|(refine qaa ?_;clear hw;intro p w hw)|(refine qad ?_;clear hw;intro w hw)|(refine qab ?_;clear hw;intro s w hw))
 refine qag rfl (qcv (hx.at hw) (hk.at hw)) ?_
 rintro _ w' ⟨⟨r,rfl,hr⟩,hk'⟩
 replace hw:=hw.call0 hk'
 clear hk'
 refine⟨_,rfl,?_⟩
 repeat (first|refine qac ?_|(refine qaa ?_;clear hw;intro p w hw)|(refine qad ?_;clear hw;intro w hw)|(refine qab ?_;clear hw;intro s w hw))
 exact qai (v:=.bool r) rfl rfl ⟨⟨r,rfl,hr⟩,qas hw⟩
set_option maxRecDepth 8000 in
set_option maxHeartbeats 4000000 in
theorem qj8 {w0:World}{pc:Addr}{ov kv ky:Value}{cs:List CutV}{C:List (List Int)}{K:List Int}(hr:RCut w0 ov cs C) (hb:BoxR w0 pc [kv,ky]) (hk:RS tInt w0 kv K) :
  Calls Tryz.prog 67 #[ov,.func (.func 46) #[] #[.pointer (some pc)]] w0 fun e w'=>(∃ r:Int,e=.returned (.int .i64 r)∧(0≤r↔K∈C))∧Sat w0 w' []:=by
 obtain⟨hrs,hrl,hro⟩:=hr
 have hrb:=hrs.big
 have hw:=Sat.start w0
 refine qaf (args:=[ov,.func (.func 46) #[] #[.pointer (some pc)]]) mixed Tryz.func67 rfl (by kernel_rfl) (Nat.le_of_ble_eq_true rfl) ?_
 repeat (first|refine qac ?_|(refine qaa ?_;clear hw;intro p w hw)|(refine qad ?_;clear hw;intro w hw)|(refine qab ?_;clear hw;intro s w hw))
 refine qao [4,5,8,9,10,11,12,13,14,15,16,17,18] (G:=Nat) (fun k=>[(8,.int .i64 k)]) (fun k w=>k≤cs.length∧K∉C.take k∧Sat w0 w []) (fun k=>cs.length-k) 0 (fun _=>rfl) ⟨rfl,trivial⟩ ⟨Nat.zero_le _,by simp,hw⟩ ?_
 clear hw
 rintro σ k w ⟨hkl,hpre,hw⟩
 repeat (first|refine qac ?_|(refine qaa ?_;clear hw;intro p w hw)|(refine qad ?_;clear hw;intro w hw)|(refine qab ?_;clear hw;intro s w hw))
 refine go_if (fun h1 => ?_) (fun h1 => ?_)
 ·have hkc:k<C.length:=by omega
  have hop:=hro k hkc
  have hone:=hop.one
  have houk:(tCut.enc (eget tCut cs k)).all Value.oneCell'=true:=by
   show ((eget tCut cs k).ops.oneCell' && ((Value.int .i64 (eget tCut cs k).cost).oneCell' && true))=true
   rw [hone];rfl
  repeat (first|refine qac ?_|(refine qaa ?_;clear hw;intro p w hw)|(refine qad ?_;clear hw;intro w hw)|(refine qab ?_;clear hw;intro s w hw))
  refine qa9 (cs:=[.pointer (some pc)]) rfl rfl (qle (X:=C.getD k []) (hop.at hw) (hb.at hw) (hk.at hw)) ?_
  rintro _ w' ⟨⟨r,rfl,hr⟩,hk'⟩
  replace hw:=hw.call0 hk'
  clear hk'
  refine⟨_,rfl,?_⟩
  cases r
  ·have h2:¬C.getD k []=K:=fun h=>by cases hr.2 h
   repeat (first|refine qac ?_|(refine qaa ?_;clear hw;intro p w hw)|(refine qad ?_;clear hw;intro w hw)|(refine qab ?_;clear hw;intro s w hw))
   refine⟨k+1,⟨rfl,trivial⟩,agr,⟨by omega,fun hm => ?_,hw⟩,by omega⟩
   rw [qav [] hkc] at hm
   rcases List.mem_append.1 hm with hm|hm
   ·exact hpre hm
   ·exact h2 (List.mem_singleton.1 hm).symm
  ·repeat (first|refine qac ?_|(refine qaa ?_;clear hw;intro p w hw)|(refine qad ?_;clear hw;intro w hw)|(refine qab ?_;clear hw;intro s w hw))
   exact qai (v:=.int .i64 k) rfl rfl ⟨⟨k,rfl,⟨fun _=>by rw [←hr.1 rfl];exact qan [] hkc,fun _=>by omega⟩⟩,hw⟩
 rw [List.take_of_length_le (by omega)] at hpre
 repeat (first|refine qac ?_|(refine qaa ?_;clear hw;intro p w hw)|(refine qad ?_;clear hw;intro w hw)|(refine qab ?_;clear hw;intro s w hw))
 exact qai (v:=.int .i64 (-1)) rfl rfl ⟨⟨-1,rfl,⟨fun h=>by omega,fun h=>absurd h hpre⟩⟩,hw⟩
set_option maxRecDepth 8000 in
theorem qiy {w0:World}{pc:Addr}{ov kv ky:Value}{cs:List CutV}{C:List (List Int)}{K:List Int}(hr:RCut w0 ov cs C) (hb:BoxR w0 pc [kv,ky]) (hk:RS tInt w0 kv K) :
  Calls Tryz.prog 45 #[ov,.func (.func 46) #[] #[.pointer (some pc)]] w0 fun e w'=>(∃ r,e=.returned (.bool r)∧(r=true↔K∈C))∧Sat w0 w' []:=by
 have hw:=Sat.start w0
 refine qaf (args:=[ov,.func (.func 46) #[] #[.pointer (some pc)]]) mixed Tryz.func45 rfl (by kernel_rfl) (Nat.le_of_ble_eq_true rfl) ?_
 repeat (first|refine qac ?_|(refine qaa ?_;clear hw;intro p w hw)|(refine qad ?_;clear hw;intro w hw)|(refine qab ?_;clear hw;intro s w hw))
 refine qag rfl (qj8 (hr.at hw) (hb.at hw) (hk.at hw)) ?_
 rintro _ w' ⟨⟨r,rfl,hr⟩,hk'⟩
 replace hw:=hw.call0 hk'
 clear hk'
 refine⟨_,rfl,?_⟩
 repeat (first|refine qac ?_|(refine qaa ?_;clear hw;intro p w hw)|(refine qad ?_;clear hw;intro w hw)|(refine qab ?_;clear hw;intro s w hw))
 exact qai (v:=.bool (decide (0≤r))) rfl rfl ⟨⟨_,rfl,by rw [decide_eq_true_eq];exact hr⟩,hw⟩
end Go.Proofs.YtdadmnlenbdfbaaGreat
