/-
  Several texts as one: WRlxM, WEst4, WI47, WLawEB.
-/
import Derived.Test.YtdadmnlenbdfbaaGreatMW12
import Derived.Test.YtdadmnlenbdfbaaGreatMTA
import Derived.Test.YtdadmnlenbdfbaaGreatMW9
import Derived.Test.YtdadmnlenbdfbaaGreatMSlB
import Derived.Test.YtdadmnlenbdfbaaGreatMW11
set_option linter.unusedSimpArgs false
set_option linter.unusedVariables false
/-
  Contracts of the relaxation's 'Max' and of 'estimate.HMax'.
-/
namespace Go.Proofs.YtdadmnlenbdfbaaGreat
open Go.Sl Go
attribute [local irreducible] vc opsW opsD opV opW PureV ReadV Thn Blk
theorem RRlx.at {w0 w:World}{Γ:List HP}{pr:Addr}{t:TTask}(h:RRlx w0 pr t) (hw:Sat w0 w Γ):RRlx w pr t:=by
 obtain⟨a,c,fv,uv,nv,frv,us,ss,hbx,ha,hc,hf,huv,hul,hU,hnv,hssl,hnd,hfr⟩:=h.ex
 exact⟨a,c,fv,uv,nv,frv,us,ss,hbx.at hw,ha.at hw,hc.at hw,hf.at hw,huv.at hw,hul,fun i hi=>⟨(hU i hi).op,(hU i hi).eff,(hU i hi).cost,(hU i hi).makes,(hU i hi).needs.at hw⟩,hnv.at hw,hssl,fun f hf=>(hnd f hf).at hw,hfr.at hw⟩
set_option maxRecDepth 8000 in
set_option maxHeartbeats 4000000 in
theorem qj5 {w0:World}{pr:Addr}{sv:Value}{t:TTask}{z:List Int}(hr:RRlx w0 pr t) (hg:GoodT t) (hs:RS tInt w0 sv z) (hok:StateOk t.vars z) :
  Calls Tryz.prog 127 #[.pointer (some pr),sv] w0 fun e w'=>e=.returned (.int .i64 (hmaxH t z))∧Sat w0 w' []:=by
 have hr':=hr
 obtain⟨a,c,fv,uv,nv,frv,us,ss,hbx,ha,hc,hf,huv,hul,hU,hnv,hssl,hnd,hfr⟩:=hr.ex
 have hgl:=qaO hg.goal
 have hvl:=hg.vars
 have hw:=Sat.start w0
 refine qaf (args:=[.pointer (some pr),sv]) mixed Tryz.func127 rfl (by kernel_rfl) (Nat.le_of_ble_eq_true rfl) ?_
 repeat (first|refine qac ?_|(refine qaa ?_;clear hw;intro p w hw)|(refine qae ?_;clear hw;intro w hw)|(refine qab ?_;clear hw;intro s w hw))
 refine qag rfl (qbt (ha.at hw) (hs.at hw)) ?_
 rintro _ w' ⟨⟨r,rfl,hr1⟩,hk'⟩
 replace hw:=hw.call0 hk'
 clear hk'
 refine⟨_,rfl,?_⟩
 have hrt:r=true:=hr1.2 hok
 subst hrt
 repeat (first|refine qac ?_|(refine qaa ?_;clear hw;intro p w hw)|(refine qae ?_;clear hw;intro w hw)|(refine qab ?_;clear hw;intro s w hw))
 refine qag rfl (qgk (hr'.at hw) hg (hs.at hw) hok) ?_
 rintro _ w' ⟨ov,out,rfl,hHM,hk'⟩
 replace hw:=hw.call1 hk'
 clear hk'
 refine⟨_,rfl,?_⟩
 have hol:=hHM.len
 repeat (first|refine qac ?_|(refine qaa ?_;clear hw;intro p w hw)|(refine qae ?_;clear hw;intro w hw)|(refine qab ?_;clear hw;intro s w hw))
 refine qao [6,8,28,29,30,31,32,33,34,35,36,37,38,39,40] (G:=Nat) (fun k=>[(28,.int .i64 k),(6,.int .i64 (maxG t.vars (t.goal.take k) out))]) (fun k w=>k≤t.goal.length∧Sat w0 w [OS tInt 3 ov out]) (fun k=>t.goal.length-k) 0 (fun _=>rfl) ⟨rfl,rfl,trivial⟩ ⟨Nat.zero_le _,hw⟩ ?_
 clear hw
 rintro σ k w ⟨hk,hw⟩
 repeat (first|refine qac ?_|(refine qaa ?_;clear hw;intro p w hw)|(refine qad ?_;clear hw;intro w hw)|(refine qab ?_;clear hw;intro s w hw))
 refine go_if (fun h1 => ?_) (fun h1 => ?_)
 ·have hkl:k<t.goal.length:=by omega
  have hfo:=(hg.goal k hkl).1
  repeat (first|refine qac ?_|(refine qaa ?_;clear hw;intro p w hw)|(refine qae ?_;clear hw;intro w hw)|(refine qab ?_;clear hw;intro s w hw))
  refine qag rfl (qb6 (f:=t.goal.getD k tFact.dflt) (hbx.at hw) (hf.at hw) hg.pos (fun i hi=>(hg.dom i hi).2) hvl hfo) ?_
  rintro _ w' ⟨rfl,hk'⟩
  replace hw:=hw.call0 hk'
  clear hk'
  refine⟨_,rfl,?_⟩
  have hnr:=qb8 hg.pos hfo
  rw [←qcF hg,←hol] at hnr
  have e:(if out.getD (numF t.vars (t.goal.getD k tFact.dflt)).toNat tInt.dflt>maxG t.vars (t.goal.take k) out then out.getD (numF t.vars (t.goal.getD k tFact.dflt)).toNat tInt.dflt else maxG t.vars (t.goal.take k) out)=maxG t.vars (t.goal.take (k+1)) out:=by
   rw [qav tFact.dflt hkl,qiL];unfold dg;split <;> omega
  repeat (first|refine qac ?_|(refine qaa ?_;clear hw;intro p w hw)|(refine qae ?_;clear hw;intro w hw)|(refine qab ?_;clear hw;intro s w hw))
  exact⟨k+1,⟨rfl,by rw [←e];rfl,trivial⟩,agr,⟨by omega,hw.tail⟩,by omega⟩
 have hke:k=t.goal.length:=by omega
 rw [hke,List.take_length]
 repeat (first|refine qac ?_|(refine qaa ?_;clear hw;intro p w hw)|(refine qad ?_;clear hw;intro w hw)|(refine qab ?_;clear hw;intro s w hw))
 exact qai (v:=.int .i64 (maxG t.vars t.goal out)) rfl rfl ⟨by rw [qjV hok hHM],hw.sel⟩
instance inWRlxM1:MethS Tryz.prog 83 "Value" 128 := ⟨by kernel_rfl⟩
set_option maxRecDepth 8000 in
theorem qix {w0:World}{pr:Addr}{sv:Value}{t:TTask}{z:List Int}(hr:RRlx w0 pr t) (hg:GoodT t) (hs:RS tInt w0 sv z) (hok:StateOk t.vars z) :
  Calls Tryz.prog 128 #[.agg #[.pointer (some pr)],sv] w0 fun e w'=>e=.returned (.int .i64 (hmaxH t z))∧Sat w0 w' []:=by
 have hw:=Sat.start w0
 refine qaf (args:=[.agg #[.pointer (some pr)],sv]) mixed Tryz.func128 rfl (by kernel_rfl) (Nat.le_of_ble_eq_true rfl) ?_
 repeat (first|refine qac ?_|(refine qaa ?_;clear hw;intro p w hw)|(refine qad ?_;clear hw;intro w hw)|(refine qab ?_;clear hw;intro s w hw))
 refine qag rfl (qj5 (hr.at hw) hg (hs.at hw) hok) ?_
 rintro _ w' ⟨rfl,hk'⟩
 replace hw:=hw.call0 hk'
 clear hk'
 refine⟨_,rfl,?_⟩
 repeat (first|refine qac ?_|(refine qaa ?_;clear hw;intro p w hw)|(refine qad ?_;clear hw;intro w hw)|(refine qab ?_;clear hw;intro s w hw))
 exact qai (v:=.int .i64 (hmaxH t z)) rfl rfl ⟨rfl,hw.sel⟩
theorem qi9 {w:World}{t:TTask}{pr:Addr}(h:RRlx w pr t) (hg:GoodT t):HVal w (.iface 83 (.agg #[.pointer (some pr)])) t (hmaxH t) :=
 ⟨_,_,_,_,rfl,qdI _,inferInstance,fun _ _ _ _ hs hsv hok=>qix (h.at hs) hg hsv hok⟩
set_option maxRecDepth 8000 in
set_option maxHeartbeats 2000000 in
theorem qj6 {w0:World}{a b c d:Value}{vs:List OpV}{t:TTask}(ht:RTask w0 a b c d vs t) (hg:GoodT t) :
  Calls Tryz.prog 15 #[.agg #[a,b,c,d]] w0 fun e w'=>∃ p,e=.returned (.tuple #[.pointer (some p),.nilIface])∧Sat w0 w' [RdH fun w=>REst w p t (hmaxH t)]:=by
 have hw:=Sat.start w0
 refine qaf (args:=[.agg #[a,b,c,d]]) mixed Tryz.func15 rfl (by kernel_rfl) (Nat.le_of_ble_eq_true rfl) ?_
 repeat (first|refine qac ?_|(refine qaa ?_;clear hw;intro p w hw)|(refine qae ?_;clear hw;intro w hw)|(refine qab ?_;clear hw;intro s w hw))
 obtain⟨pt,hpt⟩:∃ pt,pt=p:=⟨p,rfl⟩
 subst hpt
 refine qag rfl (qj9 (ht.at hw) hg) ?_
 rintro _ w' ⟨pr,rfl,hk'⟩
 replace hw:=hw.call1 hk'
 clear hk'
 refine⟨_,rfl,?_⟩
 repeat (first|refine qac ?_|(refine qaa ?_;clear hw;intro p w hw)|(refine qae ?_;clear hw;intro w hw)|(refine qab ?_;clear hw;intro s w hw))
 refine qag rfl (qb4 (h:=.iface 83 (.agg #[.pointer (some pr)])) (H:=hmaxH t) (ht.at hw) hg ⟨_,_,rfl⟩) ?_
 rintro _ w' ⟨pe,rfl,hk'⟩
 replace hw:=hw.call1 hk'
 clear hk'
 refine⟨_,rfl,?_⟩
 repeat (first|refine qac ?_|(refine qaa ?_;clear hw;intro p w hw)|(refine qae ?_;clear hw;intro w hw)|(refine qab ?_;clear hw;intro s w hw))
 have hw2:Sat w0 w' [RdH fun w=>HVal w (.iface 83 (.agg #[.pointer (some pr)])) t (hmaxH t)→REst w pe t (hmaxH t),RdH fun w=>RRlx w pr t,Box pt 26 [a,b,c,d]]:=hw
 have hw3:=Sat.rd (Δ:=[RdH fun w=>HVal w (.iface 83 (.agg #[.pointer (some pr)])) t (hmaxH t)→REst w pe t (hmaxH t),RdH fun w=>RRlx w pr t]) (φ:=fun w=>REst w pe t (hmaxH t)) (fun _ w h=>(h.rdE 0 rfl) (qi9 (h.rdE 1 rfl) hg)) hw2
 exact qaw (v:=.pointer (some pe)) (v':=.nilIface) rfl rfl rfl ⟨pe,rfl,hw3.sel⟩
end Go.Proofs.YtdadmnlenbdfbaaGreat
/-
  Contract of 'estimate.Best' and of the methods of estimates: the greatest of several.
-/
namespace Go.Proofs.YtdadmnlenbdfbaaGreat
open Go.Sl Go
attribute [local irreducible] vc opsW opsD opV opW PureV ReadV Thn Blk
theorem qdN (ps:List (Option Addr)) {i:Nat}(h:i<ps.length):vget (ps.map Value.pointer) i=.pointer (ps.getD i none):=by
 rw [qaV];simp [List.getD,h]
theorem qfl (ps:List (Option Addr)):(ps.map Value.pointer).length=ps.length:=List.length_map ..
set_option maxRecDepth 8000 in
theorem qfy {w0:World}{lv:Value}{ps:List (Option Addr)}(hl:RS tVal w0 lv (ps.map Value.pointer)) :
  Calls Tryz.prog 56 #[lv,.pointer none] w0 fun e w'=>(∃ r:Int,e=.returned (.int .i64 r)∧(0≤r↔none∈ps))∧Sat w0 w' []:=by
 have hla:=hl.big
 have hpl:=qfl ps
 have hw:=Sat.start w0
 refine qaf (args:=[lv,.pointer none]) mixed Tryz.func56 rfl (by kernel_rfl) (Nat.le_of_ble_eq_true rfl) ?_
 repeat (first|refine qac ?_|(refine qaa ?_;clear hw;intro p w hw)|(refine qad ?_;clear hw;intro w hw)|(refine qab ?_;clear hw;intro s w hw))
 refine qao [4,5,8,9,10,11,12,13,14,15,16,17,18] (G:=Nat) (fun k=>[(8,.int .i64 k)]) (fun k w=>k≤ps.length∧(∀ i,i<k→ps.getD i none≠none)∧Sat w0 w []) (fun k=>ps.length-k) 0 (fun _=>rfl) ⟨rfl,trivial⟩ ⟨Nat.zero_le _,fun i hi=>absurd hi (Nat.not_lt_zero _),hw⟩ ?_
 clear hw
 rintro σ k w ⟨hk,hpre,hw⟩
 repeat (first|refine qac ?_|(refine qaa ?_;clear hw;intro p w hw)|(refine qad ?_;clear hw;intro w hw)|(refine qab ?_;clear hw;intro s w hw))
 refine go_if (fun h1 => ?_) (fun h1 => ?_)
 ·have hkl:k<ps.length:=by omega
  repeat (first|refine qac ?_|(refine qaa ?_;clear hw;intro p w hw)|(refine qae ?_;clear hw;intro w hw)|(refine qab ?_;clear hw;intro s w hw))
  rw [qdN ps hkl]
  refine qaE rfl (qih (a:=ps.getD k none) rfl rfl) ?_
  cases hp:ps.getD k none with
  | none =>
   repeat (first|refine qac ?_|(refine qaa ?_;clear hw;intro p w hw)|(refine qad ?_;clear hw;intro w hw)|(refine qab ?_;clear hw;intro s w hw))
   exact qai (v:=.int .i64 k) rfl rfl ⟨⟨k,rfl,⟨fun _=>by rw [←hp];exact qan none hkl,fun _=>by omega⟩⟩,hw⟩
  | some q =>
   repeat (first|refine qac ?_|(refine qaa ?_;clear hw;intro p w hw)|(refine qad ?_;clear hw;intro w hw)|(refine qab ?_;clear hw;intro s w hw))
   refine⟨k+1,⟨rfl,trivial⟩,agr,⟨by omega,fun i hi => ?_,hw⟩,by omega⟩
   by_cases e:i=k
   ·rw [e,hp];simp
   ·exact hpre i (by omega)
 ·repeat (first|refine qac ?_|(refine qaa ?_;clear hw;intro p w hw)|(refine qad ?_;clear hw;intro w hw)|(refine qab ?_;clear hw;intro s w hw))
  refine qai (v:=.int .i64 (-1)) rfl rfl ⟨⟨-1,rfl,⟨fun h=>by omega,fun hx => ?_⟩⟩,hw⟩
  obtain⟨i,hi,he⟩:=List.mem_iff_getElem.1 hx
  exact absurd (by rw [qak hi];exact he) (hpre i (by omega))
set_option maxRecDepth 8000 in
theorem qdA {w0:World}{lv:Value}{ps:List (Option Addr)}(hl:RS tVal w0 lv (ps.map Value.pointer)) :
  Calls Tryz.prog 33 #[lv,.pointer none] w0 fun e w'=>(∃ r,e=.returned (.bool r)∧(r=true↔none∈ps))∧Sat w0 w' []:=by
 have hw:=Sat.start w0
 refine qaf (args:=[lv,.pointer none]) mixed Tryz.func33 rfl (by kernel_rfl) (Nat.le_of_ble_eq_true rfl) ?_
 repeat (first|refine qac ?_|(refine qaa ?_;clear hw;intro p w hw)|(refine qad ?_;clear hw;intro w hw)|(refine qab ?_;clear hw;intro s w hw))
 refine qag rfl (qfy hl) ?_
 rintro _ w' ⟨⟨r,rfl,hr⟩,hk'⟩
 replace hw:=hw.call0 hk'
 clear hk'
 refine⟨_,rfl,?_⟩
 repeat (first|refine qac ?_|(refine qaa ?_;clear hw;intro p w hw)|(refine qad ?_;clear hw;intro w hw)|(refine qab ?_;clear hw;intro s w hw))
 exact qai (v:=.bool (decide (0≤r))) rfl rfl ⟨⟨_,rfl,by rw [decide_eq_true_eq];exact hr⟩,hw⟩
set_option maxRecDepth 8000 in
theorem qfz {w0:World}{lv:Value}{ps:List (Option Addr)}(hl:RS tVal w0 lv (ps.map Value.pointer)) (hn:ps.length≤1048576) :
  Calls Tryz.prog 35 #[lv] w0 fun e w'=>∃ s,e=.returned s∧Sat w0 w' [OS tVal 29 s (ps.map Value.pointer)]:=by
 have hpl:=qfl ps
 have hw:=Sat.start w0
 obtain⟨ad,cap,hs⟩:=hl.shape
 subst hs
 refine qaf (args:=[.slice ad (ps.map Value.pointer).length cap]) mixed Tryz.func35 rfl (by kernel_rfl) (Nat.le_of_ble_eq_true rfl) ?_
 repeat (first|refine qac ?_|(refine qaa ?_;clear hw;intro p w hw)|(refine qad ?_;clear hw;intro w hw)|(refine qab ?_;clear hw;intro s w hw))
 refine qaE rfl (qbw (a:=ad) (n:=(ps.map Value.pointer).length) (c:=cap) rfl) ?_
 cases ad with
 | none =>
  have h0:ps=[]:=by
   rcases Nat.eq_zero_or_pos ps.length with h|h
   ·exact List.eq_nil_of_length_eq_zero h
   ·obtain⟨p,c2,he,_⟩:=hl.some (by decide) (by rw [hpl];exact h)
    cases he
  subst h0
  repeat (first|refine qac ?_|(refine qaa ?_;clear hw;intro p w hw)|(refine qad ?_;clear hw;intro w hw)|(refine qab ?_;clear hw;intro s w hw))
  exact qai (v:=.slice none 0 0) rfl rfl ⟨_,rfl,hw.nil⟩
 | some p =>
  repeat (first|refine qac ?_|(refine qaa ?_;clear hw;intro p w hw)|(refine qad ?_;clear hw;intro w hw)|(refine qab ?_;clear hw;intro s w hw))
  refine qaJ tVal hw ?_
  clear hw
  intro s1 w hw
  have hr2:=hl.at hw
  repeat (first|refine qac ?_|(refine qaa ?_;clear hw;intro p w hw)|(refine qad ?_;clear hw;intro w hw)|(refine qab ?_;clear hw;intro s w hw))
  refine qaM (s:=s1) (s2:=.slice (some p) (ps.map Value.pointer).length cap) inferInstance rfl rfl hr2 rfl rfl (fun x hx v hv=>by
   obtain⟨q,_,rfl⟩:=List.mem_map.1 hx
   rw [List.mem_singleton.1 hv];rfl) (by simp only [List.length_nil];omega) (by unfold big;simp only [List.length_nil];omega) hw ?_
  clear hw
  intro s2 w hw
  repeat (first|refine qac ?_|(refine qaa ?_;clear hw;intro p w hw)|(refine qad ?_;clear hw;intro w hw)|(refine qab ?_;clear hw;intro s w hw))
  rw [List.nil_append] at hw
  exact qai (v:=s2) rfl rfl ⟨_,rfl,hw⟩
def REsts (w:World) (ps:List (Option Addr)) (t:TTask) (Hs:List (List Int→Int)):Prop:=∀ i,i<ps.length→∃ p,ps.getD i none=some p∧REst w p t (Hs.getD i fun _=>0)
theorem REsts.at {w0 w:World}{Γ:List HP}{ps:List (Option Addr)}{t:TTask}{Hs:List (List Int→Int)}(h:REsts w0 ps t Hs) (hw:Sat w0 w Γ):REsts w ps t Hs:=fun i hi=>by
 obtain⟨p,h1,h2⟩:=h i hi
 exact⟨p,h1,h2.at hw⟩
noncomputable def bestH (t:TTask) (Hs:List (List Int→Int)) (s:List Int):Int:=Hs.foldl (fun m H=>max m (estV t H s)) 0
theorem qij (t:TTask) (Hs:List (List Int→Int)) (H:List Int→Int) (s:List Int):bestH t (Hs++[H]) s=max (bestH t Hs s) (estV t H s):=by simp [bestH]
instance bestMeth:MethS Tryz.prog 86 "Value" 136 := ⟨by kernel_rfl⟩
set_option maxRecDepth 8000 in
set_option maxHeartbeats 2000000 in
theorem qiF {w0:World}{lv sv:Value}{ps:List (Option Addr)}{t:TTask}{Hs:List (List Int→Int)}{z:List Int}(hl:RS tVal w0 lv (ps.map Value.pointer)) (he:REsts w0 ps t Hs) (hHs:Hs.length=ps.length) (hs:RS tInt w0 sv z) :
  Calls Tryz.prog 136 #[lv,sv] w0 fun e w'=>e=.returned (.int .i64 (bestH t Hs z))∧Sat w0 w' []:=by
 have hpl:=qfl ps
 have hla:=hl.big
 have hw:=Sat.start w0
 refine qaf (args:=[lv,sv]) mixed Tryz.func136 rfl (by kernel_rfl) (Nat.le_of_ble_eq_true rfl) ?_
 repeat (first|refine qac ?_|(refine qaa ?_;clear hw;intro p w hw)|(refine qad ?_;clear hw;intro w hw)|(refine qab ?_;clear hw;intro s w hw))
 refine qao [5,7,10,11,12,13,14,15,16,17,18,19] (G:=Nat) (fun k=>[(10,.int .i64 k),(5,.int .i64 (bestH t (Hs.take k) z))]) (fun k w=>k≤ps.length∧Sat w0 w []) (fun k=>ps.length-k) 0 (fun _=>rfl) ⟨rfl,rfl,trivial⟩ ⟨Nat.zero_le _,hw⟩ ?_
 clear hw
 rintro σ k w ⟨hk,hw⟩
 repeat (first|refine qac ?_|(refine qaa ?_;clear hw;intro p w hw)|(refine qad ?_;clear hw;intro w hw)|(refine qab ?_;clear hw;intro s w hw))
 refine go_if (fun h1 => ?_) (fun h1 => ?_)
 ·have hkl:k<ps.length:=by omega
  obtain⟨p,hp,hE⟩:=he k hkl
  repeat (first|refine qac ?_|(refine qaa ?_;clear hw;intro p w hw)|(refine qae ?_;clear hw;intro w hw)|(refine qab ?_;clear hw;intro s w hw))
  rw [qdN ps hkl,hp]
  repeat (first|refine qac ?_|(refine qaa ?_;clear hw;intro p w hw)|(refine qae ?_;clear hw;intro w hw)|(refine qab ?_;clear hw;intro s w hw))
  refine qag rfl (qaW (hE.at hw) (hs.at hw)) ?_
  rintro _ w' ⟨rfl,hk'⟩
  replace hw:=hw.call0 hk'
  clear hk'
  refine⟨_,rfl,?_⟩
  have e:(if estV t (Hs.getD k fun _=>0) z>bestH t (Hs.take k) z then estV t (Hs.getD k fun _=>0) z else bestH t (Hs.take k) z)=bestH t (Hs.take (k+1)) z:=by
   rw [qav (fun _=>0) (by omega),qij];split <;> omega
  repeat (first|refine qac ?_|(refine qaa ?_;clear hw;intro p w hw)|(refine qae ?_;clear hw;intro w hw)|(refine qab ?_;clear hw;intro s w hw))
  exact⟨k+1,⟨rfl,by rw [←e];rfl,trivial⟩,agr,⟨by omega,hw⟩,by omega⟩
 have hke:k=ps.length:=by omega
 rw [hke,←hHs,List.take_length]
 repeat (first|refine qac ?_|(refine qaa ?_;clear hw;intro p w hw)|(refine qad ?_;clear hw;intro w hw)|(refine qab ?_;clear hw;intro s w hw))
 exact qai (v:=.int .i64 (bestH t Hs z)) rfl rfl ⟨rfl,hw⟩
theorem qjM {w:World}{lv:Value}{ps:List (Option Addr)}{t:TTask}{Hs:List (List Int→Int)}(hl:RS tVal w lv (ps.map Value.pointer)) (he:REsts w ps t Hs) (hHs:Hs.length=ps.length):HVal w (.iface 86 lv) t (bestH t Hs) :=
 ⟨_,_,_,_,rfl,qdI _,inferInstance,fun _ _ _ _ hs hsv _=>qiF (hl.at hs) (he.at hs) hHs hsv⟩
def dT:TTask:=⟨[],[],[],[]⟩
open Classical in
noncomputable def bstE (ps:List (Option Addr)) (us:List TTask):Int:=if ps=[]∨none∈ps then 3 else if ∃ i,i<ps.length∧us.getD i dT≠us.getD 0 dT then 2 else 0
theorem qmH {α:Type}{xs:List α}{k:Nat}{d:α}:(cut xs 1 xs.length).getD k d=xs.getD (k+1) d:=by
 unfold cut
 rw [List.take_length]
 simp [List.getD,Nat.add_comm]
set_option maxRecDepth 8000 in
set_option maxHeartbeats 4000000 in
theorem qik {w0:World}{lv:Value}{ps:List (Option Addr)}{us:List TTask}{Hs:List (List Int→Int)}(hl:RS tVal w0 lv (ps.map Value.pointer)) (hn:ps.length≤1048576) (hHs:Hs.length=ps.length) (he:∀ i,i<ps.length→∀ p,ps.getD i none=some p→REst w0 p (us.getD i dT) (Hs.getD i fun _=>0)) (hg:GoodT (us.getD 0 dT)) :
  Calls Tryz.prog 16 #[lv] w0 fun e w' =>
   (bstE ps us≠0∧e=.returned (.tuple #[.pointer none,errV (bstE ps us)])∧Sat w0 w' []) ∨
   (bstE ps us=0∧∃ p,e=.returned (.tuple #[.pointer (some p),.nilIface])∧Sat w0 w' [RdH fun w=>REsts w ps (us.getD 0 dT) Hs→REst w p (us.getD 0 dT) (bestH (us.getD 0 dT) Hs)]):=by
 have hpl:=qfl ps
 have hla:=hl.big
 have hw:=Sat.start w0
 refine qaf (args:=[lv]) mixed Tryz.func16 rfl (by kernel_rfl) (Nat.le_of_ble_eq_true rfl) ?_
 by_cases h0:ps=[]
 ·have hb:bstE ps us=3:=by unfold bstE;rw [if_pos (.inl h0)]
  have hd0:decide (((ps.map Value.pointer).length:Int)=0)=true:=decide_eq_true (by rw [hpl,h0];rfl)
  repeat (first|refine qac ?_|(refine qaa ?_;clear hw;intro p w hw)|(refine qae ?_;clear hw;intro w hw)|(refine qab ?_;clear hw;intro s w hw))
  simp only [hd0,beq_self_eq_true,qbu,qbv,Bool.false_and,Bool.true_and,Bool.false_or,Bool.true_or,Bool.not_true,Bool.not_false,Bool.cond_true,Bool.cond_false,gv_fI,gv_tI]
  repeat (first|refine qac ?_|(refine qaa ?_;clear hw;intro p w hw)|(refine qae ?_;clear hw;intro w hw)|(refine qab ?_;clear hw;intro s w hw))
  exact qaw (v:=.pointer none) (v':=.iface 35 (.int .i64 3)) rfl rfl rfl (.inl ⟨by rw [hb];decide,by rw [hb,qaj (by decide)],hw.sel⟩)
 have hp0:0<ps.length:=List.length_pos_iff.2 h0
 have hd0:decide (((ps.map Value.pointer).length:Int)=0)=false:=decide_eq_false (by omega)
 repeat (first|refine qac ?_|(refine qaa ?_;clear hw;intro p w hw)|(refine qae ?_;clear hw;intro w hw)|(refine qab ?_;clear hw;intro s w hw))
 simp only [hd0,beq_self_eq_true,qbu,qbv,Bool.false_and,Bool.true_and,Bool.false_or,Bool.true_or,Bool.not_true,Bool.not_false,Bool.cond_true,Bool.cond_false,gv_fI,gv_tI]
 repeat (first|refine qac ?_|(refine qaa ?_;clear hw;intro p w hw)|(refine qae ?_;clear hw;intro w hw)|(refine qab ?_;clear hw;intro s w hw))
 refine qag rfl (qdA (hl.at hw)) ?_
 rintro _ w' ⟨⟨r,rfl,hr⟩,hk'⟩
 replace hw:=hw.call0 hk'
 clear hk'
 refine⟨_,rfl,?_⟩
 cases r
 rotate_left
 ·have hb:bstE ps us=3:=by unfold bstE;rw [if_pos (.inr (hr.1 rfl))]
  repeat (first|refine qac ?_|(refine qaa ?_;clear hw;intro p w hw)|(refine qae ?_;clear hw;intro w hw)|(refine qab ?_;clear hw;intro s w hw))
  exact qaw (v:=.pointer none) (v':=.iface 35 (.int .i64 3)) rfl rfl rfl (.inl ⟨by rw [hb];decide,by rw [hb,qaj (by decide)],hw.sel⟩)
 have hnn:none∉ps:=fun h=>by cases hr.2 h
 have hsome:∀ i,i<ps.length→∃ p,ps.getD i none=some p:=fun i hi=>by
  cases hx:ps.getD i none with
  | none=>exact absurd (by rw [←hx];exact qan none hi) hnn
  | some p=>exact⟨p,rfl⟩
 obtain⟨q0,hq0⟩:=hsome 0 hp0
 have hE0:=he 0 hp0 q0 hq0
 obtain⟨a0,b0,c0,d0,hv0,vs0,hb0,ht0,_⟩:=hE0
 have hcl:=qc9 (xs:=ps.map Value.pointer) (lo:=1) (hi:=(ps.map Value.pointer).length) (Nat.le_refl _)
 have hrc:=qje (T:=tVal) (lo:=1) (hi:=(ps.map Value.pointer).length) hl (by omega) (Nat.le_refl _)
 have hv0:vget (ps.map Value.pointer) (Int.toNat 0)=.pointer (some q0):=by rw [show Int.toNat 0=0 from rfl,qdN ps hp0,hq0]
 repeat (first|refine qac ?_|(refine qaa ?_;clear hw;intro p w hw)|(refine qae ?_;clear hw;intro w hw)|(refine qab ?_;clear hw;intro s w hw))
 refine qao [2,3,5,17,18,19,20,21,22,23,24,25,26,27,28,29,30,31,32,33,34] (G:=Nat) (fun k=>[(17,.int .i64 k)]) (fun k w=>k+1≤ps.length∧(∀ i,i≤k→us.getD i dT=us.getD 0 dT)∧Sat w0 w []) (fun k=>ps.length-k) 0 (fun _=>rfl) ⟨rfl,trivial⟩ ⟨by omega,fun i hi=>by rw [show i=0 by omega],hw⟩ ?_
 clear hw
 rintro σ k w ⟨hk,hsm,hw⟩
 repeat (first|refine qac ?_|(refine qaa ?_;clear hw;intro p w hw)|(refine qad ?_;clear hw;intro w hw)|(refine qab ?_;clear hw;intro s w hw))
 refine go_if (fun h1 => ?_) (fun h1 => ?_)
 ·have hkl:k+1<ps.length:=by omega
  obtain⟨q,hq⟩:=hsome (k+1) hkl
  obtain⟨a1,b1,c1,d1,hv1,vs1,hb1,ht1,_⟩:=he (k+1) hkl q hq
  have hvk:vget (cut (ps.map Value.pointer) 1 (ps.map Value.pointer).length) k=.pointer (some q):=by
   rw [qaV,qmH,←qaV,qdN ps hkl,hq]
  repeat (first|refine qac ?_|(refine qaa ?_;clear hw;intro p w hw)|(refine qae ?_;clear hw;intro w hw)|(refine qab ?_;clear hw;intro s w hw))
  rw [hvk]
  refine qay [.op 0,.op 1,.op 2,.op 3,.op 4,.op 5,.op 6,.op 7,.op 8,.op 9,.op 10,.op 11] hw (by kernel_rfl) ?_;clear hw;intro w hw
  repeat (first|refine qac ?_|(refine qaa ?_;clear hw;intro p w hw)|(refine qae ?_;clear hw;intro w hw)|(refine qab ?_;clear hw;intro s w hw))
  refine qaN rfl (qaQ (k:=0) (n:=4) (vs:=[a1,b1,c1,d1]) rfl (hb1.at hw) rfl rfl) ?_
  repeat (first|refine qac ?_|(refine qaa ?_;clear hw;intro p w hw)|(refine qae ?_;clear hw;intro w hw)|(refine qab ?_;clear hw;intro s w hw))
  rw [hv0]
  repeat (first|refine qac ?_|(refine qaa ?_;clear hw;intro p w hw)|(refine qae ?_;clear hw;intro w hw)|(refine qab ?_;clear hw;intro s w hw))
  refine qaN rfl (qaQ (k:=0) (n:=4) (vs:=[a0,b0,c0,d0]) rfl (hb0.at hw) rfl rfl) ?_
  repeat (first|refine qac ?_|(refine qaa ?_;clear hw;intro p w hw)|(refine qae ?_;clear hw;intro w hw)|(refine qab ?_;clear hw;intro s w hw))
  refine qag rfl (qgg (ht1.at hw) (ht0.at hw)) ?_
  rintro _ w' ⟨⟨r,rfl,hr⟩,hk'⟩
  replace hw:=hw.call0 hk'
  clear hk'
  refine⟨_,rfl,?_⟩
  cases r
  ·have hne:us.getD (k+1) dT≠us.getD 0 dT:=fun h=>by cases hr.2 h
   have hb:bstE ps us=2:=by unfold bstE;rw [if_neg (fun h=>h.elim h0 hnn),if_pos ⟨k+1,hkl,hne⟩]
   repeat (first|refine qac ?_|(refine qaa ?_;clear hw;intro p w hw)|(refine qae ?_;clear hw;intro w hw)|(refine qab ?_;clear hw;intro s w hw))
   exact qaw (v:=.pointer none) (v':=.iface 35 (.int .i64 2)) rfl rfl rfl (.inl ⟨by rw [hb];decide,by rw [hb,qaj (by decide)],hw.sel⟩)
  ·have heq:=hr.1 rfl
   repeat (first|refine qac ?_|(refine qaa ?_;clear hw;intro p w hw)|(refine qae ?_;clear hw;intro w hw)|(refine qab ?_;clear hw;intro s w hw))
   refine⟨k+1,⟨rfl,trivial⟩,agr,⟨by omega,fun i hi => ?_,hw⟩,by omega⟩
   by_cases e:i=k+1
   ·rw [e];exact heq
   ·exact hsm i (by omega)
 have hke:k+1=ps.length:=by omega
 have hb:bstE ps us=0:=by unfold bstE;rw [if_neg (fun h=>h.elim h0 hnn),if_neg (by rintro⟨i,hi,hne⟩;exact hne (hsm i (by omega)))]
 repeat (first|refine qac ?_|(refine qaa ?_;clear hw;intro p w hw)|(refine qae ?_;clear hw;intro w hw)|(refine qab ?_;clear hw;intro s w hw))
 refine qay [.op 0,.op 1,.op 2,.op 3,.op 4,.op 5,.op 6,.op 7,.chk 2,.chk 5,.op 8,.op 9,.op 10,.op 11,.op 12,.op 13] hw (by kernel_rfl) ?_;clear hw;intro w hw
 repeat (first|refine qac ?_|(refine qaa ?_;clear hw;intro p w hw)|(refine qae ?_;clear hw;intro w hw)|(refine qab ?_;clear hw;intro s w hw))
 rw [hv0]
 repeat (first|refine qac ?_|(refine qaa ?_;clear hw;intro p w hw)|(refine qae ?_;clear hw;intro w hw)|(refine qab ?_;clear hw;intro s w hw))
 refine qaN rfl (qaQ (k:=0) (n:=4) (vs:=[a0,b0,c0,d0]) rfl (hb0.at hw) rfl rfl) ?_
 repeat (first|refine qac ?_|(refine qaa ?_;clear hw;intro p w hw)|(refine qae ?_;clear hw;intro w hw)|(refine qab ?_;clear hw;intro s w hw))
 refine qag rfl (qfz (hl.at hw) hn) ?_
 rintro _ w' ⟨lv2,rfl,hk'⟩
 replace hw:=hw.call1 hk'
 clear hk'
 refine⟨_,rfl,?_⟩
 refine qdk ?_
 refine qe0 rfl (qcf (i:=Int.toNat 0) rfl (hl.at hw) (by rw [hpl];exact hp0)) hv0.symm ?_
 refine qe0 rfl (qaQ (k:=0) (n:=4) (vs:=[a0,b0,c0,d0]) rfl (hb0.at hw) rfl rfl) rfl ?_
 repeat (first|refine qac ?_|(refine qaa ?_;clear hw;intro p w hw)|(refine qae ?_;clear hw;intro w hw)|(refine qab ?_;clear hw;intro s w hw))
 refine qag rfl (qb4 (h:=.iface 86 lv2) (H:=bestH (us.getD 0 dT) Hs) (ht0.at hw) hg ⟨_,_,rfl⟩) ?_
 rintro _ w' ⟨pe,rfl,hk'⟩
 replace hw:=hw.call1 hk'
 clear hk'
 refine⟨_,rfl,?_⟩
 repeat (first|refine qac ?_|(refine qaa ?_;clear hw;intro p w hw)|(refine qae ?_;clear hw;intro w hw)|(refine qab ?_;clear hw;intro s w hw))
 have hw2:Sat w0 w' [RdH fun w=>HVal w (.iface 86 lv2) (us.getD 0 dT) (bestH (us.getD 0 dT) Hs)→REst w pe (us.getD 0 dT) (bestH (us.getD 0 dT) Hs),OS tVal 29 lv2 (ps.map Value.pointer)]:=hw
 have hw3:=Sat.rd (Δ:=[RdH fun w=>HVal w (.iface 86 lv2) (us.getD 0 dT) (bestH (us.getD 0 dT) Hs)→REst w pe (us.getD 0 dT) (bestH (us.getD 0 dT) Hs),OS tVal 29 lv2 (ps.map Value.pointer)]) (φ:=fun w=>REsts w ps (us.getD 0 dT) Hs→REst w pe (us.getD 0 dT) (bestH (us.getD 0 dT) Hs)) (fun _ w h hR=>(h.rdE 0 rfl) (qjM (h.rs 1 rfl) hR hHs)) (Γ:=[]) hw2
 exact qaw (v:=.pointer (some pe)) (v':=.nilIface) rfl rfl rfl (.inr ⟨hb,pe,rfl,hw3⟩)
end Go.Proofs.YtdadmnlenbdfbaaGreat
/-
  The example with which each statement of layer 47 begins.
-/
namespace Go.Proofs.YtdadmnlenbdfbaaGreat
open Go.Sl Go
attribute [local irreducible] vc opsW opsD opV opW PureV ReadV Thn Blk
set_option maxRecDepth 8000 in
set_option maxHeartbeats 4000000 in
theorem qgh {w0:World} :
  Calls Tryz.prog 13 #[] w0 fun e w'=>∃ a b c d vs,e=.returned (.agg #[a,b,c,d])∧Sat w0 w' [RdH fun w=>RTask w a b c d vs exIT]:=by
 have hw:=Sat.start w0
 refine qaf (args:=[]) mixed Tryz.func13 rfl (by kernel_rfl) (Nat.le_of_ble_eq_true rfl) ?_
 repeat (first|refine qac ?_|(refine qaa ?_;clear hw;intro p w hw)|(refine qad ?_;clear hw;intro w hw)|(refine qab ?_;clear hw;intro s w hw))
 obtain⟨p0,hp0⟩:∃ p0,p0=p:=⟨p,rfl⟩
 subst hp0
 obtain⟨s4,hs4⟩:∃ s4,s4=s:=⟨s,rfl⟩
 subst hs4
 refine qal tFact (x1:=⟨0,3⟩) rfl rfl rfl (Nat.le_of_ble_eq_true rfl) (Nat.zero_lt_succ _) hw ?_
 clear hw
 intro s6 w hw
 obtain⟨s3,hs3⟩:∃ s3,s3=s:=⟨s,rfl⟩
 subst hs3
 have o6:=(hw.rs 0 rfl).one
 have o4:=(hw.rs 1 rfl).one
 have o3:=(hw.rs 2 rfl).one
 refine qa8 (v1:=s3) (v2:=s4) (v3:=s6) rfl rfl rfl rfl (by simp only [List.all_cons,List.all_nil,o3,o4,o6];rfl) ?_
 refine qfp ?_
 clear hw
 intro p1 w hw
 refine qaS (n:=4) (p:=p1) (vs:=[s3,s4,s6,.slice none 0 0]) rfl rfl hw inferInstance rfl rfl (by simp only [List.all_cons,List.all_nil,o3,o4,o6];rfl) ?_
 clear hw
 intro w hw
 repeat (first|refine qac ?_|(refine qaa ?_;clear hw;intro p w hw)|(refine qad ?_;clear hw;intro w hw)|(refine qab ?_;clear hw;intro s w hw))
 have hw1:=hw.nil (T:=tOp) (e:=44)
 replace hw1:=Sat.rd0 (φ:=OpsI [] []) (fun w=>⟨rfl,fun i hi=>absurd hi (Nat.not_lt_zero _)⟩) hw1
 clear hw
 refine qa7 [2,8,9,10,11,12,13,14,15,16,17,18,19,20,21,22,23,24] (G:=Nat) (H:=Value) (I:=List OpV) (fun k _ _=>[(8,.int .i64 k)]) (fun k ov vs w=>k≤3∧vs.length=k∧Sat w0 w [OS tOp 44 ov vs,RdH (OpsI vs (exIT.ops.take k)),Box p1 26 [s3,s4,s6,ov],OS tFact 73 s6 [⟨0,3⟩],OS tInt 3 s4 [0],OS tInt 3 s3 [4],Box p0 26 [.slice none 0 0,.slice none 0 0,.slice none 0 0,.slice none 0 0]]) (fun k _ _=>3-k) 0 (.slice none 0 0) [] (fun _ _ _=>rfl) ⟨rfl,trivial⟩ ⟨Nat.zero_le _,rfl,hw1.swap⟩ ?_
 clear hw1
 rintro σ k ov vs w ⟨hk,hvl,hw⟩
 repeat (first|refine qac ?_|(refine qaa ?_;clear hw;intro p w hw)|(refine qad ?_;clear hw;intro w hw)|(refine qab ?_;clear hw;intro s w hw))
 refine go_if (fun h1 => ?_) (fun h1 => ?_)
 ·repeat (first|refine qac ?_|(refine qaa ?_;clear hw;intro p w hw)|(refine qad ?_;clear hw;intro w hw)|(refine qab ?_;clear hw;intro s w hw))
  refine qal tFact (x1:=⟨0,k⟩) rfl rfl rfl (Nat.le_of_ble_eq_true rfl) (Nat.zero_lt_succ _) hw ?_
  clear hw
  intro sp w hw
  repeat (first|refine qac ?_|(refine qaa ?_;clear hw;intro p w hw)|(refine qad ?_;clear hw;intro w hw)|(refine qab ?_;clear hw;intro s w hw))
  refine qal tEff (x1:=⟨.slice none 0 0,0,(k:Int)+1⟩) rfl rfl rfl (Nat.le_of_ble_eq_true rfl) (Nat.zero_lt_succ _) hw ?_
  clear hw
  intro se w hw
  have op:=(hw.rs 1 rfl).one
  have oe:=(hw.rs 0 rfl).one
  refine qa8 (v1:=.int .i64 2) (v2:=sp) (v3:=se) rfl rfl rfl rfl (by simp only [List.all_cons,List.all_nil,op,oe];rfl) ?_
  refine qal tOp (x1:=⟨ByteArray.empty,2,sp,se⟩) rfl rfl rfl (Nat.le_of_ble_eq_true rfl) (Nat.zero_lt_succ _) hw ?_
  clear hw
  intro so w hw
  refine qaM (s:=ov) (s2:=so) inferInstance rfl rfl (rsO hw) rfl rfl (fun x hx v hv => ?_) (by simp only [List.length_cons,List.length_nil];omega) (by unfold big;simp only [List.length_cons,List.length_nil];omega) hw ?_
  ·rw [List.mem_singleton.1 hx] at hv
   simp only [tOp,List.mem_cons,List.not_mem_nil,or_false] at hv
   rcases hv with rfl|rfl|rfl|rfl
   ·rfl
   ·rfl
   ·exact op
   ·exact oe
  clear hw
  intro ov2 w hw
  have o2:=(hw.rs 3 rfl).one
  repeat (first|refine qac ?_|(refine qaa ?_;clear hw;intro p w hw)|(refine qad ?_;clear hw;intro w hw)|(refine qab ?_;clear hw;intro s w hw))
  have hk3:(exIT.ops.take (k+1))=exIT.ops.take k++[⟨ByteArray.empty,2,[⟨0,k⟩],[⟨[],0,(k:Int)+1⟩]⟩]:=by
   have:k=0∨k=1∨k=2:=by omega
   rcases this with rfl|rfl|rfl <;> rfl
  have hw1:Sat w0 w ([OS tEff 75 se [⟨.slice none 0 0,0,(k:Int)+1⟩],OS tFact 73 sp [⟨0,k⟩],RdH (OpsI vs (exIT.ops.take k)),OS tOp 44 ov2 (vs++[⟨ByteArray.empty,2,sp,se⟩]),Box p1 26 [s3,s4,s6,ov2],OS tFact 73 s6 [⟨0,3⟩],OS tInt 3 s4 [0],OS tInt 3 s3 [4],Box p0 26 [.slice none 0 0,.slice none 0 0,.slice none 0 0,.slice none 0 0]]):=by
   have hw2:Sat w0 w [OS tOp 44 so [⟨ByteArray.empty,2,sp,se⟩],OS tEff 75 se [⟨.slice none 0 0,0,(k:Int)+1⟩],OS tFact 73 sp [⟨0,k⟩],OS tOp 44 ov2 (vs++[⟨ByteArray.empty,2,sp,se⟩]),RdH (OpsI vs (exIT.ops.take k)),Box p1 26 [s3,s4,s6,ov2],OS tFact 73 s6 [⟨0,3⟩],OS tInt 3 s4 [0],OS tInt 3 s3 [4],Box p0 26 [.slice none 0 0,.slice none 0 0,.slice none 0 0,.slice none 0 0]]:=hw
   exact hw2.sel
  clear hw
  have hw3:=Sat.rd2 (χ:=OpsI (vs++[⟨ByteArray.empty,2,sp,se⟩]) (exIT.ops.take (k+1))) (fun w h1 h2=>by rw [hk3];exact h2.snoc h1) (Sat.rd (φ:=fun w=>ROp w ⟨ByteArray.empty,2,sp,se⟩ ⟨ByteArray.empty,2,[⟨0,k⟩],[⟨[],0,(k:Int)+1⟩]⟩) (Δ:=[OS tEff 75 se [⟨.slice none 0 0,0,(k:Int)+1⟩],OS tFact 73 sp [⟨0,k⟩]]) (fun _ _ hw=>irop hw) hw1)
  exact⟨k+1,ov2,vs++[⟨ByteArray.empty,2,sp,se⟩],⟨rfl,trivial⟩,agr,⟨by omega,by rw [List.length_append,hvl];rfl,hw3.sel⟩,by omega⟩
 have hk3:k=3:=by omega
 subst hk3
 repeat (first|refine qac ?_|(refine qaa ?_;clear hw;intro p w hw)|(refine qad ?_;clear hw;intro w hw)|(refine qab ?_;clear hw;intro s w hw))
 refine qaS (n:=4) (p:=p0) (vs:=[s3,s4,s6,ov]) rfl rfl hw inferInstance rfl rfl (by simp only [List.all_cons,List.all_nil,o3,o4,o6,(rsO (s:=ov) hw).one];rfl) ?_
 clear hw
 intro w hw
 repeat (first|refine qac ?_|(refine qaa ?_;clear hw;intro p w hw)|(refine qad ?_;clear hw;intro w hw)|(refine qab ?_;clear hw;intro s w hw))
 have hw2:Sat w0 w [OS tOp 44 ov vs,RdH (OpsI vs exIT.ops),Box p1 26 [s3,s4,s6,ov],OS tFact 73 s6 [⟨0,3⟩],OS tInt 3 s4 [0],OS tInt 3 s3 [4],Box p0 26 [s3,s4,s6,ov]]:=hw
 have hw3:=Sat.rd (Δ:=[OS tOp 44 ov vs,RdH (OpsI vs exIT.ops),Box p1 26 [s3,s4,s6,ov],OS tFact 73 s6 [⟨0,3⟩],OS tInt 3 s4 [0],OS tInt 3 s3 [4]]) (φ:=fun w=>RTask w s3 s4 s6 ov vs exIT) (fun _ w h=>⟨h.rs 5 rfl,h.rs 4 rfl,h.rs 3 rfl,⟨h.rs 0 rfl,(h.rdE 1 rfl).1,(h.rdE 1 rfl).2⟩⟩) hw2
 exact qbK (p:=p0) (vs:=[s3,s4,s6,ov]) rfl rfl rfl (fun j v hv=>qcW (i:=6) hw rfl hv) ⟨s3,s4,s6,ov,vs,rfl,hw3.sel⟩
theorem qe3:unT exIT=[⟨0,0,2,1,[0]⟩,⟨1,0,2,2,[1]⟩,⟨2,0,2,3,[2]⟩]:=rfl
theorem qlh:factN exIT=4:=rfl
theorem qlX:IsHM exIT [0] [0,2,4,6]:=by
 have hst:StF exIT.vars [0] 0:=⟨0,by decide,rfl⟩
 refine qmu (by decide) (fun g h0 h1 => ?_) (qlf qcM) (fun g hg => ?_) (fun i hi => ?_) (fun g h0 h1 h2 => ?_)
 ·rw [qlh] at h1
  have h3:g=0∨g=1∨g=2∨g=3:=by omega
  rcases h3 with rfl|rfl|rfl|rfl <;> decide
 ·obtain⟨v,hv,rfl⟩:=hg
  have:v=0:=by simp [exIT] at hv;exact hv
  subst this;decide
 ·rw [qe3] at hi ⊢
  have h3:i=0∨i=1∨i=2:=by simp at hi;omega
  rcases h3 with rfl|rfl|rfl <;> decide
 ·rw [qlh] at h1
  have d0:Der (unT exIT) (StF exIT.vars [0]) 0 0:=.start hst
  have d1:Der (unT exIT) (StF exIT.vars [0]) 1 2:=.fire (i:=0) (v:=fun _=>0) (m:=0) (by decide) (by decide) (fun n hn=>by rw [qe3] at hn;rw [List.mem_singleton.1 hn];exact d0) (fun _ _=>Int.le_refl _)
  have d2:Der (unT exIT) (StF exIT.vars [0]) 2 4:=.fire (i:=1) (v:=fun _=>2) (m:=2) (by decide) (by decide) (fun n hn=>by rw [qe3] at hn;rw [List.mem_singleton.1 hn];exact d1) (fun _ _=>Int.le_refl _)
  have d3:Der (unT exIT) (StF exIT.vars [0]) 3 6:=.fire (i:=2) (v:=fun _=>4) (m:=4) (by decide) (by decide) (fun n hn=>by rw [qe3] at hn;rw [List.mem_singleton.1 hn];exact d2) (fun _ _=>Int.le_refl _)
  have h3:g=0∨g=1∨g=2∨g=3:=by omega
  rcases h3 with rfl|rfl|rfl|rfl
  ·exact d0
  ·exact d1
  ·exact d2
  ·exact d3
theorem qli:estV exIT (blindH exIT) [0]=2:=by unfold estV;rw [if_pos (by decide)];decide
theorem qmA:estV exIT (blindH exIT) [3]=0:=by unfold estV;rw [if_pos (by decide)];decide
theorem qlj:estV exIT (hmaxH exIT) [0]=6:=by unfold estV;rw [if_pos (by decide),qjV (by decide) qlX];decide
theorem qmB:estV exIT (bestH exIT [blindH exIT,hmaxH exIT]) [0]=6:=by
 have h:bestH exIT [blindH exIT,hmaxH exIT] [0]=max (max 0 (estV exIT (blindH exIT) [0])) (estV exIT (hmaxH exIT) [0]):=rfl
 unfold estV
 rw [if_pos (by decide),h,qli,qlj];decide
set_option maxRecDepth 8000 in
set_option maxHeartbeats 4000000 in
theorem qdz {w0:World} :
  Calls Tryz.prog 5 #[] w0 fun e w'=>e=.returned (.bool true)∧Sat w0 w' []:=by
 have hw:=Sat.start w0
 refine qaf (args:=[]) mixed Tryz.func5 rfl (by kernel_rfl) (Nat.le_of_ble_eq_true rfl) ?_
 repeat (first|refine qac ?_|(refine qaa ?_;clear hw;intro p w hw)|(refine qae ?_;clear hw;intro w hw)|(refine qab ?_;clear hw;intro s w hw))
 refine qag rfl qgh ?_
 rintro _ w' ⟨a,b,c,d,vs,rfl,hk'⟩
 replace hw:=hw.call1 hk'
 clear hk'
 refine⟨_,rfl,?_⟩
 repeat (first|refine qac ?_|(refine qaa ?_;clear hw;intro p w hw)|(refine qae ?_;clear hw;intro w hw)|(refine qab ?_;clear hw;intro s w hw))
 have ht0:=hw.rdE 1 rfl
 have o1:=ht0.vars.one
 have o2:=ht0.init.one
 have o3:=ht0.goal.one
 have o4:=ht0.ops.rs.one
 clear ht0
 repeat (first|refine qac ?_|(refine qaa ?_;clear hw;intro p w hw)|(refine qab ?_;clear hw;intro s w hw))
 obtain⟨p1,hp1⟩:∃ p1,p1=p:=⟨p,rfl⟩
 subst hp1
 refine qaS (n:=4) (p:=p1) (vs:=[a,b,c,d]) rfl rfl hw inferInstance rfl rfl (by simp only [List.all_cons,List.all_nil,o1,o2,o3,o4];rfl) ?_
 clear hw
 intro w hw
 repeat (first|refine qac ?_|(refine qaa ?_;clear hw;intro p w hw)|(refine qae ?_;clear hw;intro w hw)|(refine qab ?_;clear hw;intro s w hw))
 refine qag rfl (qiE (hw.rdE 1 rfl) qcM) ?_
 rintro _ w' ⟨pa,rfl,hk'⟩
 replace hw:=hw.call1 hk'
 clear hk'
 refine⟨_,rfl,?_⟩
 repeat (first|refine qac ?_|(refine qaa ?_;clear hw;intro p w hw)|(refine qae ?_;clear hw;intro w hw)|(refine qab ?_;clear hw;intro s w hw))
 refine qag rfl (qj6 (hw.rdE 2 rfl) qcM) ?_
 rintro _ w' ⟨pb,rfl,hk'⟩
 replace hw:=hw.call1 hk'
 clear hk'
 refine⟨_,rfl,?_⟩
 repeat (first|refine qac ?_|(refine qaa ?_;clear hw;intro p w hw)|(refine qae ?_;clear hw;intro w hw)|(refine qab ?_;clear hw;intro s w hw))
 refine qbP (T:=tVal) [.pointer (some pa),.pointer (some pb)] [.pointer (some pa),.pointer (some pb)] rfl rfl rfl rfl rfl (by decide) (by decide) (by decide) hw ?_
 clear hw
 intro lv w hw
 have hlv:RS tVal w lv ([some pa,some pb].map Value.pointer):=rsO (s:=lv) hw
 have hA:REst w pa exIT (blindH exIT):=hw.rdE 2 rfl
 have hB:REst w pb exIT (hmaxH exIT):=hw.rdE 1 rfl
 have hbst:bstE [some pa,some pb] [exIT,exIT]=0:=by
  unfold bstE
  rw [if_neg (by simp),if_neg]
  rintro⟨i,hi,hne⟩
  have h0:i=0∨i=1:=by simp at hi;omega
  rcases h0 with rfl|rfl <;> exact hne rfl
 refine qag rfl (qik (ps:=[some pa,some pb]) (us:=[exIT,exIT]) (Hs:=[blindH exIT,hmaxH exIT]) hlv (show 2≤1048576 by decide) rfl (fun i hi p hp=>by
  have h0:i=0∨i=1:=by simp at hi;omega
  rcases h0 with rfl|rfl
  ·obtain rfl:pa=p:=Option.some.inj hp
   exact hA
  ·obtain rfl:pb=p:=Option.some.inj hp
   exact hB) qcM) ?_
 rintro _ w' (⟨h1,_⟩|⟨_,pc,rfl,hk'⟩)
 ·exact absurd hbst h1
 replace hw:=hw.call1 hk'
 clear hk' hA hB hlv
 refine⟨_,rfl,?_⟩
 have hw2:Sat w0 w' [RdH (fun w=>REst w pc exIT (bestH exIT [blindH exIT,hmaxH exIT])∧REst w pb exIT (hmaxH exIT)∧REst w pa exIT (blindH exIT)),Box p1 26 [a,b,c,d],RdH fun w=>RTask w a b c d vs exIT]:=by
  have g2:Sat w0 w' [RdH (fun w=>REsts w [some pa,some pb] exIT [blindH exIT,hmaxH exIT]→REst w pc exIT (bestH exIT [blindH exIT,hmaxH exIT])),OS tVal 29 lv [.pointer (some pa),.pointer (some pb)],RdH (fun w=>REst w pb exIT (hmaxH exIT)),RdH (fun w=>REst w pa exIT (blindH exIT)),Box p1 26 [a,b,c,d],RdH fun w=>RTask w a b c d vs exIT]:=hw
  exact Sat.rd (Δ:=[RdH (fun w=>REsts w [some pa,some pb] exIT [blindH exIT,hmaxH exIT]→REst w pc exIT (bestH exIT [blindH exIT,hmaxH exIT])),OS tVal 29 lv [.pointer (some pa),.pointer (some pb)],RdH (fun w=>REst w pb exIT (hmaxH exIT)),RdH (fun w=>REst w pa exIT (blindH exIT))]) (fun _ w h=>⟨(h.rdE 0 rfl) (fun i hi=>by
   have h0:i=0∨i=1:=by simp at hi;omega
   rcases h0 with rfl|rfl
   ·exact⟨pa,rfl,h.rdE 3 rfl⟩
   ·exact⟨pb,rfl,h.rdE 2 rfl⟩),h.rdE 2 rfl,h.rdE 3 rfl⟩) g2
 clear hw
 have hw:=hw2
 clear hw2
 repeat (first|refine qac ?_|(refine qaa ?_;clear hw;intro p w hw)|(refine qae ?_;clear hw;intro w hw)|(refine qab ?_;clear hw;intro s w hw))
 refine qag rfl (qaW (hw.rdE 1 rfl).2.2 (rsO (s:=s) hw)) ?_
 rintro _ w' ⟨rfl,hk'⟩
 replace hw:=hw.call0 hk'
 clear hk'
 refine⟨_,rfl,?_⟩
 rw [qli]
 repeat (first|refine qac ?_|(refine qaa ?_;clear hw;intro p w hw)|(refine qae ?_;clear hw;intro w hw)|(refine qab ?_;clear hw;intro s w hw))
 refine qag rfl (qaW (hw.rdE 2 rfl).2.1 (rsO (s:=s) hw)) ?_
 rintro _ w' ⟨rfl,hk'⟩
 replace hw:=hw.call0 hk'
 clear hk'
 refine⟨_,rfl,?_⟩
 rw [qlj]
 repeat (first|refine qac ?_|(refine qaa ?_;clear hw;intro p w hw)|(refine qae ?_;clear hw;intro w hw)|(refine qab ?_;clear hw;intro s w hw))
 refine qag rfl (qaW (hw.rdE 3 rfl).1 (rsO (s:=s) hw)) ?_
 rintro _ w' ⟨rfl,hk'⟩
 replace hw:=hw.call0 hk'
 clear hk'
 refine⟨_,rfl,?_⟩
 rw [qmB]
 repeat (first|refine qac ?_|(refine qaa ?_;clear hw;intro p w hw)|(refine qae ?_;clear hw;intro w hw)|(refine qab ?_;clear hw;intro s w hw))
 refine qag rfl (qaW (hw.rdE 4 rfl).2.2 (rsO (s:=s) hw)) ?_
 rintro _ w' ⟨rfl,hk'⟩
 replace hw:=hw.call0 hk'
 clear hk'
 refine⟨_,rfl,?_⟩
 rw [qmA]
 repeat (first|refine qac ?_|(refine qaa ?_;clear hw;intro p w hw)|(refine qae ?_;clear hw;intro w hw)|(refine qab ?_;clear hw;intro s w hw))
 refine qag rfl (qj1 (hw.rdE 4 rfl).1 (hw.rdE 6 rfl)) ?_
 rintro _ w' ⟨⟨r,rfl,hr⟩,hk'⟩
 replace hw:=hw.call0 hk'
 clear hk'
 refine⟨_,rfl,?_⟩
 have hr1:r=true:=hr.2 rfl
 subst hr1
 repeat (first|refine qac ?_|(refine qaa ?_;clear hw;intro p w hw)|(refine qae ?_;clear hw;intro w hw)|(refine qab ?_;clear hw;intro s w hw))
 exact qai (v:=.bool true) rfl rfl ⟨rfl,qas hw⟩
end Go.Proofs.YtdadmnlenbdfbaaGreat
/-
  The statement 'EstimateBlind' returns true.
-/
namespace Go.Proofs.YtdadmnlenbdfbaaGreat
open Go.Sl Go
attribute [local irreducible] vc opsW opsD opV opW PureV ReadV Thn Blk
theorem dTrueE {h:Decidable True}:@decide True h=true:=decide_eq_true trivial
end Go.Proofs.YtdadmnlenbdfbaaGreat
