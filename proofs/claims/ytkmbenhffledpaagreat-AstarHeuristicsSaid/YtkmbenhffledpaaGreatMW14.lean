/-
  Several texts as one: WASrch, WVis, WRun, WI50.
-/
import Derived.Test.YtkmbenhffledpaaGreatMW13
import Derived.Test.YtkmbenhffledpaaGreatMW12
import Derived.Test.YtkmbenhffledpaaGreatMTA
import Derived.Test.YtkmbenhffledpaaGreatMSlB
import Derived.Test.YtkmbenhffledpaaGreatMW9
set_option linter.unusedSimpArgs false
set_option linter.unusedVariables false
/-
  Contracts of A*'s 'begin', 'Search', 'Bounded'.
-/
namespace Go.Proofs.YtkmbenhffledpaaGreat
open Go.Sl Go
attribute [local irreducible] vc opsW opsD opV opW PureV ReadV Thn Blk
def EstA (w0:World) (ev:Value) (t:TTask) (H:List Int→Int):Prop:=(ev=.pointer none∧H=blindH t)∨∃ pe,ev=.pointer (some pe)∧REst w0 pe t H
theorem EstA.at {w0 w:World}{Γ:List HP}{ev:Value}{t:TTask}{H:List Int→Int}(h:EstA w0 ev t H) (hw:Sat w0 w Γ):EstA w ev t H:=by
 rcases h with ⟨h1,h2⟩|⟨pe,h1,h2⟩
 ·exact .inl ⟨h1,h2⟩
 ·exact .inr ⟨pe,h1,h2.at hw⟩
set_option maxRecDepth 8000 in
set_option maxHeartbeats 8000000 in
theorem qgP {w0:World}{a b c d ev:Value}{vs:List OpV}{t:TTask}{H:List Int→Int}(ht:RTask w0 a b c d vs t) (hH:HOk t H) (he:EstA w0 ev t H) :
  Calls Tryz.prog 57 #[.agg #[a,b,c,d],ev] w0 fun e w'=>∃ q pe pg pr,e=.returned (.tuple #[.pointer (some q),.nilIface]) ∧
   ((ev=.pointer (some pe)∧Sat w0 w' [Box q 154 [a,b,c,d,.pointer (some pe),.pointer (some pg),.pointer (some pr),.slice none 0 0,.slice none 0 0,.slice none 0 0,.slice none 0 0,.int .i64 0,.bool false,.int .i64 0,.int .i64 0],RegH pr t.vars [] [],RdH fun w=>RGen w pg t]) ∨
    (ev=.pointer none∧H=blindH t∧Sat w0 w' [Box q 154 [a,b,c,d,.pointer (some pe),.pointer (some pg),.pointer (some pr),.slice none 0 0,.slice none 0 0,.slice none 0 0,.slice none 0 0,.int .i64 0,.bool false,.int .i64 0,.int .i64 0],RegH pr t.vars [] [],RdH fun w=>RGen w pg t,RdH fun w=>REst w pe t H])):=by
 have hg:=hH.good
 have hch:=(qbk t).2 hg
 have hw:=Sat.start w0
 obtain⟨ea,hea⟩:∃ ea:Option Addr,ev=.pointer ea:=by
  rcases he with ⟨rfl,_⟩|⟨pe,rfl,_⟩
  ·exact⟨none,rfl⟩
  ·exact⟨some pe,rfl⟩
 subst hea
 refine qab (args:=[.agg #[a,b,c,d],.pointer ea]) mixed Tryz.func57 rfl (by kernel_rfl) (Nat.le_of_ble_eq_true rfl) ?_
 refine qbV ?_
 refine qaS ?_
 refine qcx ?_
 clear hw
 intro pt w hw
 replace hw:Sat w0 w [Box pt 26 [a,b,c,d]]:=hw
 repeat refine qaa ?_
 refine qac rfl (qa6 (ht.at hw)) ?_
 rintro _ w' ⟨rfl,hk'⟩
 replace hw:=hw.call0 hk'
 clear hk'
 refine⟨_,rfl,?_⟩
 rw [qaT hch]
 rcases he with ⟨h1,hHb⟩|⟨pe,h1,hest⟩
 ·have h2:ea=none:=by injection h1
  subst h2
  repeat refine qaa ?_
  refine qac rfl (qhW (ht.at hw) hg) ?_
  rintro _ w' ⟨pe,rfl,hk'⟩
  replace hw:=hw.call1 hk'
  clear hk'
  refine⟨_,rfl,?_⟩
  repeat refine qaa ?_
  refine qac rfl (qkc (ht.at hw) hg) ?_
  rintro _ w' ⟨pg,rfl,hk'⟩
  replace hw:=hw.call1 hk'
  clear hk'
  refine⟨_,rfl,?_⟩
  repeat refine qaa ?_
  refine qac rfl (qhS (ht.at hw).vars hg.vars hg.dom) ?_
  rintro _ w' ⟨pr,rfl,hk'⟩
  replace hw:=hw.call1 hk'
  clear hk'
  refine⟨_,rfl,?_⟩
  have o1:=(ht.vars.at hw).cells1
  have o2:=(ht.init.at hw).cells1
  have o3:=(ht.goal.at hw).cells1
  have o4:=(ht.ops.rs.at hw).cells1
  repeat refine qaa ?_
  refine qa8 (vs:=[(0,.agg #[a,b,c,d]),(1,.pointer (some pe)),(2,.pointer (some pg)),(3,.pointer (some pr))]) (ls:=[(0,[a,b,c,d]),(1,[.pointer (some pe)]),(2,[.pointer (some pg)]),(3,[.pointer (some pr)])]) rfl rfl rfl ?_
  refine qaV (vs:=[a,b,c,d,.pointer (some pe),.pointer (some pg),.pointer (some pr),.slice none 0 0,.slice none 0 0,.slice none 0 0,.slice none 0 0,.int .i64 0,.bool false,.int .i64 0,.int .i64 0]) rfl hw ?_
  clear hw
  intro q w hw
  repeat refine qaa ?_
  subst hHb
  exact qav (v:=.pointer (some q)) (v':=.nilIface) rfl rfl rfl ⟨q,pe,pg,pr,rfl,.inr ⟨rfl,rfl,hw.sel⟩⟩
 ·have h2:ea=some pe:=by injection h1
  subst h2
  repeat refine qaa ?_
  refine qac rfl (qpN (hest.at hw) (ht.at hw)) ?_
  rintro _ w' ⟨⟨r,rfl,hr⟩,hk'⟩
  replace hw:=hw.call0 hk'
  clear hk'
  refine⟨_,rfl,?_⟩
  have hrt:r=true:=hr.2 rfl
  subst hrt
  repeat refine qaa ?_
  refine qac rfl (qkc (ht.at hw) hg) ?_
  rintro _ w' ⟨pg,rfl,hk'⟩
  replace hw:=hw.call1 hk'
  clear hk'
  refine⟨_,rfl,?_⟩
  repeat refine qaa ?_
  refine qac rfl (qhS (ht.at hw).vars hg.vars hg.dom) ?_
  rintro _ w' ⟨pr,rfl,hk'⟩
  replace hw:=hw.call1 hk'
  clear hk'
  refine⟨_,rfl,?_⟩
  have o1:=(ht.vars.at hw).cells1
  have o2:=(ht.init.at hw).cells1
  have o3:=(ht.goal.at hw).cells1
  have o4:=(ht.ops.rs.at hw).cells1
  repeat refine qaa ?_
  refine qa8 (vs:=[(0,.agg #[a,b,c,d]),(1,.pointer (some pe)),(2,.pointer (some pg)),(3,.pointer (some pr))]) (ls:=[(0,[a,b,c,d]),(1,[.pointer (some pe)]),(2,[.pointer (some pg)]),(3,[.pointer (some pr)])]) rfl rfl rfl ?_
  refine qaV (vs:=[a,b,c,d,.pointer (some pe),.pointer (some pg),.pointer (some pr),.slice none 0 0,.slice none 0 0,.slice none 0 0,.slice none 0 0,.int .i64 0,.bool false,.int .i64 0,.int .i64 0]) rfl hw ?_
  clear hw
  intro q w hw
  repeat refine qaa ?_
  exact qav (v:=.pointer (some q)) (v':=.nilIface) rfl rfl rfl ⟨q,pe,pg,pr,rfl,.inl ⟨rfl,hw.sel⟩⟩
set_option maxRecDepth 8000 in
set_option maxHeartbeats 8000000 in
theorem qbr {w0:World}{a b c d ev:Value}{vs:List OpV}{t:TTask}{H:List Int→Int}{L:Int}{lim:Nat}(ht:RTask w0 a b c d vs t) (hH:HOk t H) (he:EstA w0 ev t H) (hlim:lim=L.toNat) (hL:L≤1048576) (hN:prodL t.vars≤512∨1+lim*t.ops.length<65536) :
  Calls Tryz.prog 26 #[.agg #[a,b,c,d],ev,.int .i64 L] w0 fun e w'=>∃ pv p,e=.returned (.tuple #[.agg #[.int .i64 (vdA (srchA ⟨t,H,none⟩ lim).1),pv,.int .i64 (coL t p),.int .i64 (srchA ⟨t,H,none⟩ lim).2.ex.length],.nilIface])∧PlanR (srchA ⟨t,H,none⟩ lim) p∧Sat w0 w' [OS tInt 3 pv p]:=by
 have hw:=Sat.start w0
 refine qab (args:=[.agg #[a,b,c,d],ev,.int .i64 L]) mixed Tryz.func26 rfl (by kernel_rfl) (Nat.le_of_ble_eq_true rfl) ?_
 refine qbV ?_
 refine qaS ?_
 refine qcx ?_
 clear hw
 intro pt w hw
 replace hw:Sat w0 w [Box pt 26 [a,b,c,d]]:=hw
 repeat (first|refine qaa ?_|(refine qaf ?_;clear hw;intro p w hw))
 obtain⟨px,hpx⟩:∃ px,px=p:=⟨p,rfl⟩
 subst hpx
 refine qac rfl (qgP (ht.at hw) hH (he.at hw)) ?_
 rintro _ w' ⟨q,pe,pg,pr,rfl,hk'⟩
 have hex:∃ Γe,Qty w0 Γe (fun w=>REst w pe t H)∧Sat w0 w' (Box q 154 [a,b,c,d,.pointer (some pe),.pointer (some pg),.pointer (some pr),.slice none 0 0,.slice none 0 0,.slice none 0 0,.slice none 0 0,.int .i64 0,.bool false,.int .i64 0,.int .i64 0]::RegH pr t.vars [] []::RdH (fun w=>RGen w pg t)::Box px 47 [.int .i64 0,.slice none 0 0,.int .i64 0,.int .i64 0]::Γe):=by
  rcases hk' with ⟨h1,hk'⟩|⟨h1,h2,hk'⟩
  ·rcases he with ⟨h3,_⟩|⟨pe2,h3,h4⟩
   ·rw [h3] at h1;cases h1
   ·have e1:pe2=pe:=by rw [h3] at h1;injection h1 with h1;injection h1
    subst e1
    have h5:Sat w0 w' [Box q 154 [a,b,c,d,.pointer (some pe2),.pointer (some pg),.pointer (some pr),.slice none 0 0,.slice none 0 0,.slice none 0 0,.slice none 0 0,.int .i64 0,.bool false,.int .i64 0,.int .i64 0],RegH pr t.vars [] [],RdH fun w=>RGen w pg t,Box px 47 [.int .i64 0,.slice none 0 0,.int .i64 0,.int .i64 0],Box pt 26 [a,b,c,d]]:=hw.call hk'
    exact⟨[],Qty.of fun w Γ' h=>h4.at h,h5.sel⟩
  ·have h5:Sat w0 w' [Box q 154 [a,b,c,d,.pointer (some pe),.pointer (some pg),.pointer (some pr),.slice none 0 0,.slice none 0 0,.slice none 0 0,.slice none 0 0,.int .i64 0,.bool false,.int .i64 0,.int .i64 0],RegH pr t.vars [] [],RdH fun w=>RGen w pg t,RdH fun w=>REst w pe t H,Box px 47 [.int .i64 0,.slice none 0 0,.int .i64 0,.int .i64 0],Box pt 26 [a,b,c,d]]:=hw.call hk'
   exact⟨[RdH fun w=>REst w pe t H],Qty.rd,h5.sel⟩
 clear hw hk'
 obtain⟨Γe,hKe,hw⟩:=hex
 refine⟨_,rfl,?_⟩
 repeat refine qaa ?_
 refine qac rfl (qkk (A:=⟨t,H,none⟩) hlim hH hL hN (.inl ⟨rfl,rfl⟩) (Qty.of fun w Γ' h=>ht.at h) ((hKe.more (Box px 47 [.int .i64 0,.slice none 0 0,.int .i64 0,.int .i64 0])).more _) Qty.rd hw) ?_
 clear hw
 rintro _ w' ⟨pv,p,rfl,hP,hw⟩
 refine⟨_,rfl,?_⟩
 have opv:=(rsO (s:=pv) hw).one
 generalize srchA _ lim=R at hP ⊢
 repeat refine qaa ?_
 refine qat (n:=4) (p:=px) (vs:=[.int .i64 (vdA R.1),pv,.int .i64 (coL t p),.int .i64 R.2.ex.length]) rfl rfl hw inferInstance rfl rfl (by simp only [List.all_cons,List.all_nil,opv];rfl) ?_
 clear hw
 intro w hw
 repeat refine qaa ?_
 exact qaL (p:=px) (vs:=[.int .i64 (vdA R.1),pv,.int .i64 (coL t p),.int .i64 R.2.ex.length]) rfl rfl rfl rfl (hw.boxR 2 rfl) ⟨pv,p,rfl,hP,hw.only⟩
set_option maxRecDepth 8000 in
set_option maxHeartbeats 8000000 in
theorem qi4 {w0:World}{a b c d ev:Value}{vs:List OpV}{t:TTask}{H:List Int→Int}{L bd:Int}{lim:Nat}(ht:RTask w0 a b c d vs t) (hH:HOk t H) (he:EstA w0 ev t H) (hlim:lim=L.toNat) (hL:L≤1048576) (hN:prodL t.vars≤512∨1+lim*t.ops.length<65536) :
  Calls Tryz.prog 52 #[.agg #[a,b,c,d],ev,.int .i64 L,.int .i64 bd] w0 fun e w'=>∃ pv p,e=.returned (.tuple #[.agg #[.int .i64 (vdA (srchA ⟨t,H,some bd⟩ lim).1),pv,.int .i64 (coL t p),.int .i64 (srchA ⟨t,H,some bd⟩ lim).2.ex.length],.nilIface])∧PlanR (srchA ⟨t,H,some bd⟩ lim) p∧Sat w0 w' [OS tInt 3 pv p]:=by
 have hw:=Sat.start w0
 refine qab (args:=[.agg #[a,b,c,d],ev,.int .i64 L,.int .i64 bd]) mixed Tryz.func52 rfl (by kernel_rfl) (Nat.le_of_ble_eq_true rfl) ?_
 refine qbV ?_
 refine qaS ?_
 refine qcx ?_
 clear hw
 intro pt w hw
 replace hw:Sat w0 w [Box pt 26 [a,b,c,d]]:=hw
 repeat (first|refine qaa ?_|(refine qaf ?_;clear hw;intro p w hw))
 obtain⟨px,hpx⟩:∃ px,px=p:=⟨p,rfl⟩
 subst hpx
 refine qac rfl (qgP (ht.at hw) hH (he.at hw)) ?_
 rintro _ w' ⟨q,pe,pg,pr,rfl,hk'⟩
 have hex:∃ Γe,Qty w0 Γe (fun w=>REst w pe t H)∧Sat w0 w' (Box q 154 [a,b,c,d,.pointer (some pe),.pointer (some pg),.pointer (some pr),.slice none 0 0,.slice none 0 0,.slice none 0 0,.slice none 0 0,.int .i64 0,.bool false,.int .i64 0,.int .i64 0]::RegH pr t.vars [] []::RdH (fun w=>RGen w pg t)::Box px 47 [.int .i64 0,.slice none 0 0,.int .i64 0,.int .i64 0]::Γe):=by
  rcases hk' with ⟨h1,hk'⟩|⟨h1,h2,hk'⟩
  ·rcases he with ⟨h3,_⟩|⟨pe2,h3,h4⟩
   ·rw [h3] at h1;cases h1
   ·have e1:pe2=pe:=by rw [h3] at h1;injection h1 with h1;injection h1
    subst e1
    have h5:Sat w0 w' [Box q 154 [a,b,c,d,.pointer (some pe2),.pointer (some pg),.pointer (some pr),.slice none 0 0,.slice none 0 0,.slice none 0 0,.slice none 0 0,.int .i64 0,.bool false,.int .i64 0,.int .i64 0],RegH pr t.vars [] [],RdH fun w=>RGen w pg t,Box px 47 [.int .i64 0,.slice none 0 0,.int .i64 0,.int .i64 0],Box pt 26 [a,b,c,d]]:=hw.call hk'
    exact⟨[],Qty.of fun w Γ' h=>h4.at h,h5.sel⟩
  ·have h5:Sat w0 w' [Box q 154 [a,b,c,d,.pointer (some pe),.pointer (some pg),.pointer (some pr),.slice none 0 0,.slice none 0 0,.slice none 0 0,.slice none 0 0,.int .i64 0,.bool false,.int .i64 0,.int .i64 0],RegH pr t.vars [] [],RdH fun w=>RGen w pg t,RdH fun w=>REst w pe t H,Box px 47 [.int .i64 0,.slice none 0 0,.int .i64 0,.int .i64 0],Box pt 26 [a,b,c,d]]:=hw.call hk'
   exact⟨[RdH fun w=>REst w pe t H],Qty.rd,h5.sel⟩
 clear hw hk'
 obtain⟨Γe,hKe,hw⟩:=hex
 refine⟨_,rfl,?_⟩
 repeat (first|refine qaa ?_|(refine qai ?_;clear hw;intro w hw))
 simp only [List.set_cons_succ,List.set_cons_zero] at hw
 refine qac rfl (qkk (A:=⟨t,H,some bd⟩) hlim hH hL hN (.inr ⟨bd,rfl,rfl,rfl⟩) (Qty.of fun w Γ' h=>ht.at h) ((hKe.more (Box px 47 [.int .i64 0,.slice none 0 0,.int .i64 0,.int .i64 0])).more _) Qty.rd hw) ?_
 clear hw
 rintro _ w' ⟨pv,p,rfl,hP,hw⟩
 refine⟨_,rfl,?_⟩
 have opv:=(rsO (s:=pv) hw).one
 generalize srchA _ lim=R at hP ⊢
 repeat refine qaa ?_
 refine qat (n:=4) (p:=px) (vs:=[.int .i64 (vdA R.1),pv,.int .i64 (coL t p),.int .i64 R.2.ex.length]) rfl rfl hw inferInstance rfl rfl (by simp only [List.all_cons,List.all_nil,opv];rfl) ?_
 clear hw
 intro w hw
 repeat refine qaa ?_
 exact qaL (p:=px) (vs:=[.int .i64 (vdA R.1),pv,.int .i64 (coL t p),.int .i64 R.2.ex.length]) rfl rfl rfl rfl (hw.boxR 2 rfl) ⟨pv,p,rfl,hP,hw.only⟩
end Go.Proofs.YtkmbenhffledpaaGreat
/-
  Contract of 'idastar.visit': a visit, as the plain recursion.
-/
namespace Go.Proofs.YtkmbenhffledpaaGreat
open Go.Sl Go
attribute [local irreducible] vc opsW opsD opV opW PureV ReadV Thn Blk
end Go.Proofs.YtkmbenhffledpaaGreat
/-
  Contract of 'idastar.run': all rounds.
-/
namespace Go.Proofs.YtkmbenhffledpaaGreat
open Go.Sl Go
attribute [local irreducible] vc opsW opsD opV opW PureV ReadV Thn Blk
end Go.Proofs.YtkmbenhffledpaaGreat
/-
  The example with which each statement of layer 50 begins.
-/
namespace Go.Proofs.YtkmbenhffledpaaGreat
open Go.Sl Go
attribute [local irreducible] vc opsW opsD opV opW PureV ReadV Thn Blk
def OpsI (vs:List OpV) (os:List TOp) (w:World):Prop:=vs.length=os.length∧∀ i,i<os.length→ROp w (eget tOp vs i) (os.getD i dOp)
theorem OpsI.snoc {vs:List OpV}{os:List TOp}{v:OpV}{o:TOp}{w:World}(h:OpsI vs os w) (hv:ROp w v o):OpsI (vs++[v]) (os++[o]) w:=by
 refine⟨by simp [h.1],fun i hi => ?_⟩
 have hl:=h.1
 rw [qaB]
 by_cases hk:i<os.length
 ·have h1:(vs++[v]).getD i tOp.dflt=vs.getD i tOp.dflt:=by simp [List.getD_eq_getElem?_getD,List.getElem?_append_left (show i<vs.length by omega)]
  have h2:(os++[o]).getD i dOp=os.getD i dOp:=by simp [List.getD_eq_getElem?_getD,List.getElem?_append_left hk]
  rw [h1,h2,←qaB]
  exact h.2 i hk
 ·have hi':i=os.length:=by simp at hi;omega
  subst hi'
  have h1:(vs++[v]).getD os.length tOp.dflt=v:=by rw [←hl];simp [List.getD_eq_getElem?_getD]
  have h2:(os++[o]).getD os.length dOp=o:=by simp [List.getD_eq_getElem?_getD]
  rw [h1,h2]
  exact hv
theorem irop {w0 w:World}{pv ev:Value}{cost x k:Int}(hw:Sat w0 w [OS tEff 80 ev [⟨.slice none 0 0,0,k⟩],OS tFact 77 pv [⟨0,x⟩]]):ROp w ⟨ByteArray.empty,cost,pv,ev⟩ ⟨ByteArray.empty,cost,[⟨0,x⟩],[⟨[],0,k⟩]⟩:=by
 refine⟨rfl,Nat.le_of_ble_eq_true rfl,rfl,hw.rs 1 rfl,[⟨.slice none 0 0,0,k⟩],hw.rs 0 rfl,rfl,fun j hj => ?_⟩
 have h0:j=0:=by simp at hj;exact hj
 subst h0
 rw [qaB]
 exact⟨rfl,rfl,RS.nil⟩
end Go.Proofs.YtkmbenhffledpaaGreat
