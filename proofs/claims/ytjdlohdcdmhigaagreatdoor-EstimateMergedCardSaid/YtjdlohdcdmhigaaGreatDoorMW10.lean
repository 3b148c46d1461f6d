/-
  Several texts as one: TIda4, WEst3, WSucB, WSucN.
-/
import Derived.Test.YtjdlohdcdmhigaaGreatDoorMW9
import Derived.Test.YtjdlohdcdmhigaaGreatDoorMW5
import Derived.Test.YtjdlohdcdmhigaaGreatDoorMTA
set_option linter.unusedSimpArgs false
set_option linter.unusedVariables false
/-
  The tables that the statements of layer 50 use.
-/
namespace Go.Proofs.YtjdlohdcdmhigaaGreatDoor
open Go.Sl
section
variable {t:TTask}{D less:List Int}
end
end Go.Proofs.YtjdlohdcdmhigaaGreatDoor
/-
  Contracts of 'slices.ContainsFunc' over ints for any predicate, and of 'estimate.Blind' and 'estimate.Table'.
-/
namespace Go.Proofs.YtjdlohdcdmhigaaGreatDoor
open Go.Sl Go
attribute [local irreducible] vc opsW opsD opV opW PureV ReadV Thn Blk
def AskF (w0:World) (f:Nat) (cs:List Value) (P:Int→Prop) (xs:List Int):Prop:=∀ (w:World) (Γ:List HP),Sat w0 w Γ→∀ x∈xs,Calls Tryz.prog f ([Value.int .i64 x]++cs).toArray w fun e w'=>(∃ r,e=.returned (.bool r)∧(r=true↔P x))∧Sat w w' []
set_option maxRecDepth 8000 in
theorem qol {w0:World}{a:Value}{xs:List Int}{f:Nat}{cs:List Value}{P:Int→Prop} [CallT Tryz.prog f] (ha:RS tInt w0 a xs) (hf:AskF w0 f cs P xs) :
  Calls Tryz.prog 89 #[a,.func (.func f) #[] cs.toArray] w0 fun e w'=>(∃ r:Int,e=.returned (.int .i64 r)∧(0≤r↔∃ x∈xs,P x))∧Sat w0 w' []:=by
 have hla:=ha.big
 have hw:=Sat.start w0
 refine qaf (args:=[a,.func (.func f) #[] cs.toArray]) mixed Tryz.func89 rfl (by kernel_rfl) (Nat.le_of_ble_eq_true rfl) ?_
 repeat (first|refine qac ?_|(refine qaa ?_;clear hw;intro p w hw)|(refine qae ?_;clear hw;intro w hw)|(refine qab ?_;clear hw;intro s w hw))
 refine qak [4,5,8,9,10,11,12,13,14,15,16,17,18] (G:=Nat) (fun k=>[(8,.int .i64 k)]) (fun k w=>k≤xs.length∧(∀ i,i<k→¬P (xs.getD i tInt.dflt))∧Sat w0 w []) (fun k=>xs.length-k) 0 (fun _=>rfl) ⟨rfl,trivial⟩ ⟨Nat.zero_le _,fun i hi=>absurd hi (Nat.not_lt_zero _),hw⟩ ?_
 clear hw
 rintro σ k w ⟨hk,hpre,hw⟩
 repeat (first|refine qac ?_|(refine qaa ?_;clear hw;intro p w hw)|(refine qae ?_;clear hw;intro w hw)|(refine qab ?_;clear hw;intro s w hw))
 refine go_if (fun h1 => ?_) (fun h1 => ?_)
 ·have hkl:k<xs.length:=by omega
  repeat (first|refine qac ?_|(refine qaa ?_;clear hw;intro p w hw)|(refine qae ?_;clear hw;intro w hw)|(refine qab ?_;clear hw;intro s w hw))
  refine qbu (cs:=cs) rfl rfl (hf _ _ hw _ (qal tInt.dflt hkl)) ?_
  rintro _ w' ⟨⟨r,rfl,hr⟩,hk'⟩
  replace hw:=hw.call0 hk'
  clear hk'
  refine⟨_,rfl,?_⟩
  cases r
  ·have h2:¬P (xs.getD k tInt.dflt):=fun h=>by cases hr.2 h
   repeat (first|refine qac ?_|(refine qaa ?_;clear hw;intro p w hw)|(refine qae ?_;clear hw;intro w hw)|(refine qab ?_;clear hw;intro s w hw))
   refine⟨k+1,⟨rfl,trivial⟩,agr,⟨by omega,fun i hi => ?_,hw⟩,by omega⟩
   by_cases h:i=k
   ·subst h;exact h2
   ·exact hpre i (by omega)
  ·repeat (first|refine qac ?_|(refine qaa ?_;clear hw;intro p w hw)|(refine qae ?_;clear hw;intro w hw)|(refine qab ?_;clear hw;intro s w hw))
   exact qai (v:=.int .i64 k) rfl rfl ⟨⟨k,rfl,⟨fun _=>⟨_,qal tInt.dflt hkl,hr.1 rfl⟩,fun _=>by omega⟩⟩,hw⟩
 ·repeat (first|refine qac ?_|(refine qaa ?_;clear hw;intro p w hw)|(refine qae ?_;clear hw;intro w hw)|(refine qab ?_;clear hw;intro s w hw))
  refine qai (v:=.int .i64 (-1)) rfl rfl ⟨⟨-1,rfl,⟨fun h=>by omega,?_⟩⟩,hw⟩
  rintro⟨x,hx,he⟩
  obtain⟨i,hi,rfl⟩:=List.mem_iff_getElem.1 hx
  exact absurd (by rw [getD_at hi];exact he) (hpre i (by omega))
theorem qhG {t:TTask}{k:Nat}(h:k<t.ops.length):leastK t (k+1)=min (leastK t k) (t.ops.getD k dOp).cost:=by
 unfold leastK
 rw [qaj dOp h,List.foldl_append];rfl
theorem qfg {w:World}{t:TTask}{gv:Value}(h:RS tFact w gv t.goal):HVal w (.iface 113 (.agg #[gv,.int .i64 (leastC t)])) t (blindH t) :=
 ⟨_,_,_,_,rfl,qfU _,inferInstance,fun _ _ _ _ hs hsv _=>qik (h.at hs) hsv⟩
set_option maxRecDepth 8000 in
set_option maxHeartbeats 2000000 in
theorem qj7 {w0:World}{a b c d:Value}{vs:List OpV}{t:TTask}(ht:RTask w0 a b c d vs t) (hg:GoodT t) :
  Calls Tryz.prog 29 #[.agg #[a,b,c,d]] w0 fun e w'=>∃ p,e=.returned (.tuple #[.pointer (some p),.nilIface])∧Sat w0 w' [RdH fun w=>REst w p t (blindH t)]:=by
 have ht':=ht
 obtain⟨ha,hb,hc,hd⟩:=ht
 have hdr:=hd.rs
 have hdl:=hd.len
 have hgl:=qaK hg.goal
 have hvl:=hg.vars
 have hol:=hg.ops
 have hw:=Sat.start w0
 refine qaf (args:=[.agg #[a,b,c,d]]) mixed Tryz.func29 rfl (by kernel_rfl) (Nat.le_of_ble_eq_true rfl) ?_
 repeat (first|refine qac ?_|(refine qaa ?_;clear hw;intro p w hw)|(refine qae ?_;clear hw;intro w hw)|(refine qab ?_;clear hw;intro s w hw))
 obtain⟨pt,hpt⟩:∃ pt,pt=p:=⟨p,rfl⟩
 subst hpt
 refine qaq [4,6,10,11,12,13,14,15,16,17,18] (G:=Nat) (H:=Int) (fun k m=>[(10,.int .i64 k),(4,.int .i64 m)]) (fun k m w=>k≤t.ops.length∧m=leastK t k∧Sat w0 w [Box pt 26 [a,b,c,d]]) (fun k _=>t.ops.length-k) 0 inf (fun _ _=>rfl) ⟨rfl,rfl,trivial⟩ ⟨Nat.zero_le _,rfl,hw⟩ ?_
 clear hw
 rintro σ k m w ⟨hk,hm,hw⟩
 repeat (first|refine qac ?_|(refine qaa ?_;clear hw;intro p w hw)|(refine qae ?_;clear hw;intro w hw)|(refine qab ?_;clear hw;intro s w hw))
 refine go_if (fun h1 => ?_) (fun h1 => ?_)
 ·have hkl:k<t.ops.length:=by omega
  have hop:=hd.at_ k hkl
  have hone:=hop.one
  have hco:=hop.cost
  repeat (first|refine qac ?_|(refine qaa ?_;clear hw;intro p w hw)|(refine qae ?_;clear hw;intro w hw)|(refine qab ?_;clear hw;intro s w hw))
  exact⟨k+1,_,⟨rfl,rfl,trivial⟩,agr,⟨by omega,by rw [qhG hkl,hm,←hco];split <;> omega,hw.sel⟩,by omega⟩
 have hke:k=t.ops.length:=by omega
 subst hke
 have hmc:m=leastC t:=hm
 subst hmc
 repeat (first|refine qac ?_|(refine qaa ?_;clear hw;intro p w hw)|(refine qad ?_;clear hw;intro w hw)|(refine qab ?_;clear hw;intro s w hw))
 refine qdh [19,20,21,22,23,24,25,26,27,28,29,30,2,3] (G:=Addr) (fun g=>[(2,.pointer (some g)),(3,.nilIface)]) (fun g w=>Sat w0 w [RdH fun w=>REst w g t (blindH t)]) (fun _=>rfl) ?_ ?_
 ·refine qeK (.step 1 [.op 1] (.step 4 [.op 4] (.step 0 [.op 0] (.step 2 [.op 2] (.step 7 [.op 7] (.step 3 [.op 3,.chk 0,.chk 7] (.alt 5 [.op 5,.chk 0,.chk 7] (.step 6 [.op 6] (.step 8 [.op 8,.chk 0] (.step 9 [.op 9] (.step 10 [.op 10] (.step 11 [.op 11] (.step 12 [.op 12] (.step 13 [.op 13] (.lin [])))))))) (.alt 8 [.op 8,.chk 0] (.step 5 [.op 5,.chk 0,.chk 7] (.step 6 [.op 6] (.step 9 [.op 9] (.step 10 [.op 10] (.step 11 [.op 11] (.step 12 [.op 12] (.step 13 [.op 13] (.lin [])))))))) (.stop))))))))) hw (by kernel_rfl) (by kernel_rfl) ?_;clear hw;intro w hw
  repeat (first|refine qac ?_|(refine qaa ?_;clear hw;intro p w hw)|(refine qad ?_;clear hw;intro w hw)|(refine qab ?_;clear hw;intro s w hw))
  refine qah rfl (qa9 (hc.at hw) (by omega)) ?_
  rintro _ w' ⟨gv,rfl,hk'⟩
  replace hw:=hw.call1 hk'
  clear hk'
  refine⟨_,rfl,?_⟩
  have og:=(rsO (s:=gv) hw).one
  repeat (first|refine qac ?_|(refine qaa ?_;clear hw;intro p w hw)|(refine qad ?_;clear hw;intro w hw)|(refine qab ?_;clear hw;intro s w hw))
  refine qav ?_ (qav ?_ qaG)
  ·repeat (first|refine qac ?_|(refine qaa ?_;clear hw;intro p w hw)|(refine qad ?_;clear hw;intro w hw)|(refine qab ?_;clear hw;intro s w hw))
   refine qc7 (v1:=gv) (v2:=.int .i64 (leastC t)) rfl rfl rfl (by simp only [List.all_cons,List.all_nil,og];rfl) ?_
   repeat (first|refine qac ?_|(refine qaa ?_;clear hw;intro p w hw)|(refine qad ?_;clear hw;intro w hw)|(refine qab ?_;clear hw;intro s w hw))
   repeat (first|refine qac ?_|(refine qaa ?_;clear hw;intro p w hw)|(refine qad ?_;clear hw;intro w hw)|(refine qab ?_;clear hw;intro s w hw))
   refine qah rfl (qbK (ht'.at hw)) ?_
   rintro _ w' ⟨rfl,hk'⟩
   replace hw:=hw.call0 hk'
   clear hk'
   refine⟨_,rfl,?_⟩
   rw [qas ((qcW t).2 hg)]
   repeat (first|refine qac ?_|(refine qaa ?_;clear hw;intro p w hw)|(refine qad ?_;clear hw;intro w hw)|(refine qab ?_;clear hw;intro s w hw))
   refine qah rfl (qcg (h:=.iface 113 (.agg #[gv,.int .i64 (leastC t)])) (H:=blindH t) (ht'.at hw) hg ⟨_,_,rfl⟩) ?_
   rintro _ w' ⟨pe,rfl,hk'⟩
   replace hw:=hw.call1 hk'
   clear hk'
   refine⟨_,rfl,?_⟩
   repeat (first|refine qac ?_|(refine qaa ?_;clear hw;intro p w hw)|(refine qad ?_;clear hw;intro w hw)|(refine qab ?_;clear hw;intro s w hw))
   have hw2:Sat w0 w' [RdH fun w=>HVal w (.iface 113 (.agg #[gv,.int .i64 (leastC t)])) t (blindH t)→REst w pe t (blindH t),OS tFact 69 gv t.goal,Box pt 26 [a,b,c,d]]:=hw
   have hw3:=Sat.rd (Δ:=[RdH fun w=>HVal w (.iface 113 (.agg #[gv,.int .i64 (leastC t)])) t (blindH t)→REst w pe t (blindH t),OS tFact 69 gv t.goal]) (φ:=fun w=>REst w pe t (blindH t)) (fun _ w h=>(h.rdE 0 rfl) (qfg (h.rs 1 rfl))) hw2
   exact⟨pe,⟨rfl,rfl,trivial⟩,agr,hw3.sel⟩
  ·repeat (first|refine qac ?_|(refine qaa ?_;clear hw;intro p w hw)|(refine qad ?_;clear hw;intro w hw)|(refine qab ?_;clear hw;intro s w hw))
   refine qah rfl (qbK (ht'.at hw)) ?_
   rintro _ w' ⟨rfl,hk'⟩
   replace hw:=hw.call0 hk'
   clear hk'
   refine⟨_,rfl,?_⟩
   rw [qas ((qcW t).2 hg)]
   repeat (first|refine qac ?_|(refine qaa ?_;clear hw;intro p w hw)|(refine qad ?_;clear hw;intro w hw)|(refine qab ?_;clear hw;intro s w hw))
   repeat (first|refine qac ?_|(refine qaa ?_;clear hw;intro p w hw)|(refine qad ?_;clear hw;intro w hw)|(refine qab ?_;clear hw;intro s w hw))
   refine qc7 (v1:=gv) (v2:=.int .i64 (leastC t)) rfl rfl rfl (by simp only [List.all_cons,List.all_nil,og];rfl) ?_
   repeat (first|refine qac ?_|(refine qaa ?_;clear hw;intro p w hw)|(refine qad ?_;clear hw;intro w hw)|(refine qab ?_;clear hw;intro s w hw))
   refine qah rfl (qcg (h:=.iface 113 (.agg #[gv,.int .i64 (leastC t)])) (H:=blindH t) (ht'.at hw) hg ⟨_,_,rfl⟩) ?_
   rintro _ w' ⟨pe,rfl,hk'⟩
   replace hw:=hw.call1 hk'
   clear hk'
   refine⟨_,rfl,?_⟩
   repeat (first|refine qac ?_|(refine qaa ?_;clear hw;intro p w hw)|(refine qad ?_;clear hw;intro w hw)|(refine qab ?_;clear hw;intro s w hw))
   have hw2:Sat w0 w' [RdH fun w=>HVal w (.iface 113 (.agg #[gv,.int .i64 (leastC t)])) t (blindH t)→REst w pe t (blindH t),OS tFact 69 gv t.goal,Box pt 26 [a,b,c,d]]:=hw
   have hw3:=Sat.rd (Δ:=[RdH fun w=>HVal w (.iface 113 (.agg #[gv,.int .i64 (leastC t)])) t (blindH t)→REst w pe t (blindH t),OS tFact 69 gv t.goal]) (φ:=fun w=>REst w pe t (blindH t)) (fun _ w h=>(h.rdE 0 rfl) (qfg (h.rs 1 rfl))) hw2
   exact⟨pe,⟨rfl,rfl,trivial⟩,agr,hw3.sel⟩
 clear hw
 rintro σ0 pe w hw
 repeat (first|refine qac ?_|(refine qaa ?_;clear hw;intro p w hw)|(refine qad ?_;clear hw;intro w hw)|(refine qab ?_;clear hw;intro s w hw))
 exact qay (v:=.pointer (some pe)) (v':=.nilIface) rfl rfl rfl ⟨pe,rfl,hw⟩
end Go.Proofs.YtjdlohdcdmhigaaGreatDoor
/-
  Contracts of 'succgen.fact' and of the question of 'succgen.build'.
-/
namespace Go.Proofs.YtjdlohdcdmhigaaGreatDoor
open Go.Sl Go
attribute [local irreducible] vc opsW opsD opV opW PureV ReadV Thn Blk
end Go.Proofs.YtjdlohdcdmhigaaGreatDoor
/-
  Contract of 'succgen.build': the decision tree.
-/
namespace Go.Proofs.YtjdlohdcdmhigaaGreatDoor
open Go.Sl Go
attribute [local irreducible] vc opsW opsD opV opW PureV ReadV Thn Blk
end Go.Proofs.YtjdlohdcdmhigaaGreatDoor
