/-
  Several texts as one: TIda4, WEst3, WSucB, WSucN.
-/
import Derived.Test.YtkmbenhffledpaaGreatMW11
import Derived.Test.YtkmbenhffledpaaGreatMW6
import Derived.Test.YtkmbenhffledpaaGreatMW7
import Derived.Test.YtkmbenhffledpaaGreatMTA
set_option linter.unusedSimpArgs false
set_option linter.unusedVariables false
/-
  The tables that the statements of layer 50 use.
-/
namespace Go.Proofs.YtkmbenhffledpaaGreat
open Go.Sl
section
variable {t:TTask}{D less:List Int}
end
end Go.Proofs.YtkmbenhffledpaaGreat
/-
  Contracts of 'slices.ContainsFunc' over ints for any predicate, and of 'estimate.Blind' and 'estimate.Table'.
-/
namespace Go.Proofs.YtkmbenhffledpaaGreat
open Go.Sl Go
attribute [local irreducible] vc opsW opsD opV opW PureV ReadV Thn Blk
def AskF (w0:World) (f:Nat) (cs:List Value) (P:Int→Prop) (xs:List Int):Prop:=∀ (w:World) (Γ:List HP),Sat w0 w Γ→∀ x∈xs,Calls Tryz.prog f ([Value.int .i64 x]++cs).toArray w fun e w'=>(∃ r,e=.returned (.bool r)∧(r=true↔P x))∧Sat w w' []
set_option maxRecDepth 8000 in
theorem qlh {w0:World}{a:Value}{xs:List Int}{f:Nat}{cs:List Value}{P:Int→Prop} [CallT Tryz.prog f] (ha:RS tInt w0 a xs) (hf:AskF w0 f cs P xs) :
  Calls Tryz.prog 150 #[a,.func (.func f) #[] cs.toArray] w0 fun e w'=>(∃ r:Int,e=.returned (.int .i64 r)∧(0≤r↔∃ x∈xs,P x))∧Sat w0 w' []:=by
 have hla:=ha.big
 have hw:=Sat.start w0
 refine qab (args:=[a,.func (.func f) #[] cs.toArray]) mixed Tryz.func150 rfl (by kernel_rfl) (Nat.le_of_ble_eq_true rfl) ?_
 repeat refine qaa ?_
 refine qap [4,5,8,9,10,11,12,13,14,15,16,17,18] (G:=Nat) (fun k=>[(8,.int .i64 k)]) (fun k w=>k≤xs.length∧(∀ i,i<k→¬P (xs.getD i tInt.dflt))∧Sat w0 w []) (fun k=>xs.length-k) 0 (fun _=>rfl) ⟨rfl,trivial⟩ ⟨Nat.zero_le _,fun i hi=>absurd hi (Nat.not_lt_zero _),hw⟩ ?_
 clear hw
 rintro σ k w ⟨hk,hpre,hw⟩
 repeat refine qaa ?_
 refine go_if (fun h1 => ?_) (fun h1 => ?_)
 ·have hkl:k<xs.length:=by omega
  repeat refine qaa ?_
  refine qbM (cs:=cs) rfl rfl (hf _ _ hw _ (qak tInt.dflt hkl)) ?_
  rintro _ w' ⟨⟨r,rfl,hr⟩,hk'⟩
  replace hw:=hw.call0 hk'
  clear hk'
  refine⟨_,rfl,?_⟩
  cases r
  ·have h2:¬P (xs.getD k tInt.dflt):=fun h=>by cases hr.2 h
   repeat refine qaa ?_
   refine⟨k+1,⟨rfl,trivial⟩,agr,⟨by omega,fun i hi => ?_,hw⟩,by omega⟩
   by_cases h:i=k
   ·subst h;exact h2
   ·exact hpre i (by omega)
  ·repeat refine qaa ?_
   exact qae (v:=.int .i64 k) rfl rfl ⟨⟨k,rfl,⟨fun _=>⟨_,qak tInt.dflt hkl,hr.1 rfl⟩,fun _=>by omega⟩⟩,hw⟩
 ·repeat refine qaa ?_
  refine qae (v:=.int .i64 (-1)) rfl rfl ⟨⟨-1,rfl,⟨fun h=>by omega,?_⟩⟩,hw⟩
  rintro⟨x,hx,he⟩
  obtain⟨i,hi,rfl⟩:=List.mem_iff_getElem.1 hx
  exact absurd (by rw [qaj hi];exact he) (hpre i (by omega))
set_option maxRecDepth 8000 in
theorem qp1 {w0:World}{a:Value}{xs:List Int}{f:Nat}{cs:List Value}{P:Int→Prop} [CallT Tryz.prog f] (ha:RS tInt w0 a xs) (hf:AskF w0 f cs P xs) :
  Calls Tryz.prog 117 #[a,.func (.func f) #[] cs.toArray] w0 fun e w'=>(∃ r,e=.returned (.bool r)∧(r=true↔∃ x∈xs,P x))∧Sat w0 w' []:=by
 have hw:=Sat.start w0
 refine qab (args:=[a,.func (.func f) #[] cs.toArray]) mixed Tryz.func117 rfl (by kernel_rfl) (Nat.le_of_ble_eq_true rfl) ?_
 repeat refine qaa ?_
 refine qac rfl (qlh ha hf) ?_
 rintro _ w' ⟨⟨r,rfl,hr⟩,hk'⟩
 replace hw:=hw.call0 hk'
 clear hk'
 refine⟨_,rfl,?_⟩
 repeat refine qaa ?_
 exact qae (v:=.bool (decide (0≤r))) rfl rfl ⟨⟨_,rfl,by rw [decide_eq_true_eq];exact hr⟩,hw⟩
theorem qcQ {t:TTask}{k:Nat}(h:k<t.ops.length):leastK t (k+1)=min (leastK t k) (t.ops.getD k dOp).cost:=by
 unfold leastK
 rw [qan dOp h,List.foldl_append];rfl
theorem qhD {w:World}{t:TTask}{gv:Value}(h:RS tFact w gv t.goal):HVal w (.iface 107 (.agg #[gv,.int .i64 (leastC t)])) t (blindH t) :=
 ⟨_,_,_,_,rfl,qlu _,inferInstance,fun _ _ _ _ hs hsv _=>qk4 (h.at hs) hsv⟩
set_option maxRecDepth 8000 in
set_option maxHeartbeats 2000000 in
theorem qhW {w0:World}{a b c d:Value}{vs:List OpV}{t:TTask}(ht:RTask w0 a b c d vs t) (hg:GoodT t) :
  Calls Tryz.prog 25 #[.agg #[a,b,c,d]] w0 fun e w'=>∃ p,e=.returned (.tuple #[.pointer (some p),.nilIface])∧Sat w0 w' [RdH fun w=>REst w p t (blindH t)]:=by
 have ht':=ht
 obtain⟨ha,hb,hc,hd⟩:=ht
 have hdr:=hd.rs
 have hdl:=hd.len
 have hgl:=qaI hg.goal
 have hvl:=hg.vars
 have hol:=hg.ops
 have hw:=Sat.start w0
 refine qab (args:=[.agg #[a,b,c,d]]) mixed Tryz.func25 rfl (by kernel_rfl) (Nat.le_of_ble_eq_true rfl) ?_
 repeat (first|refine qaa ?_|(refine qaf ?_;clear hw;intro p w hw))
 obtain⟨pt,hpt⟩:∃ pt,pt=p:=⟨p,rfl⟩
 subst hpt
 refine qao [4,6,10,11,12,13,14,15,16,17,18] (G:=Nat) (H:=Int) (fun k m=>[(10,.int .i64 k),(4,.int .i64 m)]) (fun k m w=>k≤t.ops.length∧m=leastK t k∧Sat w0 w [Box pt 26 [a,b,c,d]]) (fun k _=>t.ops.length-k) 0 inf (fun _ _=>rfl) ⟨rfl,rfl,trivial⟩ ⟨Nat.zero_le _,rfl,hw⟩ ?_
 clear hw
 rintro σ k m w ⟨hk,hm,hw⟩
 repeat refine qaa ?_
 refine go_if (fun h1 => ?_) (fun h1 => ?_)
 ·have hkl:k<t.ops.length:=by omega
  have hop:=hd.at_ k hkl
  have hone:=hop.one
  have hco:=hop.cost
  repeat (first|refine qaa ?_|(refine qaf ?_;clear hw;intro p w hw)|(refine qag ?_;clear hw;intro w hw))
  exact⟨k+1,_,⟨rfl,rfl,trivial⟩,agr,⟨by omega,by rw [qcQ hkl,hm,←hco];split <;> omega,hw.sel⟩,by omega⟩
 have hke:k=t.ops.length:=by omega
 subst hke
 have hmc:m=leastC t:=hm
 subst hmc
 repeat refine qaa ?_
 refine qb0 [19,20,21,22,23,24,25,26,27,28,29,30,2,3] (G:=Addr) (fun g=>[(2,.pointer (some g)),(3,.nilIface)]) (fun g w=>Sat w0 w [RdH fun w=>REst w g t (blindH t)]) (fun _=>rfl) ?_ ?_
 ·refine qeP (.step 1 [.op 1] (.step 4 [.op 4] (.step 0 [.op 0] (.step 2 [.op 2] (.step 7 [.op 7] (.step 3 [.op 3,.chk 0,.chk 7] (.alt 5 [.op 5,.chk 0,.chk 7] (.step 6 [.op 6] (.step 8 [.op 8,.chk 0] (.step 9 [.op 9] (.step 10 [.op 10] (.step 11 [.op 11] (.step 12 [.op 12] (.step 13 [.op 13] (.lin [])))))))) (.alt 8 [.op 8,.chk 0] (.step 5 [.op 5,.chk 0,.chk 7] (.step 6 [.op 6] (.step 9 [.op 9] (.step 10 [.op 10] (.step 11 [.op 11] (.step 12 [.op 12] (.step 13 [.op 13] (.lin [])))))))) (.stop))))))))) hw (by kernel_rfl) (by kernel_rfl) ?_;clear hw;intro w hw
  repeat refine qaa ?_
  refine qac rfl (qbJ (hc.at hw) (by omega)) ?_
  rintro _ w' ⟨gv,rfl,hk'⟩
  replace hw:=hw.call1 hk'
  clear hk'
  refine⟨_,rfl,?_⟩
  have og:=(rsO (s:=gv) hw).one
  repeat refine qaa ?_
  refine qaw ?_ (qaw ?_ qaM)
  ·repeat refine qaa ?_
   refine qbT (v1:=gv) (v2:=.int .i64 (leastC t)) rfl rfl rfl (by simp only [List.all_cons,List.all_nil,og];rfl) ?_
   repeat refine qaa ?_
   repeat refine qaa ?_
   refine qac rfl (qa6 (ht'.at hw)) ?_
   rintro _ w' ⟨rfl,hk'⟩
   replace hw:=hw.call0 hk'
   clear hk'
   refine⟨_,rfl,?_⟩
   rw [qaT ((qbk t).2 hg)]
   repeat refine qaa ?_
   refine qac rfl (qdf (h:=.iface 107 (.agg #[gv,.int .i64 (leastC t)])) (H:=blindH t) (ht'.at hw) hg ⟨_,_,rfl⟩) ?_
   rintro _ w' ⟨pe,rfl,hk'⟩
   replace hw:=hw.call1 hk'
   clear hk'
   refine⟨_,rfl,?_⟩
   repeat refine qaa ?_
   have hw2:Sat w0 w' [RdH fun w=>HVal w (.iface 107 (.agg #[gv,.int .i64 (leastC t)])) t (blindH t)→REst w pe t (blindH t),OS tFact 77 gv t.goal,Box pt 26 [a,b,c,d]]:=hw
   have hw3:=Sat.rd (Δ:=[RdH fun w=>HVal w (.iface 107 (.agg #[gv,.int .i64 (leastC t)])) t (blindH t)→REst w pe t (blindH t),OS tFact 77 gv t.goal]) (φ:=fun w=>REst w pe t (blindH t)) (fun _ w h=>(h.rdE 0 rfl) (qhD (h.rs 1 rfl))) hw2
   exact⟨pe,⟨rfl,rfl,trivial⟩,agr,hw3.sel⟩
  ·repeat refine qaa ?_
   refine qac rfl (qa6 (ht'.at hw)) ?_
   rintro _ w' ⟨rfl,hk'⟩
   replace hw:=hw.call0 hk'
   clear hk'
   refine⟨_,rfl,?_⟩
   rw [qaT ((qbk t).2 hg)]
   repeat refine qaa ?_
   repeat refine qaa ?_
   refine qbT (v1:=gv) (v2:=.int .i64 (leastC t)) rfl rfl rfl (by simp only [List.all_cons,List.all_nil,og];rfl) ?_
   repeat refine qaa ?_
   refine qac rfl (qdf (h:=.iface 107 (.agg #[gv,.int .i64 (leastC t)])) (H:=blindH t) (ht'.at hw) hg ⟨_,_,rfl⟩) ?_
   rintro _ w' ⟨pe,rfl,hk'⟩
   replace hw:=hw.call1 hk'
   clear hk'
   refine⟨_,rfl,?_⟩
   repeat refine qaa ?_
   have hw2:Sat w0 w' [RdH fun w=>HVal w (.iface 107 (.agg #[gv,.int .i64 (leastC t)])) t (blindH t)→REst w pe t (blindH t),OS tFact 77 gv t.goal,Box pt 26 [a,b,c,d]]:=hw
   have hw3:=Sat.rd (Δ:=[RdH fun w=>HVal w (.iface 107 (.agg #[gv,.int .i64 (leastC t)])) t (blindH t)→REst w pe t (blindH t),OS tFact 77 gv t.goal]) (φ:=fun w=>REst w pe t (blindH t)) (fun _ w h=>(h.rdE 0 rfl) (qhD (h.rs 1 rfl))) hw2
   exact⟨pe,⟨rfl,rfl,trivial⟩,agr,hw3.sel⟩
 clear hw
 rintro σ0 pe w hw
 repeat refine qaa ?_
 exact qav (v:=.pointer (some pe)) (v':=.nilIface) rfl rfl rfl ⟨pe,rfl,hw⟩
end Go.Proofs.YtkmbenhffledpaaGreat
/-
  Contracts of 'succgen.fact' and of the question of 'succgen.build'.
-/
namespace Go.Proofs.YtkmbenhffledpaaGreat
open Go.Sl Go
attribute [local irreducible] vc opsW opsD opV opW PureV ReadV Thn Blk
theorem qmV {l:List Fact}{v k:Nat}(hk:k<l.length) (hno:∀ i,i<k→(l.getD i tFact.dflt).var≠(v:Int)) (h:(l.getD k tFact.dflt).var=(v:Int)):factV l v=some (l.getD k tFact.dflt).val:=by
 induction l generalizing k with
 | nil=>simp at hk
 | cons x l ih =>
  unfold factV
  cases k with
  | zero=>rw [List.find?_cons_of_pos (by simpa using h)];rfl
  | succ k =>
   have h0:=hno 0 (Nat.zero_lt_succ _)
   rw [List.find?_cons_of_neg (by simpa using h0)]
   exact ih (by simpa using hk) (fun i hi=>by have:=hno (i+1) (by omega);simpa using this) (by simpa using h)
theorem qmW {l:List Fact}{v:Nat}(hno:∀ i,i<l.length→(l.getD i tFact.dflt).var≠(v:Int)):factV l v=none:=by
 unfold factV
 rw [List.find?_eq_none.2 fun f hf => ?_]
 ·rfl
 ·obtain⟨i,hi,rfl⟩:=List.getElem_of_mem hf
  have:=hno i hi
  rw [qaj hi] at this
  simpa using this
def GenT (w:World) (p:Addr) (t:TTask):Prop:=∃ a b c d r vs,BoxR w p [a,b,c,d,r]∧RTask w a b c d vs t
theorem GenT.at {w0 w:World}{Γ:List HP}{p:Addr}{t:TTask}(h:GenT w0 p t) (hw:Sat w0 w Γ):GenT w p t:=by
 obtain⟨a,b,c,d,r,vs,h1,h2⟩:=h
 exact⟨a,b,c,d,r,vs,h1.at hw,h2.at hw⟩
set_option maxRecDepth 8000 in
set_option maxHeartbeats 4000000 in
theorem qke {w0:World}{p:Addr}{t:TTask}{op:Int}{v:Nat}(hG:GenT w0 p t) (ho:0≤op∧op<t.ops.length) :
  Calls Tryz.prog 146 #[.pointer (some p),.int .i64 op,.int .i64 v] w0 fun e w'=>(∃ x y r,e=.returned (.tuple #[.agg #[.int .i64 x,.int .i64 y],.bool r])∧(r=(preV t op v).isSome)∧∀ z,preV t op v=some z→y=z)∧Sat w0 w' []:=by
 obtain⟨a,b,c,d,r0,vs,hb,ht⟩:=hG
 have hdr:=ht.ops.rs
 have hdl:=ht.ops.len
 obtain⟨o,hoe⟩:∃ o:Nat,op=(o:Int):=⟨op.toNat,by omega⟩
 subst hoe
 have hol:o<t.ops.length:=by omega
 have hop:=ht.ops.at_ o hol
 have hpre:=hop.pre
 have hpb:=hpre.big
 have hpv:preV t (o:Int) v=factV (t.ops.getD o dOp).pre v:=rfl
 have hw:=Sat.start w0
 refine qab (args:=[.pointer (some p),.int .i64 (o:Int),.int .i64 v]) mixed Tryz.func146 rfl (by kernel_rfl) (Nat.le_of_ble_eq_true rfl) ?_
 refine qbV ?_
 refine qaS ?_
 refine qds ?_
 clear hw
 intro pr w hw
 repeat refine qaa ?_
 refine qap [7,9,20,21,22,23,24,25,26,27,28,29] (G:=Nat) (fun k=>[(20,.int .i64 k)]) (fun k w=>k≤(t.ops.getD o dOp).pre.length∧(∀ i,i<k→((t.ops.getD o dOp).pre.getD i tFact.dflt).var≠(v:Int))∧Sat w0 w [Box pr 77 [.int .i64 0,.int .i64 0]]) (fun k=>(t.ops.getD o dOp).pre.length-k) 0 (fun _=>rfl) ⟨rfl,trivial⟩ ⟨Nat.zero_le _,fun i hi=>absurd hi (Nat.not_lt_zero _),hw⟩ ?_
 clear hw
 rintro σ k w ⟨hk,hno,hw⟩
 repeat refine qaa ?_
 refine go_if (fun h1 => ?_) (fun h1 => ?_)
 ·have hkl:k<(t.ops.getD o dOp).pre.length:=by omega
  repeat (first|refine qaa ?_|(refine qaf ?_;clear hw;intro p w hw)|(refine qag ?_;clear hw;intro w hw))
  refine go_if (fun h2 => ?_) (fun h2 => ?_)
  ·repeat (first|refine qaa ?_|(refine qag ?_;clear hw;intro w hw))
   have hf:=qmV hkl hno h2
   exact qaL (p:=pr) (vs:=[.int .i64 ((t.ops.getD o dOp).pre.getD k tFact.dflt).var,.int .i64 ((t.ops.getD o dOp).pre.getD k tFact.dflt).val]) rfl rfl rfl rfl (hw.boxR 1 rfl) ⟨⟨_,_,true,rfl,by rw [hpv,hf];rfl,fun z hz=>by rw [hpv,hf] at hz;exact Option.some.inj hz⟩,hw.sel⟩
  ·repeat refine qaa ?_
   refine⟨k+1,⟨rfl,trivial⟩,agr,⟨by omega,fun i hi => ?_,hw.sel⟩,by omega⟩
   by_cases e:i=k
   ·subst e;exact h2
   ·exact hno i (by omega)
 have hke:k=(t.ops.getD o dOp).pre.length:=by omega
 subst hke
 repeat refine qaa ?_
 refine qa8 (vs:=[]) (ls:=[]) rfl rfl rfl ?_
 refine qat (n:=2) (p:=pr) (vs:=[.int .i64 0,.int .i64 0]) rfl rfl hw inferInstance rfl rfl rfl ?_
 clear hw
 intro w hw
 repeat refine qaa ?_
 have hf:=qmW hno
 exact qaL (p:=pr) (vs:=[.int .i64 0,.int .i64 0]) rfl rfl rfl rfl (hw.boxR 0 rfl) ⟨⟨_,_,false,rfl,by rw [hpv,hf];rfl,fun z hz=>by rw [hpv,hf] at hz;cases hz⟩,hw.sel⟩
set_option maxRecDepth 8000 in
set_option maxHeartbeats 4000000 in
theorem qld {w0:World}{p pg pv:Addr}{t:TTask}{op:Int}{v:Nat}(hG:GenT w0 p t) (hpg:w0.cell? pg=some (.pointer (some p))) (hpv:w0.cell? pv=some (.int .i64 v)) (ho:0≤op∧op<t.ops.length) :
  Calls Tryz.prog 145 #[.int .i64 op,.pointer (some pg),.pointer (some pv)] w0 fun e w'=>(∃ r,e=.returned (.bool r)∧(r=true↔(preV t op v).isSome=true))∧Sat w0 w' []:=by
 have hw:=Sat.start w0
 refine qab (args:=[.int .i64 op,.pointer (some pg),.pointer (some pv)]) mixed Tryz.func145 rfl (by kernel_rfl) (Nat.le_of_ble_eq_true rfl) ?_
 repeat refine qaa ?_
 refine qa2 rfl (qce rfl (qcu hpg hw)) ?_
 repeat refine qaa ?_
 refine qa2 rfl (qce rfl (qcu hpv hw)) ?_
 repeat refine qaa ?_
 refine qac rfl (qke (hG.at hw) ho) ?_
 rintro _ w' ⟨⟨x,y,r,rfl,hr,_⟩,hk'⟩
 replace hw:=hw.call0 hk'
 clear hk'
 refine⟨_,rfl,?_⟩
 repeat (first|refine qaa ?_|(refine qaf ?_;clear hw;intro p w hw)|(refine qag ?_;clear hw;intro w hw))
 exact qae (v:=.bool r) rfl rfl ⟨⟨r,rfl,by rw [hr]⟩,hw.sel⟩
end Go.Proofs.YtkmbenhffledpaaGreat
/-
  Contract of 'succgen.build': the decision tree.
-/
namespace Go.Proofs.YtkmbenhffledpaaGreat
open Go.Sl Go
attribute [local irreducible] vc opsW opsD opV opW PureV ReadV Thn Blk
def BuildOk (t:TTask) (f:Nat):Prop:=∀ (w0:World) (pg:Addr) (ov:Value) (ops:List Int) (v:Nat),GenT w0 pg t→RS tInt w0 ov ops→(∀ op∈ops,0≤op∧op<t.ops.length)→ops.length≤4096→v≤t.vars.length→t.vars.length-v<f →
 Calls Tryz.prog 107 #[.pointer (some pg),ov,.int .i64 v] w0 fun e w'=>∃ a,e=.returned (.pointer a)∧Sat w0 w' [RdH fun w=>RS tInt w ov ops→RNode t w f a ops v]
def ChF (t:TTask) (f:Nat) (ops:List Int) (u:Nat) (ss:List Value) (x:Nat) (vl:List (Option Addr)) (w:World):Prop:=∀ i,i<x→RS tInt w (vget ss i) (byV t ops u (i:Int))→RNode t w f (vl.getD i none) (byV t ops u (i:Int)) (u+1)
theorem ChF.step {t:TTask}{f:Nat}{ops:List Int}{u:Nat}{ss:List Value}{x:Nat}{vl:List (Option Addr)}{w:World}{a:Option Addr}(h:ChF t f ops u ss x vl w) (hl:vl.length=x) (hn:RS tInt w (vget ss x) (byV t ops u (x:Int))→RNode t w f a (byV t ops u (x:Int)) (u+1)):ChF t f ops u ss (x+1) (vl++[a]) w:=fun i hi hr=>by
 by_cases e:i<x
 ·rw [show (vl++[a]).getD i none=vl.getD i none by simp [List.getD_eq_getElem?_getD,List.getElem?_append_left (show i<vl.length by omega)]]
  exact h i e hr
 ·have e2:i=x:=by omega
  subst e2
  rw [show (vl++[a]).getD i none=a by subst hl;simp [List.getD_eq_getElem?_getD]]
  exact hn hr
set_option maxRecDepth 8000 in
set_option maxHeartbeats 8000000 in
theorem qm6 {t:TTask}{f:Nat}(hg:GoodT t) (ih:BuildOk t f):BuildOk t (f+1):=by
 intro w0 pg ov ops v hG ho hops hol hv hf
 have hG':=hG
 obtain⟨a,b,c,d,r0,vs,hb,ht⟩:=hG
 have ha:=ht.vars
 have hvl:=hg.vars
 have hob:=ho.big
 have oov:=ho.one
 have hw:=Sat.start w0
 refine qab (args:=[.pointer (some pg),ov,.int .i64 v]) mixed Tryz.func107 rfl (by kernel_rfl) (Nat.le_of_ble_eq_true rfl) ?_
 refine qbV ?_
 refine qaS ?_
 refine qcx ?_
 clear hw
 intro p3 w hw
 refine qcx ?_
 clear hw
 intro p5 w hw
 replace hw:Sat w0 w [Box p5 3 [.int .i64 (v:Int)],Box p3 136 [.pointer (some pg)]]:=hw
 repeat refine qaa ?_
 refine go_if (fun h1 => ?_) (fun h1 => ?_)
 ·have he:ops=[]:=List.eq_nil_of_length_eq_zero (by omega)
  repeat refine qaa ?_
  exact qae (v:=.pointer none) rfl rfl ⟨none,rfl,Sat.rd0 (fun w _=>.inl ⟨he,rfl⟩) (hw.sel (Δ:=[]))⟩
 have hne:ops≠[]:=fun e=>by rw [e] at h1;exact h1 rfl
 obtain⟨n1,n2,n3,n4⟩:=qdn (t:=t) (ops:=ops) (f:=t.vars.length-v) (v:=v)
 repeat refine qaa ?_
 refine qap [19,20,21,22,23,24,25,26,27,28,29,30,31,32,33,34] (G:=Nat) (fun u=>[]) (fun u w=>v≤u∧u≤nxV t ops v∧Sat w0 w [Box p5 3 [.int .i64 (u:Int)],Box p3 136 [.pointer (some pg)]]) (fun u=>t.vars.length-u) v (fun _=>rfl) trivial ⟨Nat.le_refl _,n1,hw⟩ ?_
 clear hw
 rintro σ u w ⟨hu1,hu2,hw⟩
 have hul:u≤t.vars.length:=by unfold nxV at hu2;omega
 have hun:nextV t ops (t.vars.length-u) u=nxV t ops v:=by
  unfold nxV at hu2 ⊢
  have key:∀ (m v u:Nat),v≤u→u≤nextV t ops (t.vars.length-v) v→u-v=m→u≤t.vars.length→nextV t ops (t.vars.length-u) u=nextV t ops (t.vars.length-v) v:=by
   intro m
   induction m with
   | zero=>intro v u h1 h2 h3 _;rw [show u=v by omega]
   | succ m ihm =>
    intro v u h1 h2 h3 h4
    have hvl:v<t.vars.length:=by omega
    obtain⟨n1,n2,n3,n4⟩:=qdn (t:=t) (ops:=ops) (f:=t.vars.length-v) (v:=v)
    have hs:=n3 v (Nat.le_refl _) (by omega)
    have e:nextV t ops (t.vars.length-v) v=nextV t ops (t.vars.length-(v+1)) (v+1):=by
     rw [show t.vars.length-v=(t.vars.length-(v+1))+1 by omega]
     exact qha hs
    rw [e] at h2 ⊢
    exact ihm (v+1) u (by omega) h2 (by omega) h4
  exact key _ v u hu1 hu2 rfl hul
 refine qbV ?_
 refine qbV ?_
 refine qb0 [19,20,21,22,23,24,25,26,27,28,29,30,31,32] (G:=Unit) (fun _=>[(32,.bool (decide (u<nxV t ops v)))]) (fun _ w=>Sat w0 w [Box p5 3 [.int .i64 (u:Int)],Box p3 136 [.pointer (some pg)]]) (fun _=>rfl) ?_ ?_
 ·by_cases h2:u<t.vars.length
  ·have hd:decide ((u:Int)<(t.vars.length:Int))=true:=decide_eq_true (by omega)
   repeat refine qaa ?_
   refine qas [.op 0,.op 1,.op 2,.op 3,.op 4,.op 5,.op 6,.op 7,.op 8,.op 9,.op 10,.op 11,.op 12,.op 13] hw (by kernel_rfl) ?_;clear hw;intro w hw
   repeat refine qaa ?_
   simp only [hd,beq_self_eq_true,qal,qam,Bool.false_and,Bool.true_and,Bool.not_true,Bool.not_false,Bool.cond_true,Bool.cond_false,gv_fI,gv_tI]
   repeat refine qaa ?_
   refine qac rfl (qp1 (cs:=[.pointer (some p3),.pointer (some p5)]) (f:=145) (P:=fun op=>(preV t op u).isSome=true) (ho.at hw) (fun w2 Γ hs op hop=>qld ((hG'.at hw).at hs) (qcu (by have:=hw.boxR 1 rfl 0 _ rfl;simpa [Addr.add] using this) hs) (qcu (by have:=hw.boxR 0 rfl 0 _ rfl;simpa [Addr.add] using this) hs) (hops op hop))) ?_
   rintro _ w' ⟨⟨r,rfl,hr⟩,hk'⟩
   replace hw:=hw.call0 hk'
   clear hk'
   refine⟨_,rfl,?_⟩
   have hr2:r=someV t ops u:=by
    rw [Bool.eq_iff_iff,hr,qpi]
   have hdn:decide (u<nxV t ops v) = !r:=by
    cases hsv:someV t ops u
    ·rw [hr2,hsv]
     rw [show t.vars.length-u=(t.vars.length-(u+1))+1 by omega,qha hsv] at hun
     obtain⟨m1,_⟩:=qdn (t:=t) (ops:=ops) (f:=t.vars.length-(u+1)) (v:=u+1)
     exact decide_eq_true (by omega)
    ·rw [hr2,hsv]
     rw [qmv hsv] at hun
     exact decide_eq_false (by omega)
   repeat refine qaa ?_
   exact⟨(),⟨by rw [hdn];rfl,trivial⟩,agr,hw⟩
  ·have hd:decide ((u:Int)<(t.vars.length:Int))=false:=decide_eq_false (by omega)
   have hdn:decide (u<nxV t ops v)=false:=decide_eq_false (by unfold nxV at hu2 ⊢;omega)
   repeat refine qaa ?_
   refine qas [.op 0,.op 1,.op 2,.op 3,.op 4,.op 5,.op 6,.op 7,.op 8,.op 9,.op 10,.op 11,.op 12,.op 13] hw (by kernel_rfl) ?_;clear hw;intro w hw
   repeat refine qaa ?_
   simp only [hd,beq_self_eq_true,qal,qam,Bool.false_and,Bool.true_and,Bool.not_true,Bool.not_false,Bool.cond_true,Bool.cond_false,gv_fI,gv_tI]
   repeat refine qaa ?_
   exact⟨(),⟨by rw [hdn];rfl,trivial⟩,agr,hw⟩
 clear hw
 rintro σ1 _ w hw
 repeat refine qaa ?_
 refine go_if (fun h2 => ?_) (fun h2 => ?_)
 ·have hul2:u<t.vars.length:=by unfold nxV at h2;omega
  repeat (first|refine qaa ?_|(refine qag ?_;clear hw;intro w hw))
  exact⟨u+1,trivial,agr,⟨by omega,by omega,hw⟩,by omega⟩
 have hue:u=nxV t ops v:=by omega
 repeat (first|refine qaa ?_|(refine qag ?_;clear hw;intro w hw))
 refine go_if (fun h3 => ?_) (fun h3 => ?_)
 ·have hul2:u=t.vars.length:=by omega
  repeat refine qaa ?_
  refine qbT (v1:=ov) (v2:=.bool true) rfl rfl rfl (by simp only [List.all_cons,List.all_nil,oov];rfl) ?_
  refine qaV (vs:=nodeC ov true 0 nilS (.pointer none)) rfl hw ?_
  clear hw
  intro pn w hw
  repeat refine qaa ?_
  have hw2:Sat w0 w [Box pn 256 (nodeC ov true 0 nilS (.pointer none)),Box p5 3 [.int .i64 (u:Int)],Box p3 136 [.pointer (some pg)]]:=hw
  have hw3:=Sat.rd (Δ:=[Box pn 256 (nodeC ov true 0 nilS (.pointer none))]) (φ:=fun w=>RS tInt w ov ops→RNode t w (f+1) (some pn) ops v) (fun _ w h hr=>.inr ⟨hne,pn,rfl,.inl ⟨by omega,ov,h.boxR 0 rfl,hr⟩⟩) hw2
  exact qae (v:=.pointer (some pn)) rfl rfl ⟨some pn,rfl,hw3.sel⟩
 have hul2:u<t.vars.length:=by omega
 have hdu:=hg.dom u hul2
 obtain⟨n,hn⟩:∃ n:Nat,t.vars.getD u tInt.dflt=(n:Int):=⟨(t.vars.getD u tInt.dflt).toNat,by omega⟩
 repeat (first|refine qaa ?_|(refine qag ?_;clear hw;intro w hw)|(refine qaq ?_;clear hw;intro s w hw))
 obtain⟨bv,hbv⟩:∃ bv,bv=s:=⟨s,rfl⟩
 subst hbv
 rw [hn,Int.toNat_natCast] at hw
 have hw1:Sat w0 w [RowsAt tInt 3 (List.replicate n (.slice none 0 0)) (byL t ops u n 0),OS tVal 22 bv (List.replicate n (.slice none 0 0)),OS tInt 3 (.slice none 0 0) (restV t (ops.take 0) u),Box p5 3 [.int .i64 (u:Int)],Box p3 136 [.pointer (some pg)]]:=by
  have h1:=(hw.nil (T:=tInt) (e:=3)).rowsNil (T:=tInt) (e:=3) n
  rw [←qrm (t:=t) (ops:=ops) (u:=u)] at h1
  have h2:Sat w0 w [RowsAt tInt 3 (List.replicate n (.slice none 0 0)) (byL t ops u n 0),OS tVal 22 bv (List.replicate n (.slice none 0 0)),OS tInt 3 (.slice none 0 0) [],Box p5 3 [.int .i64 (u:Int)],Box p3 136 [.pointer (some pg)]]:=h1.sel
  exact h2
 clear hw
 refine qay [8,10,11,12,57,58,59,60,61,62,63,64,65,66,67,68,69,70,71,72,73,74,75,76,77,78,79,80,81,82,83,84,85] (G:=Nat) (H:=Value) (I:=List Value) (fun k rv _=>[(57,.int .i64 k),(8,rv)]) (fun k rv ss w=>k≤ops.length∧ss.length=n∧Sat w0 w [RowsAt tInt 3 ss (byL t ops u n k),OS tVal 22 bv ss,OS tInt 3 rv (restV t (ops.take k) u),Box p5 3 [.int .i64 (u:Int)],Box p3 136 [.pointer (some pg)]]) (fun k _ _=>ops.length-k) 0 (.slice none 0 0) (List.replicate n (.slice none 0 0)) (fun _ _ _=>rfl) ⟨rfl,rfl,trivial⟩ ⟨Nat.zero_le _,List.length_replicate,hw1⟩ ?_
 clear hw1
 rintro σ2 k rv ss w ⟨hk,hssl,hw⟩
 have hrl:(restV t (ops.take k) u).length≤4096:=by
  have h1:=List.length_filter_le (fun op=>(preV t op u).isNone) (ops.take k)
  simp only [List.length_take] at h1
  unfold restV
  omega
 repeat refine qaa ?_
 refine go_if (fun h4 => ?_) (fun h4 => ?_)
 ·have hkl:k<ops.length:=by omega
  have hopk:=hops _ (qak tInt.dflt hkl)
  repeat refine qaa ?_
  refine qac rfl (qke (v:=u) (hG'.at hw) hopk) ?_
  rintro _ w' ⟨⟨x,y,r,rfl,hr,hz⟩,hk'⟩
  replace hw:=hw.call0 hk'
  clear hk'
  refine⟨_,rfl,?_⟩
  cases hp:preV t (ops.getD k tInt.dflt) u with
  | none =>
   rw [hp] at hr
   have hr2:r=false:=hr
   subst hr2
   repeat (first|refine qaa ?_|(refine qaf ?_;clear hw;intro p w hw)|(refine qag ?_;clear hw;intro w hw)|(refine qaq ?_;clear hw;intro s w hw))
   rw [←qpg hkl hp,←qrn hkl hp] at hw
   exact⟨k+1,_,_,⟨rfl,rfl,trivial⟩,agr,⟨by omega,hssl,hw.tail.tail⟩,by omega⟩
  | some z =>
   rw [hp] at hr
   have hr2:r=true:=hr
   subst hr2
   have hyz:=hz z hp
   subst hyz
   obtain⟨z0,z1,z2⟩:=qrp hg hopk hp
   rw [hn] at z1
   repeat (first|refine qaa ?_|(refine qaf ?_;clear hw;intro p w hw)|(refine qag ?_;clear hw;intro w hw))
   have hbl:=qkV (t:=t) (ops:=ops) (u:=u) (n:=n) (k:=k)
   have hi:y.toNat<(byL t ops u n k).length:=by omega
   have hrl2:((byL t ops u n k).getD y.toNat []).length≤4096:=by
    rw [qiO (by omega)]
    have h1:=List.length_filter_le (fun op=>decide (preV t op u=some ((y.toNat:Nat):Int))) (ops.take k)
    simp only [List.length_take] at h1
    unfold byV
    omega
   replace hw:=hw.swap.rowOut hi
   repeat refine qaa ?_
   refine qas [.op 0,.op 1,.op 2,.op 3,.op 4,.op 5,.op 6,.op 7,.op 8,.op 9,.chk 2,.chk 5,.chk 7,.op 10,.chk 2,.op 11,.op 12] hw (by kernel_rfl) ?_;clear hw;intro w hw
   repeat (first|refine qaa ?_|(refine qag ?_;clear hw;intro w hw)|(refine qaq ?_;clear hw;intro s w hw))
   replace hw:=Sat.rowIn hi (by omega) hw.tail
   rw [←qro hkl hp z0 z1,←qph hkl hp] at hw
   exact⟨k+1,_,_,⟨rfl,rfl,trivial⟩,agr,⟨by omega,by rw [List.length_set];exact hssl,hw.swap.tail⟩,by omega⟩
 have hke:k=ops.length:=by omega
 subst hke
 rw [List.take_of_length_le (Nat.le_refl _)] at hw hrl
 have hfu:t.vars.length-(u+1)<f:=by omega
 have hrst:∀ op∈restV t ops u,0≤op∧op<t.ops.length:=fun op h=>hops op (List.mem_filter.1 h).1
 repeat refine qaa ?_
 refine qas [.op 0,.op 1,.op 2,.op 3,.op 4,.op 5,.chk 0,.op 6,.op 7,.op 8] hw (by kernel_rfl) ?_;clear hw;intro w hw
 repeat refine qaa ?_
 refine qac rfl (ih _ pg rv (restV t ops u) (u+1) (hG'.at hw) (rsO hw) hrst hrl (by omega) hfu) ?_
 rintro _ w' ⟨ra,rfl,hk'⟩
 replace hw:=hw.call1 hk'
 clear hk'
 refine⟨_,rfl,?_⟩
 repeat (first|refine qaa ?_|(refine qaf ?_;clear hw;intro p w hw))
 obtain⟨pn,hpn⟩:∃ pn,pn=p:=⟨p,rfl⟩
 subst hpn
 have hw1:Sat w0 w [RdH (ChF t f ops u ss 0 []),OS tVal 190 nilS (([]:List (Option Addr)).map Value.pointer),Box pn 256 (nodeC nilS false (u:Int) nilS (.pointer ra)),RdH (fun w=>RNode t w f ra (restV t ops u) (u+1)),RowsAt tInt 3 ss (byL t ops u n ops.length),OS tVal 22 bv ss,Box p5 3 [.int .i64 (u:Int)],Box p3 136 [.pointer (some pg)]]:=by
  have h1:Sat w0 w [Box pn 256 (nodeC nilS false (u:Int) nilS (.pointer ra)),RdH (fun w=>RS tInt w rv (restV t ops u)→RNode t w f ra (restV t ops u) (u+1)),RowsAt tInt 3 ss (byL t ops u n ops.length),OS tVal 22 bv ss,OS tInt 3 rv (restV t ops u),Box p5 3 [.int .i64 (u:Int)],Box p3 136 [.pointer (some pg)]]:=hw
  have h2:Sat w0 w [RdH (fun w=>RS tInt w rv (restV t ops u)→RNode t w f ra (restV t ops u) (u+1)),OS tInt 3 rv (restV t ops u),Box pn 256 (nodeC nilS false (u:Int) nilS (.pointer ra)),RowsAt tInt 3 ss (byL t ops u n ops.length),OS tVal 22 bv ss,Box p5 3 [.int .i64 (u:Int)],Box p3 136 [.pointer (some pg)]]:=h1.sel
  have h3:=Sat.rd (Δ:=[RdH (fun w=>RS tInt w rv (restV t ops u)→RNode t w f ra (restV t ops u) (u+1)),OS tInt 3 rv (restV t ops u)]) (φ:=fun w=>RNode t w f ra (restV t ops u) (u+1)) (fun _ w h=>(h.rdE 0 rfl) (h.rs 1 rfl)) h2
  have h4:=(Sat.rd0 (φ:=ChF t f ops u ss 0 []) (fun w i hi=>absurd hi (Nat.not_lt_zero _)) h3).nil (T:=tVal) (e:=190)
  have h5:Sat w0 w [RdH (ChF t f ops u ss 0 []),OS tVal 190 nilS [],Box pn 256 (nodeC nilS false (u:Int) nilS (.pointer ra)),RdH (fun w=>RNode t w f ra (restV t ops u) (u+1)),RowsAt tInt 3 ss (byL t ops u n ops.length),OS tVal 22 bv ss,Box p5 3 [.int .i64 (u:Int)],Box p3 136 [.pointer (some pg)]]:=h4.sel
  exact h5
 clear hw
 refine qay [15,96,97,98,99,100,101,102,103,104,105,106,107,108,109,110,111,112,113,114] (G:=Nat) (H:=Value) (I:=List (Option Addr)) (fun x _ _=>[(96,.int .i64 x)]) (fun x vv vl w=>x≤n∧vl.length=x∧Sat w0 w [RdH (ChF t f ops u ss x vl),OS tVal 190 vv (vl.map Value.pointer),Box pn 256 (nodeC nilS false (u:Int) vv (.pointer ra)),RdH (fun w=>RNode t w f ra (restV t ops u) (u+1)),RowsAt tInt 3 ss (byL t ops u n ops.length),OS tVal 22 bv ss,Box p5 3 [.int .i64 (u:Int)],Box p3 136 [.pointer (some pg)]]) (fun x _ _=>n-x) 0 nilS [] (fun _ _ _=>rfl) ⟨rfl,trivial⟩ ⟨Nat.zero_le _,rfl,hw1⟩ ?_
 clear hw1
 rintro σ3 x vv vl w ⟨hx,hvl2,hw⟩
 have hvm:(vl.map Value.pointer).length=x:=by rw [List.length_map];exact hvl2
 have ovv:=(hw.rs 1 rfl).one
 repeat refine qaa ?_
 refine go_if (fun h5 => ?_) (fun h5 => ?_)
 ·have hxl:x<n:=by omega
  repeat refine qaa ?_
  have hbyl:(byV t ops u (x:Int)).length≤4096:=by
   have h1:=List.length_filter_le (fun op=>decide (preV t op u=some (x:Int))) ops
   unfold byV
   omega
  have hbyo:∀ op∈byV t ops u (x:Int),0≤op∧op<t.ops.length:=fun op h=>hops op (List.mem_filter.1 h).1
  refine qas [.op 0,.op 1,.op 2,.op 3,.op 4,.op 5,.op 6,.op 7,.op 8,.op 9,.chk 4,.op 10,.chk 4,.op 11,.op 12,.op 13,.op 14] hw (by kernel_rfl) ?_;clear hw;intro w hw
  repeat refine qaa ?_
  have hrow:RS tInt w (vget ss x) (byV t ops u (x:Int)):=by
   have h1:Sat w0 w [RowsAt tInt 3 ss (byL t ops u n ops.length)]:=hw.sel
   have h2:=h1.row (i:=x) (by rw [qkV];exact hxl)
   rw [qiO hxl,List.take_of_length_le (Nat.le_refl _)] at h2
   exact h2
  refine qac rfl (ih _ pg (vget ss x) (byV t ops u (x:Int)) (u+1) (hG'.at hw) hrow hbyo hbyl (by omega) hfu) ?_
  rintro _ w' ⟨na,rfl,hk'⟩
  replace hw:=hw.call1 hk'
  clear hk'
  refine⟨_,rfl,?_⟩
  repeat (first|refine qaa ?_|(refine qai ?_;clear hw;intro w hw)|(refine qaq ?_;clear hw;intro s w hw))
  have hw1:Sat w0 w [RdH (ChF t f ops u ss (x+1) (vl++[na])),OS tVal 190 s ((vl++[na]).map Value.pointer),Box pn 256 (nodeC nilS false (u:Int) s (.pointer ra)),RdH (fun w=>RNode t w f ra (restV t ops u) (u+1)),RowsAt tInt 3 ss (byL t ops u n ops.length),OS tVal 22 bv ss,Box p5 3 [.int .i64 (u:Int)],Box p3 136 [.pointer (some pg)]]:=by
   have h2:=Sat.rd2 (χ:=ChF t f ops u ss (x+1) (vl++[na])) (fun w h1 h2=>h2.step hvl2 h1) hw.tail
   rw [List.map_append]
   exact h2
  exact⟨x+1,_,_,⟨rfl,trivial⟩,agr,⟨by omega,by simp [hvl2],hw1⟩,by omega⟩
 have hxe:x=n:=by omega
 subst hxe
 repeat refine qaa ?_
 have h1:Sat w0 w [RdH (ChF t f ops u ss x vl),OS tVal 190 vv (vl.map Value.pointer),Box pn 256 (nodeC nilS false (u:Int) vv (.pointer ra)),RdH (fun w=>RNode t w f ra (restV t ops u) (u+1)),RowsAt tInt 3 ss (byL t ops u x ops.length),OS tVal 22 bv ss,Box p5 3 [.int .i64 (u:Int)],Box p3 136 [.pointer (some pg)]]:=hw
 have h2:=Sat.rd (Δ:=[RdH (ChF t f ops u ss x vl),OS tVal 190 vv (vl.map Value.pointer),Box pn 256 (nodeC nilS false (u:Int) vv (.pointer ra)),RdH (fun w=>RNode t w f ra (restV t ops u) (u+1)),RowsAt tInt 3 ss (byL t ops u x ops.length)]) (φ:=fun w=>RS tInt w ov ops→RNode t w (f+1) (some pn) ops v) (fun _ w h _=>by
  refine .inr ⟨hne,pn,rfl,.inr ?_⟩
  rw [←hue]
  refine⟨hul2,vv,ra,vl,h.boxR 2 rfl,h.rs 1 rfl,by rw [hvl2,hn];rfl,h.rdE 3 rfl,fun i hi=>(h.rdE 0 rfl) i (by omega) ?_⟩
  have h3:Sat _ w [RowsAt tInt 3 ss (byL t ops u x ops.length)]:=h.sel
  have h4:=h3.row (i:=i) (by rw [qkV];omega)
  rw [qiO (by omega),List.take_of_length_le (Nat.le_refl _)] at h4
  exact h4) h1
 exact qae (v:=.pointer (some pn)) rfl rfl ⟨some pn,rfl,h2.sel⟩
theorem qhX {t:TTask}(hg:GoodT t):∀ f,BuildOk t f
 | 0=>fun _ _ _ _ _ _ _ _ _ _ h=>absurd h (Nat.not_lt_zero _)
 | f+1=>qm6 hg (qhX hg f)
end Go.Proofs.YtkmbenhffledpaaGreat
