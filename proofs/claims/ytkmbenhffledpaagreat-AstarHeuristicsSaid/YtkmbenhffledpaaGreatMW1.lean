/-
  Several texts as one: LiftT, WTBase, WAHeap, WANext.
-/
import Derived.Test.YtkmbenhffledpaaGreatRows
import Derived.Test.YtkmbenhffledpaaGreatMTA
import Derived.Test.YtkmbenhffledpaaGreatMSlB
import Derived.Test.YtkmbenhffledpaaGreatTypes
import Derived.ProofKit
import Derived.ChangeOld
import Derived.Carry
import Derived.OpenShut
set_option linter.unusedSimpArgs false
set_option linter.unusedVariables false
/-
  How the arguments of the statements are read: tasks, lists of numbers, small numbers.
-/
namespace Go.Proofs.YtkmbenhffledpaaGreat
open Go.Sl Go.ChangeShapes Go.WideShapes Go.ChangeAt Go.RowKit
theorem own:ownKnob Tryz.prog.godebug=none:=by kernel_rfl
theorem laidOut:laidOutB Tryz.prog=true:=by kernel_rfl
theorem qcc:Tryz.prog.cellsOf 3=1:=by kernel_rfl
theorem qon:Tryz.prog.cellsOf 9=1:=by kernel_rfl
theorem qdp:Tryz.prog.cellsOf 77=2:=by kernel_rfl
theorem qdN:Tryz.prog.cellsOf 23=1:=by kernel_rfl
theorem qju:Tryz.prog.cellsOf 80=3:=by kernel_rfl
theorem qmD:Tryz.prog.cellsOf 54=1:=by kernel_rfl
theorem qlI:Tryz.prog.cellsOf 56=4:=by kernel_rfl
theorem qoo:Tryz.prog.cellsOf 24=1:=by kernel_rfl
theorem qho:Tryz.prog.cellsOf 22=1:=by kernel_rfl
theorem qmE:Tryz.prog.cellsOf 26=4:=by kernel_rfl
theorem wf_u8 {n:Int}(h:(Lit.int .u8 n).wf=true):0≤n∧n≤255:=by
 simpa [Lit.wf,IntKind.min,IntKind.max,IntKind.signed,IntKind.bits] using h
section
variable {H:Type}{enc:TypeId × Value→H}{w:World}{base:Nat}{spare:Nat→Bool}{held:Bool}
theorem qkz:Rd enc Tryz.prog w base spare held 77 tFact fun _=>True:=by
 intro fuel cs y h
 have hl:=qlq (i:=0) inferInstance qdp h
 match cs,hl with
 | [c0,c1],_ =>
  obtain⟨_,_,h0⟩:=qbe (i:=0) inferInstance qcc h
  obtain⟨_,_,h1⟩:=qbe (i:=1) inferInstance qcc h
  obtain⟨x0,e0,_⟩:=qfB Tryz.underlying3 _ _ _ h0
  obtain⟨x1,e1,_⟩:=qfB Tryz.underlying3 _ _ _ h1
  simp [tInt] at e0 e1
  subst e0 e1
  exact⟨⟨x0,x1⟩,rfl,trivial⟩
theorem qth:Rd enc Tryz.prog w base spare held 80 tEff fun x=>∃ e,REff w x e:=by
 intro fuel cs y h
 have hl:=qlq (i:=0) inferInstance qju h
 match cs,hl with
 | [c0,c1,c2],_ =>
  obtain⟨_,_,h0⟩:=qbe (i:=0) inferInstance qdN h
  obtain⟨_,_,h1⟩:=qbe (i:=1) inferInstance qcc h
  obtain⟨_,_,h2⟩:=qbe (i:=2) inferInstance qcc h
  obtain⟨a,e0,f,hf,_⟩:=qcH Tryz.underlying23 qdp (by decide) qkz _ _ _ h0
  obtain⟨x1,e1,_⟩:=qfB Tryz.underlying3 _ _ _ h1
  obtain⟨x2,e2,_⟩:=qfB Tryz.underlying3 _ _ _ h2
  simp [tInt,tVal] at e0 e1 e2
  subst e0 e1 e2
  exact⟨⟨c0,x1,x2⟩,rfl,⟨f,x1,x2⟩,rfl,rfl,hf⟩
theorem qdO {α β:Type}{Q:α→β→Prop}:∀ (xs:List α),(∀ x∈xs,∃ y,Q x y)→∃ ys:List β,xs.length=ys.length∧∀ (i:Nat) x y,xs[i]? = some x→ys[i]? = some y→Q x y
 | [],_=>⟨[],rfl,by simp⟩
 | x::xs,h=>by
  obtain⟨ys,hl,hq⟩:=qdO xs fun x hx=>h x (by simp [hx])
  obtain⟨y,hy⟩:=h x (by simp)
  refine⟨y::ys,by simp [hl],fun i a b ha hb => ?_⟩
  cases i with
  | zero=>simp at ha hb;subst ha hb;exact hy
  | succ i=>simp at ha hb;exact hq i a b ha hb
theorem qsw {s:Value}{vs:List EffV}(hs:RS tEff w s vs) (h:∀ x∈vs,∃ e,REff w x e):∃ es,REffs w s vs es:=by
 obtain⟨es,hl,hq⟩:=qdO vs h
 refine⟨es,hs,hl,fun i hi => ?_⟩
 rw [qaB]
 exact hq i _ _ (by simp [List.getD,show i<vs.length by omega]) (by simp [List.getD,hi])
theorem rd_op:Rd enc Tryz.prog w base spare held 56 tOp fun x=>∃ o,ROp w x o:=by
 intro fuel cs y h
 have hl:=qlq (i:=0) inferInstance qlI h
 match cs,hl with
 | [c0,c1,c2,c3],_ =>
  obtain⟨_,_,h0⟩:=qbe (i:=0) inferInstance qon h
  obtain⟨_,_,h1⟩:=qbe (i:=1) inferInstance qcc h
  obtain⟨_,_,h2⟩:=qbe (i:=2) inferInstance qdN h
  obtain⟨_,_,h3⟩:=qbe (i:=3) inferInstance qmD h
  obtain⟨x1,e1,_⟩:=qfB Tryz.underlying3 _ _ _ h1
  obtain⟨a2,e2,f,hf,_⟩:=qcH Tryz.underlying23 qdp (by decide) qkz _ _ _ h2
  obtain⟨a3,e3,xs,hx,hg⟩:=qcH Tryz.underlying54 qju (by decide) qth _ _ _ h3
  obtain⟨nm,e0,_,hnm⟩:=DataW.trod_string Tryz.underlying9 h0
  simp [tInt,tVal] at e0 e1 e2 e3
  subst e0 e1 e2 e3
  obtain⟨es,hes⟩:=qsw hx hg
  exact⟨⟨nm,x1,c2,c3⟩,rfl,⟨nm,x1,f,es⟩,rfl,hnm,rfl,hf,xs,hes⟩
theorem qti {s:Value}{vs:List OpV}(hs:RS tOp w s vs) (h:∀ x∈vs,∃ o,ROp w x o):∃ os,ROps w s vs os:=by
 obtain⟨os,hl,hq⟩:=qdO vs h
 refine⟨os,hs,hl,fun i hi => ?_⟩
 rw [qaB]
 exact hq i _ _ (by simp [List.getD,show i<vs.length by omega]) (by simp [List.getD,hi])
set_option maxRecDepth 100000 in
theorem qsx {v:Value}{r:Reach}{b0:Nat}{d:DataW H}{p:List MemPlace}(hv:Value.okWide Tryz.prog w r b0 26 v) (h:DataW.Trod enc Tryz.prog w base spare held 26 v d p) :
  ∃ a b c d vs t,v=.agg #[a,b,c,d]∧RTask w a b c d vs t:=by
 obtain⟨cs,rfl,_⟩:=okWide_struct Tryz.underlying26 hv
 obtain⟨fuel,h⟩:=h
 obtain⟨l⟩:=cs
 have hl:=qlq (i:=0) inferInstance qmE h
 simp only [Value.cells] at hl h
 match l,hl with
 | [c0,c1,c2,c3],_ =>
  obtain⟨_,_,h0⟩:=qbe (i:=0) inferInstance qho h
  obtain⟨_,_,h1⟩:=qbe (i:=1) inferInstance qho h
  obtain⟨_,_,h2⟩:=qbe (i:=2) inferInstance qdN h
  obtain⟨_,_,h3⟩:=qbe (i:=3) inferInstance qoo h
  obtain⟨a0,e0,vars,hvars,_⟩:=qcH Tryz.underlying22 qcc (by decide) (qfB Tryz.underlying3) _ _ _ h0
  obtain⟨a1,e1,ini,hini,_⟩:=qcH Tryz.underlying22 qcc (by decide) (qfB Tryz.underlying3) _ _ _ h1
  obtain⟨a2,e2,f,hf,_⟩:=qcH Tryz.underlying23 qdp (by decide) qkz _ _ _ h2
  obtain⟨a3,e3,xs,hx,hg⟩:=qcH Tryz.underlying24 qlI (by decide) rd_op _ _ _ h3
  simp [tVal] at e0 e1 e2 e3
  subst e0 e1 e2 e3
  obtain⟨os,hos⟩:=qti hx hg
  exact⟨c0,c1,c2,c3,xs,⟨vars,ini,f,os⟩,rfl,hvars,hini,hf,hos⟩
end
end Go.Proofs.YtkmbenhffledpaaGreat
/-
  Contracts of the helpers 'Num', 'Ints', 'State', 'Proper', 'operator', 'Good', 'Many', 'Small', 'Holds'.
-/
namespace Go.Proofs.YtkmbenhffledpaaGreat
open Go.Sl
attribute [local irreducible] vc opsW opsD opV opW PureV ReadV Thn Blk
def errV (c:Int):Value:=if c=0 then .nilIface else .iface 116 (.int .i64 c)
theorem qaT {c:Int}(h:c=0):errV c=.nilIface:=by simp [errV,h]
theorem qaA {c:Int}(h:c≠0):errV c=.iface 116 (.int .i64 c):=by simp [errV,h]
set_option maxRecDepth 8000 in
theorem qns {w0:World}{a b:Value}{vars s:List Int}(ha:RS tInt w0 a vars) (hb:RS tInt w0 b s) :
  Calls Tryz.prog 59 #[a,b] w0 fun e w'=>(∃ r,e=.returned (.bool r)∧(r=true↔StateOk vars s))∧Sat w0 w' []:=by
 have hla:=ha.big
 have hlb:=hb.big
 have hw:=Sat.start w0
 refine qab (args:=[a,b]) mixed Tryz.func59 rfl (by kernel_rfl) (Nat.le_of_ble_eq_true rfl) ?_
 repeat refine qaa ?_
 refine go_if (fun h0 => ?_) (fun h0 => ?_)
 ·repeat refine qaa ?_
  refine qae (v:=.bool false) rfl rfl ⟨⟨false,rfl,iffF fun h => ?_⟩,hw⟩
  exact absurd (by have:=h.1;omega) h0
 ·repeat refine qaa ?_
  refine qap [4,5,13,14,15,16,17,18,19,20,21,22,23,24,25,26,27,28,29,30,31,32] (G:=Nat) (fun k=>[(13,.int .i64 k)]) (fun k w=>k≤s.length∧(∀ i,i<k→0≤s.getD i tInt.dflt∧s.getD i tInt.dflt<vars.getD i tInt.dflt)∧Sat w0 w []) (fun k=>s.length-k) 0 (fun _=>rfl) ⟨rfl,trivial⟩ ⟨Nat.zero_le _,fun i hi=>absurd hi (Nat.not_lt_zero _),hw⟩ ?_
  clear hw
  rintro σ k w ⟨hk,hpre,hw⟩
  repeat refine qaa ?_
  refine go_if (fun h1 => ?_) (fun h1 => ?_)
  ·repeat (first|refine qaa ?_|(refine qag ?_;clear hw;intro w hw))
   refine go_if (fun h2 => ?_) (fun h2 => ?_)
   ·repeat refine qaa ?_
    refine qae (v:=.bool false) rfl rfl ⟨⟨false,rfl,iffF fun h => ?_⟩,hw⟩
    have:=h.2 k (by omega)
    omega
   ·repeat refine qaa ?_
    refine⟨k+1,⟨rfl,trivial⟩,agr,⟨by omega,fun i hi => ?_,hw⟩,by omega⟩
    by_cases h:i=k
    ·subst h;omega
    ·exact hpre i (by omega)
  ·repeat refine qaa ?_
   exact qae (v:=.bool true) rfl rfl ⟨⟨true,rfl,iffT ⟨by omega,fun i hi=>hpre i (by omega)⟩⟩,hw⟩
set_option maxRecDepth 8000 in
set_option maxHeartbeats 1000000 in
theorem qcV {w0:World}{a b:Value}{vars:List Int}{f:List Fact}(ha:RS tInt w0 a vars) (hb:RS tFact w0 b f) :
  Calls Tryz.prog 60 #[a,b] w0 fun e w'=>(∃ r,e=.returned (.bool r)∧(r=true↔FactsOk vars f))∧Sat w0 w' []:=by
 have hla:=ha.big
 have hlb:=hb.big
 have hw:=Sat.start w0
 refine qab (args:=[a,b]) mixed Tryz.func60 rfl (by kernel_rfl) (Nat.le_of_ble_eq_true rfl) ?_
 repeat refine qaa ?_
 refine qap [4,5,6,9,10,11,12,13,14,15,16,17,18,19,20,21,22,23,24,25,26,27,28,29,30,31,32,33,34,35,36,37,38,39,40,41,42,43,44,45,46,47,48,49,50,51,52,53,54] (G:=Nat) (fun k=>[(9,.int .i64 k)]) (fun k w=>k≤f.length∧(∀ i,i<k→FactOk vars (f.getD i tFact.dflt)∧(0<i→(f.getD (i-1) tFact.dflt).var<(f.getD i tFact.dflt).var))∧Sat w0 w []) (fun k=>f.length-k) 0 (fun _=>rfl) ⟨rfl,trivial⟩ ⟨Nat.zero_le _,fun i hi=>absurd hi (Nat.not_lt_zero _),hw⟩ ?_
 clear hw
 rintro σ k w ⟨hk,hpre,hw⟩
 repeat refine qaa ?_
 refine go_if (fun h1 => ?_) (fun h1 => ?_)
 ·repeat (first|refine qaa ?_|(refine qaf ?_;clear hw;intro p w hw)|(refine qag ?_;clear hw;intro w hw))
  refine go_if (fun h2 => ?_) (fun h2 => ?_)
  ·repeat refine qaa ?_
   refine qae (v:=.bool false) rfl rfl ⟨⟨false,rfl,iffF fun h => ?_⟩,hw.tail⟩
   have:=h k (by omega)
   unfold FactOk at this
   have hk1:((k:Int)-1).toNat=k-1:=by omega
   rw [hk1] at h2
   omega
  ·repeat refine qaa ?_
   refine⟨k+1,⟨rfl,trivial⟩,agr,⟨by omega,fun i hi => ?_,hw.tail⟩,by omega⟩
   by_cases h:i=k
   ·subst h
    have hk1:((i:Int)-1).toNat=i-1:=by omega
    rw [hk1] at h2
    unfold FactOk
    omega
   ·exact hpre i (by omega)
 ·repeat refine qaa ?_
  exact qae (v:=.bool true) rfl rfl ⟨⟨true,rfl,iffT fun i hi=>hpre i (by omega)⟩,hw⟩
set_option maxRecDepth 8000 in
set_option maxHeartbeats 2000000 in
theorem qi3 {w0:World}{a:Value}{vars:List Int}{v:OpV}{o:TOp}(ha:RS tInt w0 a vars) (hv:ROp w0 v o) :
  Calls Tryz.prog 61 #[a,.agg (tOp.enc v).toArray] w0 fun e w'=>(∃ r,e=.returned (.bool r)∧(r=true↔OpOk vars o))∧Sat w0 w' []:=by
 have hla:=ha.big
 have hw:=Sat.start w0
 obtain⟨hname,hsize,hcost,hpre,es,hes⟩:=hv
 have hrs:=hes.rs
 have hpl:=hpre.big
 have hel:=hrs.big
 have hesl:=hes.len
 refine qab (args:=[a,.agg (tOp.enc v).toArray]) mixed Tryz.func61 rfl (by kernel_rfl) (Nat.le_of_ble_eq_true rfl) ?_
 repeat (first|refine qaa ?_|(refine qaf ?_;clear hw;intro p w hw))
 refine qov (fun h1 => ?_) (fun h1 => ?_)
 ·simp only [h1,gvff,gvtt];(try simp only [beq_iff_eq,Bool.and_eq_true,Bool.or_eq_true,decide_eq_true_eq,decide_eq_false_iff_not,Bool.not_eq_true,Bool.not_eq_false,Bool.not_eq_eq_eq_not,Bool.not_true,Bool.not_false,Bool.and_eq_false_iff,Bool.or_eq_false_iff,bne_iff_ne,ne_eq,Int.not_lt,Int.not_le,Nat.not_lt,Nat.not_le] at h1)
  repeat refine qaa ?_
  refine qae (v:=.bool false) rfl rfl ⟨⟨false,rfl,iffF fun h => ?_⟩,hw.tail⟩
  have:=h.cost0
  have:=h.cost1
  have:=h.effs
  have:=h.name.1
  rw [←hname] at this
  omega
 ·simp only [h1,gvff,gvtt];(try simp only [beq_iff_eq,Bool.and_eq_true,Bool.or_eq_true,decide_eq_true_eq,decide_eq_false_iff_not,Bool.not_eq_true,Bool.not_eq_false,Bool.not_eq_eq_eq_not,Bool.not_true,Bool.not_false,Bool.and_eq_false_iff,Bool.or_eq_false_iff,bne_iff_ne,ne_eq,Int.not_lt,Int.not_le,Nat.not_lt,Nat.not_le] at h1)
  repeat refine qaa ?_
  refine qac rfl (qcV (a:=a) (b:=v.pre) (ha.at hw) (hpre.at hw)) ?_
  rintro _ w' ⟨⟨r,rfl,hr⟩,hk⟩
  replace hw:=hw.call0 hk
  clear hk
  refine⟨_,rfl,?_⟩
  repeat refine qaa ?_
  cases r with
  | false =>
   repeat refine qaa ?_
   refine qae (v:=.bool false) rfl rfl ⟨⟨false,rfl,iffF fun h => ?_⟩,hw.tail⟩
   have:=hr.2 h.pre
   cases this
  | true =>
   have hpok:=hr.1 rfl
   repeat refine qaa ?_
   refine qap [4,5,38,39,40,41,42,43,44,45,46,47,48,49,50,51,52,53] (G:=Nat) (fun k=>[(38,.int .i64 k)]) (fun k w=>k≤v.name.size∧(∀ i,i<k→32≤bat v.name i∧bat v.name i≤126)∧Sat w0 w [Box p 56 (tOp.enc v)]) (fun k=>v.name.size-k) 0 (fun _=>rfl) ⟨rfl,trivial⟩ ⟨Nat.zero_le _,fun i hi=>absurd hi (Nat.not_lt_zero _),hw⟩ ?_
   clear hw
   rintro σ k w ⟨hk,hnm,hw⟩
   repeat refine qaa ?_
   refine go_if (fun h2 => ?_) (fun h2 => ?_)
   ·repeat refine qaa ?_
    refine go_if (fun h3 => ?_) (fun h3 => ?_)
    ·repeat refine qaa ?_
     refine qae (v:=.bool false) rfl rfl ⟨⟨false,rfl,iffF fun h => ?_⟩,hw.tail⟩
     have:=h.name.2 k (by rw [←hname];omega)
     rw [←hname] at this
     omega
    ·repeat refine qaa ?_
     refine⟨k+1,⟨rfl,trivial⟩,agr,⟨by omega,fun i hi => ?_,hw⟩,by omega⟩
     by_cases h:i=k
     ·subst h;omega
     ·exact hnm i (by omega)
   ·have hnok:NameOk o.name:=by rw [←hname];exact⟨by omega,fun i hi=>hnm i (by omega)⟩
    repeat refine qaa ?_
    refine qap [4,7,57,58,59,60,61,62,63,64,65,66,67,68,69,70,71,72,73,74,75,76,77] (G:=Nat) (fun k=>[(57,.int .i64 k)]) (fun k w=>k≤o.effs.length∧(∀ i,i<k→EffOk vars (o.effs.getD i dEff))∧Sat w0 w [Box p 56 (tOp.enc v)]) (fun k=>o.effs.length-k) 0 (fun _=>rfl) ⟨rfl,trivial⟩ ⟨Nat.zero_le _,fun i hi=>absurd hi (Nat.not_lt_zero _),hw⟩ ?_
    clear hw
    rintro σ1 k w ⟨hk2,hef,hw⟩
    repeat refine qaa ?_
    refine go_if (fun h4 => ?_) (fun h4 => ?_)
    ·have hek:=hes.at_ k (by omega)
     have hwh:=hek.when
     have hone:=hek.one
     repeat (first|refine qaa ?_|(refine qaf ?_;clear hw;intro p w hw)|(refine qag ?_;clear hw;intro w hw))
     refine qac rfl (qcV (a:=a) (b:=(eget tEff es k).when) (ha.at hw) (hwh.at hw)) ?_
     rintro _ w' ⟨⟨r,rfl,hr⟩,hk'⟩
     replace hw:=hw.call0 hk'
     clear hk'
     refine⟨_,rfl,?_⟩
     cases r with
     | false =>
      repeat refine qaa ?_
      refine qae (v:=.bool false) rfl rfl ⟨⟨false,rfl,iffF fun h => ?_⟩,hw.tail.tail⟩
      have:=hr.2 (h.eff k (by omega)).1
      cases this
     | true =>
      have hwok:=hr.1 rfl
      repeat refine qaa ?_
      refine qah tFact (x1:=⟨(eget tEff es k).var,(eget tEff es k).val⟩) rfl rfl rfl (Nat.le_of_ble_eq_true rfl) (Nat.zero_lt_succ _) hw ?_
      clear hw
      intro s w hw
      repeat refine qaa ?_
      refine qac rfl (qcV (a:=a) (b:=s) (ha.at hw) (rsO hw)) ?_
      rintro _ w' ⟨⟨r,rfl,hr2⟩,hk'⟩
      replace hw:=hw.call0 hk'
      clear hk'
      rw [hek.var,hek.val] at hr2
      refine⟨_,rfl,?_⟩
      cases r with
      | false =>
       repeat refine qaa ?_
       refine qae (v:=.bool false) rfl rfl ⟨⟨false,rfl,iffF fun h => ?_⟩,hw.tail.tail.tail⟩
       have:=hr2.2 (h.eff k (by omega)).2
       cases this
      | true =>
       have hvok:=hr2.1 rfl
       repeat refine qaa ?_
       refine⟨k+1,⟨rfl,trivial⟩,agr,⟨by omega,fun i hi => ?_,hw.tail.tail⟩,by omega⟩
       by_cases h:i=k
       ·subst h;exact⟨hwok,hvok⟩
       ·exact hef i (by omega)
    ·repeat refine qaa ?_
     refine qae (v:=.bool true) rfl rfl ⟨⟨true,rfl,iffT ⟨by omega,by omega,by omega,hnok,hpok,fun i hi=>hef i (by omega)⟩⟩,hw.tail⟩
set_option maxRecDepth 8000 in
set_option maxHeartbeats 2000000 in
theorem qpY {w0:World}{a b c d:Value}{vs:List OpV}{t:TTask}(ht:RTask w0 a b c d vs t) :
  Calls Tryz.prog 27 #[.agg #[a,b,c,d]] w0 fun e w'=>(∃ r,e=.returned (.bool r)∧(r=true↔GoodT t))∧Sat w0 w' []:=by
 obtain⟨ha,hb,hc,hd⟩:=ht
 have hrs:=hd.rs
 have hdl:=hd.len
 have hla:=ha.big
 have hll:=hrs.big
 have hw:=Sat.start w0
 refine qab (args:=[.agg #[a,b,c,d]]) mixed Tryz.func27 rfl (by kernel_rfl) (Nat.le_of_ble_eq_true rfl) ?_
 repeat (first|refine qaa ?_|(refine qaf ?_;clear hw;intro p w hw))
 refine go_if (fun h1 => ?_) (fun h1 => ?_)
 ·repeat refine qaa ?_
  refine qae (v:=.bool false) rfl rfl ⟨⟨false,rfl,iffF fun h => ?_⟩,hw.tail⟩
  have:=h.vars
  have:=h.ops
  omega
 ·repeat refine qaa ?_
  refine qap [2,4,20,21,22,23,24,25,26,27,28,29,30] (G:=Nat) (fun k=>[(20,.int .i64 k)]) (fun k w=>k≤t.vars.length∧(∀ i,i<k→1≤t.vars.getD i tInt.dflt∧t.vars.getD i tInt.dflt≤64)∧Sat w0 w [Box p 26 [a,b,c,d]]) (fun k=>t.vars.length-k) 0 (fun _=>rfl) ⟨rfl,trivial⟩ ⟨Nat.zero_le _,fun i hi=>absurd hi (Nat.not_lt_zero _),hw⟩ ?_
  clear hw
  rintro σ k w ⟨hk,hdm,hw⟩
  repeat refine qaa ?_
  refine go_if (fun h2 => ?_) (fun h2 => ?_)
  ·repeat refine qaa ?_
   refine go_if (fun h3 => ?_) (fun h3 => ?_)
   ·repeat refine qaa ?_
    refine qae (v:=.bool false) rfl rfl ⟨⟨false,rfl,iffF fun h => ?_⟩,hw.tail⟩
    have:=h.dom k (by omega)
    omega
   ·repeat refine qaa ?_
    refine⟨k+1,⟨rfl,trivial⟩,agr,⟨by omega,fun i hi => ?_,hw⟩,by omega⟩
    by_cases h:i=k
    ·subst h;omega
    ·exact hdm i (by omega)
  ·repeat refine qaa ?_
   refine qac rfl (qns (a:=a) (b:=b) (ha.at hw) (hb.at hw)) ?_
   rintro _ w' ⟨⟨r,rfl,hr⟩,hk'⟩
   replace hw:=hw.call0 hk'
   clear hk'
   refine⟨_,rfl,?_⟩
   cases r with
   | false =>
    repeat refine qaa ?_
    refine qae (v:=.bool false) rfl rfl ⟨⟨false,rfl,iffF fun h => ?_⟩,hw.tail⟩
    have:=hr.2 h.init
    cases this
   | true =>
    have hsok:=hr.1 rfl
    repeat refine qaa ?_
    refine qac rfl (qcV (a:=a) (b:=c) (ha.at hw) (hc.at hw)) ?_
    rintro _ w' ⟨⟨r,rfl,hr2⟩,hk'⟩
    replace hw:=hw.call0 hk'
    clear hk'
    refine⟨_,rfl,?_⟩
    cases r with
    | false =>
     repeat refine qaa ?_
     refine qae (v:=.bool false) rfl rfl ⟨⟨false,rfl,iffF fun h => ?_⟩,hw.tail⟩
     have:=hr2.2 h.goal
     cases this
    | true =>
     have hgok:=hr2.1 rfl
     repeat refine qaa ?_
     refine qap [2,6,48,49,50,51,52,53,54,55,56,57] (G:=Nat) (fun k=>[(48,.int .i64 k)]) (fun k w=>k≤t.ops.length∧(∀ i,i<k→OpOk t.vars (t.ops.getD i dOp))∧Sat w0 w [Box p 26 [a,b,c,d]]) (fun k=>t.ops.length-k) 0 (fun _=>rfl) ⟨rfl,trivial⟩ ⟨Nat.zero_le _,fun i hi=>absurd hi (Nat.not_lt_zero _),hw⟩ ?_
     clear hw
     rintro σ1 k w ⟨hk2,hop,hw⟩
     repeat refine qaa ?_
     refine go_if (fun h4 => ?_) (fun h4 => ?_)
     ·have hok:=hd.at_ k (by omega)
      have hone:=hok.one
      repeat (first|refine qaa ?_|(refine qaf ?_;clear hw;intro p w hw)|(refine qag ?_;clear hw;intro w hw))
      refine qac rfl (qi3 (a:=a) (v:=eget tOp vs k) (ha.at hw) (hok.at hw)) ?_
      rintro _ w' ⟨⟨r,rfl,hr3⟩,hk'⟩
      replace hw:=hw.call0 hk'
      clear hk'
      refine⟨_,rfl,?_⟩
      cases r with
      | false =>
       repeat refine qaa ?_
       refine qae (v:=.bool false) rfl rfl ⟨⟨false,rfl,iffF fun h => ?_⟩,hw.tail.tail⟩
       have:=hr3.2 (h.op k (by omega))
       cases this
      | true =>
       repeat refine qaa ?_
       refine⟨k+1,⟨rfl,trivial⟩,agr,⟨by omega,fun i hi => ?_,hw.tail⟩,by omega⟩
       by_cases h:i=k
       ·subst h;exact hr3.1 rfl
       ·exact hop i (by omega)
     ·repeat refine qaa ?_
      refine qae (v:=.bool true) rfl rfl ⟨⟨true,rfl,iffT ⟨by omega,by omega,fun i hi=>hdm i (by omega),hsok,hgok,fun i hi=>hop i (by omega)⟩⟩,hw.tail⟩
end Go.Proofs.YtkmbenhffledpaaGreat
/-
  Contracts of A*'s heap: 'cmp.Compare', 'cmp.Or', the methods.
-/
namespace Go.Proofs.YtkmbenhffledpaaGreat
open Go.Sl Go
attribute [local irreducible] vc opsW opsD opV opW PureV ReadV Thn Blk
def cmpI (a b:Int):Int:=if a<b then -1 else if b<a then 1 else 0
set_option maxRecDepth 8000 in
theorem qgL {w0:World}{a:Int}:Calls Tryz.prog 165 #[.int .i64 a] w0 fun e w'=>e=.returned (.bool false)∧Sat w0 w' []:=by
 have hw:=Sat.start w0
 refine qab (args:=[.int .i64 a]) mixed Tryz.func165 rfl (by kernel_rfl) (Nat.le_of_ble_eq_true rfl) ?_
 repeat refine qaa ?_
 exact qae (v:=.bool (!decide (a=a))) rfl rfl ⟨by simp,hw⟩
set_option maxRecDepth 8000 in
theorem qgM {w0:World}{a b:Int}:Calls Tryz.prog 215 #[.int .i64 a,.int .i64 b] w0 fun e w'=>e=.returned (.int .i64 (cmpI a b))∧Sat w0 w' []:=by
 have hw:=Sat.start w0
 refine qab (args:=[.int .i64 a,.int .i64 b]) mixed Tryz.func215 rfl (by kernel_rfl) (Nat.le_of_ble_eq_true rfl) ?_
 repeat refine qaa ?_
 refine qac rfl qgL ?_
 rintro _ w' ⟨rfl,hk'⟩
 replace hw:=hw.call0 hk'
 clear hk'
 refine⟨_,rfl,?_⟩
 repeat refine qaa ?_
 refine qac rfl qgL ?_
 rintro _ w' ⟨rfl,hk'⟩
 replace hw:=hw.call0 hk'
 clear hk'
 refine⟨_,rfl,?_⟩
 repeat refine qaa ?_
 refine go_if (fun h1 => ?_) (fun h1 => ?_)
 ·have e:cmpI a b = -1:=if_pos h1
  repeat refine qaa ?_
  exact qae (v:=.int .i64 (-1)) rfl rfl ⟨by rw [e],hw⟩
 repeat refine qaa ?_
 refine go_if (fun h2 => ?_) (fun h2 => ?_)
 ·have e:cmpI a b=1:=by unfold cmpI;rw [if_neg (by omega),if_pos (by omega)]
  repeat refine qaa ?_
  exact qae (v:=.int .i64 1) rfl rfl ⟨by rw [e],hw⟩
 have e:cmpI a b=0:=by unfold cmpI;rw [if_neg (by omega),if_neg (by omega)]
 repeat refine qaa ?_
 exact qae (v:=.int .i64 0) rfl rfl ⟨by rw [e],hw⟩
def orI:List Int→Int
 | []=>0
 | x::l=>if x=0 then orI l else x
set_option maxRecDepth 8000 in
theorem qnn {w0:World}{v:Value}{xs:List Int}(hx:RS tInt w0 v xs):Calls Tryz.prog 214 #[v] w0 fun e w'=>e=.returned (.int .i64 (orI xs))∧Sat w0 w' []:=by
 have hb:=hx.big
 have hw:=Sat.start w0
 refine qab (args:=[v]) mixed Tryz.func214 rfl (by kernel_rfl) (Nat.le_of_ble_eq_true rfl) ?_
 repeat refine qaa ?_
 refine qap [2,5,8,9,10,11,12,13,14,15,16] (G:=Nat) (fun k=>[(8,.int .i64 k)]) (fun k w=>k≤xs.length∧orI (xs.drop k)=orI xs∧Sat w0 w []) (fun k=>xs.length-k) 0 (fun _=>rfl) ⟨rfl,trivial⟩ ⟨Nat.zero_le _,rfl,hw⟩ ?_
 clear hw
 rintro σ k w ⟨hk,ho,hw⟩
 repeat refine qaa ?_
 refine go_if (fun h1 => ?_) (fun h1 => ?_)
 ·have hkl:k<xs.length:=by omega
  have hdr:xs.drop k=xs.getD k tInt.dflt::xs.drop (k+1):=by rw [qaj hkl];exact List.drop_eq_getElem_cons hkl
  rw [hdr] at ho
  repeat refine qaa ?_
  refine go_if (fun h2 => ?_) (fun h2 => ?_)
  ·have e:orI xs=xs.getD k tInt.dflt:=by rw [←ho];unfold orI;rw [if_neg h2]
   repeat refine qaa ?_
   exact qae (v:=.int .i64 (xs.getD k tInt.dflt)) rfl rfl ⟨by rw [e],hw⟩
  ·have e:orI (xs.drop (k+1))=orI xs:=by
    rw [←ho];conv=>rhs;unfold orI
    rw [if_pos h2]
   repeat refine qaa ?_
   exact⟨k+1,⟨rfl,trivial⟩,agr,⟨by omega,e,hw⟩,by omega⟩
 have hke:k=xs.length:=by omega
 rw [hke,List.drop_length] at ho
 repeat refine qaa ?_
 exact qae (v:=.int .i64 0) rfl rfl ⟨by rw [←ho];rfl,hw⟩
theorem qb3 (x:Int) (l:List Int):orI (x::l)=if x=0 then orI l else x:=rfl
theorem qkI {a b:Int}(h:a<b):cmpI a b = -1:=if_pos h
theorem qkJ {a b:Int}(h:a=b):cmpI a b=0:=by unfold cmpI;rw [if_neg (by omega),if_neg (by omega)]
theorem qkK {a b:Int}(h:b<a):cmpI a b=1:=by unfold cmpI;rw [if_neg (by omega),if_pos h]
theorem qtl (a b:Ent):decide (orI [cmpI a.f b.f,cmpI a.h b.h,cmpI a.ord b.ord]<0)=elt a b:=by
 unfold elt
 refine decide_eq_decide.2 ?_
 rcases Int.lt_trichotomy a.f b.f with h|h|h
 ·rw [qkI h,qb3,if_neg (by decide)];omega
 ·rw [qkJ h,qb3,if_pos rfl]
  rcases Int.lt_trichotomy a.h b.h with h2|h2|h2
  ·rw [qkI h2,qb3,if_neg (by decide)];omega
  ·rw [qkJ h2,qb3,if_pos rfl]
   rcases Int.lt_trichotomy a.ord b.ord with h3|h3|h3
   ·rw [qkI h3,qb3,if_neg (by decide)];omega
   ·rw [qkJ h3,qb3,if_pos rfl];show (0:Int)<0↔_;omega
   ·rw [qkK h3,qb3,if_neg (by decide)];omega
  ·rw [qkK h2,qb3,if_neg (by decide)];omega
 ·rw [qkK h,qb3,if_neg (by decide)];omega
set_option maxRecDepth 8000 in
set_option maxHeartbeats 4000000 in
theorem qch {w0:World}{h:Value}{xs:List Ent}{i j:Nat}{ii jj:Int}(hx:RS tEnt w0 h xs) (ei:ii=i) (ej:jj=j) (hi:i<xs.length) (hj:j<xs.length) :
  Calls Tryz.prog 212 #[h,.int .i64 ii,.int .i64 jj] w0 fun e w'=>e=.returned (.bool (elt (hg tEnt.dflt xs i) (hg tEnt.dflt xs j)))∧Sat w0 w' []:=by
 subst ei ej
 have hw:=Sat.start w0
 refine qab (args:=[h,.int .i64 i,.int .i64 j]) mixed Tryz.func212 rfl (by kernel_rfl) (Nat.le_of_ble_eq_true rfl) ?_
 repeat refine qaa ?_
 refine qb0 [9,10,11,12,13,14,15,16,7,8] (G:=Addr × Addr) (fun g=>[(7,.pointer (some g.1)),(8,.pointer (some g.2))]) (fun g w=>Sat w0 w [Box g.1 230 (tEnt.enc (xs.getD i tEnt.dflt)),Box g.2 230 (tEnt.enc (xs.getD j tEnt.dflt))]) (fun _=>rfl) ?_ ?_
 ·refine qeP (.step 0 [.op 0] (.step 1 [.op 1] (.step 2 [.op 2] (.step 4 [.op 4] (.step 5 [.op 5] (.step 6 [.op 6] (.step 3 [.op 3] (.step 7 [.op 7] (.alt 8 [.op 8,.chk 3,.chk 7] (.step 9 [.op 9,.chk 3,.chk 7] (.step 10 [.op 10,.chk 7] (.step 11 [.op 11] (.lin [])))) (.alt 9 [.op 9,.chk 3,.chk 7] (.step 8 [.op 8,.chk 3,.chk 7] (.step 10 [.op 10,.chk 7] (.step 11 [.op 11] (.lin [])))) (.stop))))))))))) hw (by kernel_rfl) (by kernel_rfl) ?_;clear hw;intro w hw
  repeat' (first|refine qaa ?_|(refine qaf ?_;clear hw;intro p w hw)|(refine qai ?_;clear hw;intro w hw)|(refine qag ?_;clear hw;intro w hw)|refine qaw ?_ ?_|exact qaM)
  all_goals (first|exact⟨(_,_),⟨rfl,rfl,trivial⟩,agr,hw⟩|exact⟨(_,_),⟨rfl,rfl,trivial⟩,agr,hw.swap⟩)
 clear hw
 rintro σ ⟨pa,pb⟩ w hw
 simp only at hw
 obtain⟨ea,hea⟩:∃ ea:Ent,ea=xs.getD i tEnt.dflt:=⟨_,rfl⟩
 obtain⟨eb,heb⟩:∃ eb:Ent,eb=xs.getD j tEnt.dflt:=⟨_,rfl⟩
 rw [←hea,←heb] at hw
 refine qbV ?_
 refine qas [.op 0,.op 1,.op 2,.op 3,.op 5,.op 6,.op 7,.op 8,.op 10,.op 11,.op 12,.op 13,.op 4,.chk 6,.chk 8,.chk 11,.chk 13,.op 9,.chk 11,.chk 13,.op 14,.op 15,.op 16,.op 17,.op 18] hw (by kernel_rfl) ?_;clear hw;intro w hw
 repeat refine qaa ?_
 refine qac rfl qgM ?_
 rintro _ w' ⟨rfl,hk'⟩
 replace hw:=hw.call0 hk'
 clear hk'
 refine⟨_,rfl,?_⟩
 repeat refine qaa ?_
 refine qac rfl qgM ?_
 rintro _ w' ⟨rfl,hk'⟩
 replace hw:=hw.call0 hk'
 clear hk'
 refine⟨_,rfl,?_⟩
 repeat refine qaa ?_
 refine qac rfl qgM ?_
 rintro _ w' ⟨rfl,hk'⟩
 replace hw:=hw.call0 hk'
 clear hk'
 refine⟨_,rfl,?_⟩
 repeat refine qaa ?_
 refine qa0 (T:=tInt) [cmpI ea.f eb.f,cmpI ea.h eb.h,cmpI ea.ord eb.ord] [.int .i64 (cmpI ea.f eb.f),.int .i64 (cmpI ea.h eb.h),.int .i64 (cmpI ea.ord eb.ord)] rfl rfl rfl rfl rfl (by decide) (by decide) (by decide) hw ?_
 clear hw
 intro sl w hw
 repeat refine qaa ?_
 refine qac rfl (qnn (rsO (s:=sl) hw)) ?_
 rintro _ w' ⟨rfl,hk'⟩
 replace hw:=hw.call0 hk'
 clear hk'
 refine⟨_,rfl,?_⟩
 repeat refine qaa ?_
 exact qae (v:=.bool (decide (orI [cmpI ea.f eb.f,cmpI ea.h eb.h,cmpI ea.ord eb.ord]<0))) rfl rfl ⟨by rw [qtl,hea,heb],hw.sel⟩
section
variable {c0 c1 c2 c3 c4 c5 c6 c7 c8 c9 c11 c12 c13 c14:Value}
set_option maxRecDepth 8000 in
theorem qci {w0 w:World}{Γ:List HP}{h:Value}{xs:List Ent}{i j:Nat}{ii jj:Int}(ei:ii=i) (ej:jj=j) (hi:i<xs.length) (hj:j<xs.length) (hw:Sat w0 w (OS tEnt 230 h xs::Γ)) :
  Calls Tryz.prog 213 #[h,.int .i64 ii,.int .i64 jj] w fun e w'=>e=.returned (.tuple #[])∧Sat w0 w' (OS tEnt 230 h (sw tEnt.dflt xs i j)::Γ):=by
 subst ei ej
 refine qab (args:=[h,.int .i64 i,.int .i64 j]) mixed Tryz.func213 rfl (by kernel_rfl) (Nat.le_of_ble_eq_true rfl) ?_
 repeat (first|refine qaa ?_|(refine qag ?_;clear hw;intro w hw))
 refine qb5 (s:=h) (j:=i) (x':=hg tEnt.dflt xs j) rfl rfl rfl rfl hw inferInstance (by omega) ?_
 clear hw
 intro w hw
 have hl:(xs.set i (hg tEnt.dflt xs j)).length=xs.length:=by simp
 repeat refine qaa ?_
 refine qb5 (s:=h) (j:=j) (x':=hg tEnt.dflt xs i) rfl rfl rfl rfl hw inferInstance (by omega) ?_
 clear hw
 intro w hw
 repeat refine qaa ?_
 exact qaz rfl ⟨rfl,hw⟩
set_option maxRecDepth 8000 in
theorem qle {w0 w:World}{Γ:List HP}{q:Addr}{h:Value}{xs:List Ent}{v:Ent}(hl:xs.length<1099511627776) (hw:Sat w0 w (OS tEnt 230 h xs::Box q 154 [c0,c1,c2,c3,c4,c5,c6,c7,c8,c9,h,c11,c12,c13,c14]::Γ)) :
  Calls Tryz.prog 219 #[(.pointer (some (q.add 10))),.iface 230 (.agg #[.int .i64 v.f,.int .i64 v.h,.int .i64 v.ord,.int .i64 v.id,.int .i64 v.g])] w fun e w'=>e=.returned (.tuple #[])∧∃ h',Sat w0 w' (OS tEnt 230 h' (xs++[v])::Box q 154 [c0,c1,c2,c3,c4,c5,c6,c7,c8,c9,h',c11,c12,c13,c14]::Γ):=by
 refine qab (args:=[(.pointer (some (q.add 10))),.iface 230 (.agg #[.int .i64 v.f,.int .i64 v.h,.int .i64 v.ord,.int .i64 v.id,.int .i64 v.g])]) mixed Tryz.func219 rfl (by kernel_rfl) (Nat.le_of_ble_eq_true rfl) ?_
 repeat refine qaa ?_
 refine qas [.op 0,.op 1,.op 2,.op 3,.op 4,.op 5,.op 6,.chk 3,.op 7,.op 8,.op 9] hw (by kernel_rfl) ?_;clear hw;intro w hw
 repeat refine qaa ?_
 refine qah tEnt (x1:=v) rfl rfl rfl (Nat.le_of_ble_eq_true rfl) (Nat.zero_lt_succ _) hw ?_
 clear hw
 intro s w hw
 repeat (first|refine qaa ?_|(refine qai ?_;clear hw;intro w hw)|(refine qaq ?_;clear hw;intro s w hw))
 exact qaz rfl ⟨rfl,_,hw.tail⟩
set_option maxRecDepth 8000 in
theorem qno {w0 w:World}{Γ:List HP}{q:Addr}{h:Value}{xs:List Ent}(hl:0<xs.length) (hb:xs.length≤1099511627776) (hw:Sat w0 w (OS tEnt 230 h xs::Box q 154 [c0,c1,c2,c3,c4,c5,c6,c7,c8,c9,h,c11,c12,c13,c14]::Γ)) :
  Calls Tryz.prog 218 #[(.pointer (some (q.add 10)))] w fun e w'=>e=.returned (.iface 230 ((.agg #[.int .i64 (hg tEnt.dflt xs (xs.length-1)).f,.int .i64 (hg tEnt.dflt xs (xs.length-1)).h,.int .i64 (hg tEnt.dflt xs (xs.length-1)).ord,.int .i64 (hg tEnt.dflt xs (xs.length-1)).id,.int .i64 (hg tEnt.dflt xs (xs.length-1)).g])))∧∃ h',Sat w0 w' (OS tEnt 230 h' (xs.take (xs.length-1))::Box q 154 [c0,c1,c2,c3,c4,c5,c6,c7,c8,c9,h',c11,c12,c13,c14]::Γ):=by
 refine qab (args:=[(.pointer (some (q.add 10)))]) mixed Tryz.func218 rfl (by kernel_rfl) (Nat.le_of_ble_eq_true rfl) ?_
 repeat (first|refine qaa ?_|(refine qaf ?_;clear hw;intro p w hw)|(refine qag ?_;clear hw;intro w hw))
 have hk:(((xs.length:Nat):Int)-1).toNat=xs.length-1:=by omega
 replace hw:=Sat.sub (s:=h) (xs:=xs) hw inferInstance 0 (((xs.length:Nat):Int)-1).toNat (by omega) (by omega)
 repeat (first|refine qaa ?_|(refine qag ?_;clear hw;intro w hw))
 refine qae (v:=.iface 230 ((.agg #[.int .i64 (hg tEnt.dflt xs (((xs.length:Nat):Int)-1).toNat).f,.int .i64 (hg tEnt.dflt xs (((xs.length:Nat):Int)-1).toNat).h,.int .i64 (hg tEnt.dflt xs (((xs.length:Nat):Int)-1).toNat).ord,.int .i64 (hg tEnt.dflt xs (((xs.length:Nat):Int)-1).toNat).id,.int .i64 (hg tEnt.dflt xs (((xs.length:Nat):Int)-1).toNat).g]))) rfl rfl ⟨by rw [hk],ssub h tEnt.sz 0 (((xs.length:Nat):Int)-1).toNat,?_⟩
 have hc:cut xs 0 (((xs.length:Nat):Int)-1).toNat=xs.take (xs.length-1):=by rw [hk];simp [cut]
 rw [hc] at hw
 exact hw.tail
set_option maxRecDepth 8000 in
theorem qhU {w0:World}{h:Value}{xs:List Ent}(hx:RS tEnt w0 h xs) :
  Calls Tryz.prog 211 #[h] w0 fun e w'=>e=.returned (.int .i64 xs.length)∧Sat w0 w' []:=by
 have hw:=Sat.start w0
 refine qab (args:=[h]) mixed Tryz.func211 rfl (by kernel_rfl) (Nat.le_of_ble_eq_true rfl) ?_
 repeat refine qaa ?_
 exact qae (v:=.int .i64 xs.length) rfl rfl ⟨rfl,hw⟩
set_option maxHeartbeats 1000000 in
set_option maxRecDepth 8000 in
theorem qpX {w0 w:World}{Γ:List HP}{q:Addr}{h:Value}{xs:List Ent}{j:Nat}{jj:Int}(ej:jj=j) (U:UpI tEnt.dflt elt xs j) (hb:xs.length≤1099511627776) (hw:Sat w0 w (OS tEnt 230 h xs::Box q 154 [c0,c1,c2,c3,c4,c5,c6,c7,c8,c9,h,c11,c12,c13,c14]::Γ)) :
  Calls Tryz.prog 154 #[.iface 228 (.pointer (some (q.add 10))),.int .i64 jj] w fun e w'=>e=.returned (.tuple #[])∧∃ ys,IsHeap tEnt.dflt elt ys∧ys.Perm xs∧Sat w0 w' (OS tEnt 230 h ys::Box q 154 [c0,c1,c2,c3,c4,c5,c6,c7,c8,c9,h,c11,c12,c13,c14]::Γ):=by
 subst ej
 refine qab (args:=[.iface 228 (.pointer (some (q.add 10))),.int .i64 j]) mixed Tryz.func154 rfl (by kernel_rfl) (Nat.le_of_ble_eq_true rfl) ?_
 repeat refine qaa ?_
 refine qao [1,4,5,6,7,8,9,10,11,12,13,14,15,16,17,18,19,20,21,22] (G:=Nat) (H:=List Ent) (fun j ys=>[(1,.int .i64 j)]) (fun j ys w=>UpI tEnt.dflt elt ys j∧ys.Perm xs∧Sat w0 w (OS tEnt 230 h ys::Box q 154 [c0,c1,c2,c3,c4,c5,c6,c7,c8,c9,h,c11,c12,c13,c14]::Γ)) (fun j ys=>j) j xs (fun _ _=>rfl) ⟨rfl,trivial⟩ ⟨U,.refl _,hw⟩ ?_
 clear hw U
 rintro σ j ys w ⟨U,hp,hw⟩
 have hlt:=U.inb
 have hyl:=hp.length_eq
 repeat refine qaa ?_
 simp only [qfV]
 by_cases hij:(j-1) / 2=j
 ·have hdec:decide ((((j-1) / 2:Nat):Int)=(j:Int))=true:=decide_eq_true (by omega)
  simp only [hdec]
  repeat refine qaa ?_
  exact qaz rfl ⟨rfl,ys,U.done (.inl hij),hp,hw⟩
 ·have hdec:decide ((((j-1) / 2:Nat):Int)=(j:Int))=false:=decide_eq_false (by omega)
  simp only [hdec,gvff]
  repeat refine qaa ?_
  refine qar (u:=h) rfl rfl (hw.boxK (k:=10) inferInstance rfl) (qch (rsO hw) rfl rfl hlt (show (j-1) / 2<ys.length by omega)) ?_
  rintro _ w' ⟨rfl,hk⟩
  replace hw:=hw.call0 hk
  clear hk
  cases hL:elt (hg tEnt.dflt ys j) (hg tEnt.dflt ys ((j-1) / 2)) with
  | false =>
   refine⟨_,rfl,?_⟩
   repeat refine qaa ?_
   exact qaz rfl ⟨rfl,ys,U.done (.inr hL),hp,hw⟩
  | true =>
   refine⟨_,rfl,?_⟩
   repeat refine qaa ?_
   refine qar (u:=h) rfl rfl (hw.boxK (k:=10) inferInstance rfl) (qci rfl rfl (show (j-1) / 2<ys.length by omega) hlt hw) ?_
   clear hw
   rintro _ w ⟨rfl,hw⟩
   refine⟨_,rfl,?_⟩
   repeat refine qaa ?_
   exact⟨(j-1) / 2,_,⟨rfl,trivial⟩,agr,⟨U.step hij hL,(qbm (by omega) hlt).trans hp,hw⟩,by omega⟩
set_option maxHeartbeats 2000000 in
set_option maxRecDepth 8000 in
theorem qlf {w0 w:World}{Γ:List HP}{q:Addr}{h:Value}{xs:List Ent}{n:Nat}{nn:Int}(en:nn=n) (D:DnI tEnt.dflt elt xs n 0) (hb:xs.length≤1099511627776) (hw:Sat w0 w (OS tEnt 230 h xs::Box q 154 [c0,c1,c2,c3,c4,c5,c6,c7,c8,c9,h,c11,c12,c13,c14]::Γ)) :
  Calls Tryz.prog 155 #[.iface 228 (.pointer (some (q.add 10))),.int .i64 0,.int .i64 nn] w fun e w'=>∃ b ys,e=.returned (.bool b)∧HeapN tEnt.dflt elt ys n∧ys.Perm xs∧(∀ k,n≤k→hg tEnt.dflt ys k=hg tEnt.dflt xs k)∧Sat w0 w' (OS tEnt 230 h ys::Box q 154 [c0,c1,c2,c3,c4,c5,c6,c7,c8,c9,h,c11,c12,c13,c14]::Γ):=by
 subst en
 refine qab (args:=[.iface 228 (.pointer (some (q.add 10))),.int .i64 0,.int .i64 n]) mixed Tryz.func155 rfl (by kernel_rfl) (Nat.le_of_ble_eq_true rfl) ?_
 repeat refine qaa ?_
 refine qao [7,8,9,10,12,13,14,15,16,17,18,19,20,21,22,23,24,25,26,27,28,29,30,31,32,33,34,35,36,37,38,39,40,41,42,43,44] (G:=Nat) (H:=List Ent) (fun i ys=>[(7,.int .i64 i)]) (fun i ys w=>DnI tEnt.dflt elt ys n i∧i≤n∧ys.Perm xs∧(∀ k,n≤k→hg tEnt.dflt ys k=hg tEnt.dflt xs k)∧Sat w0 w (OS tEnt 230 h ys::Box q 154 [c0,c1,c2,c3,c4,c5,c6,c7,c8,c9,h,c11,c12,c13,c14]::Γ)) (fun i ys=>n-i) 0 xs (fun _ _=>rfl) ⟨rfl,trivial⟩ ⟨D,Nat.zero_le _,.refl _,fun _ _=>rfl,hw⟩ ?_
 clear hw D
 rintro σ i ys w ⟨D,hin,hp,hkeep,hw⟩
 have hle1:=D.le
 have hyl:=hp.length_eq
 repeat refine qaa ?_
 refine go_if (fun h1 => ?_) (fun h1 => ?_)
 ·repeat refine qaa ?_
  exact qae (v:=.bool _) rfl rfl ⟨_,ys,rfl,D.leaf (by omega),hp,hkeep,hw⟩
 ·have hin':2*i+1<n:=by omega
  repeat refine qaa ?_
  by_cases h2:2*i+2<n
  ·have hdec:decide (2*(i:Int)+1+1<(n:Int))=true:=decide_eq_true (by omega)
   simp only [hdec,gvtt]
   repeat refine qaa ?_
   refine qar (u:=h) rfl rfl (hw.boxK (k:=10) inferInstance rfl) (qch (i:=2*i+2) (j:=2*i+1) (rsO hw) (by omega) (by omega) (by omega) (by omega)) ?_
   rintro _ w' ⟨rfl,hk⟩
   replace hw:=hw.call0 hk
   clear hk
   cases hL:elt (hg tEnt.dflt ys (2*i+2)) (hg tEnt.dflt ys (2*i+1)) with
   | true =>
    refine⟨_,rfl,?_⟩
    repeat refine qaY ?_
    refine qb0 [9,34] (G:=Nat) (fun j=>[(9,.int .i64 j)]) (fun j w=>(j=2*i+1∨j=2*i+2)∧j<n∧(∀ c,0<c→c<n→(c-1) / 2=i→hle elt (hg tEnt.dflt ys j) (hg tEnt.dflt ys c))∧Sat w0 w (OS tEnt 230 h ys::Box q 154 [c0,c1,c2,c3,c4,c5,c6,c7,c8,c9,h,c11,c12,c13,c14]::Γ)) (fun _=>rfl) ?_ ?_
    ·repeat refine qaa ?_
     refine⟨2*i+2,⟨?_,trivial⟩,agr,.inr rfl,h2,fun c h0 h1 hc => ?_,hw⟩
     ·show Value.int .i64 (2*(i:Int)+1+1)=_
      congr 1
     ·have:c=2*i+1∨c=2*i+2:=by omega
      rcases this with rfl|rfl
      ·exact qjr hL
      ·exact qbK _
    ·clear hw
     rintro σ1 j w ⟨hj,hjn,hmin,hw⟩
     repeat refine qaa ?_
     refine qar (u:=h) rfl rfl (hw.boxK (k:=10) inferInstance rfl) (qch (rsO hw) rfl rfl (show j<ys.length by omega) (show i<ys.length by omega)) ?_
     rintro _ w' ⟨rfl,hk⟩
     replace hw:=hw.call0 hk
     clear hk
     cases hL:elt (hg tEnt.dflt ys j) (hg tEnt.dflt ys i) with
     | false =>
      refine⟨_,rfl,?_⟩
      repeat refine qaa ?_
      exact qae (v:=.bool _) rfl rfl ⟨_,ys,rfl,D.done hmin hL,hp,hkeep,hw⟩
     | true =>
      refine⟨_,rfl,?_⟩
      repeat refine qaa ?_
      refine qar (u:=h) rfl rfl (hw.boxK (k:=10) inferInstance rfl) (qci rfl rfl (show i<ys.length by omega) (show j<ys.length by omega) hw) ?_
      clear hw
      rintro _ w ⟨rfl,hw⟩
      refine⟨_,rfl,?_⟩
      repeat refine qaa ?_
      refine⟨j,_,⟨rfl,trivial⟩,agr,⟨D.step hj hjn hmin hL,by omega,(qbm (by omega) (by omega)).trans hp,fun k hk => ?_,hw⟩,by omega⟩
      rw [qbh (by omega) (by omega),if_neg (by omega),if_neg (by omega)]
      exact hkeep k hk
   | false =>
    refine⟨_,rfl,?_⟩
    repeat refine qaY ?_
    refine qb0 [9,34] (G:=Nat) (fun j=>[(9,.int .i64 j)]) (fun j w=>(j=2*i+1∨j=2*i+2)∧j<n∧(∀ c,0<c→c<n→(c-1) / 2=i→hle elt (hg tEnt.dflt ys j) (hg tEnt.dflt ys c))∧Sat w0 w (OS tEnt 230 h ys::Box q 154 [c0,c1,c2,c3,c4,c5,c6,c7,c8,c9,h,c11,c12,c13,c14]::Γ)) (fun _=>rfl) ?_ ?_
    ·repeat refine qaa ?_
     refine⟨2*i+1,⟨?_,trivial⟩,agr,.inl rfl,hin',fun c h0 h1 hc => ?_,hw⟩
     ·show Value.int .i64 (2*(i:Int)+1)=_
      congr 1
     ·have:c=2*i+1∨c=2*i+2:=by omega
      rcases this with rfl|rfl
      ·exact qbK _
      ·exact hL
    ·clear hw
     rintro σ1 j w ⟨hj,hjn,hmin,hw⟩
     repeat refine qaa ?_
     refine qar (u:=h) rfl rfl (hw.boxK (k:=10) inferInstance rfl) (qch (rsO hw) rfl rfl (show j<ys.length by omega) (show i<ys.length by omega)) ?_
     rintro _ w' ⟨rfl,hk⟩
     replace hw:=hw.call0 hk
     clear hk
     cases hL:elt (hg tEnt.dflt ys j) (hg tEnt.dflt ys i) with
     | false =>
      refine⟨_,rfl,?_⟩
      repeat refine qaa ?_
      exact qae (v:=.bool _) rfl rfl ⟨_,ys,rfl,D.done hmin hL,hp,hkeep,hw⟩
     | true =>
      refine⟨_,rfl,?_⟩
      repeat refine qaa ?_
      refine qar (u:=h) rfl rfl (hw.boxK (k:=10) inferInstance rfl) (qci rfl rfl (show i<ys.length by omega) (show j<ys.length by omega) hw) ?_
      clear hw
      rintro _ w ⟨rfl,hw⟩
      refine⟨_,rfl,?_⟩
      repeat refine qaa ?_
      refine⟨j,_,⟨rfl,trivial⟩,agr,⟨D.step hj hjn hmin hL,by omega,(qbm (by omega) (by omega)).trans hp,fun k hk => ?_,hw⟩,by omega⟩
      rw [qbh (by omega) (by omega),if_neg (by omega),if_neg (by omega)]
      exact hkeep k hk
  ·have hdec:decide (2*(i:Int)+1+1<(n:Int))=false:=decide_eq_false (by omega)
   simp only [hdec]
   repeat refine qaY ?_
   refine qb0 [9,34] (G:=Nat) (fun j=>[(9,.int .i64 j)]) (fun j w=>(j=2*i+1∨j=2*i+2)∧j<n∧(∀ c,0<c→c<n→(c-1) / 2=i→hle elt (hg tEnt.dflt ys j) (hg tEnt.dflt ys c))∧Sat w0 w (OS tEnt 230 h ys::Box q 154 [c0,c1,c2,c3,c4,c5,c6,c7,c8,c9,h,c11,c12,c13,c14]::Γ)) (fun _=>rfl) ?_ ?_
   ·repeat refine qaa ?_
    refine⟨2*i+1,⟨?_,trivial⟩,agr,.inl rfl,hin',fun c h0 h1 hc => ?_,hw⟩
    ·show Value.int .i64 (2*(i:Int)+1)=_
     congr 1
    ·have:c=2*i+1:=by omega
     subst this;exact qbK _
   ·clear hw
    rintro σ1 j w ⟨hj,hjn,hmin,hw⟩
    repeat refine qaa ?_
    refine qar (u:=h) rfl rfl (hw.boxK (k:=10) inferInstance rfl) (qch (rsO hw) rfl rfl (show j<ys.length by omega) (show i<ys.length by omega)) ?_
    rintro _ w' ⟨rfl,hk⟩
    replace hw:=hw.call0 hk
    clear hk
    cases hL:elt (hg tEnt.dflt ys j) (hg tEnt.dflt ys i) with
    | false =>
     refine⟨_,rfl,?_⟩
     repeat refine qaa ?_
     exact qae (v:=.bool _) rfl rfl ⟨_,ys,rfl,D.done hmin hL,hp,hkeep,hw⟩
    | true =>
     refine⟨_,rfl,?_⟩
     repeat refine qaa ?_
     refine qar (u:=h) rfl rfl (hw.boxK (k:=10) inferInstance rfl) (qci rfl rfl (show i<ys.length by omega) (show j<ys.length by omega) hw) ?_
     clear hw
     rintro _ w ⟨rfl,hw⟩
     refine⟨_,rfl,?_⟩
     repeat refine qaa ?_
     refine⟨j,_,⟨rfl,trivial⟩,agr,⟨D.step hj hjn hmin hL,by omega,(qbm (by omega) (by omega)).trans hp,fun k hk => ?_,hw⟩,by omega⟩
     rw [qbh (by omega) (by omega),if_neg (by omega),if_neg (by omega)]
     exact hkeep k hk
set_option maxRecDepth 8000 in
theorem qdi {w0 w:World}{Γ:List HP}{q:Addr}{h:Value}{xs:List Ent}{v:Ent}(H:IsHeap tEnt.dflt elt xs) (hb:xs.length<1099511627776) (hw:Sat w0 w (OS tEnt 230 h xs::Box q 154 [c0,c1,c2,c3,c4,c5,c6,c7,c8,c9,h,c11,c12,c13,c14]::Γ)) :
  Calls Tryz.prog 125 #[.iface 228 (.pointer (some (q.add 10))),.iface 230 (.agg #[.int .i64 v.f,.int .i64 v.h,.int .i64 v.ord,.int .i64 v.id,.int .i64 v.g])] w fun e w'=>e=.returned (.tuple #[])∧∃ h' ys,IsHeap tEnt.dflt elt ys∧ys.Perm (v::xs)∧Sat w0 w' (OS tEnt 230 h' ys::Box q 154 [c0,c1,c2,c3,c4,c5,c6,c7,c8,c9,h',c11,c12,c13,c14]::Γ):=by
 refine qab (args:=[.iface 228 (.pointer (some (q.add 10))),.iface 230 (.agg #[.int .i64 v.f,.int .i64 v.h,.int .i64 v.ord,.int .i64 v.id,.int .i64 v.g])]) mixed Tryz.func125 rfl (by kernel_rfl) (Nat.le_of_ble_eq_true rfl) ?_
 repeat refine qaa ?_
 refine qb4 rfl rfl (qle (v:=v) (by omega) hw) ?_
 clear hw
 rintro _ w ⟨rfl,h',hw⟩
 refine⟨_,rfl,?_⟩
 repeat refine qaa ?_
 refine qar (u:=h') rfl rfl (hw.boxK (k:=10) inferInstance rfl) (qhU (rsO hw)) ?_
 rintro _ w' ⟨rfl,hk⟩
 replace hw:=hw.call0 hk
 clear hk
 refine⟨_,rfl,?_⟩
 have hl:(xs++[v]).length=xs.length+1:=by simp
 repeat refine qaa ?_
 refine qac rfl (qpX (j:=xs.length) (by rw [hl];omega) (qig H) (by omega) hw) ?_
 clear hw
 rintro _ w ⟨rfl,ys,h1,h2,hw⟩
 refine⟨_,rfl,?_⟩
 repeat refine qaa ?_
 exact qaz rfl ⟨rfl,h',ys,h1,h2.trans (List.perm_append_comm (l₁:=xs) (l₂:=[v])),hw⟩
set_option maxRecDepth 8000 in
theorem qg3 {w0 w:World}{Γ:List HP}{q:Addr}{h:Value}{xs:List Ent}(H:IsHeap tEnt.dflt elt xs) (hl:0<xs.length) (hb:xs.length≤1099511627776) (hw:Sat w0 w (OS tEnt 230 h xs::Box q 154 [c0,c1,c2,c3,c4,c5,c6,c7,c8,c9,h,c11,c12,c13,c14]::Γ)) :
  Calls Tryz.prog 126 #[.iface 228 (.pointer (some (q.add 10)))] w fun e w'=>∃ v h' ys,e=.returned (.iface 230 (.agg #[.int .i64 v.f,.int .i64 v.h,.int .i64 v.ord,.int .i64 v.id,.int .i64 v.g]))∧IsHeap tEnt.dflt elt ys∧xs.Perm (v::ys)∧(∀ x∈xs,hle elt v x)∧Sat w0 w' (OS tEnt 230 h' ys::Box q 154 [c0,c1,c2,c3,c4,c5,c6,c7,c8,c9,h',c11,c12,c13,c14]::Γ):=by
 refine qab (args:=[.iface 228 (.pointer (some (q.add 10)))]) mixed Tryz.func126 rfl (by kernel_rfl) (Nat.le_of_ble_eq_true rfl) ?_
 repeat refine qaa ?_
 refine qar (u:=h) rfl rfl (hw.boxK (k:=10) inferInstance rfl) (qhU (rsO hw)) ?_
 rintro _ w' ⟨rfl,hk⟩
 replace hw:=hw.call0 hk
 clear hk
 refine⟨_,rfl,?_⟩
 repeat refine qaa ?_
 refine qar (u:=h) rfl rfl (hw.boxK (k:=10) inferInstance rfl) (qci (i:=0) (j:=xs.length-1) rfl (by omega) hl (by omega) hw) ?_
 clear hw
 rintro _ w ⟨rfl,hw⟩
 refine⟨_,rfl,?_⟩
 repeat refine qaa ?_
 refine qac rfl (qlf (n:=xs.length-1) (by omega) (qky H hl) (by rw [qe3];exact hb) hw) ?_
 clear hw
 rintro _ w ⟨b,ys,rfl,h1,h2,h3,hw⟩
 have hp:=h2.trans (qbm hl (show xs.length-1<xs.length by omega))
 have hyl:=hp.length_eq
 refine⟨_,rfl,?_⟩
 repeat refine qaa ?_
 refine qb4 rfl rfl (qno (by omega) (by omega) hw) ?_
 clear hw
 rintro _ w ⟨rfl,h',hw⟩
 refine⟨_,rfl,?_⟩
 repeat refine qaa ?_
 have hlast:hg tEnt.dflt ys (xs.length-1)=hg tEnt.dflt xs 0:=by
  rw [h3 _ (Nat.le_refl _),qbh hl (by omega),if_pos rfl]
 obtain⟨hh,hpp⟩:=qii hl hp h1 hlast
 rw [hyl] at hw
 refine qae (v:=.iface 230 ((.agg #[.int .i64 (hg tEnt.dflt ys (ys.length-1)).f,.int .i64 (hg tEnt.dflt ys (ys.length-1)).h,.int .i64 (hg tEnt.dflt ys (ys.length-1)).ord,.int .i64 (hg tEnt.dflt ys (ys.length-1)).id,.int .i64 (hg tEnt.dflt ys (ys.length-1)).g]))) rfl rfl ⟨hg tEnt.dflt xs 0,h',_,by rw [hyl,hlast],hh,hpp,fun x hx=>qih H hx,hw⟩
end
end Go.Proofs.YtkmbenhffledpaaGreat
/-
  Contract of A*'s 'search.next'.
-/
namespace Go.Proofs.YtkmbenhffledpaaGreat
open Go.Sl Go
theorem qq7 {xs ys q:List Ent}{v:Ent}(hp:xs.Perm q) (hs:SortE q) (hv:xs.Perm (v::ys)) (hm:∀ x∈xs,hle elt v x):∃ q',q=v::q'∧ys.Perm q':=by
 have h1:=hp.symm.trans hv
 cases q with
 | nil=>exact absurd h1.length_eq (by simp)
 | cons y q' =>
  have hy:y∈xs:=hp.mem_iff.2 List.mem_cons_self
  have e:v=y:=by
   have hvq:v∈y::q':=h1.mem_iff.2 List.mem_cons_self
   rcases List.mem_cons.1 hvq with e|e
   ·exact e
   ·have h2:elt y v=true:=(List.pairwise_cons.1 hs).1 v e
    have h3:elt y v=false:=hm y hy
    rw [h2] at h3;cases h3
  subst e
  exact⟨q',rfl,(List.Perm.cons_inv h1).symm⟩
theorem qm4 (wt:List Bool) (g:List Int) (x:Ent) (q:List Ent):nextE wt g (x::q)=if wt.getD x.id.toNat false=true∧g.getD x.id.toNat tInt.dflt=x.g then some (x,q) else nextE wt g q:=rfl
section
variable {c0 c1 c2 c3 c4 c5 c6 c8 c11 c12 c13 c14:Value}
set_option maxRecDepth 8000 in
set_option maxHeartbeats 4000000 in
theorem qnw {w0 w:World}{Γ:List HP}{q:Addr}{h gv wv:Value}{xs q0:List Ent}{gl:List Int}{wl:List Bool}(H:IsHeap tEnt.dflt elt xs) (hb:xs.length≤1099511627776) (hp:xs.Perm q0) (hs:SortE q0) (hlen:wl.length=gl.length) (hid:∀ x∈q0,0≤x.id∧x.id.toNat<gl.length)
  (hw:Sat w0 w (OS tEnt 230 h xs::Box q 154 [c0,c1,c2,c3,c4,c5,c6,gv,c8,wv,h,c11,c12,c13,c14]::OS tInt 3 gv gl::OS tBool 4 wv wl::Γ)) :
  Calls Tryz.prog 91 #[.pointer (some q)] w fun e w'=>∃ h',(nextE wl gl q0=none∧e=.returned (.tuple #[.int .i64 0,.bool false])∧Sat w0 w' (OS tEnt 230 h' ([]:List Ent)::Box q 154 [c0,c1,c2,c3,c4,c5,c6,gv,c8,wv,h',c11,c12,c13,c14]::OS tInt 3 gv gl::OS tBool 4 wv wl::Γ)) ∨
   (∃ x q1 ys,nextE wl gl q0=some (x,q1)∧e=.returned (.tuple #[.int .i64 x.id,.bool true])∧IsHeap tEnt.dflt elt ys∧ys.Perm q1∧Sat w0 w' (OS tEnt 230 h' ys::Box q 154 [c0,c1,c2,c3,c4,c5,c6,gv,c8,wv,h',c11,c12,c13,c14]::OS tInt 3 gv gl::OS tBool 4 wv (wl.set x.id.toNat false)::Γ)):=by
 refine qab (args:=[.pointer (some q)]) mixed Tryz.func91 rfl (by kernel_rfl) (Nat.le_of_ble_eq_true rfl) ?_
 repeat refine qaa ?_
 refine qao [2,3,4,5,6,7,8,9,10,11,12,13,14,15,16,17,18,19,20,21,22,23,24,25,26,27,28,29,30,31,32,33,34,35,36,37,38,39,40,41,42,43,44,45,46] (G:=Value) (H:=List Ent) (fun _ _=>[]) (fun h qs w=>∃ xs,IsHeap tEnt.dflt elt xs∧xs.Perm qs∧SortE qs∧qs.length≤q0.length∧(∀ x∈qs,x∈q0)∧nextE wl gl qs=nextE wl gl q0∧Sat w0 w (OS tEnt 230 h xs::Box q 154 [c0,c1,c2,c3,c4,c5,c6,gv,c8,wv,h,c11,c12,c13,c14]::OS tInt 3 gv gl::OS tBool 4 wv wl::Γ)) (fun _ qs=>qs.length) h q0 (fun _ _=>rfl) trivial ⟨xs,H,hp,hs,Nat.le_refl _,fun _ hx=>hx,rfl,hw⟩ ?_
 have hql0:=hp.length_eq
 clear hw H hs hp
 rintro σ h qs w ⟨xs,H,hp,hs,hqn,hin,hne,hw⟩
 have hpl:=hp.length_eq
 repeat refine qaa ?_
 refine go_if (fun h1 => ?_) (fun h1 => ?_)
 ·repeat refine qaa ?_
  refine qac rfl (qg3 H (by omega) (by omega) hw) ?_
  clear hw
  rintro _ w ⟨x,h',ys,rfl,hys,hpx,hmin,hw⟩
  obtain⟨q',rfl,hpq⟩:=qq7 hp hs hpx hmin
  obtain⟨x0,x1⟩:=hid x (hin x List.mem_cons_self)
  have x2:x.id.toNat<wl.length:=by omega
  rw [qm4] at hne
  refine⟨_,rfl,?_⟩
  repeat (first|refine qaa ?_|(refine qaf ?_;clear hw;intro p w hw)|(refine qai ?_;clear hw;intro w hw))
  refine qbu ?_
  clear hw
  intro w hw
  repeat refine qaa ?_
  by_cases hc:wl.getD x.id.toNat false=true∧gl.getD x.id.toNat tInt.dflt=x.g
  ·have hB:(wl.getD x.id.toNat tBool.dflt && decide (gl.getD x.id.toNat tInt.dflt=x.g))=true:=by
    rw [show wl.getD x.id.toNat tBool.dflt=true from hc.1,decide_eq_true hc.2];rfl
   rw [if_pos hc] at hne
   simp only [hB]
   repeat refine qaa ?_
   refine qbu ?_
   clear hw
   intro w hw
   repeat (first|refine qaa ?_|(refine qai ?_;clear hw;intro w hw))
   exact qav (v:=.int .i64 x.id) (v':=.bool true) rfl rfl rfl ⟨h',.inr ⟨x,q',ys,hne.symm,rfl,hys,hpq,hw.tail⟩⟩
  ·have hB:(wl.getD x.id.toNat tBool.dflt && decide (gl.getD x.id.toNat tInt.dflt=x.g))=false :=
    Bool.eq_false_iff.2 fun e=>hc ⟨(Bool.and_eq_true_iff.1 e).1,of_decide_eq_true (Bool.and_eq_true_iff.1 e).2⟩
   rw [if_neg hc] at hne
   simp only [hB]
   repeat refine qaa ?_
   exact⟨h',q',trivial,agr,⟨ys,hys,hpq,(List.pairwise_cons.1 hs).2,by rw [List.length_cons] at hqn;omega,fun y hy=>hin y (List.mem_cons_of_mem _ hy),hne,hw.tail⟩,by simp⟩
 ·have hq0:qs=[]:=List.eq_nil_of_length_eq_zero (by omega)
  have hx0:xs=[]:=List.eq_nil_of_length_eq_zero (by omega)
  subst hq0 hx0
  repeat refine qaa ?_
  exact qav (v:=.int .i64 0) (v':=.bool false) rfl rfl rfl ⟨h,.inl ⟨hne.symm,rfl,hw⟩⟩
end
end Go.Proofs.YtkmbenhffledpaaGreat
