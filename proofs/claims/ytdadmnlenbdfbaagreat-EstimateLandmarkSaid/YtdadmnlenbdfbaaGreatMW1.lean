/-
  Several texts as one: LiftT, WTBase, WTCheck, WTState.
-/
import Derived.Test.YtdadmnlenbdfbaaGreatRows
import Derived.Test.YtdadmnlenbdfbaaGreatMTA
import Derived.Test.YtdadmnlenbdfbaaGreatMSlB
import Derived.Test.YtdadmnlenbdfbaaGreatTypes
import Derived.ProofKit
import Derived.ChangeOld
import Derived.Carry
import Derived.OpenShut
set_option linter.unusedSimpArgs false
set_option linter.unusedVariables false
/-
  How the arguments of the statements are read: tasks, lists of numbers, small numbers.
-/
namespace Go.Proofs.YtdadmnlenbdfbaaGreat
open Go.Sl Go.ChangeShapes Go.WideShapes Go.ChangeAt Go.RowKit
theorem own:ownKnob Tryz.prog.godebug=none:=by kernel_rfl
theorem laidOut:laidOutB Tryz.prog=true:=by kernel_rfl
theorem qbe:Tryz.prog.cellsOf 3=1:=by kernel_rfl
theorem qiO:Tryz.prog.cellsOf 9=1:=by kernel_rfl
theorem qca:Tryz.prog.cellsOf 73=2:=by kernel_rfl
theorem qco:Tryz.prog.cellsOf 23=1:=by kernel_rfl
theorem qfE:Tryz.prog.cellsOf 75=3:=by kernel_rfl
theorem qhW:Tryz.prog.cellsOf 42=1:=by kernel_rfl
theorem qhk:Tryz.prog.cellsOf 44=4:=by kernel_rfl
theorem qiP:Tryz.prog.cellsOf 24=1:=by kernel_rfl
theorem qeA:Tryz.prog.cellsOf 22=1:=by kernel_rfl
theorem qhX:Tryz.prog.cellsOf 26=4:=by kernel_rfl
theorem qmw {n:Int}(h:(Lit.int .i64 n).wf=true) : -9223372036854775808≤n∧n≤9223372036854775807:=by
 simpa [Lit.wf,IntKind.min,IntKind.max,IntKind.signed,IntKind.bits] using h
section
variable {H:Type}{enc:TypeId × Value→H}{w:World}{base:Nat}{spare:Nat→Bool}{held:Bool}
theorem qgs:Rd enc Tryz.prog w base spare held 73 tFact fun _=>True:=by
 intro fuel cs y h
 have hl:=qhp (i:=0) inferInstance qca h
 match cs,hl with
 | [c0,c1],_ =>
  obtain⟨_,_,h0⟩:=qaT (i:=0) inferInstance qbe h
  obtain⟨_,_,h1⟩:=qaT (i:=1) inferInstance qbe h
  obtain⟨x0,e0,_⟩:=qdY Tryz.underlying3 _ _ _ h0
  obtain⟨x1,e1,_⟩:=qdY Tryz.underlying3 _ _ _ h1
  simp [tInt] at e0 e1
  subst e0 e1
  exact⟨⟨x0,x1⟩,rfl,trivial⟩
theorem qmx:Rd enc Tryz.prog w base spare held 75 tEff fun x=>∃ e,REff w x e:=by
 intro fuel cs y h
 have hl:=qhp (i:=0) inferInstance qfE h
 match cs,hl with
 | [c0,c1,c2],_ =>
  obtain⟨_,_,h0⟩:=qaT (i:=0) inferInstance qco h
  obtain⟨_,_,h1⟩:=qaT (i:=1) inferInstance qbe h
  obtain⟨_,_,h2⟩:=qaT (i:=2) inferInstance qbe h
  obtain⟨a,e0,f,hf,_⟩:=qbJ Tryz.underlying23 qca (by decide) qgs _ _ _ h0
  obtain⟨x1,e1,_⟩:=qdY Tryz.underlying3 _ _ _ h1
  obtain⟨x2,e2,_⟩:=qdY Tryz.underlying3 _ _ _ h2
  simp [tInt,tVal] at e0 e1 e2
  subst e0 e1 e2
  exact⟨⟨c0,x1,x2⟩,rfl,⟨f,x1,x2⟩,rfl,rfl,hf⟩
theorem qcp {α β:Type}{Q:α→β→Prop}:∀ (xs:List α),(∀ x∈xs,∃ y,Q x y)→∃ ys:List β,xs.length=ys.length∧∀ (i:Nat) x y,xs[i]? = some x→ys[i]? = some y→Q x y
 | [],_=>⟨[],rfl,by simp⟩
 | x::xs,h=>by
  obtain⟨ys,hl,hq⟩:=qcp xs fun x hx=>h x (by simp [hx])
  obtain⟨y,hy⟩:=h x (by simp)
  refine⟨y::ys,by simp [hl],fun i a b ha hb => ?_⟩
  cases i with
  | zero=>simp at ha hb;subst ha hb;exact hy
  | succ i=>simp at ha hb;exact hq i a b ha hb
theorem qlS {s:Value}{vs:List EffV}(hs:RS tEff w s vs) (h:∀ x∈vs,∃ e,REff w x e):∃ es,REffs w s vs es:=by
 obtain⟨es,hl,hq⟩:=qcp vs h
 refine⟨es,hs,hl,fun i hi => ?_⟩
 rw [qaA]
 exact hq i _ _ (by simp [List.getD,show i<vs.length by omega]) (by simp [List.getD,hi])
theorem rd_op:Rd enc Tryz.prog w base spare held 44 tOp fun x=>∃ o,ROp w x o:=by
 intro fuel cs y h
 have hl:=qhp (i:=0) inferInstance qhk h
 match cs,hl with
 | [c0,c1,c2,c3],_ =>
  obtain⟨_,_,h0⟩:=qaT (i:=0) inferInstance qiO h
  obtain⟨_,_,h1⟩:=qaT (i:=1) inferInstance qbe h
  obtain⟨_,_,h2⟩:=qaT (i:=2) inferInstance qco h
  obtain⟨_,_,h3⟩:=qaT (i:=3) inferInstance qhW h
  obtain⟨x1,e1,_⟩:=qdY Tryz.underlying3 _ _ _ h1
  obtain⟨a2,e2,f,hf,_⟩:=qbJ Tryz.underlying23 qca (by decide) qgs _ _ _ h2
  obtain⟨a3,e3,xs,hx,hg⟩:=qbJ Tryz.underlying42 qfE (by decide) qmx _ _ _ h3
  obtain⟨nm,e0,_,hnm⟩:=DataW.trod_string Tryz.underlying9 h0
  simp [tInt,tVal] at e0 e1 e2 e3
  subst e0 e1 e2 e3
  obtain⟨es,hes⟩:=qlS hx hg
  exact⟨⟨nm,x1,c2,c3⟩,rfl,⟨nm,x1,f,es⟩,rfl,hnm,rfl,hf,xs,hes⟩
theorem qmy {s:Value}{vs:List OpV}(hs:RS tOp w s vs) (h:∀ x∈vs,∃ o,ROp w x o):∃ os,ROps w s vs os:=by
 obtain⟨os,hl,hq⟩:=qcp vs h
 refine⟨os,hs,hl,fun i hi => ?_⟩
 rw [qaA]
 exact hq i _ _ (by simp [List.getD,show i<vs.length by omega]) (by simp [List.getD,hi])
set_option maxRecDepth 100000 in
theorem qlT {v:Value}{r:Reach}{b0:Nat}{d:DataW H}{p:List MemPlace}(hv:Value.okWide Tryz.prog w r b0 26 v) (h:DataW.Trod enc Tryz.prog w base spare held 26 v d p) :
  ∃ a b c d vs t,v=.agg #[a,b,c,d]∧RTask w a b c d vs t:=by
 obtain⟨cs,rfl,_⟩:=okWide_struct Tryz.underlying26 hv
 obtain⟨fuel,h⟩:=h
 obtain⟨l⟩:=cs
 have hl:=qhp (i:=0) inferInstance qhX h
 simp only [Value.cells] at hl h
 match l,hl with
 | [c0,c1,c2,c3],_ =>
  obtain⟨_,_,h0⟩:=qaT (i:=0) inferInstance qeA h
  obtain⟨_,_,h1⟩:=qaT (i:=1) inferInstance qeA h
  obtain⟨_,_,h2⟩:=qaT (i:=2) inferInstance qco h
  obtain⟨_,_,h3⟩:=qaT (i:=3) inferInstance qiP h
  obtain⟨a0,e0,vars,hvars,_⟩:=qbJ Tryz.underlying22 qbe (by decide) (qdY Tryz.underlying3) _ _ _ h0
  obtain⟨a1,e1,ini,hini,_⟩:=qbJ Tryz.underlying22 qbe (by decide) (qdY Tryz.underlying3) _ _ _ h1
  obtain⟨a2,e2,f,hf,_⟩:=qbJ Tryz.underlying23 qca (by decide) qgs _ _ _ h2
  obtain⟨a3,e3,xs,hx,hg⟩:=qbJ Tryz.underlying24 qhk (by decide) rd_op _ _ _ h3
  simp [tVal] at e0 e1 e2 e3
  subst e0 e1 e2 e3
  obtain⟨os,hos⟩:=qmy hx hg
  exact⟨c0,c1,c2,c3,xs,⟨vars,ini,f,os⟩,rfl,hvars,hini,hf,hos⟩
end
end Go.Proofs.YtdadmnlenbdfbaaGreat
/-
  Contracts of the helpers 'Num', 'Ints', 'State', 'Proper', 'operator', 'Good', 'Many', 'Small', 'Holds'.
-/
namespace Go.Proofs.YtdadmnlenbdfbaaGreat
open Go.Sl
attribute [local irreducible] vc opsW opsD opV opW PureV ReadV Thn Blk
def errV (c:Int):Value:=if c=0 then .nilIface else .iface 35 (.int .i64 c)
theorem qam {c:Int}(h:c=0):errV c=.nilIface:=by simp [errV,h]
theorem qaj {c:Int}(h:c≠0):errV c=.iface 35 (.int .i64 c):=by simp [errV,h]
set_option maxRecDepth 8000 in
theorem qlc {w0:World}(c:Int) :
  Calls Tryz.prog 21 #[errV c] w0 fun e w'=>e=.returned (.int .i64 c)∧Sat w0 w' []:=by
 have hw:=Sat.start w0
 by_cases hc:c=0
 ·subst hc
  refine qaf (args:=[.nilIface]) mixed Tryz.func21 rfl (by kernel_rfl) (Nat.le_of_ble_eq_true rfl) ?_
  repeat (first|refine qac ?_|(refine qaa ?_;clear hw;intro p w hw)|(refine qad ?_;clear hw;intro w hw)|(refine qab ?_;clear hw;intro s w hw))
  exact qai (v:=.int .i64 0) rfl rfl ⟨rfl,hw⟩
 ·rw [qaj hc]
  refine qaf (args:=[.iface 35 (.int .i64 c)]) mixed Tryz.func21 rfl (by kernel_rfl) (Nat.le_of_ble_eq_true rfl) ?_
  repeat (first|refine qac ?_|(refine qaa ?_;clear hw;intro p w hw)|(refine qad ?_;clear hw;intro w hw)|(refine qab ?_;clear hw;intro s w hw))
  exact qai (v:=.int .i64 c) rfl rfl ⟨rfl,hw⟩
set_option maxRecDepth 8000 in
theorem qis {w0:World}{a b:Value}{vars s:List Int}(ha:RS tInt w0 a vars) (hb:RS tInt w0 b s) :
  Calls Tryz.prog 28 #[a,b] w0 fun e w'=>(∃ r,e=.returned (.bool r)∧(r=true↔StateOk vars s))∧Sat w0 w' []:=by
 have hla:=ha.big
 have hlb:=hb.big
 have hw:=Sat.start w0
 refine qaf (args:=[a,b]) mixed Tryz.func28 rfl (by kernel_rfl) (Nat.le_of_ble_eq_true rfl) ?_
 repeat (first|refine qac ?_|(refine qaa ?_;clear hw;intro p w hw)|(refine qad ?_;clear hw;intro w hw)|(refine qab ?_;clear hw;intro s w hw))
 refine go_if (fun h0 => ?_) (fun h0 => ?_)
 ·repeat (first|refine qac ?_|(refine qaa ?_;clear hw;intro p w hw)|(refine qad ?_;clear hw;intro w hw)|(refine qab ?_;clear hw;intro s w hw))
  refine qai (v:=.bool false) rfl rfl ⟨⟨false,rfl,iffF fun h => ?_⟩,hw⟩
  exact absurd (by have:=h.1;omega) h0
 ·repeat (first|refine qac ?_|(refine qaa ?_;clear hw;intro p w hw)|(refine qad ?_;clear hw;intro w hw)|(refine qab ?_;clear hw;intro s w hw))
  refine qao [4,5,13,14,15,16,17,18,19,20,21,22,23,24,25,26,27,28,29,30,31,32] (G:=Nat) (fun k=>[(13,.int .i64 k)]) (fun k w=>k≤s.length∧(∀ i,i<k→0≤s.getD i tInt.dflt∧s.getD i tInt.dflt<vars.getD i tInt.dflt)∧Sat w0 w []) (fun k=>s.length-k) 0 (fun _=>rfl) ⟨rfl,trivial⟩ ⟨Nat.zero_le _,fun i hi=>absurd hi (Nat.not_lt_zero _),hw⟩ ?_
  clear hw
  rintro σ k w ⟨hk,hpre,hw⟩
  repeat (first|refine qac ?_|(refine qaa ?_;clear hw;intro p w hw)|(refine qad ?_;clear hw;intro w hw)|(refine qab ?_;clear hw;intro s w hw))
  refine go_if (fun h1 => ?_) (fun h1 => ?_)
  ·repeat (first|refine qac ?_|(refine qaa ?_;clear hw;intro p w hw)|(refine qad ?_;clear hw;intro w hw)|(refine qab ?_;clear hw;intro s w hw))
   refine go_if (fun h2 => ?_) (fun h2 => ?_)
   ·repeat (first|refine qac ?_|(refine qaa ?_;clear hw;intro p w hw)|(refine qad ?_;clear hw;intro w hw)|(refine qab ?_;clear hw;intro s w hw))
    refine qai (v:=.bool false) rfl rfl ⟨⟨false,rfl,iffF fun h => ?_⟩,hw⟩
    have:=h.2 k (by omega)
    omega
   ·repeat (first|refine qac ?_|(refine qaa ?_;clear hw;intro p w hw)|(refine qad ?_;clear hw;intro w hw)|(refine qab ?_;clear hw;intro s w hw))
    refine⟨k+1,⟨rfl,trivial⟩,agr,⟨by omega,fun i hi => ?_,hw⟩,by omega⟩
    by_cases h:i=k
    ·subst h;omega
    ·exact hpre i (by omega)
  ·repeat (first|refine qac ?_|(refine qaa ?_;clear hw;intro p w hw)|(refine qad ?_;clear hw;intro w hw)|(refine qab ?_;clear hw;intro s w hw))
   exact qai (v:=.bool true) rfl rfl ⟨⟨true,rfl,iffT ⟨by omega,fun i hi=>hpre i (by omega)⟩⟩,hw⟩
set_option maxRecDepth 8000 in
set_option maxHeartbeats 1000000 in
theorem qbQ {w0:World}{a b:Value}{vars:List Int}{f:List Fact}(ha:RS tInt w0 a vars) (hb:RS tFact w0 b f) :
  Calls Tryz.prog 29 #[a,b] w0 fun e w'=>(∃ r,e=.returned (.bool r)∧(r=true↔FactsOk vars f))∧Sat w0 w' []:=by
 have hla:=ha.big
 have hlb:=hb.big
 have hw:=Sat.start w0
 refine qaf (args:=[a,b]) mixed Tryz.func29 rfl (by kernel_rfl) (Nat.le_of_ble_eq_true rfl) ?_
 repeat (first|refine qac ?_|(refine qaa ?_;clear hw;intro p w hw)|(refine qad ?_;clear hw;intro w hw)|(refine qab ?_;clear hw;intro s w hw))
 refine qao [4,5,6,9,10,11,12,13,14,15,16,17,18,19,20,21,22,23,24,25,26,27,28,29,30,31,32,33,34,35,36,37,38,39,40,41,42,43,44,45,46,47,48,49,50,51,52,53,54] (G:=Nat) (fun k=>[(9,.int .i64 k)]) (fun k w=>k≤f.length∧(∀ i,i<k→FactOk vars (f.getD i tFact.dflt)∧(0<i→(f.getD (i-1) tFact.dflt).var<(f.getD i tFact.dflt).var))∧Sat w0 w []) (fun k=>f.length-k) 0 (fun _=>rfl) ⟨rfl,trivial⟩ ⟨Nat.zero_le _,fun i hi=>absurd hi (Nat.not_lt_zero _),hw⟩ ?_
 clear hw
 rintro σ k w ⟨hk,hpre,hw⟩
 repeat (first|refine qac ?_|(refine qaa ?_;clear hw;intro p w hw)|(refine qad ?_;clear hw;intro w hw)|(refine qab ?_;clear hw;intro s w hw))
 refine go_if (fun h1 => ?_) (fun h1 => ?_)
 ·repeat (first|refine qac ?_|(refine qaa ?_;clear hw;intro p w hw)|(refine qad ?_;clear hw;intro w hw)|(refine qab ?_;clear hw;intro s w hw))
  refine go_if (fun h2 => ?_) (fun h2 => ?_)
  ·repeat (first|refine qac ?_|(refine qaa ?_;clear hw;intro p w hw)|(refine qad ?_;clear hw;intro w hw)|(refine qab ?_;clear hw;intro s w hw))
   refine qai (v:=.bool false) rfl rfl ⟨⟨false,rfl,iffF fun h => ?_⟩,hw.tail⟩
   have:=h k (by omega)
   unfold FactOk at this
   have hk1:((k:Int)-1).toNat=k-1:=by omega
   rw [hk1] at h2
   omega
  ·repeat (first|refine qac ?_|(refine qaa ?_;clear hw;intro p w hw)|(refine qad ?_;clear hw;intro w hw)|(refine qab ?_;clear hw;intro s w hw))
   refine⟨k+1,⟨rfl,trivial⟩,agr,⟨by omega,fun i hi => ?_,hw.tail⟩,by omega⟩
   by_cases h:i=k
   ·subst h
    have hk1:((i:Int)-1).toNat=i-1:=by omega
    rw [hk1] at h2
    unfold FactOk
    omega
   ·exact hpre i (by omega)
 ·repeat (first|refine qac ?_|(refine qaa ?_;clear hw;intro p w hw)|(refine qad ?_;clear hw;intro w hw)|(refine qab ?_;clear hw;intro s w hw))
  exact qai (v:=.bool true) rfl rfl ⟨⟨true,rfl,iffT fun i hi=>hpre i (by omega)⟩,hw⟩
set_option maxRecDepth 8000 in
set_option maxHeartbeats 2000000 in
theorem qfr {w0:World}{a:Value}{vars:List Int}{v:OpV}{o:TOp}(ha:RS tInt w0 a vars) (hv:ROp w0 v o) :
  Calls Tryz.prog 30 #[a,.agg (tOp.enc v).toArray] w0 fun e w'=>(∃ r,e=.returned (.bool r)∧(r=true↔OpOk vars o))∧Sat w0 w' []:=by
 have hla:=ha.big
 have hw:=Sat.start w0
 obtain⟨hname,hsize,hcost,hpre,es,hes⟩:=hv
 have hrs:=hes.rs
 have hpl:=hpre.big
 have hel:=hrs.big
 have hesl:=hes.len
 refine qaf (args:=[a,.agg (tOp.enc v).toArray]) mixed Tryz.func30 rfl (by kernel_rfl) (Nat.le_of_ble_eq_true rfl) ?_
 repeat (first|refine qac ?_|(refine qaa ?_;clear hw;intro p w hw)|(refine qad ?_;clear hw;intro w hw)|(refine qab ?_;clear hw;intro s w hw))
 refine qmr (fun h1 => ?_) (fun h1 => ?_)
 ·simp only [h1,gvff,gvtt];(try simp only [beq_iff_eq,Bool.and_eq_true,Bool.or_eq_true,decide_eq_true_eq,decide_eq_false_iff_not,Bool.not_eq_true,Bool.not_eq_false,Bool.not_eq_eq_eq_not,Bool.not_true,Bool.not_false,Bool.and_eq_false_iff,Bool.or_eq_false_iff,bne_iff_ne,ne_eq,Int.not_lt,Int.not_le,Nat.not_lt,Nat.not_le] at h1)
  repeat (first|refine qac ?_|(refine qaa ?_;clear hw;intro p w hw)|(refine qad ?_;clear hw;intro w hw)|(refine qab ?_;clear hw;intro s w hw))
  refine qai (v:=.bool false) rfl rfl ⟨⟨false,rfl,iffF fun h => ?_⟩,hw.tail⟩
  have:=h.cost0
  have:=h.cost1
  have:=h.effs
  have:=h.name.1
  rw [←hname] at this
  omega
 ·simp only [h1,gvff,gvtt];(try simp only [beq_iff_eq,Bool.and_eq_true,Bool.or_eq_true,decide_eq_true_eq,decide_eq_false_iff_not,Bool.not_eq_true,Bool.not_eq_false,Bool.not_eq_eq_eq_not,Bool.not_true,Bool.not_false,Bool.and_eq_false_iff,Bool.or_eq_false_iff,bne_iff_ne,ne_eq,Int.not_lt,Int.not_le,Nat.not_lt,Nat.not_le] at h1)
  repeat (first|refine qac ?_|(refine qaa ?_;clear hw;intro p w hw)|(refine qad ?_;clear hw;intro w hw)|(refine qab ?_;clear hw;intro s w hw))
  refine qag rfl (qbQ (a:=a) (b:=v.pre) (ha.at hw) (hpre.at hw)) ?_
  rintro _ w' ⟨⟨r,rfl,hr⟩,hk⟩
  replace hw:=hw.call0 hk
  clear hk
  refine⟨_,rfl,?_⟩
  repeat (first|refine qac ?_|(refine qaa ?_;clear hw;intro p w hw)|(refine qad ?_;clear hw;intro w hw)|(refine qab ?_;clear hw;intro s w hw))
  cases r with
  | false =>
   repeat (first|refine qac ?_|(refine qaa ?_;clear hw;intro p w hw)|(refine qad ?_;clear hw;intro w hw)|(refine qab ?_;clear hw;intro s w hw))
   refine qai (v:=.bool false) rfl rfl ⟨⟨false,rfl,iffF fun h => ?_⟩,hw.tail⟩
   have:=hr.2 h.pre
   cases this
  | true =>
   have hpok:=hr.1 rfl
   repeat (first|refine qac ?_|(refine qaa ?_;clear hw;intro p w hw)|(refine qad ?_;clear hw;intro w hw)|(refine qab ?_;clear hw;intro s w hw))
   refine qao [4,5,38,39,40,41,42,43,44,45,46,47,48,49,50,51,52,53] (G:=Nat) (fun k=>[(38,.int .i64 k)]) (fun k w=>k≤v.name.size∧(∀ i,i<k→32≤bat v.name i∧bat v.name i≤126)∧Sat w0 w [Box p 44 (tOp.enc v)]) (fun k=>v.name.size-k) 0 (fun _=>rfl) ⟨rfl,trivial⟩ ⟨Nat.zero_le _,fun i hi=>absurd hi (Nat.not_lt_zero _),hw⟩ ?_
   clear hw
   rintro σ k w ⟨hk,hnm,hw⟩
   repeat (first|refine qac ?_|(refine qaa ?_;clear hw;intro p w hw)|(refine qad ?_;clear hw;intro w hw)|(refine qab ?_;clear hw;intro s w hw))
   refine go_if (fun h2 => ?_) (fun h2 => ?_)
   ·repeat (first|refine qac ?_|(refine qaa ?_;clear hw;intro p w hw)|(refine qad ?_;clear hw;intro w hw)|(refine qab ?_;clear hw;intro s w hw))
    refine go_if (fun h3 => ?_) (fun h3 => ?_)
    ·repeat (first|refine qac ?_|(refine qaa ?_;clear hw;intro p w hw)|(refine qad ?_;clear hw;intro w hw)|(refine qab ?_;clear hw;intro s w hw))
     refine qai (v:=.bool false) rfl rfl ⟨⟨false,rfl,iffF fun h => ?_⟩,hw.tail⟩
     have:=h.name.2 k (by rw [←hname];omega)
     rw [←hname] at this
     omega
    ·repeat (first|refine qac ?_|(refine qaa ?_;clear hw;intro p w hw)|(refine qad ?_;clear hw;intro w hw)|(refine qab ?_;clear hw;intro s w hw))
     refine⟨k+1,⟨rfl,trivial⟩,agr,⟨by omega,fun i hi => ?_,hw⟩,by omega⟩
     by_cases h:i=k
     ·subst h;omega
     ·exact hnm i (by omega)
   ·have hnok:NameOk o.name:=by rw [←hname];exact⟨by omega,fun i hi=>hnm i (by omega)⟩
    repeat (first|refine qac ?_|(refine qaa ?_;clear hw;intro p w hw)|(refine qad ?_;clear hw;intro w hw)|(refine qab ?_;clear hw;intro s w hw))
    refine qao [4,7,57,58,59,60,61,62,63,64,65,66,67,68,69,70,71,72,73,74,75,76,77] (G:=Nat) (fun k=>[(57,.int .i64 k)]) (fun k w=>k≤o.effs.length∧(∀ i,i<k→EffOk vars (o.effs.getD i dEff))∧Sat w0 w [Box p 44 (tOp.enc v)]) (fun k=>o.effs.length-k) 0 (fun _=>rfl) ⟨rfl,trivial⟩ ⟨Nat.zero_le _,fun i hi=>absurd hi (Nat.not_lt_zero _),hw⟩ ?_
    clear hw
    rintro σ1 k w ⟨hk2,hef,hw⟩
    repeat (first|refine qac ?_|(refine qaa ?_;clear hw;intro p w hw)|(refine qad ?_;clear hw;intro w hw)|(refine qab ?_;clear hw;intro s w hw))
    refine go_if (fun h4 => ?_) (fun h4 => ?_)
    ·have hek:=hes.at_ k (by omega)
     have hwh:=hek.when
     have hone:=hek.one
     repeat (first|refine qac ?_|(refine qaa ?_;clear hw;intro p w hw)|(refine qad ?_;clear hw;intro w hw)|(refine qab ?_;clear hw;intro s w hw))
     refine qag rfl (qbQ (a:=a) (b:=(eget tEff es k).when) (ha.at hw) (hwh.at hw)) ?_
     rintro _ w' ⟨⟨r,rfl,hr⟩,hk'⟩
     replace hw:=hw.call0 hk'
     clear hk'
     refine⟨_,rfl,?_⟩
     cases r with
     | false =>
      repeat (first|refine qac ?_|(refine qaa ?_;clear hw;intro p w hw)|(refine qad ?_;clear hw;intro w hw)|(refine qab ?_;clear hw;intro s w hw))
      refine qai (v:=.bool false) rfl rfl ⟨⟨false,rfl,iffF fun h => ?_⟩,hw.tail.tail⟩
      have:=hr.2 (h.eff k (by omega)).1
      cases this
     | true =>
      have hwok:=hr.1 rfl
      repeat (first|refine qac ?_|(refine qaa ?_;clear hw;intro p w hw)|(refine qad ?_;clear hw;intro w hw)|(refine qab ?_;clear hw;intro s w hw))
      refine qal tFact (x1:=⟨(eget tEff es k).var,(eget tEff es k).val⟩) rfl rfl rfl (Nat.le_of_ble_eq_true rfl) (Nat.zero_lt_succ _) hw ?_
      clear hw
      intro s w hw
      repeat (first|refine qac ?_|(refine qaa ?_;clear hw;intro p w hw)|(refine qad ?_;clear hw;intro w hw)|(refine qab ?_;clear hw;intro s w hw))
      refine qag rfl (qbQ (a:=a) (b:=s) (ha.at hw) (rsO hw)) ?_
      rintro _ w' ⟨⟨r,rfl,hr2⟩,hk'⟩
      replace hw:=hw.call0 hk'
      clear hk'
      rw [hek.var,hek.val] at hr2
      refine⟨_,rfl,?_⟩
      cases r with
      | false =>
       repeat (first|refine qac ?_|(refine qaa ?_;clear hw;intro p w hw)|(refine qad ?_;clear hw;intro w hw)|(refine qab ?_;clear hw;intro s w hw))
       refine qai (v:=.bool false) rfl rfl ⟨⟨false,rfl,iffF fun h => ?_⟩,hw.tail.tail.tail⟩
       have:=hr2.2 (h.eff k (by omega)).2
       cases this
      | true =>
       have hvok:=hr2.1 rfl
       repeat (first|refine qac ?_|(refine qaa ?_;clear hw;intro p w hw)|(refine qad ?_;clear hw;intro w hw)|(refine qab ?_;clear hw;intro s w hw))
       refine⟨k+1,⟨rfl,trivial⟩,agr,⟨by omega,fun i hi => ?_,hw.tail.tail⟩,by omega⟩
       by_cases h:i=k
       ·subst h;exact⟨hwok,hvok⟩
       ·exact hef i (by omega)
    ·repeat (first|refine qac ?_|(refine qaa ?_;clear hw;intro p w hw)|(refine qad ?_;clear hw;intro w hw)|(refine qab ?_;clear hw;intro s w hw))
     refine qai (v:=.bool true) rfl rfl ⟨⟨true,rfl,iffT ⟨by omega,by omega,by omega,hnok,hpok,fun i hi=>hef i (by omega)⟩⟩,hw.tail⟩
set_option maxRecDepth 8000 in
set_option maxHeartbeats 2000000 in
theorem qj2 {w0:World}{a b c d:Value}{vs:List OpV}{t:TTask}(ht:RTask w0 a b c d vs t) :
  Calls Tryz.prog 11 #[.agg #[a,b,c,d]] w0 fun e w'=>(∃ r,e=.returned (.bool r)∧(r=true↔GoodT t))∧Sat w0 w' []:=by
 obtain⟨ha,hb,hc,hd⟩:=ht
 have hrs:=hd.rs
 have hdl:=hd.len
 have hla:=ha.big
 have hll:=hrs.big
 have hw:=Sat.start w0
 refine qaf (args:=[.agg #[a,b,c,d]]) mixed Tryz.func11 rfl (by kernel_rfl) (Nat.le_of_ble_eq_true rfl) ?_
 repeat (first|refine qac ?_|(refine qaa ?_;clear hw;intro p w hw)|(refine qad ?_;clear hw;intro w hw)|(refine qab ?_;clear hw;intro s w hw))
 refine go_if (fun h1 => ?_) (fun h1 => ?_)
 ·repeat (first|refine qac ?_|(refine qaa ?_;clear hw;intro p w hw)|(refine qad ?_;clear hw;intro w hw)|(refine qab ?_;clear hw;intro s w hw))
  refine qai (v:=.bool false) rfl rfl ⟨⟨false,rfl,iffF fun h => ?_⟩,hw.tail⟩
  have:=h.vars
  have:=h.ops
  omega
 ·repeat (first|refine qac ?_|(refine qaa ?_;clear hw;intro p w hw)|(refine qad ?_;clear hw;intro w hw)|(refine qab ?_;clear hw;intro s w hw))
  refine qao [2,4,20,21,22,23,24,25,26,27,28,29,30] (G:=Nat) (fun k=>[(20,.int .i64 k)]) (fun k w=>k≤t.vars.length∧(∀ i,i<k→1≤t.vars.getD i tInt.dflt∧t.vars.getD i tInt.dflt≤64)∧Sat w0 w [Box p 26 [a,b,c,d]]) (fun k=>t.vars.length-k) 0 (fun _=>rfl) ⟨rfl,trivial⟩ ⟨Nat.zero_le _,fun i hi=>absurd hi (Nat.not_lt_zero _),hw⟩ ?_
  clear hw
  rintro σ k w ⟨hk,hdm,hw⟩
  repeat (first|refine qac ?_|(refine qaa ?_;clear hw;intro p w hw)|(refine qad ?_;clear hw;intro w hw)|(refine qab ?_;clear hw;intro s w hw))
  refine go_if (fun h2 => ?_) (fun h2 => ?_)
  ·repeat (first|refine qac ?_|(refine qaa ?_;clear hw;intro p w hw)|(refine qad ?_;clear hw;intro w hw)|(refine qab ?_;clear hw;intro s w hw))
   refine go_if (fun h3 => ?_) (fun h3 => ?_)
   ·repeat (first|refine qac ?_|(refine qaa ?_;clear hw;intro p w hw)|(refine qad ?_;clear hw;intro w hw)|(refine qab ?_;clear hw;intro s w hw))
    refine qai (v:=.bool false) rfl rfl ⟨⟨false,rfl,iffF fun h => ?_⟩,hw.tail⟩
    have:=h.dom k (by omega)
    omega
   ·repeat (first|refine qac ?_|(refine qaa ?_;clear hw;intro p w hw)|(refine qad ?_;clear hw;intro w hw)|(refine qab ?_;clear hw;intro s w hw))
    refine⟨k+1,⟨rfl,trivial⟩,agr,⟨by omega,fun i hi => ?_,hw⟩,by omega⟩
    by_cases h:i=k
    ·subst h;omega
    ·exact hdm i (by omega)
  ·repeat (first|refine qac ?_|(refine qaa ?_;clear hw;intro p w hw)|(refine qad ?_;clear hw;intro w hw)|(refine qab ?_;clear hw;intro s w hw))
   refine qag rfl (qis (a:=a) (b:=b) (ha.at hw) (hb.at hw)) ?_
   rintro _ w' ⟨⟨r,rfl,hr⟩,hk'⟩
   replace hw:=hw.call0 hk'
   clear hk'
   refine⟨_,rfl,?_⟩
   cases r with
   | false =>
    repeat (first|refine qac ?_|(refine qaa ?_;clear hw;intro p w hw)|(refine qad ?_;clear hw;intro w hw)|(refine qab ?_;clear hw;intro s w hw))
    refine qai (v:=.bool false) rfl rfl ⟨⟨false,rfl,iffF fun h => ?_⟩,hw.tail⟩
    have:=hr.2 h.init
    cases this
   | true =>
    have hsok:=hr.1 rfl
    repeat (first|refine qac ?_|(refine qaa ?_;clear hw;intro p w hw)|(refine qad ?_;clear hw;intro w hw)|(refine qab ?_;clear hw;intro s w hw))
    refine qag rfl (qbQ (a:=a) (b:=c) (ha.at hw) (hc.at hw)) ?_
    rintro _ w' ⟨⟨r,rfl,hr2⟩,hk'⟩
    replace hw:=hw.call0 hk'
    clear hk'
    refine⟨_,rfl,?_⟩
    cases r with
    | false =>
     repeat (first|refine qac ?_|(refine qaa ?_;clear hw;intro p w hw)|(refine qad ?_;clear hw;intro w hw)|(refine qab ?_;clear hw;intro s w hw))
     refine qai (v:=.bool false) rfl rfl ⟨⟨false,rfl,iffF fun h => ?_⟩,hw.tail⟩
     have:=hr2.2 h.goal
     cases this
    | true =>
     have hgok:=hr2.1 rfl
     repeat (first|refine qac ?_|(refine qaa ?_;clear hw;intro p w hw)|(refine qad ?_;clear hw;intro w hw)|(refine qab ?_;clear hw;intro s w hw))
     refine qao [2,6,48,49,50,51,52,53,54,55,56,57] (G:=Nat) (fun k=>[(48,.int .i64 k)]) (fun k w=>k≤t.ops.length∧(∀ i,i<k→OpOk t.vars (t.ops.getD i dOp))∧Sat w0 w [Box p 26 [a,b,c,d]]) (fun k=>t.ops.length-k) 0 (fun _=>rfl) ⟨rfl,trivial⟩ ⟨Nat.zero_le _,fun i hi=>absurd hi (Nat.not_lt_zero _),hw⟩ ?_
     clear hw
     rintro σ1 k w ⟨hk2,hop,hw⟩
     repeat (first|refine qac ?_|(refine qaa ?_;clear hw;intro p w hw)|(refine qad ?_;clear hw;intro w hw)|(refine qab ?_;clear hw;intro s w hw))
     refine go_if (fun h4 => ?_) (fun h4 => ?_)
     ·have hok:=hd.at_ k (by omega)
      have hone:=hok.one
      repeat (first|refine qac ?_|(refine qaa ?_;clear hw;intro p w hw)|(refine qad ?_;clear hw;intro w hw)|(refine qab ?_;clear hw;intro s w hw))
      refine qag rfl (qfr (a:=a) (v:=eget tOp vs k) (ha.at hw) (hok.at hw)) ?_
      rintro _ w' ⟨⟨r,rfl,hr3⟩,hk'⟩
      replace hw:=hw.call0 hk'
      clear hk'
      refine⟨_,rfl,?_⟩
      cases r with
      | false =>
       repeat (first|refine qac ?_|(refine qaa ?_;clear hw;intro p w hw)|(refine qad ?_;clear hw;intro w hw)|(refine qab ?_;clear hw;intro s w hw))
       refine qai (v:=.bool false) rfl rfl ⟨⟨false,rfl,iffF fun h => ?_⟩,hw.tail.tail⟩
       have:=hr3.2 (h.op k (by omega))
       cases this
      | true =>
       repeat (first|refine qac ?_|(refine qaa ?_;clear hw;intro p w hw)|(refine qad ?_;clear hw;intro w hw)|(refine qab ?_;clear hw;intro s w hw))
       refine⟨k+1,⟨rfl,trivial⟩,agr,⟨by omega,fun i hi => ?_,hw.tail⟩,by omega⟩
       by_cases h:i=k
       ·subst h;exact hr3.1 rfl
       ·exact hop i (by omega)
     ·repeat (first|refine qac ?_|(refine qaa ?_;clear hw;intro p w hw)|(refine qad ?_;clear hw;intro w hw)|(refine qab ?_;clear hw;intro s w hw))
      refine qai (v:=.bool true) rfl rfl ⟨⟨true,rfl,iffT ⟨by omega,by omega,fun i hi=>hdm i (by omega),hsok,hgok,fun i hi=>hop i (by omega)⟩⟩,hw.tail⟩
end Go.Proofs.YtdadmnlenbdfbaaGreat
/-
  Contracts of the package 'task': 'Proper', 'Facts', 'Holds', 'named', 'conditions', 'large', 'Check'.
-/
namespace Go.Proofs.YtdadmnlenbdfbaaGreat
open Go.Sl
attribute [local irreducible] vc opsW opsD opV opW PureV ReadV Thn Blk
set_option maxRecDepth 8000 in
theorem qbt {w0:World}{a b:Value}{vars s:List Int}(ha:RS tInt w0 a vars) (hb:RS tInt w0 b s) :
  Calls Tryz.prog 27 #[a,b] w0 fun e w'=>(∃ r,e=.returned (.bool r)∧(r=true↔StateOk vars s))∧Sat w0 w' []:=by
 have hla:=ha.big
 have hlb:=hb.big
 have hw:=Sat.start w0
 refine qaf (args:=[a,b]) mixed Tryz.func27 rfl (by kernel_rfl) (Nat.le_of_ble_eq_true rfl) ?_
 repeat (first|refine qac ?_|(refine qaa ?_;clear hw;intro p w hw)|(refine qad ?_;clear hw;intro w hw)|(refine qab ?_;clear hw;intro s w hw))
 refine go_if (fun h0 => ?_) (fun h0 => ?_)
 ·repeat (first|refine qac ?_|(refine qaa ?_;clear hw;intro p w hw)|(refine qad ?_;clear hw;intro w hw)|(refine qab ?_;clear hw;intro s w hw))
  refine qai (v:=.bool false) rfl rfl ⟨⟨false,rfl,iffF fun h => ?_⟩,hw⟩
  exact absurd (by have:=h.1;omega) h0
 ·repeat (first|refine qac ?_|(refine qaa ?_;clear hw;intro p w hw)|(refine qad ?_;clear hw;intro w hw)|(refine qab ?_;clear hw;intro s w hw))
  refine qao [4,5,6,14,15,16,17,18,19,20,21,22,23,24,25,26,27,28,29] (G:=Nat) (fun k=>[(14,.int .i64 k)]) (fun k w=>k≤s.length∧(∀ i,i<k→0≤s.getD i tInt.dflt∧s.getD i tInt.dflt<vars.getD i tInt.dflt)∧Sat w0 w []) (fun k=>s.length-k) 0 (fun _=>rfl) ⟨rfl,trivial⟩ ⟨Nat.zero_le _,fun i hi=>absurd hi (Nat.not_lt_zero _),hw⟩ ?_
  clear hw
  rintro σ k w ⟨hk,hpre,hw⟩
  repeat (first|refine qac ?_|(refine qaa ?_;clear hw;intro p w hw)|(refine qad ?_;clear hw;intro w hw)|(refine qab ?_;clear hw;intro s w hw))
  refine go_if (fun h1 => ?_) (fun h1 => ?_)
  ·repeat (first|refine qac ?_|(refine qaa ?_;clear hw;intro p w hw)|(refine qad ?_;clear hw;intro w hw)|(refine qab ?_;clear hw;intro s w hw))
   refine go_if (fun h2 => ?_) (fun h2 => ?_)
   ·repeat (first|refine qac ?_|(refine qaa ?_;clear hw;intro p w hw)|(refine qad ?_;clear hw;intro w hw)|(refine qab ?_;clear hw;intro s w hw))
    refine qai (v:=.bool false) rfl rfl ⟨⟨false,rfl,iffF fun h => ?_⟩,hw⟩
    have:=h.2 k (by omega)
    omega
   ·repeat (first|refine qac ?_|(refine qaa ?_;clear hw;intro p w hw)|(refine qad ?_;clear hw;intro w hw)|(refine qab ?_;clear hw;intro s w hw))
    refine⟨k+1,⟨rfl,trivial⟩,agr,⟨by omega,fun i hi => ?_,hw⟩,by omega⟩
    by_cases h:i=k
    ·subst h;omega
    ·exact hpre i (by omega)
  ·repeat (first|refine qac ?_|(refine qaa ?_;clear hw;intro p w hw)|(refine qad ?_;clear hw;intro w hw)|(refine qab ?_;clear hw;intro s w hw))
   exact qai (v:=.bool true) rfl rfl ⟨⟨true,rfl,iffT ⟨by omega,fun i hi=>hpre i (by omega)⟩⟩,hw⟩
set_option maxRecDepth 8000 in
set_option maxHeartbeats 1000000 in
theorem qes {w0:World}{a b:Value}{vars:List Int}{f:List Fact}(ha:RS tInt w0 a vars) (hb:RS tFact w0 b f) :
  Calls Tryz.prog 38 #[a,b] w0 fun e w'=>(∃ r,e=.returned (.bool r)∧(r=true↔FactsOk vars f))∧Sat w0 w' []:=by
 have hla:=ha.big
 have hlb:=hb.big
 have hw:=Sat.start w0
 refine qaf (args:=[a,b]) mixed Tryz.func38 rfl (by kernel_rfl) (Nat.le_of_ble_eq_true rfl) ?_
 repeat (first|refine qac ?_|(refine qaa ?_;clear hw;intro p w hw)|(refine qad ?_;clear hw;intro w hw)|(refine qab ?_;clear hw;intro s w hw))
 refine qat [4,5,7,10,11,12,13,14,15,16,17,18,19,20,21,22,23,24,25,26,27,28,29,30,31,32,33,34,35,36,37,38,39,40,41,42] (G:=Nat) (H:=Int) (fun k l=>[(10,.int .i64 k),(5,.int .i64 l)]) (fun k l w=>k≤f.length ∧ -1≤l∧(l=if k=0 then -1 else (f.getD (k-1) tFact.dflt).var)∧(∀ i,i<k→FactOk vars (f.getD i tFact.dflt)∧(0<i→(f.getD (i-1) tFact.dflt).var<(f.getD i tFact.dflt).var))∧Sat w0 w []) (fun k l=>f.length-k) 0 (-1) (fun _ _=>rfl) ⟨rfl,rfl,trivial⟩ ⟨Nat.zero_le _,by omega,rfl,fun i hi=>absurd hi (Nat.not_lt_zero _),hw⟩ ?_
 clear hw
 rintro σ k l w ⟨hk,hl1,hl2,hpre,hw⟩
 repeat (first|refine qac ?_|(refine qaa ?_;clear hw;intro p w hw)|(refine qad ?_;clear hw;intro w hw)|(refine qab ?_;clear hw;intro s w hw))
 refine go_if (fun h1 => ?_) (fun h1 => ?_)
 ·repeat (first|refine qac ?_|(refine qaa ?_;clear hw;intro p w hw)|(refine qad ?_;clear hw;intro w hw)|(refine qab ?_;clear hw;intro s w hw))
  refine go_if (fun h2 => ?_) (fun h2 => ?_)
  ·repeat (first|refine qac ?_|(refine qaa ?_;clear hw;intro p w hw)|(refine qad ?_;clear hw;intro w hw)|(refine qab ?_;clear hw;intro s w hw))
   refine qai (v:=.bool false) rfl rfl ⟨⟨false,rfl,iffF fun h => ?_⟩,hw.tail⟩
   have:=h k (by omega)
   unfold FactOk at this
   split at hl2 <;> omega
  ·repeat (first|refine qac ?_|(refine qaa ?_;clear hw;intro p w hw)|(refine qad ?_;clear hw;intro w hw)|(refine qab ?_;clear hw;intro s w hw))
   refine⟨k+1,_,⟨rfl,rfl,trivial⟩,agr,⟨by omega,by omega,by simp,fun i hi => ?_,hw.tail⟩,by omega⟩
   by_cases h:i=k
   ·subst h
    unfold FactOk
    split at hl2 <;> omega
   ·exact hpre i (by omega)
 ·repeat (first|refine qac ?_|(refine qaa ?_;clear hw;intro p w hw)|(refine qad ?_;clear hw;intro w hw)|(refine qab ?_;clear hw;intro s w hw))
  exact qai (v:=.bool true) rfl rfl ⟨⟨true,rfl,iffT fun i hi=>hpre i (by omega)⟩,hw⟩
set_option maxRecDepth 8000 in
set_option maxHeartbeats 1000000 in
theorem qg4 {w0:World}{a b:Value}{f:List Fact}{s:List Int}(ha:RS tFact w0 a f) (hb:RS tInt w0 b s) :
  Calls Tryz.prog 126 #[a,b] w0 fun e w'=>(∃ r,e=.returned (.bool r)∧(r=true↔HoldFs s f))∧Sat w0 w' []:=by
 have hla:=ha.big
 have hlb:=hb.big
 have hw:=Sat.start w0
 refine qaf (args:=[a,b]) mixed Tryz.func126 rfl (by kernel_rfl) (Nat.le_of_ble_eq_true rfl) ?_
 repeat (first|refine qac ?_|(refine qaa ?_;clear hw;intro p w hw)|(refine qad ?_;clear hw;intro w hw)|(refine qab ?_;clear hw;intro s w hw))
 refine qao [4,6,9,10,11,12,13,14,15,16,17,18,19,20,21,22,23,24,25,26,27,28,29,30,31,32,33] (G:=Nat) (fun k=>[(9,.int .i64 k)]) (fun k w=>k≤f.length∧(∀ i,i<k→HoldF s (f.getD i tFact.dflt))∧Sat w0 w []) (fun k=>f.length-k) 0 (fun _=>rfl) ⟨rfl,trivial⟩ ⟨Nat.zero_le _,fun i hi=>absurd hi (Nat.not_lt_zero _),hw⟩ ?_
 clear hw
 rintro σ k w ⟨hk,hpre,hw⟩
 repeat (first|refine qac ?_|(refine qaa ?_;clear hw;intro p w hw)|(refine qad ?_;clear hw;intro w hw)|(refine qab ?_;clear hw;intro s w hw))
 refine go_if (fun h1 => ?_) (fun h1 => ?_)
 ·repeat (first|refine qac ?_|(refine qaa ?_;clear hw;intro p w hw)|(refine qad ?_;clear hw;intro w hw)|(refine qab ?_;clear hw;intro s w hw))
  refine go_if (fun h2 => ?_) (fun h2 => ?_)
  ·repeat (first|refine qac ?_|(refine qaa ?_;clear hw;intro p w hw)|(refine qad ?_;clear hw;intro w hw)|(refine qab ?_;clear hw;intro s w hw))
   refine qai (v:=.bool false) rfl rfl ⟨⟨false,rfl,iffF fun h => ?_⟩,hw.tail⟩
   have:=h k (by omega)
   unfold HoldF at this
   omega
  ·repeat (first|refine qac ?_|(refine qaa ?_;clear hw;intro p w hw)|(refine qad ?_;clear hw;intro w hw)|(refine qab ?_;clear hw;intro s w hw))
   refine⟨k+1,⟨rfl,trivial⟩,agr,⟨by omega,fun i hi => ?_,hw.tail⟩,by omega⟩
   by_cases h:i=k
   ·subst h;unfold HoldF;omega
   ·exact hpre i (by omega)
 ·repeat (first|refine qac ?_|(refine qaa ?_;clear hw;intro p w hw)|(refine qad ?_;clear hw;intro w hw)|(refine qab ?_;clear hw;intro s w hw))
  exact qai (v:=.bool true) rfl rfl ⟨⟨true,rfl,iffT fun i hi=>hpre i (by omega)⟩,hw⟩
set_option maxRecDepth 8000 in
theorem qiC {w0:World}{b:ByteArray}(hb:b.size≤9223372036854775807) :
  Calls Tryz.prog 39 #[.string b] w0 fun e w'=>(∃ r,e=.returned (.bool r)∧(r=true↔NameOk b))∧Sat w0 w' []:=by
 have hw:=Sat.start w0
 refine qaf (args:=[.string b]) mixed Tryz.func39 rfl (by kernel_rfl) (Nat.le_of_ble_eq_true rfl) ?_
 repeat (first|refine qac ?_|(refine qaa ?_;clear hw;intro p w hw)|(refine qad ?_;clear hw;intro w hw)|(refine qab ?_;clear hw;intro s w hw))
 refine qao [2,3,6,7,8,9,10,11,12,13,14,15,16,17,18,19] (G:=Nat) (fun k=>[(6,.int .i64 k)]) (fun k w=>k≤b.size∧(∀ i,i<k→32≤bat b i∧bat b i≤126)∧Sat w0 w []) (fun k=>b.size-k) 0 (fun _=>rfl) ⟨rfl,trivial⟩ ⟨Nat.zero_le _,fun i hi=>absurd hi (Nat.not_lt_zero _),hw⟩ ?_
 clear hw
 rintro σ k w ⟨hk,hpre,hw⟩
 repeat (first|refine qac ?_|(refine qaa ?_;clear hw;intro p w hw)|(refine qad ?_;clear hw;intro w hw)|(refine qab ?_;clear hw;intro s w hw))
 refine go_if (fun h1 => ?_) (fun h1 => ?_)
 ·repeat (first|refine qac ?_|(refine qaa ?_;clear hw;intro p w hw)|(refine qad ?_;clear hw;intro w hw)|(refine qab ?_;clear hw;intro s w hw))
  refine go_if (fun h2 => ?_) (fun h2 => ?_)
  ·repeat (first|refine qac ?_|(refine qaa ?_;clear hw;intro p w hw)|(refine qad ?_;clear hw;intro w hw)|(refine qab ?_;clear hw;intro s w hw))
   refine qai (v:=.bool false) rfl rfl ⟨⟨false,rfl,iffF fun h => ?_⟩,hw⟩
   have:=h.2 k (by omega)
   omega
  ·repeat (first|refine qac ?_|(refine qaa ?_;clear hw;intro p w hw)|(refine qad ?_;clear hw;intro w hw)|(refine qab ?_;clear hw;intro s w hw))
   refine⟨k+1,⟨rfl,trivial⟩,agr,⟨by omega,fun i hi => ?_,hw⟩,by omega⟩
   by_cases h:i=k
   ·subst h;omega
   ·exact hpre i (by omega)
 ·repeat (first|refine qac ?_|(refine qaa ?_;clear hw;intro p w hw)|(refine qad ?_;clear hw;intro w hw)|(refine qab ?_;clear hw;intro s w hw))
  refine qai (v:=.bool (decide ((b.size:Int)≤256))) rfl rfl ⟨⟨_,rfl,?_⟩,hw⟩
  rw [decide_eq_true_eq]
  exact⟨fun h=>⟨by omega,fun i hi=>hpre i (by omega)⟩,fun h=>by have:=h.1;omega⟩
end Go.Proofs.YtdadmnlenbdfbaaGreat
/-
  Contracts of the helpers 'Ints', 'Is', 'Many', 'Small', 'Apply', 'Rank'.
-/
namespace Go.Proofs.YtdadmnlenbdfbaaGreat
open Go.Sl
attribute [local irreducible] vc opsW opsD opV opW PureV ReadV Thn Blk
set_option maxRecDepth 8000 in
theorem Is_spec {w0:World}(c d:Int) :
  Calls Tryz.prog 7 #[errV c,.int .i64 d] w0 fun e w'=>e=.returned (.bool (decide (c≠0∧c=d)))∧Sat w0 w' []:=by
 have hw:=Sat.start w0
 by_cases hc:c=0
 ·subst hc
  refine qaf (args:=[.nilIface,.int .i64 d]) mixed Tryz.func7 rfl (by kernel_rfl) (Nat.le_of_ble_eq_true rfl) ?_
  repeat (first|refine qac ?_|(refine qaa ?_;clear hw;intro p w hw)|(refine qad ?_;clear hw;intro w hw)|(refine qab ?_;clear hw;intro s w hw))
  exact qai (v:=.bool false) rfl rfl ⟨rfl,hw⟩
 ·have hn:=qlc (w0:=w0) c
  rw [qaj hc] at hn ⊢
  refine qaf (args:=[.iface 35 (.int .i64 c),.int .i64 d]) mixed Tryz.func7 rfl (by kernel_rfl) (Nat.le_of_ble_eq_true rfl) ?_
  repeat (first|refine qac ?_|(refine qaa ?_;clear hw;intro p w hw)|(refine qad ?_;clear hw;intro w hw)|(refine qab ?_;clear hw;intro s w hw))
  refine qag rfl hn ?_
  rintro _ w' ⟨rfl,hk'⟩
  replace hw:=hw.call0 hk'
  clear hk'
  refine⟨_,rfl,?_⟩
  repeat (first|refine qac ?_|(refine qaa ?_;clear hw;intro p w hw)|(refine qad ?_;clear hw;intro w hw)|(refine qab ?_;clear hw;intro s w hw))
  exact qai (v:=.bool (decide (c=d))) rfl rfl ⟨by simp [hc],hw⟩
theorem qjC {n k m:Int}(hn:1≤n) (hk:1≤k) (hm:n≤m) (h0:m≤65536):let x:=n*(if m+1<(if 0>k then 0 else k) then m+1 else (if 0>k then 0 else k))
  0≤x∧x≤4295098368∧(x≤m→x=n*k)∧(m<x→m<n*k):=by
 intro x
 have e:x=n*min k (m+1):=by
  show n*(if m+1<(if 0>k then 0 else k) then m+1 else (if 0>k then 0 else k))=_
  have hk0:(if 0>k then 0 else k)=k:=if_neg (by omega)
  rw [hk0]
  congr 1
  split <;> omega
 have h2:n*min k (m+1)≤65536*65537:=Int.mul_le_mul (by omega) (by omega) (by omega) (by omega)
 have h3:0≤n*min k (m+1):=Int.mul_nonneg (by omega) (by omega)
 refine⟨by omega,by omega,fun h => ?_,fun h => ?_⟩
 ·rw [e] at h ⊢
  by_cases hh:k≤m+1
  ·rw [Int.min_eq_left hh]
  ·rw [Int.min_eq_right (by omega)] at h
   have:1*(m+1)≤n*(m+1):=Int.mul_le_mul_of_nonneg_right hn (by omega)
   omega
 ·rw [e] at h
  have:n*min k (m+1)≤n*k:=Int.mul_le_mul_of_nonneg_left (by omega) (by omega)
  omega
def manyL (vars:List Int) (m:Int):Int:=if prodL vars≤m then prodL vars else m+1
set_option maxRecDepth 8000 in
theorem qkb {w0:World}{a:Value}{vars:List Int}{m:Int}(ha:RS tInt w0 a vars) (hp:∀ x∈vars,1≤x) (hm1:1≤m) (hm2:m≤65536) :
  Calls Tryz.prog 12 #[a,.int .i64 m] w0 fun e w'=>e=.returned (.int .i64 (manyL vars m))∧Sat w0 w' []:=by
 have hla:=ha.big
 have hw:=Sat.start w0
 refine qaf (args:=[a,.int .i64 m]) mixed Tryz.func12 rfl (by kernel_rfl) (Nat.le_of_ble_eq_true rfl) ?_
 repeat (first|refine qac ?_|(refine qaa ?_;clear hw;intro p w hw)|(refine qad ?_;clear hw;intro w hw)|(refine qab ?_;clear hw;intro s w hw))
 refine qat [4,5,7,10,11,12,13,14,15,16,17,18,19,20,21,22,23,24,25,26] (G:=Nat) (H:=Int) (fun k n=>[(10,.int .i64 k),(5,.int .i64 n)]) (fun k n w=>k≤vars.length∧n=prodL (vars.take k)∧n≤m∧Sat w0 w []) (fun k _=>vars.length-k) 0 1 (fun _ _=>rfl) ⟨rfl,rfl,trivial⟩ ⟨Nat.zero_le _,rfl,hm1,hw⟩ ?_
 clear hw
 rintro σ k n w ⟨hk,hn,hnm,hw⟩
 repeat (first|refine qac ?_|(refine qaa ?_;clear hw;intro p w hw)|(refine qad ?_;clear hw;intro w hw)|(refine qab ?_;clear hw;intro s w hw))
 refine go_if (fun h1 => ?_) (fun h1 => ?_)
 ·have hkl:k<vars.length:=by omega
  have hx:=hp _ (qan tInt.dflt hkl)
  have hpos:1≤n:=by rw [hn];exact qb3 fun x hx=>hp x (List.mem_of_mem_take hx)
  obtain⟨b0,b1,b2,b3⟩:=qjC hpos hx hnm hm2
  have hs:prodL (vars.take (k+1))=n*vars.getD k tInt.dflt:=by rw [qav tInt.dflt hkl,qbc,hn]
  repeat (first|refine qac ?_|(refine qaa ?_;clear hw;intro p w hw)|(refine qad ?_;clear hw;intro w hw)|(refine qab ?_;clear hw;intro s w hw))
  refine go_if (fun h2 => ?_) (fun h2 => ?_)
  ·repeat (first|refine qac ?_|(refine qaa ?_;clear hw;intro p w hw)|(refine qad ?_;clear hw;intro w hw)|(refine qab ?_;clear hw;intro s w hw))
   refine qai (v:=.int .i64 (m+1)) rfl rfl ⟨?_,hw⟩
   have h3:=b3 (by omega)
   have h4:prodL (vars.take (k+1))≤prodL vars:=by
    have:=qeP (l:=vars.take (k+1)) (m:=vars.drop (k+1)) (fun x hx=>hp x (List.mem_of_mem_drop hx)) (fun x hx=>hp x (List.mem_of_mem_take hx))
    rwa [List.take_append_drop] at this
   rw [manyL,if_neg (by omega)]
  ·repeat (first|refine qac ?_|(refine qaa ?_;clear hw;intro p w hw)|(refine qad ?_;clear hw;intro w hw)|(refine qab ?_;clear hw;intro s w hw))
   refine⟨k+1,_,⟨rfl,rfl,trivial⟩,agr,⟨by omega,?_,by omega,hw⟩,by omega⟩
   rw [hs];exact b2 (by omega)
 ·repeat (first|refine qac ?_|(refine qaa ?_;clear hw;intro p w hw)|(refine qad ?_;clear hw;intro w hw)|(refine qab ?_;clear hw;intro s w hw))
  refine qai (v:=.int .i64 n) rfl rfl ⟨?_,hw⟩
  rw [List.take_of_length_le (by omega)] at hn
  rw [manyL,←hn,if_pos hnm]
set_option maxRecDepth 8000 in
set_option maxHeartbeats 2000000 in
theorem qiB {w0:World}{a b c d:Value}{vs:List OpV}{t:TTask}(ht:RTask w0 a b c d vs t) :
  Calls Tryz.prog 4 #[.agg #[a,b,c,d]] w0 fun e w'=>(∃ r,e=.returned (.bool r)∧(r=true↔SmallT t))∧Sat w0 w' []:=by
 have ht':=ht
 obtain⟨ha,hb,hc,hd⟩:=ht
 have hrs:=hd.rs
 have hdl:=hd.len
 have hla:=ha.big
 have hll:=hrs.big
 have hw:=Sat.start w0
 refine qaf (args:=[.agg #[a,b,c,d]]) mixed Tryz.func4 rfl (by kernel_rfl) (Nat.le_of_ble_eq_true rfl) ?_
 repeat (first|refine qac ?_|(refine qaa ?_;clear hw;intro p w hw)|(refine qad ?_;clear hw;intro w hw)|(refine qab ?_;clear hw;intro s w hw))
 refine go_if (fun h1 => ?_) (fun h1 => ?_)
 ·repeat (first|refine qac ?_|(refine qaa ?_;clear hw;intro p w hw)|(refine qad ?_;clear hw;intro w hw)|(refine qab ?_;clear hw;intro s w hw))
  refine qai (v:=.bool false) rfl rfl ⟨⟨false,rfl,iffF fun h => ?_⟩,hw.tail⟩
  have:=h.vars
  have:=h.ops
  omega
 ·repeat (first|refine qac ?_|(refine qaa ?_;clear hw;intro p w hw)|(refine qad ?_;clear hw;intro w hw)|(refine qab ?_;clear hw;intro s w hw))
  obtain⟨pt,hpt⟩:∃ pt,pt=p:=⟨p,rfl⟩
  subst hpt
  refine qao [2,4,18,19,20,21,22,23,24,25,26] (G:=Nat) (fun k=>[(18,.int .i64 k)]) (fun k w=>k≤t.ops.length∧(∀ i,i<k→(t.ops.getD i dOp).effs.length≤8)∧Sat w0 w [Box pt 26 [a,b,c,d]]) (fun k=>t.ops.length-k) 0 (fun _=>rfl) ⟨rfl,trivial⟩ ⟨Nat.zero_le _,fun i hi=>absurd hi (Nat.not_lt_zero _),hw⟩ ?_
  clear hw
  rintro σ k w ⟨hk,hef,hw⟩
  repeat (first|refine qac ?_|(refine qaa ?_;clear hw;intro p w hw)|(refine qad ?_;clear hw;intro w hw)|(refine qab ?_;clear hw;intro s w hw))
  refine go_if (fun h2 => ?_) (fun h2 => ?_)
  ·have hop:=hd.at_ k (by omega)
   have hone:=hop.one
   obtain⟨es,hes⟩:=hop.effs
   have hers:=hes.rs
   have hel:=hes.len
   have heb:=hers.big
   repeat (first|refine qac ?_|(refine qaa ?_;clear hw;intro p w hw)|(refine qad ?_;clear hw;intro w hw)|(refine qab ?_;clear hw;intro s w hw))
   refine go_if (fun h3 => ?_) (fun h3 => ?_)
   ·repeat (first|refine qac ?_|(refine qaa ?_;clear hw;intro p w hw)|(refine qad ?_;clear hw;intro w hw)|(refine qab ?_;clear hw;intro s w hw))
    refine qai (v:=.bool false) rfl rfl ⟨⟨false,rfl,iffF fun h => ?_⟩,hw.tail.tail⟩
    have:=h.effs k (by omega)
    omega
   ·repeat (first|refine qac ?_|(refine qaa ?_;clear hw;intro p w hw)|(refine qad ?_;clear hw;intro w hw)|(refine qab ?_;clear hw;intro s w hw))
    refine⟨k+1,⟨rfl,trivial⟩,agr,⟨by omega,fun i hi => ?_,hw.tail⟩,by omega⟩
    by_cases h:i=k
    ·subst h;omega
    ·exact hef i (by omega)
  ·repeat (first|refine qac ?_|(refine qaa ?_;clear hw;intro p w hw)|(refine qad ?_;clear hw;intro w hw)|(refine qab ?_;clear hw;intro s w hw))
   refine qag rfl (qj2 (ht'.at hw)) ?_
   rintro _ w' ⟨⟨r,rfl,hr⟩,hk'⟩
   replace hw:=hw.call0 hk'
   clear hk'
   refine⟨_,rfl,?_⟩
   cases r with
   | false =>
    repeat (first|refine qac ?_|(refine qaa ?_;clear hw;intro p w hw)|(refine qad ?_;clear hw;intro w hw)|(refine qab ?_;clear hw;intro s w hw))
    refine qai (v:=.bool false) rfl rfl ⟨⟨false,rfl,iffF fun h => ?_⟩,hw.tail⟩
    have:=hr.2 h.good
    cases this
   | true =>
    have hg:=hr.1 rfl
    repeat (first|refine qac ?_|(refine qaa ?_;clear hw;intro p w hw)|(refine qad ?_;clear hw;intro w hw)|(refine qab ?_;clear hw;intro s w hw))
    refine qag rfl (qkb (m:=512) (ha.at hw) hg.pos (by decide) (by decide)) ?_
    rintro _ w' ⟨rfl,hk'⟩
    replace hw:=hw.call0 hk'
    clear hk'
    refine⟨_,rfl,?_⟩
    repeat (first|refine qac ?_|(refine qaa ?_;clear hw;intro p w hw)|(refine qad ?_;clear hw;intro w hw)|(refine qab ?_;clear hw;intro s w hw))
    refine qai (v:=.bool (decide (manyL t.vars 512≤512))) rfl rfl ⟨⟨_,rfl,?_⟩,hw.tail⟩
    rw [decide_eq_true_eq,manyL]
    constructor
    ·intro h
     exact⟨hg,by omega,by omega,fun i hi=>hef i (by omega),by split at h <;> omega⟩
    ·intro h
     rw [if_pos h.many];exact h.many
theorem qdi {l:List Int}(h:∀ x∈l,1≤x) (k:Nat):prodL (l.take k)≤prodL l:=by
 have:=qeP (l:=l.take k) (m:=l.drop k) (fun x hx=>h x (List.mem_of_mem_drop hx)) (fun x hx=>h x (List.mem_of_mem_take hx))
 rwa [List.take_append_drop] at this
end Go.Proofs.YtdadmnlenbdfbaaGreat
