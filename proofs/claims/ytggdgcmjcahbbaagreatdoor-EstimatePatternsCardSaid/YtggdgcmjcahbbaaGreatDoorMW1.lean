/-
  Several texts as one: LiftT, WBits, LiftC, WTBase.
-/
import Derived.Test.YtggdgcmjcahbbaaGreatDoorRows
import Derived.Test.YtggdgcmjcahbbaaGreatDoorMTA
import Derived.Test.YtggdgcmjcahbbaaGreatDoorMSlB
import Derived.Test.YtggdgcmjcahbbaaGreatDoorTypes
import Derived.ProofKit
import Derived.ChangeOld
import Derived.Carry
import Derived.OpenShut
import Derived.Test.YtggdgcmjcahbbaaGreatDoorTie
import Derived.Test.YtggdgcmjcahbbaaGreatDoorCards
import Derived.LaidMore
import Derived.LaidHandle
import Derived.Lib.LaidTab
import Derived.Stop.Joined
import Derived.SevenTiedAt
set_option linter.unusedSimpArgs false
set_option linter.unusedVariables false
/-
  How the arguments of the statements are read: tasks, lists of numbers, small numbers.
-/
namespace Go.Proofs.YtggdgcmjcahbbaaGreatDoor
open Go.Sl Go.ChangeShapes Go.WideShapes Go.ChangeAt Go.RowKit
theorem own:ownKnob Tryz.prog.godebug=none:=by kernel_rfl
theorem laidOut:laidOutB Tryz.prog=true:=by kernel_rfl
theorem qbE:Tryz.prog.cellsOf 3=1:=by kernel_rfl
theorem qmk:Tryz.prog.cellsOf 9=1:=by kernel_rfl
theorem qcG:Tryz.prog.cellsOf 88=2:=by kernel_rfl
theorem qcU:Tryz.prog.cellsOf 23=1:=by kernel_rfl
theorem qhN:Tryz.prog.cellsOf 90=3:=by kernel_rfl
theorem qky:Tryz.prog.cellsOf 47=1:=by kernel_rfl
theorem qjN:Tryz.prog.cellsOf 49=4:=by kernel_rfl
theorem qml:Tryz.prog.cellsOf 24=1:=by kernel_rfl
theorem qfV:Tryz.prog.cellsOf 22=1:=by kernel_rfl
theorem qkz:Tryz.prog.cellsOf 26=4:=by kernel_rfl
theorem qp1 {n:Int}(h:(Lit.int .i64 n).wf=true) : -9223372036854775808≤n∧n≤9223372036854775807:=by
 simpa [Lit.wf,IntKind.min,IntKind.max,IntKind.signed,IntKind.bits] using h
section
variable {H:Type}{enc:TypeId × Value→H}{w:World}{base:Nat}{spare:Nat→Bool}{held:Bool}
theorem qiJ:Rd enc Tryz.prog w base spare held 88 tFact fun _=>True:=by
 intro fuel cs y h
 have hl:=qj2 (i:=0) inferInstance qcG h
 match cs,hl with
 | [c0,c1],_ =>
  obtain⟨_,_,h0⟩:=qaW (i:=0) inferInstance qbE h
  obtain⟨_,_,h1⟩:=qaW (i:=1) inferInstance qbE h
  obtain⟨x0,e0,_⟩:=qfc Tryz.underlying3 _ _ _ h0
  obtain⟨x1,e1,_⟩:=qfc Tryz.underlying3 _ _ _ h1
  simp [tInt] at e0 e1
  subst e0 e1
  exact⟨⟨x0,x1⟩,rfl,trivial⟩
theorem qp2:Rd enc Tryz.prog w base spare held 90 tEff fun x=>∃ e,REff w x e:=by
 intro fuel cs y h
 have hl:=qj2 (i:=0) inferInstance qhN h
 match cs,hl with
 | [c0,c1,c2],_ =>
  obtain⟨_,_,h0⟩:=qaW (i:=0) inferInstance qcU h
  obtain⟨_,_,h1⟩:=qaW (i:=1) inferInstance qbE h
  obtain⟨_,_,h2⟩:=qaW (i:=2) inferInstance qbE h
  obtain⟨a,e0,f,hf,_⟩:=qb4 Tryz.underlying23 qcG (by decide) qiJ _ _ _ h0
  obtain⟨x1,e1,_⟩:=qfc Tryz.underlying3 _ _ _ h1
  obtain⟨x2,e2,_⟩:=qfc Tryz.underlying3 _ _ _ h2
  simp [tInt,tVal] at e0 e1 e2
  subst e0 e1 e2
  exact⟨⟨c0,x1,x2⟩,rfl,⟨f,x1,x2⟩,rfl,rfl,hf⟩
theorem qcV {α β:Type}{Q:α→β→Prop}:∀ (xs:List α),(∀ x∈xs,∃ y,Q x y)→∃ ys:List β,xs.length=ys.length∧∀ (i:Nat) x y,xs[i]? = some x→ys[i]? = some y→Q x y
 | [],_=>⟨[],rfl,by simp⟩
 | x::xs,h=>by
  obtain⟨ys,hl,hq⟩:=qcV xs fun x hx=>h x (by simp [hx])
  obtain⟨y,hy⟩:=h x (by simp)
  refine⟨y::ys,by simp [hl],fun i a b ha hb => ?_⟩
  cases i with
  | zero=>simp at ha hb;subst ha hb;exact hy
  | succ i=>simp at ha hb;exact hq i a b ha hb
theorem qps {s:Value}{vs:List EffV}(hs:RS tEff w s vs) (h:∀ x∈vs,∃ e,REff w x e):∃ es,REffs w s vs es:=by
 obtain⟨es,hl,hq⟩:=qcV vs h
 refine⟨es,hs,hl,fun i hi => ?_⟩
 rw [qaX]
 exact hq i _ _ (by simp [List.getD,show i<vs.length by omega]) (by simp [List.getD,hi])
theorem rd_op:Rd enc Tryz.prog w base spare held 49 tOp fun x=>∃ o,ROp w x o:=by
 intro fuel cs y h
 have hl:=qj2 (i:=0) inferInstance qjN h
 match cs,hl with
 | [c0,c1,c2,c3],_ =>
  obtain⟨_,_,h0⟩:=qaW (i:=0) inferInstance qmk h
  obtain⟨_,_,h1⟩:=qaW (i:=1) inferInstance qbE h
  obtain⟨_,_,h2⟩:=qaW (i:=2) inferInstance qcU h
  obtain⟨_,_,h3⟩:=qaW (i:=3) inferInstance qky h
  obtain⟨x1,e1,_⟩:=qfc Tryz.underlying3 _ _ _ h1
  obtain⟨a2,e2,f,hf,_⟩:=qb4 Tryz.underlying23 qcG (by decide) qiJ _ _ _ h2
  obtain⟨a3,e3,xs,hx,hg⟩:=qb4 Tryz.underlying47 qhN (by decide) qp2 _ _ _ h3
  obtain⟨nm,e0,_,hnm⟩:=DataW.trod_string Tryz.underlying9 h0
  simp [tInt,tVal] at e0 e1 e2 e3
  subst e0 e1 e2 e3
  obtain⟨es,hes⟩:=qps hx hg
  exact⟨⟨nm,x1,c2,c3⟩,rfl,⟨nm,x1,f,es⟩,rfl,hnm,rfl,hf,xs,hes⟩
theorem qp3 {s:Value}{vs:List OpV}(hs:RS tOp w s vs) (h:∀ x∈vs,∃ o,ROp w x o):∃ os,ROps w s vs os:=by
 obtain⟨os,hl,hq⟩:=qcV vs h
 refine⟨os,hs,hl,fun i hi => ?_⟩
 rw [qaX]
 exact hq i _ _ (by simp [List.getD,show i<vs.length by omega]) (by simp [List.getD,hi])
set_option maxRecDepth 100000 in
theorem qpt {v:Value}{r:Reach}{b0:Nat}{d:DataW H}{p:List MemPlace}(hv:Value.okWide Tryz.prog w r b0 26 v) (h:DataW.Trod enc Tryz.prog w base spare held 26 v d p) :
  ∃ a b c d vs t,v=.agg #[a,b,c,d]∧RTask w a b c d vs t:=by
 obtain⟨cs,rfl,_⟩:=okWide_struct Tryz.underlying26 hv
 obtain⟨fuel,h⟩:=h
 obtain⟨l⟩:=cs
 have hl:=qj2 (i:=0) inferInstance qkz h
 simp only [Value.cells] at hl h
 match l,hl with
 | [c0,c1,c2,c3],_ =>
  obtain⟨_,_,h0⟩:=qaW (i:=0) inferInstance qfV h
  obtain⟨_,_,h1⟩:=qaW (i:=1) inferInstance qfV h
  obtain⟨_,_,h2⟩:=qaW (i:=2) inferInstance qcU h
  obtain⟨_,_,h3⟩:=qaW (i:=3) inferInstance qml h
  obtain⟨a0,e0,vars,hvars,_⟩:=qb4 Tryz.underlying22 qbE (by decide) (qfc Tryz.underlying3) _ _ _ h0
  obtain⟨a1,e1,ini,hini,_⟩:=qb4 Tryz.underlying22 qbE (by decide) (qfc Tryz.underlying3) _ _ _ h1
  obtain⟨a2,e2,f,hf,_⟩:=qb4 Tryz.underlying23 qcG (by decide) qiJ _ _ _ h2
  obtain⟨a3,e3,xs,hx,hg⟩:=qb4 Tryz.underlying24 qjN (by decide) rd_op _ _ _ h3
  simp [tVal] at e0 e1 e2 e3
  subst e0 e1 e2 e3
  obtain⟨os,hos⟩:=qp3 hx hg
  exact⟨c0,c1,c2,c3,xs,⟨vars,ini,f,os⟩,rfl,hvars,hini,hf,hos⟩
end
end Go.Proofs.YtggdgcmjcahbbaaGreatDoor
/-
  Contracts of math/bits: the least bit, and a number of bits.
-/
namespace Go.Proofs.YtggdgcmjcahbbaaGreatDoor
open Go.Sl Go
attribute [local irreducible] vc opsW opsD opV opW PureV ReadV Thn Blk
instance inWBits1:IntT Tryz.prog 156 .u64:=⟨by kernel_rfl⟩
instance inWBits2:IntT Tryz.prog 3 .i64:=⟨by kernel_rfl⟩
instance inWBits3:IntT Tryz.prog 5 .u8:=⟨by kernel_rfl⟩
instance inWBits4:ArrT Tryz.prog 202 64:=⟨5,by kernel_rfl,fun w=>by kernel_rfl⟩
def tzTab:List Int:=[0,1,56,2,57,49,28,3,61,58,42,50,38,29,17,4,62,47,59,36,45,43,51,22,53,39,33,30,24,18,12,5,63,55,48,27,60,41,37,16,46,35,44,21,52,32,23,11,54,26,40,15,34,20,31,10,25,14,19,9,13,8,7,6]
def TabB (w:World):Prop:=BoxR w ⟨0,0,none⟩ (tzTab.map (Value.int .u8))
theorem TabB.at {w0 w:World}{Γ:List HP}(h:TabB w0) (hw:Sat w0 w Γ):TabB w:=BoxR.at h hw
theorem qpY:∀ v:Nat,v<64→tzTab[2 ^ v*285870213051353865 % 18446744073709551616 / 2 ^ 58]? = some (v:Int):=by decide +kernel
theorem TabB.cell {w:World}(h:TabB w) {v:Nat}(hv:v<64):w.cell? ((⟨0,0,none⟩:Addr).add ((2 ^ v*285870213051353865 % 18446744073709551616 / 2 ^ 58:Nat):Int).toNat)=some (.int .u8 (v:Int)):=by
 refine h _ _ ?_
 rw [Int.toNat_natCast,List.getElem?_map,qpY v hv];rfl
set_option maxRecDepth 8000 in
theorem tz_spec {w0 w:World}{Γ:List HP}{x v:Nat}(hw:Sat w0 w Γ) (hT:TabB w0) (hx:x<18446744073709551616) (hl:Low x v) :
  Calls Tryz.prog 99 #[u64 x] w fun e w'=>e=.returned (.int .i64 (v:Int))∧w'=w:=by
 have hT':=hT.at hw
 have hv:v<64:=qpN hl hx
 have h0:0<x:=Nat.pos_of_ne_zero fun e=>by have:=hl.1;subst e;simp [ib] at this
 have hc:=hT'.cell hv
 have hd0:decide ((x:Int)=0)=false:=decide_eq_false (by omega)
 have hng:x &&& (18446744073709551616-x)=2 ^ v:=qo6 hl hx
 have hidx:2 ^ v*285870213051353865 % 18446744073709551616 / 2 ^ 58<64:=by
  have:2 ^ v*285870213051353865 % 18446744073709551616<18446744073709551616:=Nat.mod_lt _ (by decide)
  exact Nat.div_lt_of_lt_mul (by omega)
 refine qab (args:=[u64 x]) mixed Tryz.func99 rfl (by kernel_rfl) (Nat.le_of_ble_eq_true rfl) ?_
 repeat refine qaC ?_
 simp only [hd0]
 repeat refine qaa ?_
 refine qai rfl (qnG (a:=x) rfl h0 hx) ?_
 refine qai rfl (qbt (a:=x) (b:=18446744073709551616-x) rfl rfl hx (by omega)) ?_
 rw [hng]
 refine qai rfl (qnF (a:=2 ^ v) (b:=285870213051353865) rfl rfl) ?_
 refine qai rfl (qgC (a:=2 ^ v*285870213051353865 % 18446744073709551616) (b:=58) (k:=.u64) rfl rfl (by decide)) ?_
 refine qai rfl (qiz (n:=64) (j:=((2 ^ v*285870213051353865 % 18446744073709551616 / 2 ^ 58:Nat):Int)) rfl rfl (Int.natCast_nonneg _) (by omega)) ?_
 refine qaN rfl (qbK rfl hc) ?_
 refine qai rfl (qpD (ks:=.u8) (n:=(v:Int)) rfl (by omega) (by omega)) ?_
 repeat refine qaa ?_
 exact qae (v:=.int .i64 (v:Int)) rfl rfl ⟨rfl,rfl⟩
set_option maxRecDepth 8000 in
theorem qmU {w:World}{x:Nat}(hx:x<18446744073709551616) :
  Calls Tryz.prog 100 #[u64 x] w fun e w'=>(∃ k:Int,e=.returned (.int .i64 k)∧0≤k∧k≤127)∧w'=w:=by
 have hw:=Sat.start w
 refine qab (args:=[u64 x]) mixed Tryz.func100 rfl (by kernel_rfl) (Nat.le_of_ble_eq_true rfl) ?_
 repeat (first|refine qaa ?_|(refine qpi rfl rfl (by assumption) (by decide) ?_;intro v hv)|(refine qpj rfl rfl (by assumption) (by first|assumption|decide) ?_;intro v hv)|(refine qpk rfl rfl ?_;intro v hv)|(refine qnH rfl rfl ?_;intro z)|(refine qnI rfl rfl ?_;intro z hz0 hz1))
 exact qae (v:=.int .i64 z) rfl rfl ⟨⟨z,rfl,hz0,hz1⟩,rfl⟩
end Go.Proofs.YtggdgcmjcahbbaaGreatDoor
/-
  What a row that lists the table of math/bits asks and gives.
-/
namespace Go.Proofs.YtggdgcmjcahbbaaGreatDoor
open Go.Sl Go
def laidL:List (String × DataW Unit):=[("math/bits.deBruijn64tab", Rows.laid_math_bits_deBruijn64tab)]
theorem qnV (os:Os) (args:Array Value):laidMetH Tryz.prog laidL ((World.doorLaid Tryz.prog 14 os).forCall (fun _ _=>0) ⟨#[],args,[]⟩).memory :=
 laidMetH_of_parts3 (fuel:=8) (laidMet_of_run' 8 (by kernel_rfl) (by kernel_rfl)) (by kernel_rfl) (by kernel_rfl)
theorem qpr {W:World}(h:laidMetH Tryz.prog laidL W):TabB W:=by
 rw [MakeChecks.laidMetH_plain _ _ _ (by kernel_rfl)] at h
 have ht:Lib.TabIs Tryz.prog W "math/bits.deBruijn64tab" .u8 tzTab := Lib.tabIs_of_head (rest := []) (g := 0) (t := 202) (e := 5) (n := 64) (by kernel_rfl) (by kernel_rfl) (by kernel_rfl) (by kernel_rfl) (by kernel_rfl) (by kernel_rfl) h
 intro j v hv
 rw [List.getElem?_map,Option.map_eq_some_iff] at hv
 obtain⟨z,hz,rfl⟩:=hv
 have hj:j<tzTab.length:=by
  rcases Nat.lt_or_ge j tzTab.length with h|h
  ·exact h
  ·rw [List.getElem?_eq_none h] at hz;cases hz
 have hc:=ht.cell (g:=0) (by kernel_rfl) j hj
 have e:(⟨0,0,none⟩:Addr).add j=⟨0,j,none⟩:=by
  unfold Addr.add;split
  ·rename_i h0;subst h0;rfl
  ·simp
 rw [e,hc]
 simp [List.getD,hz]
end Go.Proofs.YtggdgcmjcahbbaaGreatDoor
/-
  Contracts of the helpers 'Num', 'Ints', 'State', 'Proper', 'operator', 'Good', 'Many', 'Small', 'Holds'.
-/
namespace Go.Proofs.YtggdgcmjcahbbaaGreatDoor
open Go.Sl
attribute [local irreducible] vc opsW opsD opV opW PureV ReadV Thn Blk
def errV (c:Int):Value:=if c=0 then .nilIface else .iface 74 (.int .i64 c)
theorem qat {c:Int}(h:c=0):errV c=.nilIface:=by simp [errV,h]
theorem qan {c:Int}(h:c≠0):errV c=.iface 74 (.int .i64 c):=by simp [errV,h]
set_option maxRecDepth 8000 in
theorem qbI {w0:World}(c:Int) :
  Calls Tryz.prog 11 #[errV c] w0 fun e w'=>e=.returned (.int .i64 c)∧Sat w0 w' []:=by
 have hw:=Sat.start w0
 by_cases hc:c=0
 ·subst hc
  refine qab (args:=[.nilIface]) mixed Tryz.func11 rfl (by kernel_rfl) (Nat.le_of_ble_eq_true rfl) ?_
  repeat refine qaa ?_
  exact qae (v:=.int .i64 0) rfl rfl ⟨rfl,hw⟩
 ·rw [qan hc]
  refine qab (args:=[.iface 74 (.int .i64 c)]) mixed Tryz.func11 rfl (by kernel_rfl) (Nat.le_of_ble_eq_true rfl) ?_
  repeat refine qaa ?_
  exact qae (v:=.int .i64 c) rfl rfl ⟨rfl,hw⟩
set_option maxRecDepth 8000 in
theorem qkZ {w0:World}{a b:Value}{vars s:List Int}(ha:RS tInt w0 a vars) (hb:RS tInt w0 b s) :
  Calls Tryz.prog 38 #[a,b] w0 fun e w'=>(∃ r,e=.returned (.bool r)∧(r=true↔StateOk vars s))∧Sat w0 w' []:=by
 have hla:=ha.big
 have hlb:=hb.big
 have hw:=Sat.start w0
 refine qab (args:=[a,b]) mixed Tryz.func38 rfl (by kernel_rfl) (Nat.le_of_ble_eq_true rfl) ?_
 repeat refine qaa ?_
 refine go_if (fun h0 => ?_) (fun h0 => ?_)
 ·repeat refine qaa ?_
  refine qae (v:=.bool false) rfl rfl ⟨⟨false,rfl,iffF fun h => ?_⟩,hw⟩
  exact absurd (by have:=h.1;omega) h0
 ·repeat refine qaa ?_
  refine qaj [4,5,13,14,15,16,17,18,19,20,21,22,23,24,25,26,27,28,29,30,31,32] (G:=Nat) (fun k=>[(13,.int .i64 k)]) (fun k w=>k≤s.length∧(∀ i,i<k→0≤s.getD i tInt.dflt∧s.getD i tInt.dflt<vars.getD i tInt.dflt)∧Sat w0 w []) (fun k=>s.length-k) 0 (fun _=>rfl) ⟨rfl,trivial⟩ ⟨Nat.zero_le _,fun i hi=>absurd hi (Nat.not_lt_zero _),hw⟩ ?_
  clear hw
  rintro σ k w ⟨hk,hpre,hw⟩
  repeat refine qaa ?_
  refine go_if (fun h1 => ?_) (fun h1 => ?_)
  ·repeat (first|refine qaa ?_|(refine qag ?_;clear hw;intro w hw))
   refine go_if (fun h2 => ?_) (fun h2 => ?_)
   ·repeat refine qaa ?_
    refine qae (v:=.bool false) rfl rfl ⟨⟨false,rfl,iffF fun h => ?_⟩,hw⟩
    have:=h.2 k (by omega)
    omega
   ·repeat refine qaa ?_
    refine⟨k+1,⟨rfl,trivial⟩,agr,⟨by omega,fun i hi => ?_,hw⟩,by omega⟩
    by_cases h:i=k
    ·subst h;omega
    ·exact hpre i (by omega)
  ·repeat refine qaa ?_
   exact qae (v:=.bool true) rfl rfl ⟨⟨true,rfl,iffT ⟨by omega,fun i hi=>hpre i (by omega)⟩⟩,hw⟩
set_option maxRecDepth 8000 in
set_option maxHeartbeats 1000000 in
theorem qb5 {w0:World}{a b:Value}{vars:List Int}{f:List Fact}(ha:RS tInt w0 a vars) (hb:RS tFact w0 b f) :
  Calls Tryz.prog 39 #[a,b] w0 fun e w'=>(∃ r,e=.returned (.bool r)∧(r=true↔FactsOk vars f))∧Sat w0 w' []:=by
 have hla:=ha.big
 have hlb:=hb.big
 have hw:=Sat.start w0
 refine qab (args:=[a,b]) mixed Tryz.func39 rfl (by kernel_rfl) (Nat.le_of_ble_eq_true rfl) ?_
 repeat refine qaa ?_
 refine qaj [4,5,6,9,10,11,12,13,14,15,16,17,18,19,20,21,22,23,24,25,26,27,28,29,30,31,32,33,34,35,36,37,38,39,40,41,42,43,44,45,46,47,48,49,50,51,52,53,54] (G:=Nat) (fun k=>[(9,.int .i64 k)]) (fun k w=>k≤f.length∧(∀ i,i<k→FactOk vars (f.getD i tFact.dflt)∧(0<i→(f.getD (i-1) tFact.dflt).var<(f.getD i tFact.dflt).var))∧Sat w0 w []) (fun k=>f.length-k) 0 (fun _=>rfl) ⟨rfl,trivial⟩ ⟨Nat.zero_le _,fun i hi=>absurd hi (Nat.not_lt_zero _),hw⟩ ?_
 clear hw
 rintro σ k w ⟨hk,hpre,hw⟩
 repeat refine qaa ?_
 refine go_if (fun h1 => ?_) (fun h1 => ?_)
 ·repeat (first|refine qaa ?_|(refine qaf ?_;clear hw;intro p w hw)|(refine qag ?_;clear hw;intro w hw))
  refine go_if (fun h2 => ?_) (fun h2 => ?_)
  ·repeat refine qaa ?_
   refine qae (v:=.bool false) rfl rfl ⟨⟨false,rfl,iffF fun h => ?_⟩,hw.tail⟩
   have:=h k (by omega)
   unfold FactOk at this
   have hk1:((k:Int)-1).toNat=k-1:=by omega
   rw [hk1] at h2
   omega
  ·repeat refine qaa ?_
   refine⟨k+1,⟨rfl,trivial⟩,agr,⟨by omega,fun i hi => ?_,hw.tail⟩,by omega⟩
   by_cases h:i=k
   ·subst h
    have hk1:((i:Int)-1).toNat=i-1:=by omega
    rw [hk1] at h2
    unfold FactOk
    omega
   ·exact hpre i (by omega)
 ·repeat refine qaa ?_
  exact qae (v:=.bool true) rfl rfl ⟨⟨true,rfl,iffT fun i hi=>hpre i (by omega)⟩,hw⟩
set_option maxRecDepth 8000 in
set_option maxHeartbeats 2000000 in
theorem qg4 {w0:World}{a:Value}{vars:List Int}{v:OpV}{o:TOp}(ha:RS tInt w0 a vars) (hv:ROp w0 v o) :
  Calls Tryz.prog 40 #[a,.agg (tOp.enc v).toArray] w0 fun e w'=>(∃ r,e=.returned (.bool r)∧(r=true↔OpOk vars o))∧Sat w0 w' []:=by
 have hla:=ha.big
 have hw:=Sat.start w0
 obtain⟨hname,hsize,hcost,hpre,es,hes⟩:=hv
 have hrs:=hes.rs
 have hpl:=hpre.big
 have hel:=hrs.big
 have hesl:=hes.len
 refine qab (args:=[a,.agg (tOp.enc v).toArray]) mixed Tryz.func40 rfl (by kernel_rfl) (Nat.le_of_ble_eq_true rfl) ?_
 repeat (first|refine qaa ?_|(refine qaf ?_;clear hw;intro p w hw))
 refine qpF (fun h1 => ?_) (fun h1 => ?_)
 ·simp only [h1,gvff,gvtt];(try simp only [beq_iff_eq,Bool.and_eq_true,Bool.or_eq_true,decide_eq_true_eq,decide_eq_false_iff_not,Bool.not_eq_true,Bool.not_eq_false,Bool.not_eq_eq_eq_not,Bool.not_true,Bool.not_false,Bool.and_eq_false_iff,Bool.or_eq_false_iff,bne_iff_ne,ne_eq,Int.not_lt,Int.not_le,Nat.not_lt,Nat.not_le] at h1)
  repeat refine qaa ?_
  refine qae (v:=.bool false) rfl rfl ⟨⟨false,rfl,iffF fun h => ?_⟩,hw.tail⟩
  have:=h.cost0
  have:=h.cost1
  have:=h.effs
  have:=h.name.1
  rw [←hname] at this
  omega
 ·simp only [h1,gvff,gvtt];(try simp only [beq_iff_eq,Bool.and_eq_true,Bool.or_eq_true,decide_eq_true_eq,decide_eq_false_iff_not,Bool.not_eq_true,Bool.not_eq_false,Bool.not_eq_eq_eq_not,Bool.not_true,Bool.not_false,Bool.and_eq_false_iff,Bool.or_eq_false_iff,bne_iff_ne,ne_eq,Int.not_lt,Int.not_le,Nat.not_lt,Nat.not_le] at h1)
  repeat refine qaa ?_
  refine qad rfl (qb5 (a:=a) (b:=v.pre) (ha.at hw) (hpre.at hw)) ?_
  rintro _ w' ⟨⟨r,rfl,hr⟩,hk⟩
  replace hw:=hw.call0 hk
  clear hk
  refine⟨_,rfl,?_⟩
  repeat refine qaa ?_
  cases r with
  | false =>
   repeat refine qaa ?_
   refine qae (v:=.bool false) rfl rfl ⟨⟨false,rfl,iffF fun h => ?_⟩,hw.tail⟩
   have:=hr.2 h.pre
   cases this
  | true =>
   have hpok:=hr.1 rfl
   repeat refine qaa ?_
   refine qaj [4,5,38,39,40,41,42,43,44,45,46,47,48,49,50,51,52,53] (G:=Nat) (fun k=>[(38,.int .i64 k)]) (fun k w=>k≤v.name.size∧(∀ i,i<k→32≤bat v.name i∧bat v.name i≤126)∧Sat w0 w [Box p 49 (tOp.enc v)]) (fun k=>v.name.size-k) 0 (fun _=>rfl) ⟨rfl,trivial⟩ ⟨Nat.zero_le _,fun i hi=>absurd hi (Nat.not_lt_zero _),hw⟩ ?_
   clear hw
   rintro σ k w ⟨hk,hnm,hw⟩
   repeat refine qaa ?_
   refine go_if (fun h2 => ?_) (fun h2 => ?_)
   ·repeat refine qaa ?_
    refine go_if (fun h3 => ?_) (fun h3 => ?_)
    ·repeat refine qaa ?_
     refine qae (v:=.bool false) rfl rfl ⟨⟨false,rfl,iffF fun h => ?_⟩,hw.tail⟩
     have:=h.name.2 k (by rw [←hname];omega)
     rw [←hname] at this
     omega
    ·repeat refine qaa ?_
     refine⟨k+1,⟨rfl,trivial⟩,agr,⟨by omega,fun i hi => ?_,hw⟩,by omega⟩
     by_cases h:i=k
     ·subst h;omega
     ·exact hnm i (by omega)
   ·have hnok:NameOk o.name:=by rw [←hname];exact⟨by omega,fun i hi=>hnm i (by omega)⟩
    repeat refine qaa ?_
    refine qaj [4,7,57,58,59,60,61,62,63,64,65,66,67,68,69,70,71,72,73,74,75,76,77] (G:=Nat) (fun k=>[(57,.int .i64 k)]) (fun k w=>k≤o.effs.length∧(∀ i,i<k→EffOk vars (o.effs.getD i dEff))∧Sat w0 w [Box p 49 (tOp.enc v)]) (fun k=>o.effs.length-k) 0 (fun _=>rfl) ⟨rfl,trivial⟩ ⟨Nat.zero_le _,fun i hi=>absurd hi (Nat.not_lt_zero _),hw⟩ ?_
    clear hw
    rintro σ1 k w ⟨hk2,hef,hw⟩
    repeat refine qaa ?_
    refine go_if (fun h4 => ?_) (fun h4 => ?_)
    ·have hek:=hes.at_ k (by omega)
     have hwh:=hek.when
     have hone:=hek.one
     repeat (first|refine qaa ?_|(refine qaf ?_;clear hw;intro p w hw)|(refine qag ?_;clear hw;intro w hw))
     refine qad rfl (qb5 (a:=a) (b:=(eget tEff es k).when) (ha.at hw) (hwh.at hw)) ?_
     rintro _ w' ⟨⟨r,rfl,hr⟩,hk'⟩
     replace hw:=hw.call0 hk'
     clear hk'
     refine⟨_,rfl,?_⟩
     cases r with
     | false =>
      repeat refine qaa ?_
      refine qae (v:=.bool false) rfl rfl ⟨⟨false,rfl,iffF fun h => ?_⟩,hw.tail.tail⟩
      have:=hr.2 (h.eff k (by omega)).1
      cases this
     | true =>
      have hwok:=hr.1 rfl
      repeat refine qaa ?_
      refine qam tFact (x1:=⟨(eget tEff es k).var,(eget tEff es k).val⟩) rfl rfl rfl (Nat.le_of_ble_eq_true rfl) (Nat.zero_lt_succ _) hw ?_
      clear hw
      intro s w hw
      repeat refine qaa ?_
      refine qad rfl (qb5 (a:=a) (b:=s) (ha.at hw) (rsO hw)) ?_
      rintro _ w' ⟨⟨r,rfl,hr2⟩,hk'⟩
      replace hw:=hw.call0 hk'
      clear hk'
      rw [hek.var,hek.val] at hr2
      refine⟨_,rfl,?_⟩
      cases r with
      | false =>
       repeat refine qaa ?_
       refine qae (v:=.bool false) rfl rfl ⟨⟨false,rfl,iffF fun h => ?_⟩,hw.tail.tail.tail⟩
       have:=hr2.2 (h.eff k (by omega)).2
       cases this
      | true =>
       have hvok:=hr2.1 rfl
       repeat refine qaa ?_
       refine⟨k+1,⟨rfl,trivial⟩,agr,⟨by omega,fun i hi => ?_,hw.tail.tail⟩,by omega⟩
       by_cases h:i=k
       ·subst h;exact⟨hwok,hvok⟩
       ·exact hef i (by omega)
    ·repeat refine qaa ?_
     refine qae (v:=.bool true) rfl rfl ⟨⟨true,rfl,iffT ⟨by omega,by omega,by omega,hnok,hpok,fun i hi=>hef i (by omega)⟩⟩,hw.tail⟩
set_option maxRecDepth 8000 in
set_option maxHeartbeats 2000000 in
theorem qmY {w0:World}{a b c d:Value}{vs:List OpV}{t:TTask}(ht:RTask w0 a b c d vs t) :
  Calls Tryz.prog 16 #[.agg #[a,b,c,d]] w0 fun e w'=>(∃ r,e=.returned (.bool r)∧(r=true↔GoodT t))∧Sat w0 w' []:=by
 obtain⟨ha,hb,hc,hd⟩:=ht
 have hrs:=hd.rs
 have hdl:=hd.len
 have hla:=ha.big
 have hll:=hrs.big
 have hw:=Sat.start w0
 refine qab (args:=[.agg #[a,b,c,d]]) mixed Tryz.func16 rfl (by kernel_rfl) (Nat.le_of_ble_eq_true rfl) ?_
 repeat (first|refine qaa ?_|(refine qaf ?_;clear hw;intro p w hw))
 refine go_if (fun h1 => ?_) (fun h1 => ?_)
 ·repeat refine qaa ?_
  refine qae (v:=.bool false) rfl rfl ⟨⟨false,rfl,iffF fun h => ?_⟩,hw.tail⟩
  have:=h.vars
  have:=h.ops
  omega
 ·repeat refine qaa ?_
  refine qaj [2,4,20,21,22,23,24,25,26,27,28,29,30] (G:=Nat) (fun k=>[(20,.int .i64 k)]) (fun k w=>k≤t.vars.length∧(∀ i,i<k→1≤t.vars.getD i tInt.dflt∧t.vars.getD i tInt.dflt≤64)∧Sat w0 w [Box p 26 [a,b,c,d]]) (fun k=>t.vars.length-k) 0 (fun _=>rfl) ⟨rfl,trivial⟩ ⟨Nat.zero_le _,fun i hi=>absurd hi (Nat.not_lt_zero _),hw⟩ ?_
  clear hw
  rintro σ k w ⟨hk,hdm,hw⟩
  repeat refine qaa ?_
  refine go_if (fun h2 => ?_) (fun h2 => ?_)
  ·repeat refine qaa ?_
   refine go_if (fun h3 => ?_) (fun h3 => ?_)
   ·repeat refine qaa ?_
    refine qae (v:=.bool false) rfl rfl ⟨⟨false,rfl,iffF fun h => ?_⟩,hw.tail⟩
    have:=h.dom k (by omega)
    omega
   ·repeat refine qaa ?_
    refine⟨k+1,⟨rfl,trivial⟩,agr,⟨by omega,fun i hi => ?_,hw⟩,by omega⟩
    by_cases h:i=k
    ·subst h;omega
    ·exact hdm i (by omega)
  ·repeat refine qaa ?_
   refine qad rfl (qkZ (a:=a) (b:=b) (ha.at hw) (hb.at hw)) ?_
   rintro _ w' ⟨⟨r,rfl,hr⟩,hk'⟩
   replace hw:=hw.call0 hk'
   clear hk'
   refine⟨_,rfl,?_⟩
   cases r with
   | false =>
    repeat refine qaa ?_
    refine qae (v:=.bool false) rfl rfl ⟨⟨false,rfl,iffF fun h => ?_⟩,hw.tail⟩
    have:=hr.2 h.init
    cases this
   | true =>
    have hsok:=hr.1 rfl
    repeat refine qaa ?_
    refine qad rfl (qb5 (a:=a) (b:=c) (ha.at hw) (hc.at hw)) ?_
    rintro _ w' ⟨⟨r,rfl,hr2⟩,hk'⟩
    replace hw:=hw.call0 hk'
    clear hk'
    refine⟨_,rfl,?_⟩
    cases r with
    | false =>
     repeat refine qaa ?_
     refine qae (v:=.bool false) rfl rfl ⟨⟨false,rfl,iffF fun h => ?_⟩,hw.tail⟩
     have:=hr2.2 h.goal
     cases this
    | true =>
     have hgok:=hr2.1 rfl
     repeat refine qaa ?_
     refine qaj [2,6,48,49,50,51,52,53,54,55,56,57] (G:=Nat) (fun k=>[(48,.int .i64 k)]) (fun k w=>k≤t.ops.length∧(∀ i,i<k→OpOk t.vars (t.ops.getD i dOp))∧Sat w0 w [Box p 26 [a,b,c,d]]) (fun k=>t.ops.length-k) 0 (fun _=>rfl) ⟨rfl,trivial⟩ ⟨Nat.zero_le _,fun i hi=>absurd hi (Nat.not_lt_zero _),hw⟩ ?_
     clear hw
     rintro σ1 k w ⟨hk2,hop,hw⟩
     repeat refine qaa ?_
     refine go_if (fun h4 => ?_) (fun h4 => ?_)
     ·have hok:=hd.at_ k (by omega)
      have hone:=hok.one
      repeat (first|refine qaa ?_|(refine qaf ?_;clear hw;intro p w hw)|(refine qag ?_;clear hw;intro w hw))
      refine qad rfl (qg4 (a:=a) (v:=eget tOp vs k) (ha.at hw) (hok.at hw)) ?_
      rintro _ w' ⟨⟨r,rfl,hr3⟩,hk'⟩
      replace hw:=hw.call0 hk'
      clear hk'
      refine⟨_,rfl,?_⟩
      cases r with
      | false =>
       repeat refine qaa ?_
       refine qae (v:=.bool false) rfl rfl ⟨⟨false,rfl,iffF fun h => ?_⟩,hw.tail.tail⟩
       have:=hr3.2 (h.op k (by omega))
       cases this
      | true =>
       repeat refine qaa ?_
       refine⟨k+1,⟨rfl,trivial⟩,agr,⟨by omega,fun i hi => ?_,hw.tail⟩,by omega⟩
       by_cases h:i=k
       ·subst h;exact hr3.1 rfl
       ·exact hop i (by omega)
     ·repeat refine qaa ?_
      refine qae (v:=.bool true) rfl rfl ⟨⟨true,rfl,iffT ⟨by omega,by omega,fun i hi=>hdm i (by omega),hsok,hgok,fun i hi=>hop i (by omega)⟩⟩,hw.tail⟩
end Go.Proofs.YtggdgcmjcahbbaaGreatDoor
