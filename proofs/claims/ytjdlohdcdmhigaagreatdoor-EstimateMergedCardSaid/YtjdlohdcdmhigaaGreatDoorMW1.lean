/-
  Several texts as one: LiftT, WIto, LiftM, WTBase.
-/
import Derived.Test.YtjdlohdcdmhigaaGreatDoorRows
import Derived.Test.YtjdlohdcdmhigaaGreatDoorMTA
import Derived.Test.YtjdlohdcdmhigaaGreatDoorMSlB
import Derived.Test.YtjdlohdcdmhigaaGreatDoorTypes
import Derived.ProofKit
import Derived.ChangeOld
import Derived.Carry
import Derived.OpenShut
import Derived.Shelf.Strconv.Itoa3
import Derived.Lib.AppendIntMem
import Derived.Test.YtjdlohdcdmhigaaGreatDoorTie
import Derived.Test.YtjdlohdcdmhigaaGreatDoorCards
import Derived.LaidMore
import Derived.LaidHandle
import Derived.Lib.LaidTab
import Derived.Stop.Joined
import Derived.SevenTiedAt
set_option linter.unusedSimpArgs false
set_option linter.unusedVariables false
/-
  How the arguments of the statements are read: tasks, lists of numbers, small numbers.
-/
namespace Go.Proofs.YtjdlohdcdmhigaaGreatDoor
open Go.Sl Go.ChangeShapes Go.WideShapes Go.ChangeAt Go.RowKit
theorem own:ownKnob Tryz.prog.godebug=none:=by kernel_rfl
theorem laidOut:laidOutB Tryz.prog=true:=by kernel_rfl
theorem qbn:Tryz.prog.cellsOf 3=1:=by kernel_rfl
theorem qlq:Tryz.prog.cellsOf 9=1:=by kernel_rfl
theorem qcv:Tryz.prog.cellsOf 69=2:=by kernel_rfl
theorem qcN:Tryz.prog.cellsOf 23=1:=by kernel_rfl
theorem qg9:Tryz.prog.cellsOf 67=3:=by kernel_rfl
theorem qjP:Tryz.prog.cellsOf 42=1:=by kernel_rfl
theorem qi7:Tryz.prog.cellsOf 44=4:=by kernel_rfl
theorem qlr:Tryz.prog.cellsOf 24=1:=by kernel_rfl
theorem qfs:Tryz.prog.cellsOf 22=1:=by kernel_rfl
theorem qjQ:Tryz.prog.cellsOf 26=4:=by kernel_rfl
theorem qoz {n:Int}(h:(Lit.int .i64 n).wf=true) : -9223372036854775808≤n∧n≤9223372036854775807:=by
 simpa [Lit.wf,IntKind.min,IntKind.max,IntKind.signed,IntKind.bits] using h
section
variable {H:Type}{enc:TypeId × Value→H}{w:World}{base:Nat}{spare:Nat→Bool}{held:Bool}
theorem qhT:Rd enc Tryz.prog w base spare held 69 tFact fun _=>True:=by
 intro fuel cs y h
 have hl:=qiR (i:=0) inferInstance qcv h
 match cs,hl with
 | [c0,c1],_ =>
  obtain⟨_,_,h0⟩:=qaM (i:=0) inferInstance qbn h
  obtain⟨_,_,h1⟩:=qaM (i:=1) inferInstance qbn h
  obtain⟨x0,e0,_⟩:=qeD Tryz.underlying3 _ _ _ h0
  obtain⟨x1,e1,_⟩:=qeD Tryz.underlying3 _ _ _ h1
  simp [tInt] at e0 e1
  subst e0 e1
  exact⟨⟨x0,x1⟩,rfl,trivial⟩
theorem qoA:Rd enc Tryz.prog w base spare held 67 tEff fun x=>∃ e,REff w x e:=by
 intro fuel cs y h
 have hl:=qiR (i:=0) inferInstance qg9 h
 match cs,hl with
 | [c0,c1,c2],_ =>
  obtain⟨_,_,h0⟩:=qaM (i:=0) inferInstance qcN h
  obtain⟨_,_,h1⟩:=qaM (i:=1) inferInstance qbn h
  obtain⟨_,_,h2⟩:=qaM (i:=2) inferInstance qbn h
  obtain⟨a,e0,f,hf,_⟩:=qbO Tryz.underlying23 qcv (by decide) qhT _ _ _ h0
  obtain⟨x1,e1,_⟩:=qeD Tryz.underlying3 _ _ _ h1
  obtain⟨x2,e2,_⟩:=qeD Tryz.underlying3 _ _ _ h2
  simp [tInt,tVal] at e0 e1 e2
  subst e0 e1 e2
  exact⟨⟨c0,x1,x2⟩,rfl,⟨f,x1,x2⟩,rfl,rfl,hf⟩
theorem qcO {α β:Type}{Q:α→β→Prop}:∀ (xs:List α),(∀ x∈xs,∃ y,Q x y)→∃ ys:List β,xs.length=ys.length∧∀ (i:Nat) x y,xs[i]? = some x→ys[i]? = some y→Q x y
 | [],_=>⟨[],rfl,by simp⟩
 | x::xs,h=>by
  obtain⟨ys,hl,hq⟩:=qcO xs fun x hx=>h x (by simp [hx])
  obtain⟨y,hy⟩:=h x (by simp)
  refine⟨y::ys,by simp [hl],fun i a b ha hb => ?_⟩
  cases i with
  | zero=>simp at ha hb;subst ha hb;exact hy
  | succ i=>simp at ha hb;exact hq i a b ha hb
theorem qoe {s:Value}{vs:List EffV}(hs:RS tEff w s vs) (h:∀ x∈vs,∃ e,REff w x e):∃ es,REffs w s vs es:=by
 obtain⟨es,hl,hq⟩:=qcO vs h
 refine⟨es,hs,hl,fun i hi => ?_⟩
 rw [qaN]
 exact hq i _ _ (by simp [List.getD,show i<vs.length by omega]) (by simp [List.getD,hi])
theorem rd_op:Rd enc Tryz.prog w base spare held 44 tOp fun x=>∃ o,ROp w x o:=by
 intro fuel cs y h
 have hl:=qiR (i:=0) inferInstance qi7 h
 match cs,hl with
 | [c0,c1,c2,c3],_ =>
  obtain⟨_,_,h0⟩:=qaM (i:=0) inferInstance qlq h
  obtain⟨_,_,h1⟩:=qaM (i:=1) inferInstance qbn h
  obtain⟨_,_,h2⟩:=qaM (i:=2) inferInstance qcN h
  obtain⟨_,_,h3⟩:=qaM (i:=3) inferInstance qjP h
  obtain⟨x1,e1,_⟩:=qeD Tryz.underlying3 _ _ _ h1
  obtain⟨a2,e2,f,hf,_⟩:=qbO Tryz.underlying23 qcv (by decide) qhT _ _ _ h2
  obtain⟨a3,e3,xs,hx,hg⟩:=qbO Tryz.underlying42 qg9 (by decide) qoA _ _ _ h3
  obtain⟨nm,e0,_,hnm⟩:=DataW.trod_string Tryz.underlying9 h0
  simp [tInt,tVal] at e0 e1 e2 e3
  subst e0 e1 e2 e3
  obtain⟨es,hes⟩:=qoe hx hg
  exact⟨⟨nm,x1,c2,c3⟩,rfl,⟨nm,x1,f,es⟩,rfl,hnm,rfl,hf,xs,hes⟩
theorem qoB {s:Value}{vs:List OpV}(hs:RS tOp w s vs) (h:∀ x∈vs,∃ o,ROp w x o):∃ os,ROps w s vs os:=by
 obtain⟨os,hl,hq⟩:=qcO vs h
 refine⟨os,hs,hl,fun i hi => ?_⟩
 rw [qaN]
 exact hq i _ _ (by simp [List.getD,show i<vs.length by omega]) (by simp [List.getD,hi])
set_option maxRecDepth 100000 in
theorem qof {v:Value}{r:Reach}{b0:Nat}{d:DataW H}{p:List MemPlace}(hv:Value.okWide Tryz.prog w r b0 26 v) (h:DataW.Trod enc Tryz.prog w base spare held 26 v d p) :
  ∃ a b c d vs t,v=.agg #[a,b,c,d]∧RTask w a b c d vs t:=by
 obtain⟨cs,rfl,_⟩:=okWide_struct Tryz.underlying26 hv
 obtain⟨fuel,h⟩:=h
 obtain⟨l⟩:=cs
 have hl:=qiR (i:=0) inferInstance qjQ h
 simp only [Value.cells] at hl h
 match l,hl with
 | [c0,c1,c2,c3],_ =>
  obtain⟨_,_,h0⟩:=qaM (i:=0) inferInstance qfs h
  obtain⟨_,_,h1⟩:=qaM (i:=1) inferInstance qfs h
  obtain⟨_,_,h2⟩:=qaM (i:=2) inferInstance qcN h
  obtain⟨_,_,h3⟩:=qaM (i:=3) inferInstance qlr h
  obtain⟨a0,e0,vars,hvars,_⟩:=qbO Tryz.underlying22 qbn (by decide) (qeD Tryz.underlying3) _ _ _ h0
  obtain⟨a1,e1,ini,hini,_⟩:=qbO Tryz.underlying22 qbn (by decide) (qeD Tryz.underlying3) _ _ _ h1
  obtain⟨a2,e2,f,hf,_⟩:=qbO Tryz.underlying23 qcv (by decide) qhT _ _ _ h2
  obtain⟨a3,e3,xs,hx,hg⟩:=qbO Tryz.underlying24 qi7 (by decide) rd_op _ _ _ h3
  simp [tVal] at e0 e1 e2 e3
  subst e0 e1 e2 e3
  obtain⟨os,hos⟩:=qoB hx hg
  exact⟨c0,c1,c2,c3,xs,⟨vars,ini,f,os⟩,rfl,hvars,hini,hf,hos⟩
end
end Go.Proofs.YtjdlohdcdmhigaaGreatDoor
/-
  The kit's contract of 'strconv.Itoa', at this program.
-/
namespace Go.Proofs.YtjdlohdcdmhigaaGreatDoor
open Go.Sl Go Go.Shelf Go.Sort
def renI:Ren:=⟨fun k=>bif Nat.beq k 129 then 142 else bif Nat.beq k 171 then 179 else bif Nat.beq k 243 then 201 else bif Nat.beq k 246 then 222 else bif Nat.beq k 283 then 230 else bif Nat.beq k 284 then 231 else bif Nat.beq k 285 then 232 else bif Nat.beq k 286 then 233 else bif Nat.beq k 317 then 236 else bif Nat.beq k 318 then 237 else bif Nat.beq k 319 then 238 else bif Nat.beq k 320 then 239 else bif Nat.beq k 337 then 240 else bif Nat.beq k 338 then 192 else 0,fun k=>bif Nat.beq k 0 then 0 else bif Nat.beq k 2 then 2 else bif Nat.beq k 3 then 3 else bif Nat.beq k 4 then 4 else bif Nat.beq k 5 then 5 else bif Nat.beq k 9 then 9 else bif Nat.beq k 20 then 20 else bif Nat.beq k 37 then 279 else bif Nat.beq k 46 then 186 else bif Nat.beq k 51 then 227 else bif Nat.beq k 53 then 229 else bif Nat.beq k 171 then 326 else bif Nat.beq k 173 then 328 else bif Nat.beq k 212 then 333 else bif Nat.beq k 213 then 334 else bif Nat.beq k 232 then 335 else bif Nat.beq k 233 then 307 else 0,fun k=>bif Nat.beq k 17 then 1 else bif Nat.beq k 18 then 2 else bif Nat.beq k 19 then 0 else 0⟩
set_option maxRecDepth 100000 in
theorem layI:LaysM.n171 Tryz.prog renI:={ mixed:=mixed,f129:=Tryz.func142.trans (by kernel_rfl),f171:=Tryz.func179.trans (by kernel_rfl),f243:=Tryz.func201.trans (by kernel_rfl),f246:=Tryz.func222.trans (by kernel_rfl),f283:=Tryz.func230.trans (by kernel_rfl),f284:=Tryz.func231.trans (by kernel_rfl),f285:=Tryz.func232.trans (by kernel_rfl),f286:=Tryz.func233.trans (by kernel_rfl),f317:=Tryz.func236.trans (by kernel_rfl),f318:=Tryz.func237.trans (by kernel_rfl),f319:=Tryz.func238.trans (by kernel_rfl),f320:=Tryz.func239.trans (by kernel_rfl),f337:=Tryz.func240.trans (by kernel_rfl),f338:=Tryz.func192.trans (by kernel_rfl),t0:=by kernel_rfl,a0:=fun w=>by kernel_rfl,z0:=fun w=>by kernel_rfl,v0:=fun w=>by kernel_rfl,t2:=by kernel_rfl,a2:=fun w=>by kernel_rfl,z2:=fun w=>by kernel_rfl,v2:=fun w=>by kernel_rfl,t3:=by kernel_rfl,a3:=fun w=>by kernel_rfl,z3:=fun w=>by kernel_rfl,v3:=fun w=>by kernel_rfl,t4:=by kernel_rfl,a4:=fun w=>by kernel_rfl,z4:=fun w=>by kernel_rfl,v4:=fun w=>by kernel_rfl,t5:=by kernel_rfl,a5:=fun w=>by kernel_rfl,z5:=fun w=>by kernel_rfl,v5:=fun w=>by kernel_rfl,t9:=by kernel_rfl,a9:=fun w=>by kernel_rfl,z9:=fun w=>by kernel_rfl,v9:=fun w=>by kernel_rfl,t20:=by kernel_rfl,a20:=fun w=>by kernel_rfl,z20:=fun w=>by kernel_rfl,v20:=fun w=>by kernel_rfl,t37:=by kernel_rfl,a37:=fun w=>by kernel_rfl,z37:=fun w=>by kernel_rfl,v37:=fun w=>by kernel_rfl,t46:=by kernel_rfl,a46:=fun w=>by kernel_rfl,z46:=fun w=>by kernel_rfl,v46:=fun w=>by kernel_rfl,t51:=by kernel_rfl,a51:=fun w=>by kernel_rfl,z51:=fun w=>by kernel_rfl,v51:=fun w=>by kernel_rfl,t53:=by kernel_rfl,a53:=fun w=>by kernel_rfl,z53:=fun w=>by kernel_rfl,v53:=fun w=>by kernel_rfl,t171:=by kernel_rfl,a171:=fun w=>by kernel_rfl,z171:=fun w=>by kernel_rfl,v171:=fun w=>by kernel_rfl,t173:=by kernel_rfl,a173:=fun w=>by kernel_rfl,z173:=fun w=>by kernel_rfl,v173:=fun w=>by kernel_rfl,t212:=by kernel_rfl,a212:=fun w=>by kernel_rfl,z212:=fun w=>by kernel_rfl,v212:=fun w=>by kernel_rfl,t213:=by kernel_rfl,a213:=fun w=>by kernel_rfl,z213:=fun w=>by kernel_rfl,t232:=by kernel_rfl,a232:=fun w=>by kernel_rfl,z232:=fun w=>by kernel_rfl,v232:=fun w=>by kernel_rfl,t233:=by kernel_rfl,a233:=fun w=>by kernel_rfl,z233:=fun w=>by kernel_rfl,v233:=fun w=>by kernel_rfl,g17:=by kernel_rfl,g18:=by kernel_rfl,g19:=by kernel_rfl,i0:=by kernel_rfl,i2:=by kernel_rfl,i3:=by kernel_rfl,i4:=by kernel_rfl,i5:=by kernel_rfl,i9:=by kernel_rfl,i20:=by kernel_rfl,i37:=by kernel_rfl,i46:=by kernel_rfl,i51:=by kernel_rfl,i53:=by kernel_rfl,i171:=by kernel_rfl,i173:=by kernel_rfl,i212:=by kernel_rfl,i232:=by kernel_rfl,i233:=by kernel_rfl,m17:=by kernel_rfl,m18:=by kernel_rfl,m19:=by kernel_rfl }
def TabI (w:World):Prop:=Lib.TabIs Tryz.prog w "internal/strconv.uint64pow10" .u64 Lib.pow10Tab
theorem TabI.at {w0 w:World}{Γ:List HP}(h:TabI w0) (hw:Sat w0 w Γ):TabI w:=Lib.tabBelow_of_tabIs h w hw.below
def itoS (n:Int):ByteArray:=⟨(itoB n).toArray⟩
set_option maxRecDepth 100000 in
theorem qeX {w0:World}{n:Int}(hT:TabI w0) (h0 : -9223372036854775808≤n) (h1:n≤9223372036854775807) :
  Calls Tryz.prog 179 #[.int .i64 n] w0 fun e w'=>e=.returned (.string (itoS n))∧Sat w0 w' []:=by
 have h:=Any.strconv_Itoa layI n h0 h1 w0 hT
 refine Calls.mono h ?_
 rintro e w' ⟨he,k,os,rfl⟩
 exact⟨he,((Sat.start w0).ahead k).grow os⟩
end Go.Proofs.YtjdlohdcdmhigaaGreatDoor
/-
  What a row that lists three tables, of which uint64pow10 is the last, asks and gives.
-/
namespace Go.Proofs.YtjdlohdcdmhigaaGreatDoor
open Go.Sl Go
def laidL:List (String × DataW Unit):=[("math/bits.deBruijn32tab", Rows.laid_math_bits_deBruijn32tab), ("math/bits.deBruijn64tab", Rows.laid_math_bits_deBruijn64tab), ("internal/strconv.uint64pow10", Rows.laid_internal_strconv_uint64pow10)]
theorem qg5 {P:Program}{x:String × DataW Unit}{rest:List (String × DataW Unit)}{W:World}(h:laidMet P (x::rest) W):laidMet P rest W:=by
 obtain⟨n,d⟩:=x
 obtain⟨ps,⟨g',t',cs,fuel,p,q,hg',ht',hvar,hd,h1,h2⟩,hnd,hall⟩:=h
 subst h2
 exact⟨q,h1,(List.nodup_append.1 hnd).2.1,fun b off hm=>hall b off (List.mem_append_right _ hm)⟩
theorem qmW (os:Os) (args:Array Value):laidMetH Tryz.prog laidL ((World.doorLaid Tryz.prog 14 os).forCall (fun _ _=>0) ⟨#[],args,[]⟩).memory :=
 laidMetH_of_parts3 (fuel:=8) (laidMet_of_run' 8 (by kernel_rfl) (by kernel_rfl)) (by kernel_rfl) (by kernel_rfl)
theorem qod {W:World}(h:laidMetH Tryz.prog laidL W):TabI W:=by
 rw [MakeChecks.laidMetH_plain _ _ _ (by kernel_rfl)] at h
 exact Lib.tabIs_of_head (rest:=[]) (g:=Tryz.prog.globalNamed "internal/strconv.uint64pow10" |>.getD 0) (t := (Tryz.prog.globals[Tryz.prog.globalNamed "internal/strconv.uint64pow10" |>.getD 0]?.map (·.type)).getD 0) (e := 229) (n := Lib.pow10Tab.length) (by kernel_rfl) (by kernel_rfl) (by kernel_rfl) (by kernel_rfl) (by kernel_rfl) (by kernel_rfl) (qg5 (qg5 h))
end Go.Proofs.YtjdlohdcdmhigaaGreatDoor
/-
  Contracts of the helpers 'Num', 'Ints', 'State', 'Proper', 'operator', 'Good', 'Many', 'Small', 'Holds'.
-/
namespace Go.Proofs.YtjdlohdcdmhigaaGreatDoor
open Go.Sl
attribute [local irreducible] vc opsW opsD opV opW PureV ReadV Thn Blk
def errV (c:Int):Value:=if c=0 then .nilIface else .iface 63 (.int .i64 c)
theorem qas {c:Int}(h:c=0):errV c=.nilIface:=by simp [errV,h]
theorem qan {c:Int}(h:c≠0):errV c=.iface 63 (.int .i64 c):=by simp [errV,h]
set_option maxRecDepth 8000 in
theorem qec {w0:World}(c:Int) :
  Calls Tryz.prog 23 #[errV c] w0 fun e w'=>e=.returned (.int .i64 c)∧Sat w0 w' []:=by
 have hw:=Sat.start w0
 by_cases hc:c=0
 ·subst hc
  refine qaf (args:=[.nilIface]) mixed Tryz.func23 rfl (by kernel_rfl) (Nat.le_of_ble_eq_true rfl) ?_
  repeat (first|refine qac ?_|(refine qaa ?_;clear hw;intro p w hw)|(refine qae ?_;clear hw;intro w hw)|(refine qab ?_;clear hw;intro s w hw))
  exact qai (v:=.int .i64 0) rfl rfl ⟨rfl,hw⟩
 ·rw [qan hc]
  refine qaf (args:=[.iface 63 (.int .i64 c)]) mixed Tryz.func23 rfl (by kernel_rfl) (Nat.le_of_ble_eq_true rfl) ?_
  repeat (first|refine qac ?_|(refine qaa ?_;clear hw;intro p w hw)|(refine qae ?_;clear hw;intro w hw)|(refine qab ?_;clear hw;intro s w hw))
  exact qai (v:=.int .i64 c) rfl rfl ⟨rfl,hw⟩
set_option maxRecDepth 8000 in
theorem qj4 {w0:World}{a b:Value}{vars s:List Int}(ha:RS tInt w0 a vars) (hb:RS tInt w0 b s) :
  Calls Tryz.prog 71 #[a,b] w0 fun e w'=>(∃ r,e=.returned (.bool r)∧(r=true↔StateOk vars s))∧Sat w0 w' []:=by
 have hla:=ha.big
 have hlb:=hb.big
 have hw:=Sat.start w0
 refine qaf (args:=[a,b]) mixed Tryz.func71 rfl (by kernel_rfl) (Nat.le_of_ble_eq_true rfl) ?_
 repeat (first|refine qac ?_|(refine qaa ?_;clear hw;intro p w hw)|(refine qae ?_;clear hw;intro w hw)|(refine qab ?_;clear hw;intro s w hw))
 refine go_if (fun h0 => ?_) (fun h0 => ?_)
 ·repeat (first|refine qac ?_|(refine qaa ?_;clear hw;intro p w hw)|(refine qae ?_;clear hw;intro w hw)|(refine qab ?_;clear hw;intro s w hw))
  refine qai (v:=.bool false) rfl rfl ⟨⟨false,rfl,iffF fun h => ?_⟩,hw⟩
  exact absurd (by have:=h.1;omega) h0
 ·repeat (first|refine qac ?_|(refine qaa ?_;clear hw;intro p w hw)|(refine qae ?_;clear hw;intro w hw)|(refine qab ?_;clear hw;intro s w hw))
  refine qak [4,5,13,14,15,16,17,18,19,20,21,22,23,24,25,26,27,28,29,30,31,32] (G:=Nat) (fun k=>[(13,.int .i64 k)]) (fun k w=>k≤s.length∧(∀ i,i<k→0≤s.getD i tInt.dflt∧s.getD i tInt.dflt<vars.getD i tInt.dflt)∧Sat w0 w []) (fun k=>s.length-k) 0 (fun _=>rfl) ⟨rfl,trivial⟩ ⟨Nat.zero_le _,fun i hi=>absurd hi (Nat.not_lt_zero _),hw⟩ ?_
  clear hw
  rintro σ k w ⟨hk,hpre,hw⟩
  repeat (first|refine qac ?_|(refine qaa ?_;clear hw;intro p w hw)|(refine qae ?_;clear hw;intro w hw)|(refine qab ?_;clear hw;intro s w hw))
  refine go_if (fun h1 => ?_) (fun h1 => ?_)
  ·repeat (first|refine qac ?_|(refine qaa ?_;clear hw;intro p w hw)|(refine qae ?_;clear hw;intro w hw)|(refine qab ?_;clear hw;intro s w hw))
   refine go_if (fun h2 => ?_) (fun h2 => ?_)
   ·repeat (first|refine qac ?_|(refine qaa ?_;clear hw;intro p w hw)|(refine qae ?_;clear hw;intro w hw)|(refine qab ?_;clear hw;intro s w hw))
    refine qai (v:=.bool false) rfl rfl ⟨⟨false,rfl,iffF fun h => ?_⟩,hw⟩
    have:=h.2 k (by omega)
    omega
   ·repeat (first|refine qac ?_|(refine qaa ?_;clear hw;intro p w hw)|(refine qae ?_;clear hw;intro w hw)|(refine qab ?_;clear hw;intro s w hw))
    refine⟨k+1,⟨rfl,trivial⟩,agr,⟨by omega,fun i hi => ?_,hw⟩,by omega⟩
    by_cases h:i=k
    ·subst h;omega
    ·exact hpre i (by omega)
  ·repeat (first|refine qac ?_|(refine qaa ?_;clear hw;intro p w hw)|(refine qae ?_;clear hw;intro w hw)|(refine qab ?_;clear hw;intro s w hw))
   exact qai (v:=.bool true) rfl rfl ⟨⟨true,rfl,iffT ⟨by omega,fun i hi=>hpre i (by omega)⟩⟩,hw⟩
set_option maxRecDepth 8000 in
set_option maxHeartbeats 1000000 in
theorem qbT {w0:World}{a b:Value}{vars:List Int}{f:List Fact}(ha:RS tInt w0 a vars) (hb:RS tFact w0 b f) :
  Calls Tryz.prog 72 #[a,b] w0 fun e w'=>(∃ r,e=.returned (.bool r)∧(r=true↔FactsOk vars f))∧Sat w0 w' []:=by
 have hla:=ha.big
 have hlb:=hb.big
 have hw:=Sat.start w0
 refine qaf (args:=[a,b]) mixed Tryz.func72 rfl (by kernel_rfl) (Nat.le_of_ble_eq_true rfl) ?_
 repeat (first|refine qac ?_|(refine qaa ?_;clear hw;intro p w hw)|(refine qae ?_;clear hw;intro w hw)|(refine qab ?_;clear hw;intro s w hw))
 refine qak [4,5,6,9,10,11,12,13,14,15,16,17,18,19,20,21,22,23,24,25,26,27,28,29,30,31,32,33,34,35,36,37,38,39,40,41,42,43,44,45,46,47,48,49,50,51,52,53,54] (G:=Nat) (fun k=>[(9,.int .i64 k)]) (fun k w=>k≤f.length∧(∀ i,i<k→FactOk vars (f.getD i tFact.dflt)∧(0<i→(f.getD (i-1) tFact.dflt).var<(f.getD i tFact.dflt).var))∧Sat w0 w []) (fun k=>f.length-k) 0 (fun _=>rfl) ⟨rfl,trivial⟩ ⟨Nat.zero_le _,fun i hi=>absurd hi (Nat.not_lt_zero _),hw⟩ ?_
 clear hw
 rintro σ k w ⟨hk,hpre,hw⟩
 repeat (first|refine qac ?_|(refine qaa ?_;clear hw;intro p w hw)|(refine qae ?_;clear hw;intro w hw)|(refine qab ?_;clear hw;intro s w hw))
 refine go_if (fun h1 => ?_) (fun h1 => ?_)
 ·repeat (first|refine qac ?_|(refine qaa ?_;clear hw;intro p w hw)|(refine qae ?_;clear hw;intro w hw)|(refine qab ?_;clear hw;intro s w hw))
  refine go_if (fun h2 => ?_) (fun h2 => ?_)
  ·repeat (first|refine qac ?_|(refine qaa ?_;clear hw;intro p w hw)|(refine qae ?_;clear hw;intro w hw)|(refine qab ?_;clear hw;intro s w hw))
   refine qai (v:=.bool false) rfl rfl ⟨⟨false,rfl,iffF fun h => ?_⟩,hw.tail⟩
   have:=h k (by omega)
   unfold FactOk at this
   have hk1:((k:Int)-1).toNat=k-1:=by omega
   rw [hk1] at h2
   omega
  ·repeat (first|refine qac ?_|(refine qaa ?_;clear hw;intro p w hw)|(refine qae ?_;clear hw;intro w hw)|(refine qab ?_;clear hw;intro s w hw))
   refine⟨k+1,⟨rfl,trivial⟩,agr,⟨by omega,fun i hi => ?_,hw.tail⟩,by omega⟩
   by_cases h:i=k
   ·subst h
    have hk1:((i:Int)-1).toNat=i-1:=by omega
    rw [hk1] at h2
    unfold FactOk
    omega
   ·exact hpre i (by omega)
 ·repeat (first|refine qac ?_|(refine qaa ?_;clear hw;intro p w hw)|(refine qae ?_;clear hw;intro w hw)|(refine qab ?_;clear hw;intro s w hw))
  exact qai (v:=.bool true) rfl rfl ⟨⟨true,rfl,iffT fun i hi=>hpre i (by omega)⟩,hw⟩
set_option maxRecDepth 8000 in
set_option maxHeartbeats 2000000 in
theorem qge {w0:World}{a:Value}{vars:List Int}{v:OpV}{o:TOp}(ha:RS tInt w0 a vars) (hv:ROp w0 v o) :
  Calls Tryz.prog 73 #[a,.agg (tOp.enc v).toArray] w0 fun e w'=>(∃ r,e=.returned (.bool r)∧(r=true↔OpOk vars o))∧Sat w0 w' []:=by
 have hla:=ha.big
 have hw:=Sat.start w0
 obtain⟨hname,hsize,hcost,hpre,es,hes⟩:=hv
 have hrs:=hes.rs
 have hpl:=hpre.big
 have hel:=hrs.big
 have hesl:=hes.len
 refine qaf (args:=[a,.agg (tOp.enc v).toArray]) mixed Tryz.func73 rfl (by kernel_rfl) (Nat.le_of_ble_eq_true rfl) ?_
 repeat (first|refine qac ?_|(refine qaa ?_;clear hw;intro p w hw)|(refine qae ?_;clear hw;intro w hw)|(refine qab ?_;clear hw;intro s w hw))
 refine qn8 (fun h1 => ?_) (fun h1 => ?_)
 ·simp only [h1,gvff,gvtt];(try simp only [beq_iff_eq,Bool.and_eq_true,Bool.or_eq_true,decide_eq_true_eq,decide_eq_false_iff_not,Bool.not_eq_true,Bool.not_eq_false,Bool.not_eq_eq_eq_not,Bool.not_true,Bool.not_false,Bool.and_eq_false_iff,Bool.or_eq_false_iff,bne_iff_ne,ne_eq,Int.not_lt,Int.not_le,Nat.not_lt,Nat.not_le] at h1)
  repeat (first|refine qac ?_|(refine qaa ?_;clear hw;intro p w hw)|(refine qae ?_;clear hw;intro w hw)|(refine qab ?_;clear hw;intro s w hw))
  refine qai (v:=.bool false) rfl rfl ⟨⟨false,rfl,iffF fun h => ?_⟩,hw.tail⟩
  have:=h.cost0
  have:=h.cost1
  have:=h.effs
  have:=h.name.1
  rw [←hname] at this
  omega
 ·simp only [h1,gvff,gvtt];(try simp only [beq_iff_eq,Bool.and_eq_true,Bool.or_eq_true,decide_eq_true_eq,decide_eq_false_iff_not,Bool.not_eq_true,Bool.not_eq_false,Bool.not_eq_eq_eq_not,Bool.not_true,Bool.not_false,Bool.and_eq_false_iff,Bool.or_eq_false_iff,bne_iff_ne,ne_eq,Int.not_lt,Int.not_le,Nat.not_lt,Nat.not_le] at h1)
  repeat (first|refine qac ?_|(refine qaa ?_;clear hw;intro p w hw)|(refine qae ?_;clear hw;intro w hw)|(refine qab ?_;clear hw;intro s w hw))
  refine qah rfl (qbT (a:=a) (b:=v.pre) (ha.at hw) (hpre.at hw)) ?_
  rintro _ w' ⟨⟨r,rfl,hr⟩,hk⟩
  replace hw:=hw.call0 hk
  clear hk
  refine⟨_,rfl,?_⟩
  repeat (first|refine qac ?_|(refine qaa ?_;clear hw;intro p w hw)|(refine qae ?_;clear hw;intro w hw)|(refine qab ?_;clear hw;intro s w hw))
  cases r with
  | false =>
   repeat (first|refine qac ?_|(refine qaa ?_;clear hw;intro p w hw)|(refine qae ?_;clear hw;intro w hw)|(refine qab ?_;clear hw;intro s w hw))
   refine qai (v:=.bool false) rfl rfl ⟨⟨false,rfl,iffF fun h => ?_⟩,hw.tail⟩
   have:=hr.2 h.pre
   cases this
  | true =>
   have hpok:=hr.1 rfl
   repeat (first|refine qac ?_|(refine qaa ?_;clear hw;intro p w hw)|(refine qae ?_;clear hw;intro w hw)|(refine qab ?_;clear hw;intro s w hw))
   refine qak [4,5,38,39,40,41,42,43,44,45,46,47,48,49,50,51,52,53] (G:=Nat) (fun k=>[(38,.int .i64 k)]) (fun k w=>k≤v.name.size∧(∀ i,i<k→32≤bat v.name i∧bat v.name i≤126)∧Sat w0 w [Box p 44 (tOp.enc v)]) (fun k=>v.name.size-k) 0 (fun _=>rfl) ⟨rfl,trivial⟩ ⟨Nat.zero_le _,fun i hi=>absurd hi (Nat.not_lt_zero _),hw⟩ ?_
   clear hw
   rintro σ k w ⟨hk,hnm,hw⟩
   repeat (first|refine qac ?_|(refine qaa ?_;clear hw;intro p w hw)|(refine qae ?_;clear hw;intro w hw)|(refine qab ?_;clear hw;intro s w hw))
   refine go_if (fun h2 => ?_) (fun h2 => ?_)
   ·repeat (first|refine qac ?_|(refine qaa ?_;clear hw;intro p w hw)|(refine qae ?_;clear hw;intro w hw)|(refine qab ?_;clear hw;intro s w hw))
    refine go_if (fun h3 => ?_) (fun h3 => ?_)
    ·repeat (first|refine qac ?_|(refine qaa ?_;clear hw;intro p w hw)|(refine qae ?_;clear hw;intro w hw)|(refine qab ?_;clear hw;intro s w hw))
     refine qai (v:=.bool false) rfl rfl ⟨⟨false,rfl,iffF fun h => ?_⟩,hw.tail⟩
     have:=h.name.2 k (by rw [←hname];omega)
     rw [←hname] at this
     omega
    ·repeat (first|refine qac ?_|(refine qaa ?_;clear hw;intro p w hw)|(refine qae ?_;clear hw;intro w hw)|(refine qab ?_;clear hw;intro s w hw))
     refine⟨k+1,⟨rfl,trivial⟩,agr,⟨by omega,fun i hi => ?_,hw⟩,by omega⟩
     by_cases h:i=k
     ·subst h;omega
     ·exact hnm i (by omega)
   ·have hnok:NameOk o.name:=by rw [←hname];exact⟨by omega,fun i hi=>hnm i (by omega)⟩
    repeat (first|refine qac ?_|(refine qaa ?_;clear hw;intro p w hw)|(refine qae ?_;clear hw;intro w hw)|(refine qab ?_;clear hw;intro s w hw))
    refine qak [4,7,57,58,59,60,61,62,63,64,65,66,67,68,69,70,71,72,73,74,75,76,77] (G:=Nat) (fun k=>[(57,.int .i64 k)]) (fun k w=>k≤o.effs.length∧(∀ i,i<k→EffOk vars (o.effs.getD i dEff))∧Sat w0 w [Box p 44 (tOp.enc v)]) (fun k=>o.effs.length-k) 0 (fun _=>rfl) ⟨rfl,trivial⟩ ⟨Nat.zero_le _,fun i hi=>absurd hi (Nat.not_lt_zero _),hw⟩ ?_
    clear hw
    rintro σ1 k w ⟨hk2,hef,hw⟩
    repeat (first|refine qac ?_|(refine qaa ?_;clear hw;intro p w hw)|(refine qae ?_;clear hw;intro w hw)|(refine qab ?_;clear hw;intro s w hw))
    refine go_if (fun h4 => ?_) (fun h4 => ?_)
    ·have hek:=hes.at_ k (by omega)
     have hwh:=hek.when
     have hone:=hek.one
     repeat (first|refine qac ?_|(refine qaa ?_;clear hw;intro p w hw)|(refine qae ?_;clear hw;intro w hw)|(refine qab ?_;clear hw;intro s w hw))
     refine qah rfl (qbT (a:=a) (b:=(eget tEff es k).when) (ha.at hw) (hwh.at hw)) ?_
     rintro _ w' ⟨⟨r,rfl,hr⟩,hk'⟩
     replace hw:=hw.call0 hk'
     clear hk'
     refine⟨_,rfl,?_⟩
     cases r with
     | false =>
      repeat (first|refine qac ?_|(refine qaa ?_;clear hw;intro p w hw)|(refine qae ?_;clear hw;intro w hw)|(refine qab ?_;clear hw;intro s w hw))
      refine qai (v:=.bool false) rfl rfl ⟨⟨false,rfl,iffF fun h => ?_⟩,hw.tail.tail⟩
      have:=hr.2 (h.eff k (by omega)).1
      cases this
     | true =>
      have hwok:=hr.1 rfl
      repeat (first|refine qac ?_|(refine qaa ?_;clear hw;intro p w hw)|(refine qae ?_;clear hw;intro w hw)|(refine qab ?_;clear hw;intro s w hw))
      refine qam tFact (x1:=⟨(eget tEff es k).var,(eget tEff es k).val⟩) rfl rfl rfl (Nat.le_of_ble_eq_true rfl) (Nat.zero_lt_succ _) hw ?_
      clear hw
      intro s w hw
      repeat (first|refine qac ?_|(refine qaa ?_;clear hw;intro p w hw)|(refine qae ?_;clear hw;intro w hw)|(refine qab ?_;clear hw;intro s w hw))
      refine qah rfl (qbT (a:=a) (b:=s) (ha.at hw) (rsO hw)) ?_
      rintro _ w' ⟨⟨r,rfl,hr2⟩,hk'⟩
      replace hw:=hw.call0 hk'
      clear hk'
      rw [hek.var,hek.val] at hr2
      refine⟨_,rfl,?_⟩
      cases r with
      | false =>
       repeat (first|refine qac ?_|(refine qaa ?_;clear hw;intro p w hw)|(refine qae ?_;clear hw;intro w hw)|(refine qab ?_;clear hw;intro s w hw))
       refine qai (v:=.bool false) rfl rfl ⟨⟨false,rfl,iffF fun h => ?_⟩,hw.tail.tail.tail⟩
       have:=hr2.2 (h.eff k (by omega)).2
       cases this
      | true =>
       have hvok:=hr2.1 rfl
       repeat (first|refine qac ?_|(refine qaa ?_;clear hw;intro p w hw)|(refine qae ?_;clear hw;intro w hw)|(refine qab ?_;clear hw;intro s w hw))
       refine⟨k+1,⟨rfl,trivial⟩,agr,⟨by omega,fun i hi => ?_,hw.tail.tail⟩,by omega⟩
       by_cases h:i=k
       ·subst h;exact⟨hwok,hvok⟩
       ·exact hef i (by omega)
    ·repeat (first|refine qac ?_|(refine qaa ?_;clear hw;intro p w hw)|(refine qae ?_;clear hw;intro w hw)|(refine qab ?_;clear hw;intro s w hw))
     refine qai (v:=.bool true) rfl rfl ⟨⟨true,rfl,iffT ⟨by omega,by omega,by omega,hnok,hpok,fun i hi=>hef i (by omega)⟩⟩,hw.tail⟩
set_option maxRecDepth 8000 in
set_option maxHeartbeats 2000000 in
theorem qlK {w0:World}{a b c d:Value}{vs:List OpV}{t:TTask}(ht:RTask w0 a b c d vs t) :
  Calls Tryz.prog 44 #[.agg #[a,b,c,d]] w0 fun e w'=>(∃ r,e=.returned (.bool r)∧(r=true↔GoodT t))∧Sat w0 w' []:=by
 obtain⟨ha,hb,hc,hd⟩:=ht
 have hrs:=hd.rs
 have hdl:=hd.len
 have hla:=ha.big
 have hll:=hrs.big
 have hw:=Sat.start w0
 refine qaf (args:=[.agg #[a,b,c,d]]) mixed Tryz.func44 rfl (by kernel_rfl) (Nat.le_of_ble_eq_true rfl) ?_
 repeat (first|refine qac ?_|(refine qaa ?_;clear hw;intro p w hw)|(refine qae ?_;clear hw;intro w hw)|(refine qab ?_;clear hw;intro s w hw))
 refine go_if (fun h1 => ?_) (fun h1 => ?_)
 ·repeat (first|refine qac ?_|(refine qaa ?_;clear hw;intro p w hw)|(refine qae ?_;clear hw;intro w hw)|(refine qab ?_;clear hw;intro s w hw))
  refine qai (v:=.bool false) rfl rfl ⟨⟨false,rfl,iffF fun h => ?_⟩,hw.tail⟩
  have:=h.vars
  have:=h.ops
  omega
 ·repeat (first|refine qac ?_|(refine qaa ?_;clear hw;intro p w hw)|(refine qae ?_;clear hw;intro w hw)|(refine qab ?_;clear hw;intro s w hw))
  refine qak [2,4,20,21,22,23,24,25,26,27,28,29,30] (G:=Nat) (fun k=>[(20,.int .i64 k)]) (fun k w=>k≤t.vars.length∧(∀ i,i<k→1≤t.vars.getD i tInt.dflt∧t.vars.getD i tInt.dflt≤64)∧Sat w0 w [Box p 26 [a,b,c,d]]) (fun k=>t.vars.length-k) 0 (fun _=>rfl) ⟨rfl,trivial⟩ ⟨Nat.zero_le _,fun i hi=>absurd hi (Nat.not_lt_zero _),hw⟩ ?_
  clear hw
  rintro σ k w ⟨hk,hdm,hw⟩
  repeat (first|refine qac ?_|(refine qaa ?_;clear hw;intro p w hw)|(refine qae ?_;clear hw;intro w hw)|(refine qab ?_;clear hw;intro s w hw))
  refine go_if (fun h2 => ?_) (fun h2 => ?_)
  ·repeat (first|refine qac ?_|(refine qaa ?_;clear hw;intro p w hw)|(refine qae ?_;clear hw;intro w hw)|(refine qab ?_;clear hw;intro s w hw))
   refine go_if (fun h3 => ?_) (fun h3 => ?_)
   ·repeat (first|refine qac ?_|(refine qaa ?_;clear hw;intro p w hw)|(refine qae ?_;clear hw;intro w hw)|(refine qab ?_;clear hw;intro s w hw))
    refine qai (v:=.bool false) rfl rfl ⟨⟨false,rfl,iffF fun h => ?_⟩,hw.tail⟩
    have:=h.dom k (by omega)
    omega
   ·repeat (first|refine qac ?_|(refine qaa ?_;clear hw;intro p w hw)|(refine qae ?_;clear hw;intro w hw)|(refine qab ?_;clear hw;intro s w hw))
    refine⟨k+1,⟨rfl,trivial⟩,agr,⟨by omega,fun i hi => ?_,hw⟩,by omega⟩
    by_cases h:i=k
    ·subst h;omega
    ·exact hdm i (by omega)
  ·repeat (first|refine qac ?_|(refine qaa ?_;clear hw;intro p w hw)|(refine qae ?_;clear hw;intro w hw)|(refine qab ?_;clear hw;intro s w hw))
   refine qah rfl (qj4 (a:=a) (b:=b) (ha.at hw) (hb.at hw)) ?_
   rintro _ w' ⟨⟨r,rfl,hr⟩,hk'⟩
   replace hw:=hw.call0 hk'
   clear hk'
   refine⟨_,rfl,?_⟩
   cases r with
   | false =>
    repeat (first|refine qac ?_|(refine qaa ?_;clear hw;intro p w hw)|(refine qae ?_;clear hw;intro w hw)|(refine qab ?_;clear hw;intro s w hw))
    refine qai (v:=.bool false) rfl rfl ⟨⟨false,rfl,iffF fun h => ?_⟩,hw.tail⟩
    have:=hr.2 h.init
    cases this
   | true =>
    have hsok:=hr.1 rfl
    repeat (first|refine qac ?_|(refine qaa ?_;clear hw;intro p w hw)|(refine qae ?_;clear hw;intro w hw)|(refine qab ?_;clear hw;intro s w hw))
    refine qah rfl (qbT (a:=a) (b:=c) (ha.at hw) (hc.at hw)) ?_
    rintro _ w' ⟨⟨r,rfl,hr2⟩,hk'⟩
    replace hw:=hw.call0 hk'
    clear hk'
    refine⟨_,rfl,?_⟩
    cases r with
    | false =>
     repeat (first|refine qac ?_|(refine qaa ?_;clear hw;intro p w hw)|(refine qae ?_;clear hw;intro w hw)|(refine qab ?_;clear hw;intro s w hw))
     refine qai (v:=.bool false) rfl rfl ⟨⟨false,rfl,iffF fun h => ?_⟩,hw.tail⟩
     have:=hr2.2 h.goal
     cases this
    | true =>
     have hgok:=hr2.1 rfl
     repeat (first|refine qac ?_|(refine qaa ?_;clear hw;intro p w hw)|(refine qae ?_;clear hw;intro w hw)|(refine qab ?_;clear hw;intro s w hw))
     refine qak [2,6,48,49,50,51,52,53,54,55,56,57] (G:=Nat) (fun k=>[(48,.int .i64 k)]) (fun k w=>k≤t.ops.length∧(∀ i,i<k→OpOk t.vars (t.ops.getD i dOp))∧Sat w0 w [Box p 26 [a,b,c,d]]) (fun k=>t.ops.length-k) 0 (fun _=>rfl) ⟨rfl,trivial⟩ ⟨Nat.zero_le _,fun i hi=>absurd hi (Nat.not_lt_zero _),hw⟩ ?_
     clear hw
     rintro σ1 k w ⟨hk2,hop,hw⟩
     repeat (first|refine qac ?_|(refine qaa ?_;clear hw;intro p w hw)|(refine qae ?_;clear hw;intro w hw)|(refine qab ?_;clear hw;intro s w hw))
     refine go_if (fun h4 => ?_) (fun h4 => ?_)
     ·have hok:=hd.at_ k (by omega)
      have hone:=hok.one
      repeat (first|refine qac ?_|(refine qaa ?_;clear hw;intro p w hw)|(refine qae ?_;clear hw;intro w hw)|(refine qab ?_;clear hw;intro s w hw))
      refine qah rfl (qge (a:=a) (v:=eget tOp vs k) (ha.at hw) (hok.at hw)) ?_
      rintro _ w' ⟨⟨r,rfl,hr3⟩,hk'⟩
      replace hw:=hw.call0 hk'
      clear hk'
      refine⟨_,rfl,?_⟩
      cases r with
      | false =>
       repeat (first|refine qac ?_|(refine qaa ?_;clear hw;intro p w hw)|(refine qae ?_;clear hw;intro w hw)|(refine qab ?_;clear hw;intro s w hw))
       refine qai (v:=.bool false) rfl rfl ⟨⟨false,rfl,iffF fun h => ?_⟩,hw.tail.tail⟩
       have:=hr3.2 (h.op k (by omega))
       cases this
      | true =>
       repeat (first|refine qac ?_|(refine qaa ?_;clear hw;intro p w hw)|(refine qae ?_;clear hw;intro w hw)|(refine qab ?_;clear hw;intro s w hw))
       refine⟨k+1,⟨rfl,trivial⟩,agr,⟨by omega,fun i hi => ?_,hw.tail⟩,by omega⟩
       by_cases h:i=k
       ·subst h;exact hr3.1 rfl
       ·exact hop i (by omega)
     ·repeat (first|refine qac ?_|(refine qaa ?_;clear hw;intro p w hw)|(refine qae ?_;clear hw;intro w hw)|(refine qab ?_;clear hw;intro s w hw))
      refine qai (v:=.bool true) rfl rfl ⟨⟨true,rfl,iffT ⟨by omega,by omega,fun i hi=>hdm i (by omega),hsok,hgok,fun i hi=>hop i (by omega)⟩⟩,hw.tail⟩
end Go.Proofs.YtjdlohdcdmhigaaGreatDoor
