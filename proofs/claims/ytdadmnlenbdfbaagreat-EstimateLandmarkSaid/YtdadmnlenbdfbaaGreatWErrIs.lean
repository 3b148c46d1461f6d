/-
  Contract of errors.Is for errors that are numbers.
-/
import Derived.Test.YtdadmnlenbdfbaaGreatMW1
import Derived.Test.YtdadmnlenbdfbaaGreatMSlB
set_option linter.unusedSimpArgs false
set_option linter.unusedVariables false
namespace Go.Proofs.YtdadmnlenbdfbaaGreat
open Go.Sl Go Go.Extern
attribute [local irreducible] vc opsW opsD opV opW PureV ReadV Thn Blk
set_option maxRecDepth 8000 in
theorem eTypeOf (k:Int) (w:World):(callFunc 48 #[.iface 35 (.int .i64 k)]).run Tryz.prog w=.ok (.value (.iface 134 (.agg #[Go.typeHandle Tryz.prog 35]))) w:=by
 have h:=@run_callFunc_extern Tryz.prog 48 _ Extern.ReflectliteType.typeOf Tryz.func48 (by kernel_rfl) (by kernel_rfl) (by kernel_rfl) (by kernel_rfl)
 rw [h]
 have h2:(Extern.ReflectliteType.typeOf #[.iface 35 (.int .i64 k)]).run Tryz.prog w=.ok (.iface 134 (.agg #[Go.typeHandle Tryz.prog 35])) w:=by kernel_rfl
 rw [h2];rfl
set_option maxRecDepth 8000 in
theorem eComp (w:World):(callFunc 141 #[.agg #[Go.typeHandle Tryz.prog 35]]).run Tryz.prog w=.ok (.value (.bool true)) w:=by
 have h:=@run_callFunc_extern Tryz.prog 141 _ (Extern.ReflectliteType.method fun t=>do Rtype.noPackHeld "Comparable" t; pure (.bool (← typeInfo t).comparable)) Tryz.func141 (by kernel_rfl) (by kernel_rfl) (by kernel_rfl) (by kernel_rfl)
 rw [h]
 have h3:((Extern.ReflectliteType.method fun t=>do Rtype.noPackHeld "Comparable" t; pure (.bool (← typeInfo t).comparable)) #[.agg #[Go.typeHandle Tryz.prog 35]]).run Tryz.prog w = .ok (.bool true) w := by kernel_rfl
 rw [h3];rfl
set_option maxRecDepth 8000 in
theorem eMeth:MethAt Tryz.prog 134 (.agg #[Go.typeHandle Tryz.prog 35]) "Comparable" 141 (.agg #[Go.typeHandle Tryz.prog 35]) := fun m w => by kernel_rfl
set_option maxRecDepth 8000 in
theorem eUnd:∃ ms,(Tryz.prog).underlying 31=some (.interface ms):=by
 have h:IfaceT Tryz.prog 31:=inferInstance
 have h:=h.ok
 split at h
 ·rename_i m hm;exact⟨m,hm⟩
 ·cases h
set_option maxRecDepth 8000 in
theorem eInt:(Tryz.prog).underlying 35=some (.int .i64):=by kernel_rfl
set_option maxRecDepth 8000 in
theorem eCmp:((Tryz.prog).info? 35).map (·.comparable)=some true:=by kernel_rfl
def noM (P:Program) (t a:TypeId):Bool:=match P.underlying a with
 | some (.interface want)=>(match (P.info? t).map (fun i=>(lacking want i.methods).isEmpty) with|some false=>true|_=>false) && (match (P.info? a).map (·.zero) with|some (some Value.nilIface)=>true|_=>false)
 | _=>false
set_option maxRecDepth 8000 in
theorem qi0 {ρ:Fr}{ty:TypeId}{pos:String}{af:Array Edge}{x:Operand}{t t':TypeId}{dst:Option Nat}{g:Option (Nat × Bool)}{v:Value}{u:TypeId}(hx:evl ρ x=.iface u v) (h:noM Tryz.prog u t=true):PureV Tryz.prog ⟨dst,.typeAssert x t' t true,ty,pos,af,g⟩ ρ (.tuple #[.nilIface,.bool false]):=by
 unfold noM at h
 split at h
 ·rename_i want hu
  rw [Bool.and_eq_true] at h
  obtain⟨h1,h2⟩:=h
  refine qgM hx hu ?_ ?_
  ·split at h1
   ·assumption
   ·cases h1
  ·split at h2
   ·assumption
   ·cases h2
 ·cases h
set_option maxRecDepth 8000 in
theorem qld {w0:World}(c k:Int) :
  Calls Tryz.prog 49 #[.iface 35 (.int .i64 c),.iface 35 (.int .i64 k),.bool true] w0 fun e w'=>e=.returned (.bool (c == k))∧Sat w0 w' []:=by
 have hw:=Sat.start w0
 obtain⟨ms,hms⟩:=eUnd
 refine qaf (args:=[.iface 35 (.int .i64 c),.iface 35 (.int .i64 k),.bool true]) mixed Tryz.func49 rfl (by kernel_rfl) (Nat.le_of_ble_eq_true rfl) ?_
 repeat (first|refine qac ?_|(refine qaa ?_;clear hw;intro p w hw)|(refine qad ?_;clear hw;intro w hw)|(refine qab ?_;clear hw;intro s w hw))
 refine qao [0,6,7,8,9,10,12,13,14,15,16,17,18,19,20,21,22,23,24,25,26,27,28,29,30,31,32,33,34,35,36,37,38,39,40,41,42,43,44,45,46,47,48,49,50,51,52,53] (G:=Unit) (fun _=>[(0,.iface 35 (.int .i64 c))]) (fun _ w=>Sat w0 w []) (fun _=>0) () (fun _=>rfl) ⟨rfl,trivial⟩ hw ?_
 clear hw
 rintro σ ⟨⟩ w hw
 repeat (first|refine qac ?_|(refine qaa ?_;clear hw;intro p w hw)|(refine qad ?_;clear hw;intro w hw)|(refine qab ?_;clear hw;intro s w hw))
 refine qaE rfl (qjO (a:=c) (b:=k) rfl rfl hms eCmp eInt) ?_
 cases hck:(c == k)
 ·repeat (first|refine qac ?_|(refine qaa ?_;clear hw;intro p w hw)|(refine qad ?_;clear hw;intro w hw)|(refine qab ?_;clear hw;intro s w hw))
  refine qaE rfl (qi0 rfl (by kernel_rfl)) ?_
  repeat (first|refine qac ?_|(refine qaa ?_;clear hw;intro p w hw)|(refine qad ?_;clear hw;intro w hw)|(refine qab ?_;clear hw;intro s w hw))
  refine qaE rfl (qi0 rfl (by kernel_rfl)) ?_
  repeat (first|refine qac ?_|(refine qaa ?_;clear hw;intro p w hw)|(refine qad ?_;clear hw;intro w hw)|(refine qab ?_;clear hw;intro s w hw))
  refine qaE rfl (qi0 rfl (by kernel_rfl)) ?_
  repeat (first|refine qac ?_|(refine qaa ?_;clear hw;intro p w hw)|(refine qad ?_;clear hw;intro w hw)|(refine qab ?_;clear hw;intro s w hw))
  exact qai (v:=.bool false) rfl rfl ⟨rfl,hw⟩
 ·repeat (first|refine qac ?_|(refine qaa ?_;clear hw;intro p w hw)|(refine qad ?_;clear hw;intro w hw)|(refine qab ?_;clear hw;intro s w hw))
  exact qai (v:=.bool true) rfl rfl ⟨rfl,hw⟩
instance ceIs:CallT Tryz.prog 25:=⟨by kernel_rfl⟩
instance ceis:CallT Tryz.prog 49:=⟨by kernel_rfl⟩
set_option maxRecDepth 8000 in
theorem qft {w0:World}(c k:Int) :
  Calls Tryz.prog 25 #[errV c,.iface 35 (.int .i64 k)] w0 fun e w'=>e=.returned (.bool (decide (c≠0∧c=k)))∧Sat w0 w' []:=by
 have hw:=Sat.start w0
 obtain⟨ms,hms⟩:=eUnd
 refine qaf (args:=[errV c,.iface 35 (.int .i64 k)]) mixed Tryz.func25 rfl (by kernel_rfl) (Nat.le_of_ble_eq_true rfl) ?_
 by_cases hc:c=0
 ·rw [qam hc]
  repeat (first|refine qac ?_|(refine qaa ?_;clear hw;intro p w hw)|(refine qad ?_;clear hw;intro w hw)|(refine qab ?_;clear hw;intro s w hw))
  refine qaE rfl (qim rfl rfl hms) ?_
  repeat (first|refine qac ?_|(refine qaa ?_;clear hw;intro p w hw)|(refine qad ?_;clear hw;intro w hw)|(refine qab ?_;clear hw;intro s w hw))
  exact qai (v:=.bool false) rfl rfl ⟨by rw [decide_eq_false fun h=>h.1 hc],hw⟩
 rw [qaj hc]
 repeat (first|refine qac ?_|(refine qaa ?_;clear hw;intro p w hw)|(refine qad ?_;clear hw;intro w hw)|(refine qab ?_;clear hw;intro s w hw))
 refine qk2 rfl (eTypeOf k w0) ?_
 repeat (first|refine qac ?_|(refine qaa ?_;clear hw;intro p w hw)|(refine qad ?_;clear hw;intro w hw)|(refine qab ?_;clear hw;intro s w hw))
 refine qil eMeth rfl rfl (eComp w0) ?_
 repeat (first|refine qac ?_|(refine qaa ?_;clear hw;intro p w hw)|(refine qad ?_;clear hw;intro w hw)|(refine qab ?_;clear hw;intro s w hw))
 refine qag rfl (qld c k) ?_
 rintro _ w' ⟨rfl,hk'⟩
 replace hw:=hw.call0 hk'
 clear hk'
 refine⟨_,rfl,?_⟩
 repeat (first|refine qac ?_|(refine qaa ?_;clear hw;intro p w hw)|(refine qad ?_;clear hw;intro w hw)|(refine qab ?_;clear hw;intro s w hw))
 exact qai (v:=.bool (c == k)) rfl rfl ⟨by rw [show decide (c≠0∧c=k)=(c == k) from ?_];by_cases h:c=k <;> simp [h] at *;assumption,hw⟩
end Go.Proofs.YtdadmnlenbdfbaaGreat
