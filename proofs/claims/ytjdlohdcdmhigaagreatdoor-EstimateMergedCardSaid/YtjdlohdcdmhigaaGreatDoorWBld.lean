/-
  Contracts of (*strings.Builder).copyCheck, WriteString, String.
-/
import Derived.Test.YtjdlohdcdmhigaaGreatDoorMW1
import Derived.Test.YtjdlohdcdmhigaaGreatDoorMSlB
import Derived.Shelf.Strings.Builder1
set_option linter.unusedSimpArgs false
set_option linter.unusedVariables false
namespace Go.Proofs.YtjdlohdcdmhigaaGreatDoor
open Go.Sl Go Go.Shelf
attribute [local irreducible] vc opsW opsD opV opW PureV ReadV Thn Blk
def renB:Ren:=⟨fun k=>bif Nat.beq k 240 then 200 else bif Nat.beq k 276 then 221 else 0,fun k=>bif Nat.beq k 0 then 0 else bif Nat.beq k 37 then 279 else bif Nat.beq k 4 then 4 else bif Nat.beq k 9 then 9 else bif Nat.beq k 20 then 20 else bif Nat.beq k 70 then 278 else bif Nat.beq k 72 then 281 else bif Nat.beq k 164 then 318 else bif Nat.beq k 5 then 5 else 0,fun k=>k⟩
set_option maxRecDepth 100000 in
theorem layB:Lays.n240 Tryz.prog renB:={ mixed:=mixed,f240:=Tryz.func200.trans (by kernel_rfl),f276:=Tryz.func221.trans (by kernel_rfl),t0:=by kernel_rfl,a0:=fun w=>by kernel_rfl,z0:=fun w=>by kernel_rfl,v0:=fun w=>by kernel_rfl,t4:=by kernel_rfl,a4:=fun w=>by kernel_rfl,z4:=fun w=>by kernel_rfl,v4:=fun w=>by kernel_rfl,t9:=by kernel_rfl,a9:=fun w=>by kernel_rfl,z9:=fun w=>by kernel_rfl,v9:=fun w=>by kernel_rfl,t20:=by kernel_rfl,a20:=fun w=>by kernel_rfl,z20:=fun w=>by kernel_rfl,v20:=fun w=>by kernel_rfl,t70:=by kernel_rfl,a70:=fun w=>by kernel_rfl,z70:=fun w=>by kernel_rfl,v70:=fun w=>by kernel_rfl,t72:=by kernel_rfl,a72:=fun w=>by kernel_rfl,z72:=fun w=>by kernel_rfl,v72:=fun w=>by kernel_rfl,t164:=by kernel_rfl,a164:=fun w=>by kernel_rfl,z164:=fun w=>by kernel_rfl,v164:=fun w=>by kernel_rfl }
theorem xtraB:Builder.X72 Tryz.prog renB:=⟨by kernel_rfl,by kernel_rfl⟩
theorem qkb {w0 w:World}{Γ:List HP}{p:Addr}{a:Option Addr}{sv:Value}(hw:Sat w0 w (Box p 281 [.pointer a,sv]::Γ)) (ha:a=none∨a=some p) :
  Calls Tryz.prog 200 #[.pointer (some p)] w fun e w'=>e=.returned (.tuple #[])∧Sat w0 w' (Box p 281 [.pointer (some p),sv]::Γ):=by
 obtain⟨hp,hc,hsh,hfz⟩:=hw.boxAt0
 rw [hp] at hc hfz ha ⊢
 rcases ha with rfl|rfl
 ·refine Calls.mono (Any.Builder_copyCheck_fresh layB xtraB p.block w hc hsh hfz) ?_
  rintro e w' ⟨he,rfl⟩
  rw [hp] at hw
  exact⟨he,hw.setCell0⟩
 ·refine Calls.mono (Any.Builder_copyCheck_used layB xtraB p.block w hc) ?_
  rintro e w' ⟨he,rfl⟩
  rw [hp] at hw
  exact⟨he,hw⟩
instance inBldC:CallT Tryz.prog 200:=⟨by kernel_rfl⟩
instance inBldW:CallT Tryz.prog 178:=⟨by kernel_rfl⟩
instance inBldS:CallT Tryz.prog 181:=⟨by kernel_rfl⟩
set_option maxRecDepth 8000 in
set_option maxHeartbeats 4000000 in
theorem qjf {w0 w:World}{Γ:List HP}{p:Addr}{a:Option Addr}{sv:Value}{l:List UInt8}{b:ByteArray}(hw:Sat w0 w (Box p 281 [.pointer a,sv]::OS tU8 5 sv (bytesU l)::Γ)) (ha:a=none∨a=some p) (hl:l.length≤1073741824) (hb:b.size≤1073741824) :
  Calls Tryz.prog 178 #[.pointer (some p),.string b] w fun e w'=>(∃ v,e=.returned v)∧∃ sv',Sat w0 w' (Box p 281 [.pointer (some p),sv']::OS tU8 5 sv' (bytesU (l++b.data.toList))::Γ):=by
 refine qaf (args:=[.pointer (some p),.string b]) mixed Tryz.func178 rfl (by kernel_rfl) (Nat.le_of_ble_eq_true rfl) ?_
 repeat (first|refine qac ?_|(refine qaa ?_;clear hw;intro p w hw)|(refine qad ?_;clear hw;intro w hw)|(refine qab ?_;clear hw;intro s w hw))
 refine qah rfl (qkb hw ha) ?_
 rintro _ w' ⟨rfl,hw'⟩;clear hw;have hw:=hw';clear hw';refine⟨_,rfl,?_⟩
 have hbl:b.data.toList.length=b.size:=rfl
 have h1:(bytesU l).length=l.length:=by simp [bytesU]
 have h2:(bytesU b.data.toList).length=b.size:=by simp [bytesU]
 repeat (first|refine qac ?_|(refine qaa ?_;clear hw;intro p w hw)|(refine qad ?_;clear hw;intro w hw)|(refine qab ?_;clear hw;intro s w hw))
 refine qjC (s:=sv) (ys:=bytesU b.data.toList) inferInstance rfl rfl rfl rfl rfl (by omega) (by unfold big;omega) hw ?_
 clear hw;intro s w hw
 repeat (first|refine qac ?_|(refine qaa ?_;clear hw;intro p w hw)|(refine qad ?_;clear hw;intro w hw)|(refine qab ?_;clear hw;intro s w hw))
 have e:bytesU (l++b.data.toList)=bytesU l++bytesU b.data.toList:=by simp [bytesU]
 exact qay (v:=.int .i64 (b.size:Nat)) (v':=.nilIface) rfl rfl rfl ⟨⟨_,rfl⟩,s,by rw [e];exact hw⟩
set_option maxRecDepth 8000 in
set_option maxHeartbeats 4000000 in
theorem qlX {w0 w:World}{Γ:List HP}{p:Addr}{a:Value}{sv:Value}{l:List UInt8}(hw:Sat w0 w (Box p 281 [a,sv]::OS tU8 5 sv (bytesU l)::Γ)) (h0:l≠[]) (hl:l.length≤1073741824) :
  Calls Tryz.prog 181 #[.pointer (some p)] w fun e w'=>e=.returned (.string ⟨l.toArray⟩)∧Sat w0 w' Γ:=by
 obtain⟨b,off,cap,rfl,hlc,_⟩:=hw.bytes (i:=1) rfl h0
 have hc0:cap≠0:=by
  cases l with
  | nil=>exact absurd rfl h0
  | cons x r=>simp only [List.length_cons] at hlc;omega
 have hbl:(bytesU l).length=l.length:=by simp [bytesU]
 refine qaf (args:=[.pointer (some p)]) mixed Tryz.func181 rfl (by kernel_rfl) (Nat.le_of_ble_eq_true rfl) ?_
 repeat (first|refine qac ?_|(refine qaa ?_;clear hw;intro p w hw)|(refine qad ?_;clear hw;intro w hw)|(refine qab ?_;clear hw;intro s w hw))
 refine qax [.op 0,.op 1,.op 2,.op 3,.op 5,.op 6,.op 7,.op 8,.op 9,.op 4,.chk 8,.op 10,.op 11] hw (by kernel_rfl) ?_;clear hw;intro w hw
 repeat (first|refine qac ?_|(refine qaa ?_;clear hw;intro p w hw)|(refine qad ?_;clear hw;intro w hw)|(refine qab ?_;clear hw;intro s w hw))
 refine qgV rfl hc0 ?_
 repeat (first|refine qac ?_|(refine qaa ?_;clear hw;intro p w hw)|(refine qad ?_;clear hw;intro w hw)|(refine qab ?_;clear hw;intro s w hw))
 rw [hbl]
 refine qgW (e:=5) (i:=1) (l:=l) (b:=b) (off:=off) (by kernel_rfl) (by kernel_rfl) rfl rfl rfl h0 (by omega) hw rfl ?_
 clear hw;intro w hw
 repeat (first|refine qac ?_|(refine qaa ?_;clear hw;intro p w hw)|(refine qad ?_;clear hw;intro w hw)|(refine qab ?_;clear hw;intro s w hw))
 exact qai (v:=.string ⟨l.toArray⟩) rfl rfl ⟨rfl,hw.tail.tail⟩
end Go.Proofs.YtjdlohdcdmhigaaGreatDoor
