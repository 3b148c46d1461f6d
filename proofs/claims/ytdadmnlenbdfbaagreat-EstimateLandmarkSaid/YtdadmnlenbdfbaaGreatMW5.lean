/-
  Several texts as one: WEst2, WBack, WPut, WProj.
-/
import Derived.Test.YtdadmnlenbdfbaaGreatMW4
import Derived.Test.YtdadmnlenbdfbaaGreatMW1
import Derived.Test.YtdadmnlenbdfbaaGreatMSlB
import Derived.Test.YtdadmnlenbdfbaaGreatMTA
import Derived.Test.YtdadmnlenbdfbaaGreatMW3
import Derived.Test.YtdadmnlenbdfbaaGreatMW2
set_option linter.unusedSimpArgs false
set_option linter.unusedVariables false
/-
  Contracts of 'estimate.made', 'Blind', of the values of estimates, and of 'For'.
-/
namespace Go.Proofs.YtdadmnlenbdfbaaGreat
open Go.Sl Go
attribute [local irreducible] vc opsW opsD opV opW PureV ReadV Thn Blk
instance inWEst21:MethS Tryz.prog 78 "Value" 125 := ⟨by kernel_rfl⟩
def HVal (w:World) (h:Value) (t:TTask) (H:List Int→Int):Prop :=
 ∃ (T:Nat) (v u:Value) (f:Nat),h=.iface T v∧MethAt Tryz.prog T v "Value" f u ∧ CallT Tryz.prog f ∧ ∀ (w1 : World) (Γ : List HP) (sv : Value) (s : List Int), Sat w w1 Γ → RS tInt w1 sv s → StateOk t.vars s →
  Calls Tryz.prog f #[u,sv] w1 fun e w2=>e=.returned (.int .i64 (H s))∧Sat w1 w2 []
theorem HVal.at {w0 w:World}{Γ:List HP}{h:Value}{t:TTask}{H:List Int→Int}(k:HVal w0 h t H) (hw:Sat w0 w Γ):HVal w h t H:=by
 obtain⟨T,v,u,f,h1,h2,h3,h4⟩:=k
 exact⟨T,v,u,f,h1,h2,h3,fun w1 Δ sv s hs=>h4 w1 (Δ++Γ) sv s (hw.call hs)⟩
def REst (w:World) (p:Addr) (t:TTask) (H:List Int→Int):Prop:=∃ a b c d h vs,BoxR w p [a,b,c,d,h]∧RTask w a b c d vs t∧HVal w h t H
theorem REst.at {w0 w:World}{Γ:List HP}{p:Addr}{t:TTask}{H:List Int→Int}(k:REst w0 p t H) (hw:Sat w0 w Γ):REst w p t H:=by
 obtain⟨a,b,c,d,h,vs,h1,h2,h3⟩:=k
 exact⟨a,b,c,d,h,vs,h1.at hw,h2.at hw,h3.at hw⟩
open Classical in
noncomputable def estV (t:TTask) (H:List Int→Int) (s:List Int):Int:=if StateOk t.vars s then H s else inf
set_option maxRecDepth 8000 in
set_option maxHeartbeats 2000000 in
theorem qaW {w0:World}{p:Addr}{t:TTask}{H:List Int→Int}{sv:Value}{s:List Int}(he:REst w0 p t H) (hs:RS tInt w0 sv s) :
  Calls Tryz.prog 10 #[.pointer (some p),sv] w0 fun e w'=>e=.returned (.int .i64 (estV t H s))∧Sat w0 w' []:=by
 obtain⟨a,b,c,d,h,vs,h1,h2,h3⟩:=he
 have ha:=h2.vars
 have hw:=Sat.start w0
 refine qaf (args:=[.pointer (some p),sv]) mixed Tryz.func10 rfl (by kernel_rfl) (Nat.le_of_ble_eq_true rfl) ?_
 repeat (first|refine qac ?_|(refine qaa ?_;clear hw;intro p w hw)|(refine qad ?_;clear hw;intro w hw)|(refine qab ?_;clear hw;intro s w hw))
 refine qag rfl (qbt (ha.at hw) (hs.at hw)) ?_
 rintro _ w' ⟨⟨r,rfl,hr⟩,hk'⟩
 replace hw:=hw.call0 hk'
 clear hk'
 refine⟨_,rfl,?_⟩
 cases r
 ·have hn:estV t H s=inf:=if_neg fun h=>(by cases hr.2 h)
  repeat (first|refine qac ?_|(refine qaa ?_;clear hw;intro p w hw)|(refine qad ?_;clear hw;intro w hw)|(refine qab ?_;clear hw;intro s w hw))
  exact qai (v:=.int .i64 1125899906842624) rfl rfl ⟨by rw [hn],hw⟩
 have hok:=hr.1 rfl
 have hn:estV t H s=H s:=if_pos hok
 obtain⟨T,v,u,f,rfl,m1,m2,m3⟩:=h3.at hw
 repeat (first|refine qac ?_|(refine qaa ?_;clear hw;intro p w hw)|(refine qad ?_;clear hw;intro w hw)|(refine qab ?_;clear hw;intro s w hw))
 refine qh7 m1 m2 rfl rfl (m3 _ [] sv s (Sat.start _) (hs.at hw) hok) ?_
 rintro _ w' ⟨rfl,hk'⟩
 replace hw:=hw.call0 hk'
 clear hk'
 refine⟨_,rfl,?_⟩
 repeat (first|refine qac ?_|(refine qaa ?_;clear hw;intro p w hw)|(refine qad ?_;clear hw;intro w hw)|(refine qab ?_;clear hw;intro s w hw))
 exact qai (v:=.int .i64 (H s)) rfl rfl ⟨by rw [hn],hw⟩
set_option maxRecDepth 8000 in
set_option maxHeartbeats 2000000 in
theorem qj1 {w0:World}{p:Addr}{u t:TTask}{H:List Int→Int}{a b c d:Value}{vs:List OpV}(he:REst w0 p u H) (ht:RTask w0 a b c d vs t) :
  Calls Tryz.prog 17 #[.pointer (some p),.agg #[a,b,c,d]] w0 fun e w'=>(∃ r,e=.returned (.bool r)∧(r=true↔u=t))∧Sat w0 w' []:=by
 obtain⟨a2,b2,c2,d2,h,us,h1,h2,h3⟩:=he
 have hw:=Sat.start w0
 refine qaf (args:=[.pointer (some p),.agg #[a,b,c,d]]) mixed Tryz.func17 rfl (by kernel_rfl) (Nat.le_of_ble_eq_true rfl) ?_
 repeat (first|refine qac ?_|(refine qaa ?_;clear hw;intro p w hw)|(refine qae ?_;clear hw;intro w hw)|(refine qab ?_;clear hw;intro s w hw))
 refine qay [.op 0,.op 1,.op 2,.op 3,.op 4,.op 5,.op 6,.op 7,.op 8,.op 9,.op 10] hw (by kernel_rfl) ?_;clear hw;intro w hw
 repeat (first|refine qac ?_|(refine qaa ?_;clear hw;intro p w hw)|(refine qae ?_;clear hw;intro w hw)|(refine qab ?_;clear hw;intro s w hw))
 refine qaN rfl (qaQ (k:=0) (n:=4) (vs:=[a2,b2,c2,d2]) rfl (h1.at hw) rfl rfl) ?_
 repeat (first|refine qac ?_|(refine qaa ?_;clear hw;intro p w hw)|(refine qae ?_;clear hw;intro w hw)|(refine qab ?_;clear hw;intro s w hw))
 refine qag rfl (qgg (h2.at hw) (ht.at hw)) ?_
 rintro _ w' ⟨⟨r,rfl,hr⟩,hk'⟩
 replace hw:=hw.call0 hk'
 clear hk'
 refine⟨_,rfl,?_⟩
 repeat (first|refine qac ?_|(refine qaa ?_;clear hw;intro p w hw)|(refine qae ?_;clear hw;intro w hw)|(refine qab ?_;clear hw;intro s w hw))
 exact qai (v:=.bool r) rfl rfl ⟨⟨r,rfl,hr⟩,hw.sel⟩
def leastK (t:TTask) (k:Nat):Int:=(t.ops.take k).foldl (fun m o=>min m o.cost) inf
def leastC (t:TTask):Int:=leastK t t.ops.length
def blindH (t:TTask) (s:List Int):Int:=if HoldFs s t.goal then 0 else leastC t
set_option maxRecDepth 8000 in
theorem qgU {w0:World}{gv sv:Value}{g:List Fact}{n:Int}{s:List Int}(hg:RS tFact w0 gv g) (hs:RS tInt w0 sv s) :
  Calls Tryz.prog 125 #[.agg #[gv,.int .i64 n],sv] w0 fun e w'=>e=.returned (.int .i64 (if HoldFs s g then 0 else n))∧Sat w0 w' []:=by
 have hw:=Sat.start w0
 refine qaf (args:=[.agg #[gv,.int .i64 n],sv]) mixed Tryz.func125 rfl (by kernel_rfl) (Nat.le_of_ble_eq_true rfl) ?_
 repeat (first|refine qac ?_|(refine qaa ?_;clear hw;intro p w hw)|(refine qad ?_;clear hw;intro w hw)|(refine qab ?_;clear hw;intro s w hw))
 refine qag rfl (qg4 (hg.at hw) (hs.at hw)) ?_
 rintro _ w' ⟨⟨r,rfl,hr⟩,hk'⟩
 replace hw:=hw.call0 hk'
 clear hk'
 refine⟨_,rfl,?_⟩
 cases r
 ·have hn:¬HoldFs s g:=fun h=>by have:=hr.2 h;cases this
  rw [if_neg hn]
  repeat (first|refine qac ?_|(refine qaa ?_;clear hw;intro p w hw)|(refine qad ?_;clear hw;intro w hw)|(refine qab ?_;clear hw;intro s w hw))
  exact qai (v:=.int .i64 n) rfl rfl ⟨rfl,hw.sel⟩
 ·rw [if_pos (hr.1 rfl)]
  repeat (first|refine qac ?_|(refine qaa ?_;clear hw;intro p w hw)|(refine qad ?_;clear hw;intro w hw)|(refine qab ?_;clear hw;intro s w hw))
  exact qai (v:=.int .i64 0) rfl rfl ⟨rfl,hw.sel⟩
set_option maxRecDepth 8000 in
set_option maxHeartbeats 2000000 in
theorem qb4 {w0:World}{a b c d h:Value}{vs:List OpV}{t:TTask}{H:List Int→Int}(ht:RTask w0 a b c d vs t) (hg:GoodT t) (hh:∃ T v,h=.iface T v) :
  Calls Tryz.prog 19 #[.agg #[a,b,c,d],h,.nilIface] w0 fun e w'=>∃ p,e=.returned (.tuple #[.pointer (some p),.nilIface])∧Sat w0 w' [RdH fun w=>HVal w h t H→REst w p t H]:=by
 obtain⟨T,v,rfl⟩:=hh
 have hw:=Sat.start w0
 refine qaf (args:=[.agg #[a,b,c,d],.iface T v,.nilIface]) mixed Tryz.func19 rfl (by kernel_rfl) (Nat.le_of_ble_eq_true rfl) ?_
 repeat (first|refine qac ?_|(refine qaa ?_;clear hw;intro p w hw)|(refine qad ?_;clear hw;intro w hw)|(refine qab ?_;clear hw;intro s w hw))
 refine qag rfl (qbR (ht.at hw) hg) ?_
 rintro _ w' ⟨a2,b2,c2,d2,vs2,rfl,hk'⟩
 replace hw:=hw.call1 hk'
 clear hk'
 refine⟨_,rfl,?_⟩
 have ht2:=hw.rdE 0 rfl
 have o1:=ht2.vars.cells1
 have o2:=ht2.init.cells1
 have o3:=ht2.goal.cells1
 have o4:=ht2.ops.rs.cells1
 repeat (first|refine qac ?_|(refine qaa ?_;clear hw;intro p w hw)|(refine qae ?_;clear hw;intro w hw)|(refine qab ?_;clear hw;intro s w hw))
 refine qau (vs:=[(0,.agg #[a2,b2,c2,d2]),(1,.iface T v)]) (ls:=[(0,[a2,b2,c2,d2]),(1,[.iface T v])]) rfl rfl rfl ?_
 refine qbr (vs:=[a2,b2,c2,d2,.iface T v]) rfl hw ?_
 clear hw
 intro pe w hw
 repeat (first|refine qac ?_|(refine qaa ?_;clear hw;intro p w hw)|(refine qae ?_;clear hw;intro w hw)|(refine qab ?_;clear hw;intro s w hw))
 have hw1:Sat w0 w [RdH fun w=>HVal w (.iface T v) t H→REst w pe t H]:=by
  have hw2:Sat w0 w [Box pe 69 [a2,b2,c2,d2,.iface T v],RdH fun w=>RTask w a2 b2 c2 d2 vs2 t,Box p 26 (Value.agg #[a,b,c,d]).cells.toList]:=hw
  exact (Sat.rd (Δ:=[Box pe 69 [a2,b2,c2,d2,.iface T v],RdH fun w=>RTask w a2 b2 c2 d2 vs2 t]) (φ:=fun w=>HVal w (.iface T v) t H→REst w pe t H) (fun _ w h hh=>⟨a2,b2,c2,d2,.iface T v,vs2,h.boxR 0 rfl,h.rdE 1 rfl,hh⟩) hw2).sel
 exact qaw (v:=.pointer (some pe)) (v':=.nilIface) rfl rfl rfl ⟨pe,rfl,hw1⟩
end Go.Proofs.YtdadmnlenbdfbaaGreat
/-
  The iterator of 'slices.Backward' over ints: its contract for whatever loop's body.
-/
namespace Go.Proofs.YtdadmnlenbdfbaaGreat
open Go.Sl Go
attribute [local irreducible] vc opsW opsD opV opW PureV ReadV Thn Blk
end Go.Proofs.YtdadmnlenbdfbaaGreat
/-
  Contract of 'project.put': a range over 'slices.Backward'.
-/
namespace Go.Proofs.YtdadmnlenbdfbaaGreat
open Go.Sl Go
attribute [local irreducible] vc opsW opsD opV opW PureV ReadV Thn Blk
end Go.Proofs.YtdadmnlenbdfbaaGreat
/-
  Contracts of 'project.check', 'count', 'number', 'has', 'outside'.
-/
namespace Go.Proofs.YtdadmnlenbdfbaaGreat
open Go.Sl Go
attribute [local irreducible] vc opsW opsD opV opW PureV ReadV Thn Blk
instance (vars p:List Int):Decidable (PatOk vars p):=by unfold PatOk;infer_instance
end Go.Proofs.YtdadmnlenbdfbaaGreat
