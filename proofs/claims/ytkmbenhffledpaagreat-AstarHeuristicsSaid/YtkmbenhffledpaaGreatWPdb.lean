/-
  Contracts of the pattern databases: 'Build', 'Table', 'Pattern', 'Value', 'Dead', 'Saturated'.
-/
import Derived.Test.YtkmbenhffledpaaGreatWPdbDist
import Derived.Test.YtkmbenhffledpaaGreatMW11
set_option linter.unusedSimpArgs false
set_option linter.unusedVariables false
namespace Go.Proofs.YtkmbenhffledpaaGreat
open Go.Sl Go
attribute [local irreducible] vc opsW opsD opV opW PureV ReadV Thn Blk
structure DbI where
 vars:List Int
 pat:List Int
 sys:SysV
 tab:List Int
def dbC (X:DbI) (vv pv cv ev gv tv:Value):List Value:=[vv,pv,.int .i64 X.sys.st,.int .i64 X.sys.ini,cv,ev,gv,tv]
def dbL (p:Addr) (X:DbI) (vv pv cv ev gv tv:Value):List HP:=[Box p 214 (dbC X vv pv cv ev gv tv),OS tInt 3 vv X.vars,OS tInt 3 pv X.pat,OS tInt 3 cv X.sys.costs,OS tEdg 208 ev X.sys.edges,OS tBool 4 gv X.sys.goals,OS tInt 3 tv X.tab]
@[irreducible] def DbO (p:Addr) (X:DbI):HP:=fun h=>∃ vv pv cv ev gv tv,SatL (dbL p X vv pv cv ev gv tv) h
theorem satDbOpen {w0 w:World}{Γ:List HP}{p:Addr}{X:DbI}(hw:Sat w0 w (DbO p X::Γ)):∃ vv pv cv ev gv tv,Sat w0 w (dbL p X vv pv cv ev gv tv++Γ):=by
 unfold DbO at hw
 obtain⟨h1,h2,d,s1,s2,⟨vv,pv,cv,ev,gv,tv,a⟩,g⟩:=hw.sat
 exact⟨vv,pv,cv,ev,gv,tv,hw.below,SatL.app _ d s1 s2 a g⟩
theorem satDbShut {w0 w:World}{Γ:List HP}{p:Addr}{X:DbI}{vv pv cv ev gv tv:Value}(hw:Sat w0 w (dbL p X vv pv cv ev gv tv++Γ)):Sat w0 w (DbO p X::Γ):=by
 unfold DbO
 obtain⟨h1,h2,d,s1,s2,a,g⟩:=SatL.split _ hw.sat
 exact⟨hw.below,h1,h2,d,s1,s2,⟨vv,pv,cv,ev,gv,tv,a⟩,g⟩
def RDb (w:World) (p:Addr) (X:DbI):Prop:=∃ vv pv cv ev gv tv,BoxR w p (dbC X vv pv cv ev gv tv)∧RS tInt w vv X.vars∧RS tInt w pv X.pat∧RS tInt w cv X.sys.costs∧RS tEdg w ev X.sys.edges∧RS tBool w gv X.sys.goals∧RS tInt w tv X.tab
theorem RDb.at {w0 w:World}{Γ:List HP}{p:Addr}{X:DbI}(h:RDb w0 p X) (hw:Sat w0 w Γ):RDb w p X:=by
 obtain⟨vv,pv,cv,ev,gv,tv,h0,h1,h2,h3,h4,h5,h6⟩:=h
 exact⟨vv,pv,cv,ev,gv,tv,h0.at hw,h1.at hw,h2.at hw,h3.at hw,h4.at hw,h5.at hw,h6.at hw⟩
theorem satRdb {w0 w:World}{Γ:List HP}{p:Addr}{X:DbI}(hw:Sat w0 w Γ) (i:Nat) (hi:Γ[i]? = some (DbO p X)):RDb w p X:=by
 obtain⟨vv,pv,cv,ev,gv,tv,h⟩:=satDbOpen (hw.focus i hi)
 exact⟨vv,pv,cv,ev,gv,tv,h.boxR 0 rfl,h.rs 1 rfl,h.rs 2 rfl,h.rs 3 rfl,h.rs 4 rfl,h.rs 5 rfl,h.rs 6 rfl⟩
class DbAt (Γ:List HP) (p:Addr) (X:outParam DbI):Prop where
 ok:∃ i:Nat,Γ[i]? = some (DbO p X)
instance (priority:=high) db_here {p:Addr}{X:DbI}{Γ:List HP}:DbAt (DbO p X::Γ) p X:=⟨0,rfl⟩
theorem rdbO {w0 w:World}{Γ:List HP}{p:Addr}{X:DbI} [h:DbAt Γ p X] (hw:Sat w0 w Γ):RDb w p X:=by
 obtain⟨i,hi⟩:=h.ok
 exact satRdb hw i hi
structure DbOk (X:DbI):Prop where
 pos:∀ x∈X.vars,1≤x
 mem:∀ v∈X.pat,0≤v∧v<X.vars.length
 cnt:cntL X.vars X.pat≤4096
 tab:X.tab.length=(cntL X.vars X.pat).toNat
 lab:∀ e∈X.sys.edges,0≤e.lab∧e.lab<X.sys.costs.length
 src:∀ e∈X.sys.edges,0≤e.src∧e.src<X.tab.length
 dst:∀ e∈X.sys.edges,0≤e.dst∧e.dst<X.tab.length
 rng:∀ i:Nat,i<X.tab.length→0≤dg X.tab i∧dg X.tab i≤inf
 vlen:X.vars.length≤64
 clen:X.sys.costs.length≤4096
 elen:X.sys.edges.length≤65536
open Classical in
noncomputable def valD (X:DbI) (s:List Int):Int:=if StateOk X.vars s then dg X.tab (idxL X.vars X.pat s) else 1125899906842624
theorem qpx {X:DbI}{s:List Int}(h:StateOk X.vars s):valD X s=dg X.tab (idxL X.vars X.pat s):=if_pos h
theorem qtc {X:DbI}{s:List Int}(h:¬StateOk X.vars s):valD X s=1125899906842624:=if_neg h
set_option maxRecDepth 8000 in
set_option maxHeartbeats 2000000 in
theorem qnE {w0:World}{p:Addr}{X:DbI}{sv:Value}{s:List Int}(hd:RDb w0 p X) (ho:DbOk X) (hs:RS tInt w0 sv s) :
  Calls Tryz.prog 205 #[.pointer (some p),sv] w0 fun e w'=>e=.returned (.int .i64 (valD X s))∧Sat w0 w' []:=by
 obtain⟨vv,pv,cv,ev,gv,tv,h0,h1,h2,h3,h4,h5,h6⟩:=hd
 have hlp:=h2.big
 have htl:=ho.tab
 have hcl:=ho.cnt
 have hw:=Sat.start w0
 refine qab (args:=[.pointer (some p),sv]) mixed Tryz.func205 rfl (by kernel_rfl) (Nat.le_of_ble_eq_true rfl) ?_
 repeat refine qaa ?_
 refine qac rfl (qbd h1 (hs.at hw)) ?_
 rintro _ w' ⟨⟨r,rfl,hr⟩,hk'⟩
 replace hw:=hw.call0 hk'
 clear hk'
 refine⟨_,rfl,?_⟩
 cases r
 ·rw [qtc (fun h=>by have:=hr.2 h;cases this)]
  repeat refine qaa ?_
  exact qae (v:=.int .i64 1125899906842624) rfl rfl ⟨rfl,hw⟩
 have hok:=hr.1 rfl
 have hls:=hok.1
 rw [qpx hok]
 repeat refine qaa ?_
 refine qao [5,7,22,23,24,25,26,27,28,29,30,31,32,33,34,35,36,37,38,39,40] (G:=Nat) (H:=Int) (fun k n=>[(22,.int .i64 k),(5,.int .i64 n)]) (fun k n w=>k≤X.pat.length∧n=idxL X.vars (X.pat.take k) s∧Sat w0 w []) (fun k _=>X.pat.length-k) 0 0 (fun _ _=>rfl) ⟨rfl,rfl,trivial⟩ ⟨Nat.zero_le _,rfl,hw⟩ ?_
 clear hw
 rintro σ k n w ⟨hk,hn,hw⟩
 repeat refine qaa ?_
 refine go_if (fun h7 => ?_) (fun h7 => ?_)
 ·have hkl:k<X.pat.length:=by omega
  have hv:=ho.mem _ (qak tInt.dflt hkl)
  have hr:=hok.rng hv.1 hv.2
  have hb1:=qaF (p:=X.pat.take k) hok fun v hv=>ho.mem v (List.mem_of_mem_take hv)
  have hb2:=qaF (p:=X.pat.take (k+1)) hok fun v hv=>ho.mem v (List.mem_of_mem_take hv)
  have hle:=qgl ho.pos ho.mem (k+1)
  have hS:=qhw (vars:=X.vars) (s:=s) hkl
  rw [←hn] at hb1 hS
  simp only [sg] at hS hr
  have b0:0≤n*X.vars.getD (X.pat.getD k tInt.dflt).toNat tInt.dflt:=Int.mul_nonneg (by omega) (by omega)
  repeat (first|refine qaa ?_|(refine qag ?_;clear hw;intro w hw))
  exact⟨k+1,_,⟨rfl,rfl,trivial⟩,agr,⟨by omega,hS.symm,hw⟩,by omega⟩
 ·rw [List.take_of_length_le (by omega)] at hn
  have hb:=qaF hok ho.mem
  subst hn
  repeat refine qaa ?_
  exact qae (v:=.int .i64 (dg X.tab (idxL X.vars X.pat s))) rfl rfl ⟨rfl,hw⟩
set_option maxRecDepth 8000 in
set_option maxHeartbeats 2000000 in
theorem qg6 {w0:World}{p:Addr}{X:DbI}(hd:RDb w0 p X) (ho:DbOk X) :
  Calls Tryz.prog 84 #[.pointer (some p)] w0 fun e w'=>∃ s,e=.returned s∧Sat w0 w' [OS tInt 3 s (satL X.sys.edges X.tab X.sys.costs.length)]:=by
 obtain⟨vv,pv,cv,ev,gv,tv,h0,h1,h2,h3,h4,h5,h6⟩:=hd
 have htl:=ho.tab
 have hcl:=ho.cnt
 have hcn:=ho.clen
 have hel:=ho.elen
 have hw:=Sat.start w0
 refine qab (args:=[.pointer (some p)]) mixed Tryz.func84 rfl (by kernel_rfl) (Nat.le_of_ble_eq_true rfl) ?_
 repeat (first|refine qaa ?_|(refine qaq ?_;clear hw;intro s w hw))
 obtain⟨ov,hov⟩:∃ ov,ov=s:=⟨s,rfl⟩
 subst hov
 rw [Int.toNat_natCast,←qnQ X.sys.edges X.tab X.sys.costs.length] at hw
 refine qap [5,6,7,23,24,25,26,27,28,29,30,31,32,33,34,35,36,37,38,39,40,41,42,43,44,45,46,47,48,49,50,51,52,53,54,55,56,57,58,59,60,61,62] (G:=Nat) (fun k=>[(23,.int .i64 k)]) (fun k w=>k≤X.sys.edges.length∧Sat w0 w [OS tInt 3 ov (satK X.sys.edges X.tab X.sys.costs.length k)]) (fun k=>X.sys.edges.length-k) 0 (fun _=>rfl) ⟨rfl,trivial⟩ ⟨Nat.zero_le _,hw⟩ ?_
 clear hw
 rintro σ k w ⟨hk,hw⟩
 have hsl:=qh1 (E:=X.sys.edges) (D:=X.tab) (m:=X.sys.costs.length) k hk
 repeat refine qaa ?_
 refine go_if (fun h7 => ?_) (fun h7 => ?_)
 ·have hkl:k<X.sys.edges.length:=by omega
  have hme:=qak tEdg.dflt hkl
  have e1:=ho.lab _ hme
  have e2:=ho.src _ hme
  have e3:=ho.dst _ hme
  have r2:=ho.rng (X.sys.edges.getD k tEdg.dflt).src.toNat (by omega)
  have r3:=ho.rng (X.sys.edges.getD k tEdg.dflt).dst.toNat (by omega)
  rw [Int.toNat_of_nonneg e2.1] at r2
  rw [Int.toNat_of_nonneg e3.1] at r3
  have hss:=qfJ (D:=X.tab) (m:=X.sys.costs.length) hkl
  simp only [satStep,dg,cst,inf] at hss r2 r3
  repeat (first|refine qaY ?_|(refine qaf ?_;clear hw;intro p w hw)|(refine qag ?_;clear hw;intro w hw))
  refine go_if (fun h8 => ?_) (fun h8 => ?_)
  ·rw [if_pos h8] at hss
   repeat (first|refine qaa ?_|(refine qag ?_;clear hw;intro w hw))
   rw [←hss] at hw
   exact⟨k+1,⟨rfl,trivial⟩,agr,⟨by omega,hw.tail⟩,by omega⟩
  ·rw [if_neg (by omega)] at hss
   repeat refine qaa ?_
   rw [←hss] at hw
   exact⟨k+1,⟨rfl,trivial⟩,agr,⟨by omega,hw.tail⟩,by omega⟩
 ·have hke:k=X.sys.edges.length:=by omega
  subst hke
  repeat refine qaa ?_
  exact qae (v:=ov) rfl rfl ⟨ov,rfl,hw⟩
end Go.Proofs.YtkmbenhffledpaaGreat
