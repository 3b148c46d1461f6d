/-
  Several texts as one: TPdb, WPdb, WPdbBuild, TRun.
-/
import Derived.Test.YtggdgcmjcahbbaaGreatDoorMW6
import Derived.Test.YtggdgcmjcahbbaaGreatDoorMW7
import Derived.Test.YtggdgcmjcahbbaaGreatDoorMTA
set_option linter.unusedSimpArgs false
set_option linter.unusedVariables false
/-
  Plain facts about tables of least costs: least walks are short, other costs, saturated costs, wider patterns.
-/
namespace Go.Proofs.YtggdgcmjcahbbaaGreatDoor
open Go.Sl Go
section
variable {E:List Edg}{c c':List Int}{G:Int→Prop}{n:Nat}{D D':List Int}{C:Int}
def satStep (D l:List Int) (e:Edg):List Int:=if dg D e.src<inf∧dg D e.dst<inf then l.set e.lab.toNat (if dg D e.src-dg D e.dst>cst l e then dg D e.src-dg D e.dst else cst l e) else l
def satK (E:List Edg) (D:List Int) (m k:Nat):List Int:=(E.take k).foldl (satStep D) (List.replicate m 0)
def satL (E:List Edg) (D:List Int) (m:Nat):List Int:=satK E D m E.length
theorem ql4 (E:List Edg) (D:List Int) (m:Nat):satK E D m 0=List.replicate m 0:=rfl
theorem qe3 {m k:Nat}(hk:k<E.length):satK E D m (k+1)=satStep D (satK E D m k) (E.getD k tEdg.dflt):=by
 rw [satK,qal tEdg.dflt hk,List.foldl_append];rfl
theorem qiE (D l:List Int) (e:Edg):(satStep D l e).length=l.length:=by unfold satStep;split <;> simp
theorem qgF {m:Nat}:∀ k,k≤E.length→(satK E D m k).length=m
 | 0,_=>by simp [satK]
 | k+1,h=>by rw [qe3 (by omega),qiE,qgF k (by omega)]
theorem qnU {m:Nat}:(satL E D m).length=m:=qgF _ (Nat.le_refl _)
structure SatOk (E:List Edg) (D:List Int) (m:Nat) (l:List Int):Prop where
 len:l.length=m
 nn:∀ i:Nat,i<m→0≤l.getD i tInt.dflt
 low:∀ e∈E,dg D e.src<inf→dg D e.dst<inf→dg D e.src-dg D e.dst≤cst l e
 att:∀ i:Nat,i<m→l.getD i tInt.dflt=0∨∃ e∈E,e.lab=i∧dg D e.src<inf∧dg D e.dst<inf∧l.getD i tInt.dflt=dg D e.src-dg D e.dst
theorem ql5 {m:Nat}(hlab:∀ e∈E,0≤e.lab∧e.lab<m):∀ k,k≤E.length→SatOk (E.take k) D m (satK E D m k)
 | 0,_=>⟨by simp [satK],fun i hi=>by simp [satK,List.getD,hi],fun e he=>by simp at he,fun i hi=>.inl (by simp [satK,List.getD,hi])⟩
 | k+1,h=>by
  have hk:k<E.length:=by omega
  obtain⟨h1,h2,h3,h4⟩:=ql5 hlab k (by omega)
  have he:=qah tEdg.dflt hk
  have hl:=hlab _ he
  rw [qe3 hk,qal tEdg.dflt hk]
  generalize satK E D m k=l at h1 h2 h3 h4
  generalize E.getD k tEdg.dflt=e at he hl
  have hg:∀ (i:Int) (v:Int),0≤i→(l.set e.lab.toNat v).getD i.toNat tInt.dflt=if i=e.lab then v else l.getD i.toNat tInt.dflt:=fun i v hi=>qjj hi hl.1 (by omega)
  unfold satStep
  split
  ·rename_i hf
   have hmono:∀ i:Int,0≤i→l.getD i.toNat tInt.dflt≤(l.set e.lab.toNat (if dg D e.src-dg D e.dst>cst l e then dg D e.src-dg D e.dst else cst l e)).getD i.toNat tInt.dflt:=by
    intro i hi
    rw [hg i _ hi]
    split
    ·rename_i ei;subst ei;show cst l e≤_;split <;> omega
    ·exact Int.le_refl _
   refine⟨by rw [List.length_set];exact h1,fun i hi => ?_,fun e' he' a b => ?_,fun i hi => ?_⟩
   ·have:=hmono i (by omega);rw [Int.toNat_natCast] at this;have:=h2 i hi;omega
   ·rcases List.mem_append.1 he' with he'|he'
    ·have hl':=hlab e' (List.mem_of_mem_take he')
     exact Int.le_trans (h3 e' he' a b) (hmono e'.lab hl'.1)
    ·rw [List.mem_singleton.1 he']
     show _≤(l.set e.lab.toNat _).getD e.lab.toNat tInt.dflt
     rw [hg _ _ hl.1,if_pos rfl];split <;> omega
   ·have hgi:=hg i (if dg D e.src-dg D e.dst>cst l e then dg D e.src-dg D e.dst else cst l e) (by omega)
    rw [Int.toNat_natCast] at hgi
    rw [hgi]
    split
    ·rename_i ei
     split
     ·exact .inr ⟨e,by simp,ei.symm,hf.1,hf.2,rfl⟩
     ·have e1:cst l e=l.getD i tInt.dflt:=by show l.getD e.lab.toNat tInt.dflt=_;rw [←ei];rfl
      rw [e1]
      rcases h4 i hi with h|⟨e',a,b⟩
      ·exact .inl h
      ·exact .inr ⟨e',List.mem_append_left _ a,b⟩
    ·rcases h4 i hi with h|⟨e',a,b⟩
     ·exact .inl h
     ·exact .inr ⟨e',List.mem_append_left _ a,b⟩
  ·rename_i hf
   refine⟨h1,h2,fun e' he' a b => ?_,fun i hi => ?_⟩
   ·rcases List.mem_append.1 he' with he'|he'
    ·exact h3 e' he' a b
    ·rw [List.mem_singleton.1 he'] at a b;exact absurd ⟨a,b⟩ hf
   ·rcases h4 i hi with h|⟨e',a,b⟩
    ·exact .inl h
    ·exact .inr ⟨e',List.mem_append_left _ a,b⟩
theorem qpq {m:Nat}(hlab:∀ e∈E,0≤e.lab∧e.lab<m):SatOk E D m (satL E D m):=by
 have:=ql5 (D:=D) hlab E.length (Nat.le_refl _)
 rwa [List.take_length] at this
theorem SatOk.le {l:List Int}(hE:EOk E c n) (hd:DistOk E c G n D) (hs:SatOk E D c.length l) {i:Nat}(hi:i<c.length):0≤l.getD i tInt.dflt∧l.getD i tInt.dflt≤c.getD i tInt.dflt:=by
 refine⟨hs.nn i hi,?_⟩
 rcases hs.att i hi with h|⟨e,he,hl,h1,h2,h3⟩
 ·rw [h];exact (hE.cost _ (qah _ hi)).1
 ·rw [h3]
  have:=hd.stab hE he h2
  have e1:cst c e=c.getD i tInt.dflt:=by show c.getD e.lab.toNat tInt.dflt=_;rw [hl];rfl
  omega
end
theorem qpZ {t:TTask}{L c D:List Int}(hL:InV t.vars L) (h:DistOk (pEdges t L) c (GoalPK t L) (cntL t.vars L).toNat D) {s:List Int}(hs:StateOk t.vars s) (hh:HoldFs s t.goal):dg D (idxL t.vars L s)=0:=by
 have hb:=qaK hs hL.mem
 have:=h.goal (i:=(idxL t.vars L s).toNat) (by omega) (by rw [Int.toNat_of_nonneg hb.1];exact qmx hL hs hh)
 rwa [Int.toNat_of_nonneg hb.1] at this
theorem qiF {t:TTask}{L c D:List Int}(hL:InV t.vars L) (h:DistOk (pEdges t L) c (GoalPK t L) (cntL t.vars L).toNat D) {s:List Int}(hs:StateOk t.vars s):0≤dg D (idxL t.vars L s)∧dg D (idxL t.vars L s)≤inf:=by
 have hb:=qaK hs hL.mem
 have:=h.rng (idxL t.vars L s).toNat (by omega)
 rwa [Int.toNat_of_nonneg hb.1] at this
end Go.Proofs.YtggdgcmjcahbbaaGreatDoor
/-
  Contracts of the pattern databases: 'Build', 'Table', 'Pattern', 'Value', 'Dead', 'Saturated'.
-/
namespace Go.Proofs.YtggdgcmjcahbbaaGreatDoor
open Go.Sl Go
attribute [local irreducible] vc opsW opsD opV opW PureV ReadV Thn Blk
structure DbI where
 vars:List Int
 pat:List Int
 sys:SysV
 tab:List Int
def dbC (X:DbI) (vv pv cv ev gv tv:Value):List Value:=[vv,pv,.int .i64 X.sys.st,.int .i64 X.sys.ini,cv,ev,gv,tv]
def dbL (p:Addr) (X:DbI) (vv pv cv ev gv tv:Value):List HP:=[Box p 127 (dbC X vv pv cv ev gv tv),OS tInt 3 vv X.vars,OS tInt 3 pv X.pat,OS tInt 3 cv X.sys.costs,OS tEdg 118 ev X.sys.edges,OS tBool 4 gv X.sys.goals,OS tInt 3 tv X.tab]
@[irreducible] def DbO (p:Addr) (X:DbI):HP:=fun h=>∃ vv pv cv ev gv tv,SatL (dbL p X vv pv cv ev gv tv) h
theorem satDbOpen {w0 w:World}{Γ:List HP}{p:Addr}{X:DbI}(hw:Sat w0 w (DbO p X::Γ)):∃ vv pv cv ev gv tv,Sat w0 w (dbL p X vv pv cv ev gv tv++Γ):=by
 unfold DbO at hw
 obtain⟨h1,h2,d,s1,s2,⟨vv,pv,cv,ev,gv,tv,a⟩,g⟩:=hw.sat
 exact⟨vv,pv,cv,ev,gv,tv,hw.below,SatL.app _ d s1 s2 a g⟩
theorem satDbShut {w0 w:World}{Γ:List HP}{p:Addr}{X:DbI}{vv pv cv ev gv tv:Value}(hw:Sat w0 w (dbL p X vv pv cv ev gv tv++Γ)):Sat w0 w (DbO p X::Γ):=by
 unfold DbO
 obtain⟨h1,h2,d,s1,s2,a,g⟩:=SatL.split _ hw.sat
 exact⟨hw.below,h1,h2,d,s1,s2,⟨vv,pv,cv,ev,gv,tv,a⟩,g⟩
def RDb (w:World) (p:Addr) (X:DbI):Prop:=∃ vv pv cv ev gv tv,BoxR w p (dbC X vv pv cv ev gv tv)∧RS tInt w vv X.vars∧RS tInt w pv X.pat∧RS tInt w cv X.sys.costs∧RS tEdg w ev X.sys.edges∧RS tBool w gv X.sys.goals∧RS tInt w tv X.tab
theorem RDb.at {w0 w:World}{Γ:List HP}{p:Addr}{X:DbI}(h:RDb w0 p X) (hw:Sat w0 w Γ):RDb w p X:=by
 obtain⟨vv,pv,cv,ev,gv,tv,h0,h1,h2,h3,h4,h5,h6⟩:=h
 exact⟨vv,pv,cv,ev,gv,tv,h0.at hw,h1.at hw,h2.at hw,h3.at hw,h4.at hw,h5.at hw,h6.at hw⟩
theorem satRdb {w0 w:World}{Γ:List HP}{p:Addr}{X:DbI}(hw:Sat w0 w Γ) (i:Nat) (hi:Γ[i]? = some (DbO p X)):RDb w p X:=by
 obtain⟨vv,pv,cv,ev,gv,tv,h⟩:=satDbOpen (hw.focus i hi)
 exact⟨vv,pv,cv,ev,gv,tv,h.boxR 0 rfl,h.rs 1 rfl,h.rs 2 rfl,h.rs 3 rfl,h.rs 4 rfl,h.rs 5 rfl,h.rs 6 rfl⟩
class DbAt (Γ:List HP) (p:Addr) (X:outParam DbI):Prop where
 ok:∃ i:Nat,Γ[i]? = some (DbO p X)
instance (priority:=high) db_here {p:Addr}{X:DbI}{Γ:List HP}:DbAt (DbO p X::Γ) p X:=⟨0,rfl⟩
theorem rdbO {w0 w:World}{Γ:List HP}{p:Addr}{X:DbI} [h:DbAt Γ p X] (hw:Sat w0 w Γ):RDb w p X:=by
 obtain⟨i,hi⟩:=h.ok
 exact satRdb hw i hi
structure DbOk (X:DbI):Prop where
 pos:∀ x∈X.vars,1≤x
 mem:∀ v∈X.pat,0≤v∧v<X.vars.length
 cnt:cntL X.vars X.pat≤4096
 tab:X.tab.length=(cntL X.vars X.pat).toNat
 lab:∀ e∈X.sys.edges,0≤e.lab∧e.lab<X.sys.costs.length
 src:∀ e∈X.sys.edges,0≤e.src∧e.src<X.tab.length
 dst:∀ e∈X.sys.edges,0≤e.dst∧e.dst<X.tab.length
 rng:∀ i:Nat,i<X.tab.length→0≤dg X.tab i∧dg X.tab i≤inf
 vlen:X.vars.length≤64
 clen:X.sys.costs.length≤4096
 elen:X.sys.edges.length≤65536
open Classical in
noncomputable def valD (X:DbI) (s:List Int):Int:=if StateOk X.vars s then dg X.tab (idxL X.vars X.pat s) else 1125899906842624
theorem qil {X:DbI}{s:List Int}(h:StateOk X.vars s):valD X s=dg X.tab (idxL X.vars X.pat s):=if_pos h
theorem qo5 {X:DbI}{s:List Int}(h:¬StateOk X.vars s):valD X s=1125899906842624:=if_neg h
set_option maxRecDepth 8000 in
set_option maxHeartbeats 2000000 in
theorem qf4 {w0:World}{p:Addr}{X:DbI}{sv:Value}{s:List Int}(hd:RDb w0 p X) (ho:DbOk X) (hs:RS tInt w0 sv s) :
  Calls Tryz.prog 37 #[.pointer (some p),sv] w0 fun e w'=>e=.returned (.int .i64 (valD X s))∧Sat w0 w' []:=by
 obtain⟨vv,pv,cv,ev,gv,tv,h0,h1,h2,h3,h4,h5,h6⟩:=hd
 have hlp:=h2.big
 have htl:=ho.tab
 have hcl:=ho.cnt
 have hw:=Sat.start w0
 refine qab (args:=[.pointer (some p),sv]) mixed Tryz.func37 rfl (by kernel_rfl) (Nat.le_of_ble_eq_true rfl) ?_
 repeat refine qaa ?_
 refine qad rfl (qa4 h1 (hs.at hw)) ?_
 rintro _ w' ⟨⟨r,rfl,hr⟩,hk'⟩
 replace hw:=hw.call0 hk'
 clear hk'
 refine⟨_,rfl,?_⟩
 cases r
 ·rw [qo5 (fun h=>by have:=hr.2 h;cases this)]
  repeat refine qaa ?_
  exact qae (v:=.int .i64 1125899906842624) rfl rfl ⟨rfl,hw⟩
 have hok:=hr.1 rfl
 have hls:=hok.1
 rw [qil hok]
 repeat refine qaa ?_
 refine qao [5,7,22,23,24,25,26,27,28,29,30,31,32,33,34,35,36,37,38,39,40] (G:=Nat) (H:=Int) (fun k n=>[(22,.int .i64 k),(5,.int .i64 n)]) (fun k n w=>k≤X.pat.length∧n=idxL X.vars (X.pat.take k) s∧Sat w0 w []) (fun k _=>X.pat.length-k) 0 0 (fun _ _=>rfl) ⟨rfl,rfl,trivial⟩ ⟨Nat.zero_le _,rfl,hw⟩ ?_
 clear hw
 rintro σ k n w ⟨hk,hn,hw⟩
 repeat refine qaa ?_
 refine go_if (fun h7 => ?_) (fun h7 => ?_)
 ·have hkl:k<X.pat.length:=by omega
  have hv:=ho.mem _ (qah tInt.dflt hkl)
  have hr:=hok.rng hv.1 hv.2
  have hb1:=qaK (p:=X.pat.take k) hok fun v hv=>ho.mem v (List.mem_of_mem_take hv)
  have hb2:=qaK (p:=X.pat.take (k+1)) hok fun v hv=>ho.mem v (List.mem_of_mem_take hv)
  have hle:=qfb ho.pos ho.mem (k+1)
  have hS:=qf1 (vars:=X.vars) (s:=s) hkl
  rw [←hn] at hb1 hS
  simp only [sg] at hS hr
  have b0:0≤n*X.vars.getD (X.pat.getD k tInt.dflt).toNat tInt.dflt:=Int.mul_nonneg (by omega) (by omega)
  repeat (first|refine qaa ?_|(refine qag ?_;clear hw;intro w hw))
  exact⟨k+1,_,⟨rfl,rfl,trivial⟩,agr,⟨by omega,hS.symm,hw⟩,by omega⟩
 ·rw [List.take_of_length_le (by omega)] at hn
  have hb:=qaK hok ho.mem
  subst hn
  repeat refine qaa ?_
  exact qae (v:=.int .i64 (dg X.tab (idxL X.vars X.pat s))) rfl rfl ⟨rfl,hw⟩
set_option maxRecDepth 8000 in
set_option maxHeartbeats 2000000 in
theorem qfv {w0:World}{p:Addr}{X:DbI}(hd:RDb w0 p X) (ho:DbOk X) :
  Calls Tryz.prog 34 #[.pointer (some p)] w0 fun e w'=>∃ s,e=.returned s∧Sat w0 w' [OS tInt 3 s (satL X.sys.edges X.tab X.sys.costs.length)]:=by
 obtain⟨vv,pv,cv,ev,gv,tv,h0,h1,h2,h3,h4,h5,h6⟩:=hd
 have htl:=ho.tab
 have hcl:=ho.cnt
 have hcn:=ho.clen
 have hel:=ho.elen
 have hw:=Sat.start w0
 refine qab (args:=[.pointer (some p)]) mixed Tryz.func34 rfl (by kernel_rfl) (Nat.le_of_ble_eq_true rfl) ?_
 repeat (first|refine qaa ?_|(refine qap ?_;clear hw;intro s w hw))
 obtain⟨ov,hov⟩:∃ ov,ov=s:=⟨s,rfl⟩
 subst hov
 rw [Int.toNat_natCast,←ql4 X.sys.edges X.tab X.sys.costs.length] at hw
 refine qaj [5,6,7,23,24,25,26,27,28,29,30,31,32,33,34,35,36,37,38,39,40,41,42,43,44,45,46,47,48,49,50,51,52,53,54,55,56,57,58,59,60,61,62] (G:=Nat) (fun k=>[(23,.int .i64 k)]) (fun k w=>k≤X.sys.edges.length∧Sat w0 w [OS tInt 3 ov (satK X.sys.edges X.tab X.sys.costs.length k)]) (fun k=>X.sys.edges.length-k) 0 (fun _=>rfl) ⟨rfl,trivial⟩ ⟨Nat.zero_le _,hw⟩ ?_
 clear hw
 rintro σ k w ⟨hk,hw⟩
 have hsl:=qgF (E:=X.sys.edges) (D:=X.tab) (m:=X.sys.costs.length) k hk
 repeat refine qaa ?_
 refine go_if (fun h7 => ?_) (fun h7 => ?_)
 ·have hkl:k<X.sys.edges.length:=by omega
  have hme:=qah tEdg.dflt hkl
  have e1:=ho.lab _ hme
  have e2:=ho.src _ hme
  have e3:=ho.dst _ hme
  have r2:=ho.rng (X.sys.edges.getD k tEdg.dflt).src.toNat (by omega)
  have r3:=ho.rng (X.sys.edges.getD k tEdg.dflt).dst.toNat (by omega)
  rw [Int.toNat_of_nonneg e2.1] at r2
  rw [Int.toNat_of_nonneg e3.1] at r3
  have hss:=qe3 (D:=X.tab) (m:=X.sys.costs.length) hkl
  simp only [satStep,dg,cst,inf] at hss r2 r3
  repeat (first|refine qaC ?_|(refine qaf ?_;clear hw;intro p w hw)|(refine qag ?_;clear hw;intro w hw))
  refine go_if (fun h8 => ?_) (fun h8 => ?_)
  ·rw [if_pos h8] at hss
   repeat (first|refine qaa ?_|(refine qag ?_;clear hw;intro w hw))
   rw [←hss] at hw
   exact⟨k+1,⟨rfl,trivial⟩,agr,⟨by omega,hw.tail⟩,by omega⟩
  ·rw [if_neg (by omega)] at hss
   repeat refine qaa ?_
   rw [←hss] at hw
   exact⟨k+1,⟨rfl,trivial⟩,agr,⟨by omega,hw.tail⟩,by omega⟩
 ·have hke:k=X.sys.edges.length:=by omega
  subst hke
  repeat refine qaa ?_
  exact qae (v:=ov) rfl rfl ⟨ov,rfl,hw⟩
end Go.Proofs.YtggdgcmjcahbbaaGreatDoor
/-
  Contract of 'pdb.Build'.
-/
namespace Go.Proofs.YtggdgcmjcahbbaaGreatDoor
open Go.Sl Go
attribute [local irreducible] vc opsW opsD opV opW PureV ReadV Thn Blk
def BadC (x:Int):Prop:=x<0∨1048576<x
instance (x:Int):Decidable (BadC x):=inferInstanceAs (Decidable (_∨_))
set_option maxRecDepth 8000 in
theorem qmL {w0:World}{x:Int} :
  Calls Tryz.prog 59 #[.int .i64 x] w0 fun e w'=>e=.returned (.bool (decide (BadC x)))∧Sat w0 w' []:=by
 have hw:=Sat.start w0
 refine qab (args:=[.int .i64 x]) mixed Tryz.func59 rfl (by kernel_rfl) (Nat.le_of_ble_eq_true rfl) ?_
 repeat refine qaa ?_
 refine qae (v:=.bool (decide (x<0) || decide (1048576<x))) rfl rfl ⟨?_,hw⟩
 rw [←Bool.decide_or]
 rfl
set_option maxRecDepth 8000 in
theorem qiX {w0:World}{a:Value}{xs:List Int}(ha:RS tInt w0 a xs) :
  Calls Tryz.prog 86 #[a,.func (.func 59) #[] #[]] w0 fun e w'=>(∃ r:Int,e=.returned (.int .i64 r)∧(0≤r↔∃ x∈xs,BadC x))∧Sat w0 w' []:=by
 have hla:=ha.big
 have hw:=Sat.start w0
 refine qab (args:=[a,.func (.func 59) #[] #[]]) mixed Tryz.func86 rfl (by kernel_rfl) (Nat.le_of_ble_eq_true rfl) ?_
 repeat refine qaa ?_
 refine qaj [4,5,8,9,10,11,12,13,14,15,16,17,18] (G:=Nat) (fun k=>[(8,.int .i64 k)]) (fun k w=>k≤xs.length∧(∀ i,i<k→¬BadC (xs.getD i tInt.dflt))∧Sat w0 w []) (fun k=>xs.length-k) 0 (fun _=>rfl) ⟨rfl,trivial⟩ ⟨Nat.zero_le _,fun i hi=>absurd hi (Nat.not_lt_zero _),hw⟩ ?_
 clear hw
 rintro σ k w ⟨hk,hpre,hw⟩
 repeat refine qaa ?_
 refine go_if (fun h1 => ?_) (fun h1 => ?_)
 ·have hkl:k<xs.length:=by omega
  repeat refine qaa ?_
  refine qbi (cs:=[]) rfl rfl (qmL (x:=xs.getD k tInt.dflt)) ?_
  rintro _ w' ⟨rfl,hk'⟩
  replace hw:=hw.call0 hk'
  clear hk'
  refine⟨_,rfl,?_⟩
  by_cases h2:BadC (xs.getD k tInt.dflt)
  ·rw [decide_eq_true h2]
   repeat refine qaa ?_
   refine qae (v:=.int .i64 k) rfl rfl ⟨⟨k,rfl,⟨fun _=>⟨_,qah tInt.dflt hkl,h2⟩,fun _=>by omega⟩⟩,hw⟩
  ·rw [decide_eq_false h2]
   repeat refine qaa ?_
   refine⟨k+1,⟨rfl,trivial⟩,agr,⟨by omega,fun i hi => ?_,hw⟩,by omega⟩
   by_cases h:i=k
   ·subst h;exact h2
   ·exact hpre i (by omega)
 ·repeat refine qaa ?_
  refine qae (v:=.int .i64 (-1)) rfl rfl ⟨⟨-1,rfl,⟨fun h=>by omega,?_⟩⟩,hw⟩
  rintro⟨x,hx,he⟩
  obtain⟨i,hi,rfl⟩:=List.mem_iff_getElem.1 hx
  exact absurd (by rw [qak hi];exact he) (hpre i (by omega))
set_option maxRecDepth 8000 in
theorem qmM {w0:World}{a:Value}{xs:List Int}(ha:RS tInt w0 a xs) :
  Calls Tryz.prog 58 #[a,.func (.func 59) #[] #[]] w0 fun e w'=>(∃ r,e=.returned (.bool r)∧(r=true↔∃ x∈xs,BadC x))∧Sat w0 w' []:=by
 have hw:=Sat.start w0
 refine qab (args:=[a,.func (.func 59) #[] #[]]) mixed Tryz.func58 rfl (by kernel_rfl) (Nat.le_of_ble_eq_true rfl) ?_
 repeat refine qaa ?_
 refine qad rfl (qiX ha) ?_
 rintro _ w' ⟨⟨r,rfl,hr⟩,hk'⟩
 replace hw:=hw.call0 hk'
 clear hk'
 refine⟨_,rfl,?_⟩
 repeat refine qaa ?_
 exact qae (v:=.bool (decide (0≤r))) rfl rfl ⟨⟨_,rfl,by rw [decide_eq_true_eq];exact hr⟩,hw⟩
open Classical in
noncomputable def bErr (t:TTask) (L cs:List Int):Int:=if checkT t≠0 then checkT t else if 0<cs.length∧cs.length≠t.ops.length then 11 else if ∃ x∈cs,BadC x then 1 else pErr t L
def csU (t:TTask) (cs:List Int):List Int:=if cs.length=0 then costsT t else cs
noncomputable def dbI (t:TTask) (L D:List Int):DbI:=⟨t.vars,L,sysOk t L,D⟩
theorem qdd {t:TTask}{L:List Int}(h:pErr t L=0):GoodT t∧InV t.vars L∧cntL t.vars L≤4096∧(pEdges t L).length≤65536:=by
 by_cases hk:chkP t L=0
 ·rw [qid hk] at h
  obtain⟨hg,hp⟩:=qem.1 hk
  unfold pErr0 at h
  split at h
  ·cases h
  ·split at h
   ·cases h
   ·split at h
    ·cases h
    ·exact⟨hg,hp.inV,by omega,by omega⟩
 ·unfold pErr at h
  rw [if_pos hk] at h
  exact absurd h hk
theorem qjk {t:TTask}(hg:GoodT t):∀ x∈costsT t,0≤x∧x≤1048576:=by
 intro x hx
 obtain⟨o,ho,rfl⟩:=List.mem_map.1 hx
 obtain⟨i,hi,rfl⟩:=List.getElem_of_mem ho
 have:=hg.op i hi
 rw [qak hi] at this
 have h1:=this.cost0
 have h2:=this.cost1
 omega
theorem qpM {t:TTask}{cs:List Int}(hg:GoodT t) (h1:¬(0<cs.length∧cs.length≠t.ops.length)) (h2:¬∃ x∈cs,BadC x):(csU t cs).length=t.ops.length∧∀ x∈csU t cs,0≤x∧x≤1048576:=by
 unfold csU
 split
 ·exact⟨by simp [costsT],qjk hg⟩
 ·refine⟨by omega,fun x hx => ?_⟩
  have:¬BadC x:=fun hb=>h2 ⟨x,hx,hb⟩
  unfold BadC at this
  omega
theorem eok_U {t:TTask}{L cs:List Int}(h:cs.length=t.ops.length∧∀ x∈cs,0≤x∧x≤1048576):EOk (pEdges t L) cs (cntL t.vars L).toNat :=
 eok_P ⟨h.1,fun x hx=>by have:=h.2 x hx;omega⟩
theorem qlu {t:TTask}{L cs D:List Int}(hp:pErr t L=0) (hD:DistOk (pEdges t L) cs (GoalPK t L) (cntL t.vars L).toNat D):DbOk (dbI t L D):=by
 obtain⟨hg,hL,hB,hE⟩:=qdd hp
 have hdl:=hD.len
 have hol:=hg.ops
 have hvl:=hg.vars
 have key:∀ e∈pEdges t L,(0≤e.src∧e.src<(cntL t.vars L).toNat)∧(0≤e.dst∧e.dst<(cntL t.vars L).toNat)∧0≤e.lab∧e.lab<t.ops.length:=by
  intro e he
  obtain⟨x,op,y,hx,hop,hy,hT,rfl⟩:=qfD.1 he
  exact⟨⟨by simp only;omega,by simp only;omega⟩,⟨by simp only;omega,by simp only;omega⟩,by simp only;omega,by simp only;omega⟩
 refine⟨hg.pos,hL.mem,hB,hdl,fun e he => ?_,fun e he => ?_,fun e he => ?_,fun i hi=>hD.rng i (by rw [←hdl];exact hi),hvl,?_,hE⟩
 ·have:=(key e he).2.2
  simp only [dbI,sysOk,costsT,List.length_map]
  omega
 ·have:=(key e he).1
  show 0≤e.src∧e.src<D.length
  omega
 ·have:=(key e he).2.1
  show 0≤e.dst∧e.dst<D.length
  omega
 ·simp only [dbI,sysOk,costsT,List.length_map];omega
set_option maxRecDepth 8000 in
set_option maxHeartbeats 4000000 in
theorem qdP {w0:World}{a b c d vp kv:Value}{vs:List OpV}{t:TTask}{L cs:List Int}(ht:RTask w0 a b c d vs t) (hp:RS tInt w0 vp L) (hk:RS tInt w0 kv cs) :
  Calls Tryz.prog 29 #[.agg #[a,b,c,d],vp,kv] w0 fun e w' =>
   (bErr t L cs≠0∧e=.returned (.tuple #[.pointer none,errV (bErr t L cs)])∧Sat w0 w' []) ∨
   (bErr t L cs=0∧pErr t L=0∧(csU t cs).length=t.ops.length∧(∀ x∈csU t cs,0≤x∧x≤1048576)∧∃ p D,e=.returned (.tuple #[.pointer (some p),.nilIface])∧DistOk (pEdges t L) (csU t cs) (GoalPK t L) (cntL t.vars L).toNat D∧Sat w0 w' [DbO p (dbI t L D)]):=by
 have ht':=ht
 obtain⟨ha,hb,hc,hd⟩:=ht
 have hrs:=hd.rs
 have hdl:=hd.len
 have hlk:=hk.big
 have hw:=Sat.start w0
 refine qab (args:=[.agg #[a,b,c,d],vp,kv]) mixed Tryz.func29 rfl (by kernel_rfl) (Nat.le_of_ble_eq_true rfl) ?_
 repeat (first|refine qaa ?_|(refine qaf ?_;clear hw;intro p w hw))
 obtain⟨pt,hpt⟩:∃ pt,pt=p:=⟨p,rfl⟩
 subst hpt
 refine qad rfl (qa5 (ht'.at hw)) ?_
 rintro _ w' ⟨rfl,hk'⟩
 replace hw:=hw.call0 hk'
 clear hk'
 refine⟨_,rfl,?_⟩
 by_cases h1:checkT t=0
 rotate_left
 ·have hbe:bErr t L cs=checkT t:=if_pos h1
  rw [qan h1]
  repeat refine qaa ?_
  exact qaq (v:=.pointer none) (v':=.iface 74 (.int .i64 (checkT t))) rfl rfl rfl (.inl ⟨by rw [hbe];exact h1,by rw [hbe,qan h1],hw.sel⟩)
 rw [qat h1]
 have hg:=(qaM t).1 h1
 repeat refine qaa ?_
 refine go_if (fun h2 => ?_) (fun h2 => ?_)
 ·have hbe:bErr t L cs=11:=by
   unfold bErr
   rw [if_neg (by simp [h1]),if_pos ⟨by omega,by omega⟩]
  repeat refine qaa ?_
  exact qaq (v:=.pointer none) (v':=.iface 74 (.int .i64 11)) rfl rfl rfl (.inl ⟨by rw [hbe];decide,by rw [hbe,qan (by decide)],hw.sel⟩)
 have h2':¬(0<cs.length∧cs.length≠t.ops.length):=by omega
 repeat refine qaa ?_
 refine qad rfl (qmM (hk.at hw)) ?_
 rintro _ w' ⟨⟨r,rfl,hr⟩,hk'⟩
 replace hw:=hw.call0 hk'
 clear hk'
 refine⟨_,rfl,?_⟩
 cases r
 rotate_left
 ·have hbe:bErr t L cs=1:=by
   unfold bErr
   rw [if_neg (by simp [h1]),if_neg h2',if_pos (hr.1 rfl)]
  repeat refine qaa ?_
  exact qaq (v:=.pointer none) (v':=.iface 74 (.int .i64 1)) rfl rfl rfl (.inl ⟨by rw [hbe];decide,by rw [hbe,qan (by decide)],hw.sel⟩)
 have h3:¬∃ x∈cs,BadC x:=fun h=>by have:=hr.2 h;cases this
 have hbe:bErr t L cs=pErr t L:=by
  unfold bErr
  rw [if_neg (by simp [h1]),if_neg h2',if_neg h3]
 obtain⟨hu1,hu2⟩:=qpM hg h2' h3
 repeat refine qaa ?_
 refine qad rfl (qcn (ht'.at hw) (hp.at hw)) ?_
 rintro _ w' ⟨cv,ev,gv,rfl,hk'⟩
 by_cases h4:pErr t L=0
 rotate_left
 ·have hs:sysE t L (pErr t L)=sysNo:=if_neg h4
  rw [hs] at hk'
  rw [hs,qan h4]
  have hw2:=hw.call hk'
  clear hw
  have hw:=hw2
  clear hw2
  refine⟨_,rfl,?_⟩
  have o1:=(hw.rs 0 rfl).one
  have o2:=(hw.rs 1 rfl).one
  have o3:=(hw.rs 2 rfl).one
  repeat (first|refine qaa ?_|(refine qaf ?_;clear hw;intro p w hw))
  refine qaB (n:=5) (p:=p) (vs:=[.int .i64 0,.int .i64 0,cv,ev,gv]) rfl rfl hw inferInstance rfl rfl (by simp only [List.all_cons,List.all_nil,o1,o2,o3];rfl) ?_
  clear hw
  intro w hw
  repeat refine qaa ?_
  exact qaq (v:=.pointer none) (v':=.iface 74 (.int .i64 (pErr t L))) rfl rfl rfl (.inl ⟨by rw [hbe];exact h4,by rw [hbe,qan h4],hw.sel⟩)
 obtain⟨_,hL,hB,hEl⟩:=qdd h4
 rw [h4,qdM] at hk'
 rw [h4,qat rfl,qdM,qiP]
 have hw2:=hw.call hk'
 clear hk' hw
 have hw:=hw2
 clear hw2
 refine⟨_,rfl,?_⟩
 have o1:=(hw.rs 0 rfl).one
 have o2:=(hw.rs 1 rfl).one
 have o3:=(hw.rs 2 rfl).one
 repeat (first|refine qaa ?_|(refine qaf ?_;clear hw;intro p w hw))
 refine qaB (n:=5) (p:=p) (vs:=[.int .i64 (cntL t.vars L),.int .i64 (idxL t.vars L t.init),cv,ev,gv]) rfl rfl hw inferInstance rfl rfl (by simp only [List.all_cons,List.all_nil,o1,o2,o3];rfl) ?_
 clear hw
 intro w hw
 obtain⟨px,hpx⟩:∃ px,px=p:=⟨p,rfl⟩
 subst hpx
 have hN1:=qeb hg.pos hL.mem
 have hgl:=qfE t L (cntL t.vars L).toNat
 have hcl:(costsT t).length=t.ops.length:=by simp [costsT]
 repeat refine qaa ?_
 refine qc6 [2,43,44] (G:=Value) (fun g=>[(2,g)]) (fun g w=>(∀ w',Sat w0 w' [Box px 58 [.int .i64 (cntL t.vars L),.int .i64 (idxL t.vars L t.init),cv,ev,gv],OS tInt 3 cv (costsT t),OS tEdg 118 ev (pEdges t L),OS tBool 4 gv (goalsK t L (cntL t.vars L).toNat),Box pt 26 [a,b,c,d]]→RS tInt w' g (csU t cs))∧Sat w0 w [Box px 58 [.int .i64 (cntL t.vars L),.int .i64 (idxL t.vars L t.init),cv,ev,gv],OS tInt 3 cv (costsT t),OS tEdg 118 ev (pEdges t L),OS tBool 4 gv (goalsK t L (cntL t.vars L).toNat),Box pt 26 [a,b,c,d]]) (fun _=>rfl) ?_ ?_
 ·refine go_if (fun h5 => ?_) (fun h5 => ?_)
  ·have hz:csU t cs=costsT t:=if_pos (by omega)
   repeat refine qaa ?_
   exact⟨cv,⟨rfl,trivial⟩,agr,fun w' hw'=>by rw [hz];exact hw'.rs 1 rfl,hw⟩
  ·have hz:csU t cs=cs:=if_neg (by omega)
   repeat refine qaa ?_
   exact⟨kv,⟨rfl,trivial⟩,agr,fun w' hw'=>by rw [hz];exact hk.at hw',hw⟩
 clear hw
 rintro σ g w ⟨hgk,hw⟩
 have hvb:t.vars.length≤1099511627776:=by have:=hg.vars;omega
 have hlb:L.length≤1099511627776:=by
  have:=hL.len
  have:=hg.vars
  omega
 have hEok:=eok_U (L:=L) ⟨hu1,hu2⟩
 repeat refine qaa ?_
 refine qaD [.op 0,.op 1,.op 3,.op 5,.op 6,.op 7,.op 2,.chk 5,.chk 6,.op 4,.chk 5,.chk 6,.op 8,.chk 5,.op 9,.op 10,.op 11,.op 12] hw (by kernel_rfl) ?_;clear hw;intro w hw
 repeat refine qaa ?_
 refine qad rfl (qaE (ha.at hw) hvb) ?_
 rintro _ w' ⟨v1,rfl,hk'⟩
 replace hw:=hw.call1 hk'
 clear hk'
 refine⟨_,rfl,?_⟩
 repeat refine qaa ?_
 refine qad rfl (qaE (hp.at hw) hlb) ?_
 rintro _ w' ⟨v2,rfl,hk'⟩
 replace hw:=hw.call1 hk'
 clear hk'
 refine⟨_,rfl,?_⟩
 repeat refine qaa ?_
 refine qad rfl (qfe (kv:=g) (S:=sysOk t L) (cv:=cv) (ev:=ev) (gv:=gv) ⟨rsO hw,rsO hw,rsO hw⟩ (hgk _ hw.sel) (by show 0≤cntL t.vars L;omega) (by show cntL t.vars L≤_;omega) (by show ((goalsK t L _).length:Int)=cntL t.vars L;omega) hEl hEok) ?_
 rintro _ w' ⟨v3,D,rfl,hD,hk'⟩
 replace hw:=hw.call1 hk'
 clear hk'
 refine⟨_,rfl,?_⟩
 repeat refine qaa ?_
 have c1:=(rsO (s:=v1) hw).cells1
 have c2:=(rsO (s:=v2) hw).cells1
 have c3:=(rsO (s:=v3) hw).cells1
 refine qeG (parts:=[(0,.tmp 47),(1,.tmp 49),(2,.tmp 50),(3,.tmp 53)]) (vs:=[(0,v1),(1,v2),(2,.agg #[.int .i64 (cntL t.vars L),.int .i64 (idxL t.vars L t.init),cv,ev,gv]),(3,v3)]) (ls:=[(0,[v1]),(1,[v2]),(2,[.int .i64 (cntL t.vars L),.int .i64 (idxL t.vars L t.init),cv,ev,gv]),(3,[v3])]) rfl (by simp only [List.map_cons,List.map_nil,c1,c2,c3];rfl) rfl ?_
 refine qaa ?_
 refine qa1 (vs:=dbC (dbI t L D) v1 v2 cv ev gv v3) rfl hw ?_
 clear hw
 intro p w hw
 have hw:=satDbShut (p:=p) (X:=dbI t L D) (vv:=v1) (pv:=v2) (cv:=cv) (ev:=ev) (gv:=gv) (tv:=v3) (Γ:=[]) (show Sat w0 w [Box p 127 (dbC (dbI t L D) v1 v2 cv ev gv v3),OS tInt 3 v1 t.vars,OS tInt 3 v2 L,OS tInt 3 cv (costsT t),OS tEdg 118 ev (pEdges t L),OS tBool 4 gv (goalsK t L (cntL t.vars L).toNat),OS tInt 3 v3 D] from hw.sel)
 repeat refine qaa ?_
 exact qaq (v:=.pointer (some p)) (v':=.nilIface) rfl rfl rfl (.inr ⟨by rw [hbe];exact h4,rfl,hu1,hu2,p,D,rfl,hD,hw⟩)
end Go.Proofs.YtggdgcmjcahbbaaGreatDoor
/-
  Saturated cost partitioning in plain Lean: tables and parts, one after the other.
-/
namespace Go.Proofs.YtggdgcmjcahbbaaGreatDoor
open Go.Sl Go
def subL (a b:List Int):List Int:=(List.range a.length).map fun i=>a.getD i tInt.dflt-b.getD i tInt.dflt
theorem qn3 (a b:List Int):(subL a b).length=a.length:=by simp [subL]
theorem qpu {a b:List Int}{i:Nat}(h:i<a.length):(subL a b).getD i tInt.dflt=a.getD i tInt.dflt-b.getD i tInt.dflt:=by simp [subL,List.getD,h]
def subK (a b:List Int) (j:Nat):List Int:=(List.range a.length).map fun i=>if i<j then a.getD i tInt.dflt-b.getD i tInt.dflt else a.getD i tInt.dflt
theorem qjO (a b:List Int) (j:Nat):(subK a b j).length=a.length:=by simp [subK]
theorem qmm (a b:List Int):subK a b 0=a:=by
 apply List.ext_getElem (by simp [subK])
 intro i h1 h2;simp [subK,List.getD,h2]
theorem qn4 (a b:List Int):subK a b a.length=subL a b:=by
 unfold subK subL
 exact List.map_congr_left fun i hi=>if_pos (List.mem_range.1 hi)
theorem qpv {a b:List Int}{j:Nat}(h:j<a.length):(subK a b j).getD j tInt.dflt=a.getD j tInt.dflt:=by simp [subK,List.getD,h]
theorem qn5 {a b:List Int}{j:Nat}:(subK a b j).set j (a.getD j tInt.dflt-b.getD j tInt.dflt)=subK a b (j+1):=by
 apply List.ext_getElem (by simp [subK])
 intro i h1 h2
 rw [List.getElem_set]
 simp only [subK,List.getElem_map,List.getElem_range]
 split
 ·rename_i e;subst e;rw [if_pos (by omega)]
 ·by_cases h:i<j
  ·rw [if_pos h,if_pos (by omega)]
  ·rw [if_neg h,if_neg (by omega)]
def leftK (c:List Int) (Ps:List (List Int)) (k:Nat):List Int:=(Ps.take k).foldl subL c
theorem qkA (c:List Int) (Ps:List (List Int)):leftK c Ps 0=c:=rfl
theorem qcH {c:List Int}{Ps:List (List Int)}{k:Nat}(h:k<Ps.length):leftK c Ps (k+1)=subL (leftK c Ps k) (Ps.getD k []):=by
 unfold leftK;rw [qal [] h,List.foldl_append];rfl
theorem qhO {c:List Int}{Ps Qs:List (List Int)}{k:Nat}(h:k≤Ps.length):leftK c (Ps++Qs) k=leftK c Ps k:=by
 unfold leftK;rw [List.take_append_of_le_length h]
structure Run (t:TTask) (Ls:List (List Int)) (c:List Int) (Ds Ps:List (List Int)):Prop where
 dl:Ds.length=Ls.length
 pl:Ps.length=Ls.length
 dist:∀ k,k<Ls.length→DistOk (pEdges t (Ls.getD k [])) (leftK c Ps k) (GoalPK t (Ls.getD k [])) (cntL t.vars (Ls.getD k [])).toNat (Ds.getD k [])
 part:∀ k,k<Ls.length→Ps.getD k []=satL (pEdges t (Ls.getD k [])) (Ds.getD k []) t.ops.length
theorem qbg {α:Type}{l m:List α}{i:Nat}{d:α}(h:i<l.length):(l++m).getD i d=l.getD i d:=by simp [List.getD_eq_getElem?_getD,List.getElem?_append_left h]
theorem qaR {α:Type}{l:List α}{x:α}{i:Nat}{d:α}(h:i=l.length):(l++[x]).getD i d=x:=by subst h;simp [List.getD_eq_getElem?_getD]
theorem Run.nil (t:TTask) (c:List Int):Run t [] c [] []:=⟨rfl,rfl,fun k hk=>absurd hk (Nat.not_lt_zero _),fun k hk=>absurd hk (Nat.not_lt_zero _)⟩
theorem Run.snoc {t:TTask}{Ls:List (List Int)}{c:List Int}{Ds Ps:List (List Int)}{L D:List Int}(h:Run t Ls c Ds Ps) (hD:DistOk (pEdges t L) (leftK c Ps Ls.length) (GoalPK t L) (cntL t.vars L).toNat D) :
  Run t (Ls++[L]) c (Ds++[D]) (Ps++[satL (pEdges t L) D t.ops.length]):=by
 have hdl:=h.dl
 have hpl:=h.pl
 refine⟨by simp [h.dl],by simp [h.pl],fun k hk => ?_,fun k hk => ?_⟩
 ·simp only [List.length_append,List.length_cons,List.length_nil] at hk
  rw [qhO (by omega)]
  by_cases e:k<Ls.length
  ·rw [qbg e,qbg (by omega)];exact h.dist k e
  ·have e2:k=Ls.length:=by omega
   rw [qaR e2,qaR (by omega),e2];exact hD
 ·simp only [List.length_append,List.length_cons,List.length_nil] at hk
  by_cases e:k<Ls.length
  ·rw [qbg e,qbg (by omega),qbg (by omega)];exact h.part k e
  ·have e2:k=Ls.length:=by omega
   rw [qaR e2,qaR (by omega),qaR (by omega)]
structure CostOkS (t:TTask) (c:List Int):Prop where
 len:c.length=t.ops.length
 rng:∀ x∈c,0≤x∧x≤1048576
theorem CostOkS.at {t:TTask}{c:List Int}(h:CostOkS t c) {i:Nat}(hi:i<t.ops.length):0≤c.getD i tInt.dflt∧c.getD i tInt.dflt≤1048576:=h.rng _ (qah tInt.dflt (by rw [h.len];exact hi))
theorem CostOkS.of {t:TTask}{c:List Int}(hl:c.length=t.ops.length) (h:∀ i,i<t.ops.length→0≤c.getD i tInt.dflt∧c.getD i tInt.dflt≤1048576):CostOkS t c :=
 ⟨hl,fun x hx=>by obtain⟨i,hi,rfl⟩:=List.getElem_of_mem hx;have:=h i (by omega);rwa [qak hi] at this⟩
theorem CostOkS.eok {t:TTask}{c L:List Int}(h:CostOkS t c):EOk (pEdges t L) c (cntL t.vars L).toNat:=eok_U ⟨h.len,h.rng⟩
theorem qn6 {t:TTask}(hg:GoodT t):CostOkS t (costsT t):=⟨by simp [costsT],qjk hg⟩
theorem CostOkS.sub {t:TTask}{c L D:List Int}(h:CostOkS t c) (hD:DistOk (pEdges t L) c (GoalPK t L) (cntL t.vars L).toNat D):CostOkS t (subL c (satL (pEdges t L) D t.ops.length))∧∀ i,i<t.ops.length→0≤(satL (pEdges t L) D t.ops.length).getD i tInt.dflt∧(satL (pEdges t L) D t.ops.length).getD i tInt.dflt≤c.getD i tInt.dflt:=by
 have hE:=h.eok (L:=L)
 have hso:SatOk (pEdges t L) D c.length (satL (pEdges t L) D t.ops.length):=by rw [←h.len];exact qpq hE.lab
 have hle:=fun i (hi:i<t.ops.length)=>hso.le hE hD (i:=i) (by rw [h.len];exact hi)
 refine⟨.of (by rw [qn3];exact h.len) fun i hi => ?_,hle⟩
 rw [qpu (by rw [h.len];exact hi)]
 have h1:=hle i hi
 have h2:=h.at hi
 omega
theorem Run.cost {t:TTask}{Ls:List (List Int)}{c:List Int}{Ds Ps:List (List Int)}(h:Run t Ls c Ds Ps) (hc:CostOkS t c):∀ k,k≤Ls.length→CostOkS t (leftK c Ps k)
 | 0,_=>hc
 | k+1,hk=>by
  rw [qcH (by rw [h.pl];omega),h.part k (by omega)]
  exact ((h.cost hc k (by omega)).sub (h.dist k (by omega))).1
theorem Run.unique {t:TTask}{Ls:List (List Int)}{c:List Int}{Ds Ps Ds' Ps':List (List Int)}(h:Run t Ls c Ds Ps) (h':Run t Ls c Ds' Ps'):Ds=Ds'∧Ps=Ps':=by
 have key:∀ k,k≤Ls.length→(∀ j,j<k→Ds.getD j []=Ds'.getD j []∧Ps.getD j []=Ps'.getD j [])∧leftK c Ps k=leftK c Ps' k:=by
  intro k
  induction k with
  | zero=>intro _;exact⟨fun j hj=>absurd hj (Nat.not_lt_zero _),rfl⟩
  | succ k ih =>
   intro hk
   obtain⟨i1,i2⟩:=ih (by omega)
   have d1:=h.dist k (by omega)
   have d2:=h'.dist k (by omega)
   rw [i2] at d1
   have e1:=d1.unique d2
   have e2:Ps.getD k []=Ps'.getD k []:=by rw [h.part k (by omega),h'.part k (by omega),e1]
   refine⟨fun j hj => ?_,by rw [qcH (by rw [h.pl];omega),qcH (by rw [h'.pl];omega),i2,e2]⟩
   by_cases e:j=k
   ·subst e;exact⟨e1,e2⟩
   ·exact i1 j (by omega)
 have hk:=(key Ls.length (Nat.le_refl _)).1
 constructor
 ·apply List.ext_getElem (by rw [h.dl,h'.dl])
  intro i h1 h2
  have:=(hk i (by rw [←h.dl];exact h1)).1
  rwa [qak h1,qak h2] at this
 ·apply List.ext_getElem (by rw [h.pl,h'.pl])
  intro i h1 h2
  have:=(hk i (by rw [←h.pl];exact h1)).2
  rwa [qak h1,qak h2] at this
def svalK (t:TTask) (Ls Ds:List (List Int)) (s:List Int) (k:Nat):Int:=dg (Ds.getD k []) (idxL t.vars (Ls.getD k []) s)
def sumV (f:Nat→Int) (k:Nat):Int:=((List.range k).map f).sum
theorem qds (f:Nat→Int) (k:Nat):sumV f (k+1)=sumV f k+f k:=by simp [sumV,List.range_succ]
theorem qpw {f:Nat→Int}{B:Int}{n:Nat}(h:∀ k,k<n→0≤f k∧f k≤B):0≤sumV f n∧sumV f n≤n*B:=by
 induction n with
 | zero=>simp [sumV]
 | succ n ih =>
  have h1:=ih fun k hk=>h k (by omega)
  have h2:=h n (by omega)
  rw [qds,Int.natCast_add,Int.add_mul]
  simp only [Int.natCast_one,Int.one_mul]
  omega
open Classical in
noncomputable def valPt (t:TTask) (Ls Ds:List (List Int)) (s:List Int):Int :=
 if ¬StateOk t.vars s then 1125899906842624 else if ∃ k,k<Ls.length∧svalK t Ls Ds s k=1125899906842624 then 1125899906842624 else sumV (svalK t Ls Ds s) Ls.length
theorem qn7 {t:TTask}{Ls Ds:List (List Int)}{s:List Int}(h:¬StateOk t.vars s):valPt t Ls Ds s=1125899906842624:=if_pos h
theorem qmn {t:TTask}{Ls Ds:List (List Int)}{s:List Int}{k:Nat}(h:StateOk t.vars s) (hk:k<Ls.length) (hv:svalK t Ls Ds s k=1125899906842624):valPt t Ls Ds s=1125899906842624:=by
 unfold valPt;rw [if_neg (fun hn=>hn h),if_pos ⟨k,hk,hv⟩]
theorem qmo {t:TTask}{Ls Ds:List (List Int)}{s:List Int}(h:StateOk t.vars s) (hv:∀ k,k<Ls.length→svalK t Ls Ds s k≠1125899906842624):valPt t Ls Ds s=sumV (svalK t Ls Ds s) Ls.length:=by
 unfold valPt;rw [if_neg (fun hn=>hn h),if_neg (fun⟨k,hk,hh⟩=>hv k hk hh)]
end Go.Proofs.YtggdgcmjcahbbaaGreatDoor
