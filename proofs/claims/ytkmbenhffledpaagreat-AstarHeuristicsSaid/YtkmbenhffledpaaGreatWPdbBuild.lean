/-
  Contract of 'pdb.Build'.
-/
import Derived.Test.YtkmbenhffledpaaGreatWPdb
set_option linter.unusedSimpArgs false
set_option linter.unusedVariables false
namespace Go.Proofs.YtkmbenhffledpaaGreat
open Go.Sl Go
attribute [local irreducible] vc opsW opsD opV opW PureV ReadV Thn Blk
def BadC (x:Int):Prop:=x<0∨1048576<x
instance (x:Int):Decidable (BadC x):=inferInstanceAs (Decidable (_∨_))
set_option maxRecDepth 8000 in
theorem qp3 {w0:World}{x:Int} :
  Calls Tryz.prog 118 #[.int .i64 x] w0 fun e w'=>e=.returned (.bool (decide (BadC x)))∧Sat w0 w' []:=by
 have hw:=Sat.start w0
 refine qab (args:=[.int .i64 x]) mixed Tryz.func118 rfl (by kernel_rfl) (Nat.le_of_ble_eq_true rfl) ?_
 repeat refine qaa ?_
 refine qae (v:=.bool (decide (x<0) || decide (1048576<x))) rfl rfl ⟨?_,hw⟩
 rw [←Bool.decide_or]
 rfl
set_option maxRecDepth 8000 in
theorem qli {w0:World}{a:Value}{xs:List Int}(ha:RS tInt w0 a xs) :
  Calls Tryz.prog 150 #[a,.func (.func 118) #[] #[]] w0 fun e w'=>(∃ r:Int,e=.returned (.int .i64 r)∧(0≤r↔∃ x∈xs,BadC x))∧Sat w0 w' []:=by
 have hla:=ha.big
 have hw:=Sat.start w0
 refine qab (args:=[a,.func (.func 118) #[] #[]]) mixed Tryz.func150 rfl (by kernel_rfl) (Nat.le_of_ble_eq_true rfl) ?_
 repeat refine qaa ?_
 refine qap [4,5,8,9,10,11,12,13,14,15,16,17,18] (G:=Nat) (fun k=>[(8,.int .i64 k)]) (fun k w=>k≤xs.length∧(∀ i,i<k→¬BadC (xs.getD i tInt.dflt))∧Sat w0 w []) (fun k=>xs.length-k) 0 (fun _=>rfl) ⟨rfl,trivial⟩ ⟨Nat.zero_le _,fun i hi=>absurd hi (Nat.not_lt_zero _),hw⟩ ?_
 clear hw
 rintro σ k w ⟨hk,hpre,hw⟩
 repeat refine qaa ?_
 refine go_if (fun h1 => ?_) (fun h1 => ?_)
 ·have hkl:k<xs.length:=by omega
  repeat refine qaa ?_
  refine qbM (cs:=[]) rfl rfl (qp3 (x:=xs.getD k tInt.dflt)) ?_
  rintro _ w' ⟨rfl,hk'⟩
  replace hw:=hw.call0 hk'
  clear hk'
  refine⟨_,rfl,?_⟩
  by_cases h2:BadC (xs.getD k tInt.dflt)
  ·rw [decide_eq_true h2]
   repeat refine qaa ?_
   refine qae (v:=.int .i64 k) rfl rfl ⟨⟨k,rfl,⟨fun _=>⟨_,qak tInt.dflt hkl,h2⟩,fun _=>by omega⟩⟩,hw⟩
  ·rw [decide_eq_false h2]
   repeat refine qaa ?_
   refine⟨k+1,⟨rfl,trivial⟩,agr,⟨by omega,fun i hi => ?_,hw⟩,by omega⟩
   by_cases h:i=k
   ·subst h;exact h2
   ·exact hpre i (by omega)
 ·repeat refine qaa ?_
  refine qae (v:=.int .i64 (-1)) rfl rfl ⟨⟨-1,rfl,⟨fun h=>by omega,?_⟩⟩,hw⟩
  rintro⟨x,hx,he⟩
  obtain⟨i,hi,rfl⟩:=List.mem_iff_getElem.1 hx
  exact absurd (by rw [qaj hi];exact he) (hpre i (by omega))
set_option maxRecDepth 8000 in
theorem qp4 {w0:World}{a:Value}{xs:List Int}(ha:RS tInt w0 a xs) :
  Calls Tryz.prog 117 #[a,.func (.func 118) #[] #[]] w0 fun e w'=>(∃ r,e=.returned (.bool r)∧(r=true↔∃ x∈xs,BadC x))∧Sat w0 w' []:=by
 have hw:=Sat.start w0
 refine qab (args:=[a,.func (.func 118) #[] #[]]) mixed Tryz.func117 rfl (by kernel_rfl) (Nat.le_of_ble_eq_true rfl) ?_
 repeat refine qaa ?_
 refine qac rfl (qli ha) ?_
 rintro _ w' ⟨⟨r,rfl,hr⟩,hk'⟩
 replace hw:=hw.call0 hk'
 clear hk'
 refine⟨_,rfl,?_⟩
 repeat refine qaa ?_
 exact qae (v:=.bool (decide (0≤r))) rfl rfl ⟨⟨_,rfl,by rw [decide_eq_true_eq];exact hr⟩,hw⟩
open Classical in
noncomputable def bErr (t:TTask) (L cs:List Int):Int:=if checkT t≠0 then checkT t else if 0<cs.length∧cs.length≠t.ops.length then 11 else if ∃ x∈cs,BadC x then 1 else pErr t L
def csU (t:TTask) (cs:List Int):List Int:=if cs.length=0 then costsT t else cs
noncomputable def dbI (t:TTask) (L D:List Int):DbI:=⟨t.vars,L,sysOk t L,D⟩
theorem qgv {t:TTask}{L:List Int}(h:pErr t L=0):GoodT t∧InV t.vars L∧cntL t.vars L≤4096∧(pEdges t L).length≤65536:=by
 by_cases hk:chkP t L=0
 ·rw [qkx hk] at h
  obtain⟨hg,hp⟩:=qfT.1 hk
  unfold pErr0 at h
  split at h
  ·cases h
  ·split at h
   ·cases h
   ·split at h
    ·cases h
    ·exact⟨hg,hp.inV,by omega,by omega⟩
 ·unfold pErr at h
  rw [if_pos hk] at h
  exact absurd h hk
theorem qmk {t:TTask}(hg:GoodT t):∀ x∈costsT t,0≤x∧x≤1048576:=by
 intro x hx
 obtain⟨o,ho,rfl⟩:=List.mem_map.1 hx
 obtain⟨i,hi,rfl⟩:=List.getElem_of_mem ho
 have:=hg.op i hi
 rw [qaj hi] at this
 have h1:=this.cost0
 have h2:=this.cost1
 omega
theorem qts {t:TTask}{cs:List Int}(hg:GoodT t) (h1:¬(0<cs.length∧cs.length≠t.ops.length)) (h2:¬∃ x∈cs,BadC x):(csU t cs).length=t.ops.length∧∀ x∈csU t cs,0≤x∧x≤1048576:=by
 unfold csU
 split
 ·exact⟨by simp [costsT],qmk hg⟩
 ·refine⟨by omega,fun x hx => ?_⟩
  have:¬BadC x:=fun hb=>h2 ⟨x,hx,hb⟩
  unfold BadC at this
  omega
theorem eok_U {t:TTask}{L cs:List Int}(h:cs.length=t.ops.length∧∀ x∈cs,0≤x∧x≤1048576):EOk (pEdges t L) cs (cntL t.vars L).toNat :=
 eok_P ⟨h.1,fun x hx=>by have:=h.2 x hx;omega⟩
theorem qsg {t:TTask}{L cs D:List Int}(hp:pErr t L=0) (hD:DistOk (pEdges t L) cs (GoalPK t L) (cntL t.vars L).toNat D):DbOk (dbI t L D):=by
 obtain⟨hg,hL,hB,hE⟩:=qgv hp
 have hdl:=hD.len
 have hol:=hg.ops
 have hvl:=hg.vars
 have key:∀ e∈pEdges t L,(0≤e.src∧e.src<(cntL t.vars L).toNat)∧(0≤e.dst∧e.dst<(cntL t.vars L).toNat)∧0≤e.lab∧e.lab<t.ops.length:=by
  intro e he
  obtain⟨x,op,y,hx,hop,hy,hT,rfl⟩:=qeD.1 he
  exact⟨⟨by simp only;omega,by simp only;omega⟩,⟨by simp only;omega,by simp only;omega⟩,by simp only;omega,by simp only;omega⟩
 refine⟨hg.pos,hL.mem,hB,hdl,fun e he => ?_,fun e he => ?_,fun e he => ?_,fun i hi=>hD.rng i (by rw [←hdl];exact hi),hvl,?_,hE⟩
 ·have:=(key e he).2.2
  simp only [dbI,sysOk,costsT,List.length_map]
  omega
 ·have:=(key e he).1
  show 0≤e.src∧e.src<D.length
  omega
 ·have:=(key e he).2.1
  show 0≤e.dst∧e.dst<D.length
  omega
 ·simp only [dbI,sysOk,costsT,List.length_map];omega
set_option maxRecDepth 8000 in
set_option maxHeartbeats 4000000 in
theorem qny {w0:World}{a b c d vp kv:Value}{vs:List OpV}{t:TTask}{L cs:List Int}(ht:RTask w0 a b c d vs t) (hp:RS tInt w0 vp L) (hk:RS tInt w0 kv cs) :
  Calls Tryz.prog 83 #[.agg #[a,b,c,d],vp,kv] w0 fun e w' =>
   (bErr t L cs≠0∧e=.returned (.tuple #[.pointer none,errV (bErr t L cs)])∧Sat w0 w' []) ∨
   (bErr t L cs=0∧pErr t L=0∧(csU t cs).length=t.ops.length∧(∀ x∈csU t cs,0≤x∧x≤1048576)∧∃ p D,e=.returned (.tuple #[.pointer (some p),.nilIface])∧DistOk (pEdges t L) (csU t cs) (GoalPK t L) (cntL t.vars L).toNat D∧Sat w0 w' [DbO p (dbI t L D)]):=by
 have ht':=ht
 obtain⟨ha,hb,hc,hd⟩:=ht
 have hrs:=hd.rs
 have hdl:=hd.len
 have hlk:=hk.big
 have hw:=Sat.start w0
 refine qab (args:=[.agg #[a,b,c,d],vp,kv]) mixed Tryz.func83 rfl (by kernel_rfl) (Nat.le_of_ble_eq_true rfl) ?_
 repeat (first|refine qaa ?_|(refine qaf ?_;clear hw;intro p w hw))
 obtain⟨pt,hpt⟩:∃ pt,pt=p:=⟨p,rfl⟩
 subst hpt
 refine qac rfl (qa6 (ht'.at hw)) ?_
 rintro _ w' ⟨rfl,hk'⟩
 replace hw:=hw.call0 hk'
 clear hk'
 refine⟨_,rfl,?_⟩
 by_cases h1:checkT t=0
 rotate_left
 ·have hbe:bErr t L cs=checkT t:=if_pos h1
  rw [qaA h1]
  repeat refine qaa ?_
  exact qav (v:=.pointer none) (v':=.iface 116 (.int .i64 (checkT t))) rfl rfl rfl (.inl ⟨by rw [hbe];exact h1,by rw [hbe,qaA h1],hw.sel⟩)
 rw [qaT h1]
 have hg:=(qbk t).1 h1
 repeat refine qaa ?_
 refine go_if (fun h2 => ?_) (fun h2 => ?_)
 ·have hbe:bErr t L cs=11:=by
   unfold bErr
   rw [if_neg (by simp [h1]),if_pos ⟨by omega,by omega⟩]
  repeat refine qaa ?_
  exact qav (v:=.pointer none) (v':=.iface 116 (.int .i64 11)) rfl rfl rfl (.inl ⟨by rw [hbe];decide,by rw [hbe,qaA (by decide)],hw.sel⟩)
 have h2':¬(0<cs.length∧cs.length≠t.ops.length):=by omega
 repeat refine qaa ?_
 refine qac rfl (qp4 (hk.at hw)) ?_
 rintro _ w' ⟨⟨r,rfl,hr⟩,hk'⟩
 replace hw:=hw.call0 hk'
 clear hk'
 refine⟨_,rfl,?_⟩
 cases r
 rotate_left
 ·have hbe:bErr t L cs=1:=by
   unfold bErr
   rw [if_neg (by simp [h1]),if_neg h2',if_pos (hr.1 rfl)]
  repeat refine qaa ?_
  exact qav (v:=.pointer none) (v':=.iface 116 (.int .i64 1)) rfl rfl rfl (.inl ⟨by rw [hbe];decide,by rw [hbe,qaA (by decide)],hw.sel⟩)
 have h3:¬∃ x∈cs,BadC x:=fun h=>by have:=hr.2 h;cases this
 have hbe:bErr t L cs=pErr t L:=by
  unfold bErr
  rw [if_neg (by simp [h1]),if_neg h2',if_neg h3]
 obtain⟨hu1,hu2⟩:=qts hg h2' h3
 repeat refine qaa ?_
 refine qac rfl (qff (ht'.at hw) (hp.at hw)) ?_
 rintro _ w' ⟨cv,ev,gv,rfl,hk'⟩
 by_cases h4:pErr t L=0
 rotate_left
 ·have hs:sysE t L (pErr t L)=sysNo:=if_neg h4
  rw [hs] at hk'
  rw [hs,qaA h4]
  have hw2:=hw.call hk'
  clear hw
  have hw:=hw2
  clear hw2
  refine⟨_,rfl,?_⟩
  have o1:=(hw.rs 0 rfl).one
  have o2:=(hw.rs 1 rfl).one
  have o3:=(hw.rs 2 rfl).one
  repeat (first|refine qaa ?_|(refine qaf ?_;clear hw;intro p w hw))
  refine qat (n:=5) (p:=p) (vs:=[.int .i64 0,.int .i64 0,cv,ev,gv]) rfl rfl hw inferInstance rfl rfl (by simp only [List.all_cons,List.all_nil,o1,o2,o3];rfl) ?_
  clear hw
  intro w hw
  repeat refine qaa ?_
  exact qav (v:=.pointer none) (v':=.iface 116 (.int .i64 (pErr t L))) rfl rfl rfl (.inl ⟨by rw [hbe];exact h4,by rw [hbe,qaA h4],hw.sel⟩)
 obtain⟨_,hL,hB,hEl⟩:=qgv h4
 rw [h4,qhZ] at hk'
 rw [h4,qaT rfl,qhZ,qnL]
 have hw2:=hw.call hk'
 clear hk' hw
 have hw:=hw2
 clear hw2
 refine⟨_,rfl,?_⟩
 have o1:=(hw.rs 0 rfl).one
 have o2:=(hw.rs 1 rfl).one
 have o3:=(hw.rs 2 rfl).one
 repeat (first|refine qaa ?_|(refine qaf ?_;clear hw;intro p w hw))
 refine qat (n:=5) (p:=p) (vs:=[.int .i64 (cntL t.vars L),.int .i64 (idxL t.vars L t.init),cv,ev,gv]) rfl rfl hw inferInstance rfl rfl (by simp only [List.all_cons,List.all_nil,o1,o2,o3];rfl) ?_
 clear hw
 intro w hw
 obtain⟨px,hpx⟩:∃ px,px=p:=⟨p,rfl⟩
 subst hpx
 have hN1:=qfj hg.pos hL.mem
 have hgl:=qhf t L (cntL t.vars L).toNat
 have hcl:(costsT t).length=t.ops.length:=by simp [costsT]
 repeat refine qaa ?_
 refine qb0 [2,43,44] (G:=Value) (fun g=>[(2,g)]) (fun g w=>(∀ w',Sat w0 w' [Box px 157 [.int .i64 (cntL t.vars L),.int .i64 (idxL t.vars L t.init),cv,ev,gv],OS tInt 3 cv (costsT t),OS tEdg 208 ev (pEdges t L),OS tBool 4 gv (goalsK t L (cntL t.vars L).toNat),Box pt 26 [a,b,c,d]]→RS tInt w' g (csU t cs))∧Sat w0 w [Box px 157 [.int .i64 (cntL t.vars L),.int .i64 (idxL t.vars L t.init),cv,ev,gv],OS tInt 3 cv (costsT t),OS tEdg 208 ev (pEdges t L),OS tBool 4 gv (goalsK t L (cntL t.vars L).toNat),Box pt 26 [a,b,c,d]]) (fun _=>rfl) ?_ ?_
 ·refine go_if (fun h5 => ?_) (fun h5 => ?_)
  ·have hz:csU t cs=costsT t:=if_pos (by omega)
   repeat refine qaa ?_
   exact⟨cv,⟨rfl,trivial⟩,agr,fun w' hw'=>by rw [hz];exact hw'.rs 1 rfl,hw⟩
  ·have hz:csU t cs=cs:=if_neg (by omega)
   repeat refine qaa ?_
   exact⟨kv,⟨rfl,trivial⟩,agr,fun w' hw'=>by rw [hz];exact hk.at hw',hw⟩
 clear hw
 rintro σ g w ⟨hgk,hw⟩
 have hvb:t.vars.length≤1099511627776:=by have:=hg.vars;omega
 have hlb:L.length≤1099511627776:=by
  have:=hL.len
  have:=hg.vars
  omega
 have hEok:=eok_U (L:=L) ⟨hu1,hu2⟩
 repeat refine qaa ?_
 refine qas [.op 0,.op 1,.op 3,.op 5,.op 6,.op 7,.op 2,.chk 5,.chk 6,.op 4,.chk 5,.chk 6,.op 8,.chk 5,.op 9,.op 10,.op 11,.op 12] hw (by kernel_rfl) ?_;clear hw;intro w hw
 repeat refine qaa ?_
 refine qac rfl (qax (ha.at hw) hvb) ?_
 rintro _ w' ⟨v1,rfl,hk'⟩
 replace hw:=hw.call1 hk'
 clear hk'
 refine⟨_,rfl,?_⟩
 repeat refine qaa ?_
 refine qac rfl (qax (hp.at hw) hlb) ?_
 rintro _ w' ⟨v2,rfl,hk'⟩
 replace hw:=hw.call1 hk'
 clear hk'
 refine⟨_,rfl,?_⟩
 repeat refine qaa ?_
 refine qac rfl (qgV (kv:=g) (S:=sysOk t L) (cv:=cv) (ev:=ev) (gv:=gv) ⟨rsO hw,rsO hw,rsO hw⟩ (hgk _ hw.sel) (by show 0≤cntL t.vars L;omega) (by show cntL t.vars L≤_;omega) (by show ((goalsK t L _).length:Int)=cntL t.vars L;omega) hEl hEok) ?_
 rintro _ w' ⟨v3,D,rfl,hD,hk'⟩
 replace hw:=hw.call1 hk'
 clear hk'
 refine⟨_,rfl,?_⟩
 repeat refine qaa ?_
 have c1:=(rsO (s:=v1) hw).cells1
 have c2:=(rsO (s:=v2) hw).cells1
 have c3:=(rsO (s:=v3) hw).cells1
 refine qa8 (parts:=[(0,.tmp 47),(1,.tmp 49),(2,.tmp 50),(3,.tmp 53)]) (vs:=[(0,v1),(1,v2),(2,.agg #[.int .i64 (cntL t.vars L),.int .i64 (idxL t.vars L t.init),cv,ev,gv]),(3,v3)]) (ls:=[(0,[v1]),(1,[v2]),(2,[.int .i64 (cntL t.vars L),.int .i64 (idxL t.vars L t.init),cv,ev,gv]),(3,[v3])]) rfl (by simp only [List.map_cons,List.map_nil,c1,c2,c3];rfl) rfl ?_
 refine qaa ?_
 refine qaV (vs:=dbC (dbI t L D) v1 v2 cv ev gv v3) rfl hw ?_
 clear hw
 intro p w hw
 have hw:=satDbShut (p:=p) (X:=dbI t L D) (vv:=v1) (pv:=v2) (cv:=cv) (ev:=ev) (gv:=gv) (tv:=v3) (Γ:=[]) (show Sat w0 w [Box p 214 (dbC (dbI t L D) v1 v2 cv ev gv v3),OS tInt 3 v1 t.vars,OS tInt 3 v2 L,OS tInt 3 cv (costsT t),OS tEdg 208 ev (pEdges t L),OS tBool 4 gv (goalsK t L (cntL t.vars L).toNat),OS tInt 3 v3 D] from hw.sel)
 repeat refine qaa ?_
 exact qav (v:=.pointer (some p)) (v':=.nilIface) rfl rfl rfl (.inr ⟨by rw [hbe];exact h4,rfl,hu1,hu2,p,D,rfl,hD,hw⟩)
end Go.Proofs.YtkmbenhffledpaaGreat
