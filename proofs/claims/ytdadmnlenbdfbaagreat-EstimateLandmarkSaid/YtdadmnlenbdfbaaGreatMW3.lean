/-
  Several texts as one: WTCheck2, WTCheck3, WClone, WEq.
-/
import Derived.Test.YtdadmnlenbdfbaaGreatMW1
import Derived.Test.YtdadmnlenbdfbaaGreatMW2
import Derived.Test.YtdadmnlenbdfbaaGreatMTA
set_option linter.unusedSimpArgs false
set_option linter.unusedVariables false
/-
  Contracts of 'conditions', 'large' and 'Check'.
-/
namespace Go.Proofs.YtdadmnlenbdfbaaGreat
open Go.Sl
attribute [local irreducible] vc opsW opsD opV opW PureV ReadV Thn Blk
def RConds (w:World) (cs:List Value) (L:List (List Fact)):Prop:=cs.length=L.length∧∀ i,i<L.length→RS tFact w (vget cs i) (L.getD i [])
theorem RConds.snoc {w:World}{cs:List Value}{L:List (List Fact)}{v:Value}{f:List Fact}(h:RConds w cs L) (hv:RS tFact w v f):RConds w (cs++[v]) (L++[f]):=by
 refine⟨by simp [h.1],fun i hi => ?_⟩
 simp only [List.length_append,List.length_cons,List.length_nil] at hi
 by_cases e:i<L.length
 ·have:=h.2 i e
  rw [qaV] at this ⊢
  simp only [List.getD_eq_getElem?_getD] at this ⊢
  rw [List.getElem?_append_left (by rw [h.1];exact e),List.getElem?_append_left e]
  exact this
 ·have e2:i=L.length:=by omega
  subst e2
  rw [qaV]
  simp only [List.getD_eq_getElem?_getD]
  rw [List.getElem?_append_right (by rw [h.1];exact Nat.le_refl _),List.getElem?_append_right (Nat.le_refl _),h.1]
  simpa using hv
theorem RConds.at {w0 w:World}{Γ:List HP}{cs:List Value}{L:List (List Fact)}(h:RConds w0 cs L) (hw:Sat w0 w Γ):RConds w cs L:=⟨h.1,fun i hi=>(h.2 i hi).at hw⟩
def condsJ (t:TTask) (k j:Nat):List (List Fact):=condsK t k++(t.ops.getD k dOp).pre::((t.ops.getD k dOp).effs.take j).map (·.when)
theorem qgv (t:TTask) {k j:Nat}(hj:j<(t.ops.getD k dOp).effs.length):condsJ t k (j+1)=condsJ t k j++[((t.ops.getD k dOp).effs.getD j dEff).when]:=by
 unfold condsJ
 generalize t.ops.getD k dOp=o at *
 rw [qav dEff hj];simp
theorem qh3 (t:TTask) {k:Nat}(hk:k<t.ops.length):condsJ t k (t.ops.getD k dOp).effs.length=condsK t (k+1):=by
 rw [qem t hk]
 unfold condsJ opConds
 generalize t.ops.getD k dOp=o at *
 simp
theorem qh4 (t:TTask) {k j:Nat}(hj:j≤(t.ops.getD k dOp).effs.length):(condsJ t k j).length=(condsK t k).length+1+j:=by
 unfold condsJ
 generalize t.ops.getD k dOp=o at *
 simp;omega
set_option maxRecDepth 8000 in
set_option maxHeartbeats 2000000 in
theorem qb5 {wb w0:World}{Γ:List HP}{a b c d:Value}{vs:List OpV}{t:TTask}(htb:RTask wb a b c d vs t) (hs:Sat wb w0 Γ) (hn:t.ops.length≤4096) (he:∀ i,i<t.ops.length→(t.ops.getD i dOp).effs.length≤64) :
  Calls Tryz.prog 37 #[.agg #[a,b,c,d]] w0 fun e w'=>∃ s cs,e=.returned s∧RConds wb cs (conds t)∧Sat w0 w' [OS tVal 23 s cs]:=by
 have hdb:=htb.ops
 have hcb:=htb.goal
 obtain⟨ha,hb,hc,hd⟩:=htb.at hs
 have hrs:=hd.rs
 have hdl:=hd.len
 have hw:=Sat.start w0
 refine qaf (args:=[.agg #[a,b,c,d]]) mixed Tryz.func37 rfl (by kernel_rfl) (Nat.le_of_ble_eq_true rfl) ?_
 repeat (first|refine qac ?_|(refine qaa ?_;clear hw;intro p w hw)|(refine qad ?_;clear hw;intro w hw)|(refine qab ?_;clear hw;intro s w hw))
 obtain⟨pt,hpt⟩:∃ pt,pt=p:=⟨p,rfl⟩
 subst hpt
 have hc0:RConds wb [c] (condsK t 0):=by
  rw [qgS]
  refine⟨rfl,fun i hi => ?_⟩
  simp at hi
  subst hi
  rw [qaV]
  simpa using hcb
 refine qat [3,5,7,14,15,16,17,18,19,20,21,22,23,24,25,26,27,28,29,30,31,32,33,34,35,36] (G:=Nat) (H:=Value × List Value) (fun k x=>[(14,.int .i64 k),(3,x.1)]) (fun k x w=>k≤t.ops.length∧RConds wb x.2 (condsK t k)∧Sat w0 w [OS tVal 23 x.1 x.2,Box pt 26 [a,b,c,d]]) (fun k x=>t.ops.length-k) 0 (s,[c]) (fun _ _=>rfl) ⟨rfl,rfl,trivial⟩ ⟨Nat.zero_le _,hc0,hw⟩ ?_
 clear hw
 rintro σ k ⟨s,cs⟩ w ⟨hk,hcs,hw⟩
 simp only at hcs hw
 have hkl:=qdn t k hk he
 have hcl:=hcs.1
 repeat (first|refine qac ?_|(refine qaa ?_;clear hw;intro p w hw)|(refine qad ?_;clear hw;intro w hw)|(refine qab ?_;clear hw;intro s w hw))
 refine go_if (fun h1 => ?_) (fun h1 => ?_)
 ·have hop:=hd.at_ k (by omega)
  have hone:=hop.one
  have hopb:=hdb.at_ k (by omega)
  have hpreb:=hopb.pre
  have hpre:=hop.pre
  obtain⟨es,hesb⟩:=hopb.effs
  have hes:=hesb.at hs
  have hers:=hes.rs
  have hel:=hes.len
  have hek:=he k (by omega)
  repeat (first|refine qac ?_|(refine qaa ?_;clear hw;intro p w hw)|(refine qad ?_;clear hw;intro w hw)|(refine qab ?_;clear hw;intro s w hw))
  have hc1:RConds wb (cs++[(eget tOp vs k).pre]) (condsJ t k 0):=by
   have:=hcs.snoc hpreb
   simpa [condsJ] using this
  refine qat [3,7,26,27,28,29,30,31,32,33,34,35] (G:=Nat) (H:=Value × List Value) (fun j x=>[(26,.int .i64 j),(3,x.1)]) (fun j x w=>j≤(t.ops.getD k dOp).effs.length∧RConds wb x.2 (condsJ t k j)∧Sat w0 w [OS tVal 23 x.1 x.2,Box pt 26 [a,b,c,d]]) (fun j x=>(t.ops.getD k dOp).effs.length-j) 0 (s,cs++[(eget tOp vs k).pre]) (fun _ _=>rfl) ⟨rfl,rfl,trivial⟩ ⟨Nat.zero_le _,hc1,hw.tail.tail⟩ ?_
  clear hw hcs hcl hc1
  rintro σ1 j ⟨s2,cs2⟩ w ⟨hj,hcs,hw⟩
  simp only at hcs hw
  have hjl:=qh4 t hj
  have hcl:=hcs.1
  repeat (first|refine qac ?_|(refine qaa ?_;clear hw;intro p w hw)|(refine qad ?_;clear hw;intro w hw)|(refine qab ?_;clear hw;intro s w hw))
  refine go_if (fun h2 => ?_) (fun h2 => ?_)
  ·have hej:=hes.at_ j (by omega)
   have hone2:=hej.one
   have hwh:=hej.when
   have hwhb:=(hesb.at_ j (by omega)).when
   repeat (first|refine qac ?_|(refine qaa ?_;clear hw;intro p w hw)|(refine qad ?_;clear hw;intro w hw)|(refine qab ?_;clear hw;intro s w hw))
   have hc3:=hcs.snoc hwhb
   rw [←qgv t (by omega)] at hc3
   exact⟨j+1,(s,cs2++[(eget tEff es j).when]),⟨rfl,rfl,trivial⟩,agr,⟨by omega,hc3,hw.tail.tail⟩,by omega⟩
  ·have hje:j=(t.ops.getD k dOp).effs.length:=by omega
   subst hje
   rw [qh3 t (by omega)] at hcs
   repeat (first|refine qac ?_|(refine qaa ?_;clear hw;intro p w hw)|(refine qad ?_;clear hw;intro w hw)|(refine qab ?_;clear hw;intro s w hw))
   exact⟨k+1,(s2,cs2),⟨rfl,rfl,trivial⟩,agr,⟨by omega,hcs,hw⟩,by omega⟩
 ·have hke:k=t.ops.length:=by omega
  subst hke
  repeat (first|refine qac ?_|(refine qaa ?_;clear hw;intro p w hw)|(refine qad ?_;clear hw;intro w hw)|(refine qab ?_;clear hw;intro s w hw))
  exact qai (v:=s) rfl rfl ⟨s,cs,rfl,hcs,hw.only⟩
set_option maxRecDepth 8000 in
theorem qgY {w0:World}{a:Value}{f:List Fact}(ha:RS tFact w0 a f) :
  Calls Tryz.prog 61 #[a] w0 fun e w'=>e=.returned (.bool (decide (64<(f.length:Int))))∧Sat w0 w' []:=by
 have hla:=ha.big
 have hw:=Sat.start w0
 refine qaf (args:=[a]) mixed Tryz.func61 rfl (by kernel_rfl) (Nat.le_of_ble_eq_true rfl) ?_
 repeat (first|refine qac ?_|(refine qaa ?_;clear hw;intro p w hw)|(refine qad ?_;clear hw;intro w hw)|(refine qab ?_;clear hw;intro s w hw))
 exact qai (v:=.bool (decide (64<(f.length:Int)))) rfl rfl ⟨rfl,hw⟩
set_option maxRecDepth 8000 in
theorem qfu {w0:World}{a:Value}{cs:List Value}{L:List (List Fact)}(ha:RS tVal w0 a cs) (hL:RConds w0 cs L) :
  Calls Tryz.prog 79 #[a,.func (.func 61) #[] #[]] w0 fun e w'=>(∃ r:Int,e=.returned (.int .i64 r)∧(0≤r↔∃ i,i<L.length∧64<(L.getD i []).length))∧Sat w0 w' []:=by
 have hla:=ha.big
 have hcl:=hL.1
 have hw:=Sat.start w0
 refine qaf (args:=[a,.func (.func 61) #[] #[]]) mixed Tryz.func79 rfl (by kernel_rfl) (Nat.le_of_ble_eq_true rfl) ?_
 repeat (first|refine qac ?_|(refine qaa ?_;clear hw;intro p w hw)|(refine qad ?_;clear hw;intro w hw)|(refine qab ?_;clear hw;intro s w hw))
 refine qao [4,5,8,9,10,11,12,13,14,15,16,17,18] (G:=Nat) (fun k=>[(8,.int .i64 k)]) (fun k w=>k≤L.length∧(∀ i,i<k→(L.getD i []).length≤64)∧Sat w0 w []) (fun k=>L.length-k) 0 (fun _=>rfl) ⟨rfl,trivial⟩ ⟨Nat.zero_le _,fun i hi=>absurd hi (Nat.not_lt_zero _),hw⟩ ?_
 clear hw
 rintro σ k w ⟨hk,hpre,hw⟩
 repeat (first|refine qac ?_|(refine qaa ?_;clear hw;intro p w hw)|(refine qad ?_;clear hw;intro w hw)|(refine qab ?_;clear hw;intro s w hw))
 refine go_if (fun h1 => ?_) (fun h1 => ?_)
 ·repeat (first|refine qac ?_|(refine qaa ?_;clear hw;intro p w hw)|(refine qad ?_;clear hw;intro w hw)|(refine qab ?_;clear hw;intro s w hw))
  refine qa9 (cs:=[]) rfl rfl (qgY ((hL.2 k (by omega)).at hw)) ?_
  rintro _ w' ⟨rfl,hk'⟩
  replace hw:=hw.call0 hk'
  clear hk'
  refine⟨_,rfl,?_⟩
  repeat (first|refine qac ?_|(refine qaa ?_;clear hw;intro p w hw)|(refine qad ?_;clear hw;intro w hw)|(refine qab ?_;clear hw;intro s w hw))
  refine go_if (fun h2 => ?_) (fun h2 => ?_)
  ·repeat (first|refine qac ?_|(refine qaa ?_;clear hw;intro p w hw)|(refine qad ?_;clear hw;intro w hw)|(refine qab ?_;clear hw;intro s w hw))
   exact qai (v:=.int .i64 k) rfl rfl ⟨⟨k,rfl,⟨fun _=>⟨k,by omega,by omega⟩,fun _=>by omega⟩⟩,hw⟩
  ·repeat (first|refine qac ?_|(refine qaa ?_;clear hw;intro p w hw)|(refine qad ?_;clear hw;intro w hw)|(refine qab ?_;clear hw;intro s w hw))
   refine⟨k+1,⟨rfl,trivial⟩,agr,⟨by omega,fun i hi => ?_,hw⟩,by omega⟩
   by_cases h:i=k
   ·subst h;omega
   ·exact hpre i (by omega)
 ·repeat (first|refine qac ?_|(refine qaa ?_;clear hw;intro p w hw)|(refine qad ?_;clear hw;intro w hw)|(refine qab ?_;clear hw;intro s w hw))
  refine qai (v:=.int .i64 (-1)) rfl rfl ⟨⟨-1,rfl,⟨fun h=>absurd h (by decide),fun⟨i,hi,hb⟩ => ?_⟩⟩,hw⟩
  have:=hpre i (by omega)
  omega
set_option maxRecDepth 8000 in
theorem qfv {w0:World}{a:Value}{cs:List Value}{L:List (List Fact)}(ha:RS tVal w0 a cs) (hL:RConds w0 cs L) :
  Calls Tryz.prog 60 #[a,.func (.func 61) #[] #[]] w0 fun e w'=>(∃ r,e=.returned (.bool r)∧(r=true↔∃ i,i<L.length∧64<(L.getD i []).length))∧Sat w0 w' []:=by
 have hw:=Sat.start w0
 refine qaf (args:=[a,.func (.func 61) #[] #[]]) mixed Tryz.func60 rfl (by kernel_rfl) (Nat.le_of_ble_eq_true rfl) ?_
 repeat (first|refine qac ?_|(refine qaa ?_;clear hw;intro p w hw)|(refine qad ?_;clear hw;intro w hw)|(refine qab ?_;clear hw;intro s w hw))
 refine qag rfl (qfu (ha.at hw) (hL.at hw)) ?_
 rintro _ w' ⟨⟨r,rfl,hr⟩,hk'⟩
 replace hw:=hw.call0 hk'
 clear hk'
 refine⟨_,rfl,?_⟩
 repeat (first|refine qac ?_|(refine qaa ?_;clear hw;intro p w hw)|(refine qad ?_;clear hw;intro w hw)|(refine qab ?_;clear hw;intro s w hw))
 refine qai (v:=.bool (decide (0≤r))) rfl rfl ⟨⟨_,rfl,?_⟩,hw⟩
 rw [decide_eq_true_eq,hr]
set_option maxRecDepth 8000 in
set_option maxHeartbeats 2000000 in
theorem qiu {w0:World}{a b c d:Value}{vs:List OpV}{t:TTask}(ht:RTask w0 a b c d vs t) :
  Calls Tryz.prog 36 #[.agg #[a,b,c,d]] w0 fun e w'=>(∃ r,e=.returned (.bool r)∧(r=true↔LargeT t))∧Sat w0 w' []:=by
 have ht':=ht
 obtain⟨ha,hb,hc,hd⟩:=ht
 have hrs:=hd.rs
 have hdl:=hd.len
 have hla:=ha.big
 have hll:=hrs.big
 have hw:=Sat.start w0
 refine qaf (args:=[.agg #[a,b,c,d]]) mixed Tryz.func36 rfl (by kernel_rfl) (Nat.le_of_ble_eq_true rfl) ?_
 repeat (first|refine qac ?_|(refine qaa ?_;clear hw;intro p w hw)|(refine qad ?_;clear hw;intro w hw)|(refine qab ?_;clear hw;intro s w hw))
 refine go_if (fun h1 => ?_) (fun h1 => ?_)
 ·repeat (first|refine qac ?_|(refine qaa ?_;clear hw;intro p w hw)|(refine qad ?_;clear hw;intro w hw)|(refine qab ?_;clear hw;intro s w hw))
  refine qai (v:=.bool true) rfl rfl ⟨⟨true,rfl,iffT ?_⟩,hw.tail⟩
  unfold LargeT
  omega
 ·repeat (first|refine qac ?_|(refine qaa ?_;clear hw;intro p w hw)|(refine qad ?_;clear hw;intro w hw)|(refine qab ?_;clear hw;intro s w hw))
  obtain⟨pt,hpt⟩:∃ pt,pt=p:=⟨p,rfl⟩
  subst hpt
  refine qao [2,4,18,19,20,21,22,23,24,25,26] (G:=Nat) (fun k=>[(18,.int .i64 k)]) (fun k w=>k≤t.ops.length∧(∀ i,i<k→(t.ops.getD i dOp).effs.length≤64)∧Sat w0 w [Box pt 26 [a,b,c,d]]) (fun k=>t.ops.length-k) 0 (fun _=>rfl) ⟨rfl,trivial⟩ ⟨Nat.zero_le _,fun i hi=>absurd hi (Nat.not_lt_zero _),hw⟩ ?_
  clear hw
  rintro σ k w ⟨hk,hef,hw⟩
  repeat (first|refine qac ?_|(refine qaa ?_;clear hw;intro p w hw)|(refine qad ?_;clear hw;intro w hw)|(refine qab ?_;clear hw;intro s w hw))
  refine go_if (fun h2 => ?_) (fun h2 => ?_)
  ·have hop:=hd.at_ k (by omega)
   have hone:=hop.one
   obtain⟨es,hes⟩:=hop.effs
   have hers:=hes.rs
   have hel:=hes.len
   have heb:=hers.big
   repeat (first|refine qac ?_|(refine qaa ?_;clear hw;intro p w hw)|(refine qad ?_;clear hw;intro w hw)|(refine qab ?_;clear hw;intro s w hw))
   refine go_if (fun h3 => ?_) (fun h3 => ?_)
   ·repeat (first|refine qac ?_|(refine qaa ?_;clear hw;intro p w hw)|(refine qad ?_;clear hw;intro w hw)|(refine qab ?_;clear hw;intro s w hw))
    refine qai (v:=.bool true) rfl rfl ⟨⟨true,rfl,iffT (.inr (.inr (.inl ⟨k,by omega,by omega⟩)))⟩,hw.tail.tail⟩
   ·repeat (first|refine qac ?_|(refine qaa ?_;clear hw;intro p w hw)|(refine qad ?_;clear hw;intro w hw)|(refine qab ?_;clear hw;intro s w hw))
    refine⟨k+1,⟨rfl,trivial⟩,agr,⟨by omega,fun i hi => ?_,hw.tail⟩,by omega⟩
    by_cases h:i=k
    ·subst h;omega
    ·exact hef i (by omega)
  ·repeat (first|refine qac ?_|(refine qaa ?_;clear hw;intro p w hw)|(refine qad ?_;clear hw;intro w hw)|(refine qab ?_;clear hw;intro s w hw))
   refine qag rfl (qb5 ht' hw (by omega) (fun i hi=>hef i (by omega))) ?_
   rintro _ w' ⟨s,cs,rfl,hcs,hk'⟩
   replace hw:=hw.call1 hk'
   clear hk'
   refine⟨_,rfl,?_⟩
   repeat (first|refine qac ?_|(refine qaa ?_;clear hw;intro p w hw)|(refine qad ?_;clear hw;intro w hw)|(refine qab ?_;clear hw;intro s w hw))
   refine qag rfl (qfv (a:=s) (rsO hw) (hcs.at hw)) ?_
   rintro _ w' ⟨⟨r,rfl,hr⟩,hk'⟩
   replace hw:=hw.call0 hk'
   clear hk'
   refine⟨_,rfl,?_⟩
   repeat (first|refine qac ?_|(refine qaa ?_;clear hw;intro p w hw)|(refine qad ?_;clear hw;intro w hw)|(refine qab ?_;clear hw;intro s w hw))
   refine qai (v:=.bool r) rfl rfl ⟨⟨r,rfl,hr.trans ⟨fun h=>.inr (.inr (.inr h)),fun h => ?_⟩⟩,hw.tail.tail⟩
   rcases h with h|h|⟨i,hi,h⟩|h
   ·omega
   ·omega
   ·have:=hef i (by omega);omega
   ·exact h
end Go.Proofs.YtdadmnlenbdfbaaGreat
/-
  Contract of 'task.Check'.
-/
namespace Go.Proofs.YtdadmnlenbdfbaaGreat
open Go.Sl
attribute [local irreducible] vc opsW opsD opV opW PureV ReadV Thn Blk
theorem qf7 {t:TTask}(h:LargeT t):checkT t=5:=by simp [checkT,h]
theorem qio {t:TTask}(h1:¬LargeT t) (h2:¬DomT t):checkT t=1:=by simp [checkT,h1,h2]
theorem qgO {t:TTask}(h1:¬LargeT t) (h2:DomT t) (h3:¬CostT t):checkT t=1:=by simp [checkT,h1,h2,h3]
theorem qgP {t:TTask}(h1:¬LargeT t) (h2:DomT t) (h3:CostT t) (h4:¬StateOk t.vars t.init):checkT t=2:=by simp [checkT,h1,h2,h3,h4]
theorem qgQ {t:TTask}(h1:¬LargeT t) (h2:DomT t) (h3:CostT t) (h4:StateOk t.vars t.init) (h5:¬CondT t):checkT t=2:=by simp [checkT,h1,h2,h3,h4,h5]
theorem qip {t:TTask}(h1:¬LargeT t) (h2:DomT t) (h3:CostT t) (h4:StateOk t.vars t.init) (h5:CondT t) (h6:¬EffT t):checkT t=2:=by simp [checkT,h1,h2,h3,h4,h5,h6]
theorem qgR {t:TTask}(h1:¬LargeT t) (h2:DomT t) (h3:CostT t) (h4:StateOk t.vars t.init) (h5:CondT t) (h6:EffT t) (h7:¬NamesT t):checkT t=8:=by simp [checkT,h1,h2,h3,h4,h5,h6,h7]
theorem qjU {t:TTask}(h1:¬LargeT t) (h2:DomT t) (h3:CostT t) (h4:StateOk t.vars t.init) (h5:CondT t) (h6:EffT t) (h7:NamesT t):checkT t=0:=by simp [checkT,h1,h2,h3,h4,h5,h6,h7]
set_option maxRecDepth 8000 in
set_option maxHeartbeats 4000000 in
theorem qbG {w0:World}{a b c d:Value}{vs:List OpV}{t:TTask}(ht:RTask w0 a b c d vs t) :
  Calls Tryz.prog 18 #[.agg #[a,b,c,d]] w0 fun e w'=>e=.returned (errV (checkT t))∧Sat w0 w' []:=by
 have ht':=ht
 obtain⟨ha,hb,hc,hd⟩:=ht
 have hrs:=hd.rs
 have hdl:=hd.len
 have hla:=ha.big
 have hll:=hrs.big
 have hw:=Sat.start w0
 refine qaf (args:=[.agg #[a,b,c,d]]) mixed Tryz.func18 rfl (by kernel_rfl) (Nat.le_of_ble_eq_true rfl) ?_
 repeat (first|refine qac ?_|(refine qaa ?_;clear hw;intro p w hw)|(refine qad ?_;clear hw;intro w hw)|(refine qab ?_;clear hw;intro s w hw))
 obtain⟨pt,hpt⟩:∃ pt,pt=p:=⟨p,rfl⟩
 subst hpt
 refine qag rfl (qiu (ht'.at hw)) ?_
 rintro _ w' ⟨⟨r,rfl,hr⟩,hk'⟩
 replace hw:=hw.call0 hk'
 clear hk'
 refine⟨_,rfl,?_⟩
 cases r with
 | true =>
  repeat (first|refine qac ?_|(refine qaa ?_;clear hw;intro p w hw)|(refine qad ?_;clear hw;intro w hw)|(refine qab ?_;clear hw;intro s w hw))
  exact qai (v:=.iface 35 (.int .i64 5)) rfl rfl ⟨by rw [qf7 (hr.1 rfl)];rfl,hw.tail⟩
 | false =>
  have h1:¬LargeT t:=fun h=>by have:=hr.2 h;cases this
  have h1a:t.ops.length≤4096:=Nat.le_of_not_lt fun h=>h1 (.inr (.inl h))
  have h1b:∀ i,i<t.ops.length→(t.ops.getD i dOp).effs.length≤64:=fun i hi=>Nat.le_of_not_lt fun h=>h1 (.inr (.inr (.inl ⟨i,hi,h⟩)))
  repeat (first|refine qac ?_|(refine qaa ?_;clear hw;intro p w hw)|(refine qad ?_;clear hw;intro w hw)|(refine qab ?_;clear hw;intro s w hw))
  refine qao [2,4,21,22,23,24,25,26,27,28,29,30,31,32] (G:=Nat) (fun k=>[(21,.int .i64 k)]) (fun k w=>k≤t.vars.length∧(∀ i,i<k→1≤t.vars.getD i tInt.dflt∧t.vars.getD i tInt.dflt≤64)∧Sat w0 w [Box pt 26 [a,b,c,d]]) (fun k=>t.vars.length-k) 0 (fun _=>rfl) ⟨rfl,trivial⟩ ⟨Nat.zero_le _,fun i hi=>absurd hi (Nat.not_lt_zero _),hw⟩ ?_
  clear hw
  rintro σ k w ⟨hk,hdm,hw⟩
  repeat (first|refine qac ?_|(refine qaa ?_;clear hw;intro p w hw)|(refine qad ?_;clear hw;intro w hw)|(refine qab ?_;clear hw;intro s w hw))
  refine go_if (fun h2 => ?_) (fun h2 => ?_)
  ·repeat (first|refine qac ?_|(refine qaa ?_;clear hw;intro p w hw)|(refine qad ?_;clear hw;intro w hw)|(refine qab ?_;clear hw;intro s w hw))
   refine go_if (fun h3 => ?_) (fun h3 => ?_)
   ·repeat (first|refine qac ?_|(refine qaa ?_;clear hw;intro p w hw)|(refine qad ?_;clear hw;intro w hw)|(refine qab ?_;clear hw;intro s w hw))
    have hno:¬DomT t:=fun h=>by have:=h k (by omega);omega
    exact qai (v:=.iface 35 (.int .i64 1)) rfl rfl ⟨by rw [qio h1 hno];rfl,hw.tail⟩
   ·repeat (first|refine qac ?_|(refine qaa ?_;clear hw;intro p w hw)|(refine qad ?_;clear hw;intro w hw)|(refine qab ?_;clear hw;intro s w hw))
    refine⟨k+1,⟨rfl,trivial⟩,agr,⟨by omega,fun i hi => ?_,hw⟩,by omega⟩
    by_cases h:i=k
    ·subst h;omega
    ·exact hdm i (by omega)
  ·have hD:DomT t:=fun i hi=>hdm i (by omega)
   clear hdm h2 hk
   repeat (first|refine qac ?_|(refine qaa ?_;clear hw;intro p w hw)|(refine qad ?_;clear hw;intro w hw)|(refine qab ?_;clear hw;intro s w hw))
   refine qao [2,6,36,37,38,39,40,41,42,43,44,45,46,47,48,49] (G:=Nat) (fun k=>[(36,.int .i64 k)]) (fun k w=>k≤t.ops.length∧(∀ i,i<k→0≤(t.ops.getD i dOp).cost∧(t.ops.getD i dOp).cost≤1048576)∧Sat w0 w [Box pt 26 [a,b,c,d]]) (fun k=>t.ops.length-k) 0 (fun _=>rfl) ⟨rfl,trivial⟩ ⟨Nat.zero_le _,fun i hi=>absurd hi (Nat.not_lt_zero _),hw⟩ ?_
   clear hw
   rintro σ1 k w ⟨hk,hco,hw⟩
   repeat (first|refine qac ?_|(refine qaa ?_;clear hw;intro p w hw)|(refine qad ?_;clear hw;intro w hw)|(refine qab ?_;clear hw;intro s w hw))
   refine go_if (fun h2 => ?_) (fun h2 => ?_)
   ·have hop:=hd.at_ k (by omega)
    have hone:=hop.one
    have hcost:=hop.cost
    repeat (first|refine qac ?_|(refine qaa ?_;clear hw;intro p w hw)|(refine qad ?_;clear hw;intro w hw)|(refine qab ?_;clear hw;intro s w hw))
    refine go_if (fun h3 => ?_) (fun h3 => ?_)
    ·repeat (first|refine qac ?_|(refine qaa ?_;clear hw;intro p w hw)|(refine qad ?_;clear hw;intro w hw)|(refine qab ?_;clear hw;intro s w hw))
     have hno:¬CostT t:=fun h=>by have:=h k (by omega);omega
     exact qai (v:=.iface 35 (.int .i64 1)) rfl rfl ⟨by rw [qgO h1 hD hno];rfl,hw.tail.tail⟩
    ·repeat (first|refine qac ?_|(refine qaa ?_;clear hw;intro p w hw)|(refine qad ?_;clear hw;intro w hw)|(refine qab ?_;clear hw;intro s w hw))
     refine⟨k+1,⟨rfl,trivial⟩,agr,⟨by omega,fun i hi => ?_,hw.tail⟩,by omega⟩
     by_cases h:i=k
     ·subst h;omega
     ·exact hco i (by omega)
   ·have hC:CostT t:=fun i hi=>hco i (by omega)
    clear hco h2 hk
    repeat (first|refine qac ?_|(refine qaa ?_;clear hw;intro p w hw)|(refine qad ?_;clear hw;intro w hw)|(refine qab ?_;clear hw;intro s w hw))
    refine qag rfl (qbt (a:=a) (b:=b) (ha.at hw) (hb.at hw)) ?_
    rintro _ w' ⟨⟨r,rfl,hr2⟩,hk'⟩
    replace hw:=hw.call0 hk'
    clear hk'
    refine⟨_,rfl,?_⟩
    cases r with
    | false =>
     repeat (first|refine qac ?_|(refine qaa ?_;clear hw;intro p w hw)|(refine qad ?_;clear hw;intro w hw)|(refine qab ?_;clear hw;intro s w hw))
     have hno:¬StateOk t.vars t.init:=fun h=>by have:=hr2.2 h;cases this
     exact qai (v:=.iface 35 (.int .i64 2)) rfl rfl ⟨by rw [qgP h1 hD hC hno];rfl,hw.tail⟩
    | true =>
     have hS:=hr2.1 rfl
     repeat (first|refine qac ?_|(refine qaa ?_;clear hw;intro p w hw)|(refine qad ?_;clear hw;intro w hw)|(refine qab ?_;clear hw;intro s w hw))
     refine qag rfl (qb5 ht' hw h1a h1b) ?_
     rintro _ w' ⟨s,cs,rfl,hcs,hk'⟩
     replace hw:=hw.call1 hk'
     clear hk'
     have hcl:=hcs.1
     have hcb:=qdn t t.ops.length (Nat.le_refl _) h1b
     have hcd:(conds t).length=(condsK t t.ops.length).length:=rfl
     refine⟨_,rfl,?_⟩
     repeat (first|refine qac ?_|(refine qaa ?_;clear hw;intro p w hw)|(refine qad ?_;clear hw;intro w hw)|(refine qab ?_;clear hw;intro s w hw))
     refine qao [2,8,60,61,62,63,64,65,66,67,68,69,70] (G:=Nat) (fun k=>[(60,.int .i64 k)]) (fun k w=>k≤(conds t).length∧(∀ i,i<k→FactsOk t.vars ((conds t).getD i []))∧Sat w0 w [OS tVal 23 s cs,Box pt 26 [a,b,c,d]]) (fun k=>(conds t).length-k) 0 (fun _=>rfl) ⟨rfl,trivial⟩ ⟨Nat.zero_le _,fun i hi=>absurd hi (Nat.not_lt_zero _),hw⟩ ?_
     clear hw
     rintro σ2 k w ⟨hk,hcn,hw⟩
     repeat (first|refine qac ?_|(refine qaa ?_;clear hw;intro p w hw)|(refine qad ?_;clear hw;intro w hw)|(refine qab ?_;clear hw;intro s w hw))
     refine go_if (fun h2 => ?_) (fun h2 => ?_)
     ·repeat (first|refine qac ?_|(refine qaa ?_;clear hw;intro p w hw)|(refine qad ?_;clear hw;intro w hw)|(refine qab ?_;clear hw;intro s w hw))
      refine qag rfl (qes (a:=a) (b:=vget cs k) (ha.at hw) ((hcs.2 k (by omega)).at hw)) ?_
      rintro _ w' ⟨⟨r,rfl,hr3⟩,hk'⟩
      replace hw:=hw.call0 hk'
      clear hk'
      refine⟨_,rfl,?_⟩
      cases r with
      | false =>
       repeat (first|refine qac ?_|(refine qaa ?_;clear hw;intro p w hw)|(refine qad ?_;clear hw;intro w hw)|(refine qab ?_;clear hw;intro s w hw))
       have hno:¬CondT t:=fun h=>by have:=hr3.2 (h k (by omega));cases this
       exact qai (v:=.iface 35 (.int .i64 2)) rfl rfl ⟨by rw [qgQ h1 hD hC hS hno];rfl,hw.tail.tail⟩
      | true =>
       repeat (first|refine qac ?_|(refine qaa ?_;clear hw;intro p w hw)|(refine qad ?_;clear hw;intro w hw)|(refine qab ?_;clear hw;intro s w hw))
       refine⟨k+1,⟨rfl,trivial⟩,agr,⟨by omega,fun i hi => ?_,hw⟩,by omega⟩
       by_cases h:i=k
       ·subst h;exact hr3.1 rfl
       ·exact hcn i (by omega)
     ·have hK:CondT t:=fun i hi=>hcn i (by omega)
      replace hw:=hw.tail
      clear hcn h2 hk hcl hcs
      repeat (first|refine qac ?_|(refine qaa ?_;clear hw;intro p w hw)|(refine qad ?_;clear hw;intro w hw)|(refine qab ?_;clear hw;intro s w hw))
      refine qao [2,10,12,74,75,76,77,78,79,80,81,82,83,84,85,86,87,88,89,90,91,92,93,94,95,96,97] (G:=Nat) (fun k=>[(74,.int .i64 k)]) (fun k w=>k≤t.ops.length∧(∀ i,i<k→∀ j,j<(t.ops.getD i dOp).effs.length→FactsOk t.vars [⟨((t.ops.getD i dOp).effs.getD j dEff).var,((t.ops.getD i dOp).effs.getD j dEff).val⟩])∧Sat w0 w [Box pt 26 [a,b,c,d]]) (fun k=>t.ops.length-k) 0 (fun _=>rfl) ⟨rfl,trivial⟩ ⟨Nat.zero_le _,fun i hi=>absurd hi (Nat.not_lt_zero _),hw⟩ ?_
      clear hw
      rintro σ3 k w ⟨hk,hef,hw⟩
      repeat (first|refine qac ?_|(refine qaa ?_;clear hw;intro p w hw)|(refine qad ?_;clear hw;intro w hw)|(refine qab ?_;clear hw;intro s w hw))
      refine go_if (fun h2 => ?_) (fun h2 => ?_)
      ·have hop:=hd.at_ k (by omega)
       have hone:=hop.one
       obtain⟨es,hes⟩:=hop.effs
       have hers:=hes.rs
       have hel:=hes.len
       have heb:=hers.big
       repeat (first|refine qac ?_|(refine qaa ?_;clear hw;intro p w hw)|(refine qad ?_;clear hw;intro w hw)|(refine qab ?_;clear hw;intro s w hw))
       refine qao [2,12,81,82,83,84,85,86,87,88,89,90,91,92,93,94,95,96] (G:=Nat) (fun j=>[(81,.int .i64 j)]) (fun j w=>j≤(t.ops.getD k dOp).effs.length∧(∀ i,i<j→FactsOk t.vars [⟨((t.ops.getD k dOp).effs.getD i dEff).var,((t.ops.getD k dOp).effs.getD i dEff).val⟩])∧Sat w0 w [Box pt 26 [a,b,c,d]]) (fun j=>(t.ops.getD k dOp).effs.length-j) 0 (fun _=>rfl) ⟨rfl,trivial⟩ ⟨Nat.zero_le _,fun i hi=>absurd hi (Nat.not_lt_zero _),hw.tail⟩ ?_
       clear hw
       rintro σ4 j w ⟨hj,hjf,hw⟩
       repeat (first|refine qac ?_|(refine qaa ?_;clear hw;intro p w hw)|(refine qad ?_;clear hw;intro w hw)|(refine qab ?_;clear hw;intro s w hw))
       refine go_if (fun h3 => ?_) (fun h3 => ?_)
       ·have hej:=hes.at_ j (by omega)
        have hone2:=hej.one
        repeat (first|refine qac ?_|(refine qaa ?_;clear hw;intro p w hw)|(refine qad ?_;clear hw;intro w hw)|(refine qab ?_;clear hw;intro s w hw))
        refine qal tFact (x1:=⟨(eget tEff es j).var,(eget tEff es j).val⟩) rfl rfl rfl (Nat.le_of_ble_eq_true rfl) (Nat.zero_lt_succ _) hw ?_
        clear hw
        intro s w hw
        repeat (first|refine qac ?_|(refine qaa ?_;clear hw;intro p w hw)|(refine qad ?_;clear hw;intro w hw)|(refine qab ?_;clear hw;intro s w hw))
        refine qag rfl (qes (a:=a) (b:=s) (ha.at hw) (rsO hw)) ?_
        rintro _ w' ⟨⟨r,rfl,hr3⟩,hk'⟩
        replace hw:=hw.call0 hk'
        clear hk'
        rw [hej.var,hej.val] at hr3
        refine⟨_,rfl,?_⟩
        cases r with
        | false =>
         repeat (first|refine qac ?_|(refine qaa ?_;clear hw;intro p w hw)|(refine qad ?_;clear hw;intro w hw)|(refine qab ?_;clear hw;intro s w hw))
         have hno:¬EffT t:=fun h=>by have:=hr3.2 (h k (by omega) j (by omega));cases this
         exact qai (v:=.iface 35 (.int .i64 2)) rfl rfl ⟨by rw [qip h1 hD hC hS hK hno];rfl,hw.tail.tail.tail⟩
        | true =>
         repeat (first|refine qac ?_|(refine qaa ?_;clear hw;intro p w hw)|(refine qad ?_;clear hw;intro w hw)|(refine qab ?_;clear hw;intro s w hw))
         refine⟨j+1,⟨rfl,trivial⟩,agr,⟨by omega,fun i hi => ?_,hw.tail.tail⟩,by omega⟩
         by_cases h:i=j
         ·subst h;exact hr3.1 rfl
         ·exact hjf i (by omega)
       ·repeat (first|refine qac ?_|(refine qaa ?_;clear hw;intro p w hw)|(refine qad ?_;clear hw;intro w hw)|(refine qab ?_;clear hw;intro s w hw))
        refine⟨k+1,⟨rfl,trivial⟩,agr,⟨by omega,fun i hi => ?_,hw⟩,by omega⟩
        by_cases h:i=k
        ·subst h;exact fun i' hi'=>hjf i' (by omega)
        ·exact hef i (by omega)
      ·have hE:EffT t:=fun i hi=>hef i (by omega)
       clear hef h2 hk
       repeat (first|refine qac ?_|(refine qaa ?_;clear hw;intro p w hw)|(refine qad ?_;clear hw;intro w hw)|(refine qab ?_;clear hw;intro s w hw))
       refine qao [2,14,101,102,103,104,105,106,107,108,109,110] (G:=Nat) (fun k=>[(101,.int .i64 k)]) (fun k w=>k≤t.ops.length∧(∀ i,i<k→NameOk (t.ops.getD i dOp).name)∧Sat w0 w [Box pt 26 [a,b,c,d]]) (fun k=>t.ops.length-k) 0 (fun _=>rfl) ⟨rfl,trivial⟩ ⟨Nat.zero_le _,fun i hi=>absurd hi (Nat.not_lt_zero _),hw⟩ ?_
       clear hw
       rintro σ4 k w ⟨hk,hnm,hw⟩
       repeat (first|refine qac ?_|(refine qaa ?_;clear hw;intro p w hw)|(refine qad ?_;clear hw;intro w hw)|(refine qab ?_;clear hw;intro s w hw))
       refine go_if (fun h2 => ?_) (fun h2 => ?_)
       ·have hop:=hd.at_ k (by omega)
        have hone:=hop.one
        repeat (first|refine qac ?_|(refine qaa ?_;clear hw;intro p w hw)|(refine qad ?_;clear hw;intro w hw)|(refine qab ?_;clear hw;intro s w hw))
        refine qag rfl (qiC (b:=(eget tOp vs k).name) (by rw [hop.name];exact hop.size)) ?_
        rintro _ w' ⟨⟨r,rfl,hr3⟩,hk'⟩
        replace hw:=hw.call0 hk'
        clear hk'
        rw [hop.name] at hr3
        refine⟨_,rfl,?_⟩
        cases r with
        | false =>
         repeat (first|refine qac ?_|(refine qaa ?_;clear hw;intro p w hw)|(refine qad ?_;clear hw;intro w hw)|(refine qab ?_;clear hw;intro s w hw))
         have hno:¬NamesT t:=fun h=>by have:=hr3.2 (h k (by omega));cases this
         exact qai (v:=.iface 35 (.int .i64 8)) rfl rfl ⟨by rw [qgR h1 hD hC hS hK hE hno];rfl,hw.tail.tail⟩
        | true =>
         repeat (first|refine qac ?_|(refine qaa ?_;clear hw;intro p w hw)|(refine qad ?_;clear hw;intro w hw)|(refine qab ?_;clear hw;intro s w hw))
         refine⟨k+1,⟨rfl,trivial⟩,agr,⟨by omega,fun i hi => ?_,hw.tail⟩,by omega⟩
         by_cases h:i=k
         ·subst h;exact hr3.1 rfl
         ·exact hnm i (by omega)
       ·repeat (first|refine qac ?_|(refine qaa ?_;clear hw;intro p w hw)|(refine qad ?_;clear hw;intro w hw)|(refine qab ?_;clear hw;intro s w hw))
        exact qai (v:=.nilIface) rfl rfl ⟨by rw [qjU h1 hD hC hS hK hE fun i hi=>hnm i (by omega)];rfl,hw.tail⟩
end Go.Proofs.YtdadmnlenbdfbaaGreat
/-
  Contracts of 'slices.Clone' over facts and effects.
-/
namespace Go.Proofs.YtdadmnlenbdfbaaGreat
open Go.Sl Go
attribute [local irreducible] vc opsW opsD opV opW PureV ReadV Thn Blk
set_option maxRecDepth 8000 in
theorem qbi {w0:World}{a:Value}{xs:List Fact}(ha:RS tFact w0 a xs) (hn:xs.length≤1099511627776) :
  Calls Tryz.prog 42 #[a] w0 fun e w'=>∃ s,e=.returned s∧Sat w0 w' [OS tFact 73 s xs]:=by
 have hw:=Sat.start w0
 obtain⟨ad,cap,hs⟩:=ha.shape
 subst hs
 refine qaf (args:=[.slice ad xs.length cap]) mixed Tryz.func42 rfl (by kernel_rfl) (Nat.le_of_ble_eq_true rfl) ?_
 repeat (first|refine qac ?_|(refine qaa ?_;clear hw;intro p w hw)|(refine qad ?_;clear hw;intro w hw)|(refine qab ?_;clear hw;intro s w hw))
 refine qaE rfl (qbw (a:=ad) (n:=xs.length) (c:=cap) rfl) ?_
 cases ad with
 | none =>
  have h0:xs=[]:=by
   rcases Nat.eq_zero_or_pos xs.length with h|h
   ·exact List.eq_nil_of_length_eq_zero h
   ·obtain⟨p,c2,he,_⟩:=ha.some (by decide) h
    cases he
  subst h0
  repeat (first|refine qac ?_|(refine qaa ?_;clear hw;intro p w hw)|(refine qad ?_;clear hw;intro w hw)|(refine qab ?_;clear hw;intro s w hw))
  exact qai (v:=.slice none 0 0) rfl rfl ⟨_,rfl,hw.nil⟩
 | some p =>
  repeat (first|refine qac ?_|(refine qaa ?_;clear hw;intro p w hw)|(refine qad ?_;clear hw;intro w hw)|(refine qab ?_;clear hw;intro s w hw))
  refine qaJ tFact hw ?_
  clear hw
  intro s1 w hw
  repeat (first|refine qac ?_|(refine qaa ?_;clear hw;intro p w hw)|(refine qad ?_;clear hw;intro w hw)|(refine qab ?_;clear hw;intro s w hw))
  rw [List.nil_append] at hw
  exact qai (v:=s) rfl rfl ⟨_,rfl,hw⟩
set_option maxRecDepth 8000 in
theorem qgZ {w0:World}{a:Value}{xs:List EffV}(ha:RS tEff w0 a xs) (hn:xs.length≤1099511627776) (ho:∀ x∈xs,∀ v∈tEff.enc x,v.oneCell'=true) :
  Calls Tryz.prog 41 #[a] w0 fun e w'=>∃ s,e=.returned s∧Sat w0 w' [OS tEff 75 s xs]:=by
 have hw:=Sat.start w0
 obtain⟨ad,cap,hs⟩:=ha.shape
 subst hs
 refine qaf (args:=[.slice ad xs.length cap]) mixed Tryz.func41 rfl (by kernel_rfl) (Nat.le_of_ble_eq_true rfl) ?_
 repeat (first|refine qac ?_|(refine qaa ?_;clear hw;intro p w hw)|(refine qad ?_;clear hw;intro w hw)|(refine qab ?_;clear hw;intro s w hw))
 refine qaE rfl (qbw (a:=ad) (n:=xs.length) (c:=cap) rfl) ?_
 cases ad with
 | none =>
  have h0:xs=[]:=by
   rcases Nat.eq_zero_or_pos xs.length with h|h
   ·exact List.eq_nil_of_length_eq_zero h
   ·obtain⟨p,c2,he,_⟩:=ha.some (by decide) h
    cases he
  subst h0
  repeat (first|refine qac ?_|(refine qaa ?_;clear hw;intro p w hw)|(refine qad ?_;clear hw;intro w hw)|(refine qab ?_;clear hw;intro s w hw))
  exact qai (v:=.slice none 0 0) rfl rfl ⟨_,rfl,hw.nil⟩
 | some p =>
  repeat (first|refine qac ?_|(refine qaa ?_;clear hw;intro p w hw)|(refine qad ?_;clear hw;intro w hw)|(refine qab ?_;clear hw;intro s w hw))
  refine qaJ tEff hw ?_
  clear hw
  intro s1 w hw
  repeat (first|refine qac ?_|(refine qaa ?_;clear hw;intro p w hw)|(refine qad ?_;clear hw;intro w hw)|(refine qab ?_;clear hw;intro s w hw))
  refine qga ?_ (hone:=ho)
  clear hw
  intro s w hw
  repeat (first|refine qac ?_|(refine qaa ?_;clear hw;intro p w hw)|(refine qad ?_;clear hw;intro w hw)|(refine qab ?_;clear hw;intro s w hw))
  rw [List.nil_append] at hw
  exact qai (v:=s) rfl rfl ⟨_,rfl,hw⟩
end Go.Proofs.YtdadmnlenbdfbaaGreat
/-
  Contracts of 'slices.Equal' over ints and facts, and of 'idastar.key'.
-/
namespace Go.Proofs.YtdadmnlenbdfbaaGreat
open Go.Sl Go
attribute [local irreducible] vc opsW opsD opV opW PureV ReadV Thn Blk
theorem qeX {α:Type}{d:α}{A B:List α}(hl:A.length=B.length) (h:∀ i,i<A.length→A.getD i d=B.getD i d):A=B:=by
 apply List.ext_getElem hl
 intro i h1 h2
 have:=h i h1
 rwa [qak h1,qak h2] at this
instance inWEq2:IntT Tryz.prog 3 .i64:=⟨by kernel_rfl⟩
theorem qkk {x y:Fact}(h1:x.var=y.var) (h2:x.val=y.val):x=y:=by cases x;cases y;simp_all
instance inWEq3:EqIntsT Tryz.prog 73 2:=⟨by kernel_rfl⟩
set_option maxRecDepth 8000 in
set_option maxHeartbeats 2000000 in
theorem qcu {w0:World}{xa xb:Value}{A B:List Fact}(hA:RS tFact w0 xa A) (hB:RS tFact w0 xb B) :
  Calls Tryz.prog 57 #[xa,xb] w0 fun e w'=>(∃ r,e=.returned (.bool r)∧(r=true↔A=B))∧Sat w0 w' []:=by
 have hAb:=hA.big
 have hBb:=hB.big
 have hw:=Sat.start w0
 refine qaf (args:=[xa,xb]) mixed Tryz.func57 rfl (by kernel_rfl) (Nat.le_of_ble_eq_true rfl) ?_
 repeat (first|refine qac ?_|(refine qaa ?_;clear hw;intro p w hw)|(refine qad ?_;clear hw;intro w hw)|(refine qab ?_;clear hw;intro s w hw))
 refine go_if (fun h1 => ?_) (fun h1 => ?_)
 ·repeat (first|refine qac ?_|(refine qaa ?_;clear hw;intro p w hw)|(refine qad ?_;clear hw;intro w hw)|(refine qab ?_;clear hw;intro s w hw))
  exact qai (v:=.bool false) rfl rfl ⟨⟨false,rfl,iffF fun e=>by rw [e] at h1;omega⟩,hw.sel⟩
 repeat (first|refine qac ?_|(refine qaa ?_;clear hw;intro p w hw)|(refine qad ?_;clear hw;intro w hw)|(refine qab ?_;clear hw;intro s w hw))
 refine qao [4,5,13,14,15,16,17,18,19,20,21,22,23,24,25] (G:=Nat) (fun i=>[(13,.int .i64 i)]) (fun i w=>i≤A.length∧(∀ m,m<i→A.getD m tFact.dflt=B.getD m tFact.dflt)∧Sat w0 w []) (fun i=>A.length-i) 0 (fun _=>rfl) ⟨rfl,trivial⟩ ⟨Nat.zero_le _,fun i hi=>absurd hi (Nat.not_lt_zero _),hw.sel⟩ ?_
 clear hw
 rintro σ i w ⟨hi,hno,hw⟩
 repeat (first|refine qac ?_|(refine qaa ?_;clear hw;intro p w hw)|(refine qad ?_;clear hw;intro w hw)|(refine qab ?_;clear hw;intro s w hw))
 refine go_if (fun h2 => ?_) (fun h2 => ?_)
 ·have hil:i<A.length:=by omega
  repeat (first|refine qac ?_|(refine qaa ?_;clear hw;intro p w hw)|(refine qad ?_;clear hw;intro w hw)|(refine qab ?_;clear hw;intro s w hw))
  refine qaE rfl (qeF (us:=[(A.getD i tFact.dflt).var,(A.getD i tFact.dflt).val]) (zs:=[(B.getD i tFact.dflt).var,(B.getD i tFact.dflt).val]) rfl rfl rfl rfl) ?_
  by_cases h3:A.getD i tFact.dflt=B.getD i tFact.dflt
  ·have hd:decide ([(A.getD i tFact.dflt).var,(A.getD i tFact.dflt).val]=[(B.getD i tFact.dflt).var,(B.getD i tFact.dflt).val])=true:=decide_eq_true (by rw [h3])
   repeat (first|refine qel ?_|(refine qaa ?_;clear hw;intro p w hw)|(refine qad ?_;clear hw;intro w hw)|(refine qab ?_;clear hw;intro s w hw))
   simp only [hd,Bool.not_true]
   repeat (first|refine qac ?_|(refine qaa ?_;clear hw;intro p w hw)|(refine qad ?_;clear hw;intro w hw)|(refine qab ?_;clear hw;intro s w hw))
   refine⟨i+1,⟨rfl,trivial⟩,agr,⟨by omega,fun m hm => ?_,hw.sel⟩,by omega⟩
   by_cases e:m=i
   ·subst e;exact h3
   ·exact hno m (by omega)
  ·have hd:decide ([(A.getD i tFact.dflt).var,(A.getD i tFact.dflt).val]=[(B.getD i tFact.dflt).var,(B.getD i tFact.dflt).val])=false:=decide_eq_false fun e=>h3 (by
    injection e with e1 e2
    injection e2 with e2 _
    exact qkk e1 e2)
   repeat (first|refine qel ?_|(refine qaa ?_;clear hw;intro p w hw)|(refine qad ?_;clear hw;intro w hw)|(refine qab ?_;clear hw;intro s w hw))
   simp only [hd,Bool.not_false]
   repeat (first|refine qac ?_|(refine qaa ?_;clear hw;intro p w hw)|(refine qad ?_;clear hw;intro w hw)|(refine qab ?_;clear hw;intro s w hw))
   exact qai (v:=.bool false) rfl rfl ⟨⟨false,rfl,iffF fun e=>h3 (by rw [e])⟩,hw.sel⟩
 have hie:i=A.length:=by omega
 subst hie
 repeat (first|refine qac ?_|(refine qaa ?_;clear hw;intro p w hw)|(refine qad ?_;clear hw;intro w hw)|(refine qab ?_;clear hw;intro s w hw))
 exact qai (v:=.bool true) rfl rfl ⟨⟨true,rfl,iffT (qeX (by omega) hno)⟩,hw.sel⟩
set_option maxRecDepth 8000 in
set_option maxHeartbeats 2000000 in
theorem qcv {w0:World}{xa xb:Value}{A B:List Int}(hA:RS tInt w0 xa A) (hB:RS tInt w0 xb B) :
  Calls Tryz.prog 47 #[xa,xb] w0 fun e w'=>(∃ r,e=.returned (.bool r)∧(r=true↔A=B))∧Sat w0 w' []:=by
 have hAb:=hA.big
 have hBb:=hB.big
 have hw:=Sat.start w0
 refine qaf (args:=[xa,xb]) mixed Tryz.func47 rfl (by kernel_rfl) (Nat.le_of_ble_eq_true rfl) ?_
 repeat (first|refine qac ?_|(refine qaa ?_;clear hw;intro p w hw)|(refine qad ?_;clear hw;intro w hw)|(refine qab ?_;clear hw;intro s w hw))
 refine go_if (fun h1 => ?_) (fun h1 => ?_)
 ·repeat (first|refine qac ?_|(refine qaa ?_;clear hw;intro p w hw)|(refine qad ?_;clear hw;intro w hw)|(refine qab ?_;clear hw;intro s w hw))
  exact qai (v:=.bool false) rfl rfl ⟨⟨false,rfl,iffF fun e=>by rw [e] at h1;omega⟩,hw.sel⟩
 repeat (first|refine qac ?_|(refine qaa ?_;clear hw;intro p w hw)|(refine qad ?_;clear hw;intro w hw)|(refine qab ?_;clear hw;intro s w hw))
 refine qao [4,5,13,14,15,16,17,18,19,20,21,22,23,24,25] (G:=Nat) (fun i=>[(13,.int .i64 i)]) (fun i w=>i≤A.length∧(∀ m,m<i→A.getD m tInt.dflt=B.getD m tInt.dflt)∧Sat w0 w []) (fun i=>A.length-i) 0 (fun _=>rfl) ⟨rfl,trivial⟩ ⟨Nat.zero_le _,fun i hi=>absurd hi (Nat.not_lt_zero _),hw.sel⟩ ?_
 clear hw
 rintro σ i w ⟨hi,hno,hw⟩
 repeat (first|refine qac ?_|(refine qaa ?_;clear hw;intro p w hw)|(refine qad ?_;clear hw;intro w hw)|(refine qab ?_;clear hw;intro s w hw))
 refine go_if (fun h2 => ?_) (fun h2 => ?_)
 ·have hil:i<A.length:=by omega
  repeat (first|refine qac ?_|(refine qaa ?_;clear hw;intro p w hw)|(refine qad ?_;clear hw;intro w hw)|(refine qab ?_;clear hw;intro s w hw))
  refine go_if (fun h3 => ?_) (fun h3 => ?_)
  ·repeat (first|refine qac ?_|(refine qaa ?_;clear hw;intro p w hw)|(refine qad ?_;clear hw;intro w hw)|(refine qab ?_;clear hw;intro s w hw))
   exact qai (v:=.bool false) rfl rfl ⟨⟨false,rfl,iffF fun e=>by rw [e] at h3;exact h3 rfl⟩,hw.sel⟩
  ·repeat (first|refine qac ?_|(refine qaa ?_;clear hw;intro p w hw)|(refine qad ?_;clear hw;intro w hw)|(refine qab ?_;clear hw;intro s w hw))
   refine⟨i+1,⟨rfl,trivial⟩,agr,⟨by omega,fun m hm => ?_,hw.sel⟩,by omega⟩
   by_cases e:m=i
   ·subst e;exact h3
   ·exact hno m (by omega)
 have hie:i=A.length:=by omega
 subst hie
 repeat (first|refine qac ?_|(refine qaa ?_;clear hw;intro p w hw)|(refine qad ?_;clear hw;intro w hw)|(refine qab ?_;clear hw;intro s w hw))
 exact qai (v:=.bool true) rfl rfl ⟨⟨true,rfl,iffT (qeX (by omega) hno)⟩,hw.sel⟩
end Go.Proofs.YtdadmnlenbdfbaaGreat
