/-
  Several texts as one: WTCheck, WTState, WSort, WSlices.
-/
import Derived.Test.YtkmbenhffledpaaGreatMW1
import Derived.Test.YtkmbenhffledpaaGreatMTA
import Derived.Test.YtkmbenhffledpaaGreatMSlB
import Derived.Shelf.Sort.Plain
import Derived.Shelf.Slices.In.SortNone
import Derived.Shelf.Slices.CompactI
set_option linter.unusedSimpArgs false
set_option linter.unusedVariables false
/-
  Contracts of the package 'task': 'Proper', 'Facts', 'Holds', 'named', 'conditions', 'large', 'Check'.
-/
namespace Go.Proofs.YtkmbenhffledpaaGreat
open Go.Sl
attribute [local irreducible] vc opsW opsD opV opW PureV ReadV Thn Blk
set_option maxRecDepth 8000 in
theorem qbd {w0:World}{a b:Value}{vars s:List Int}(ha:RS tInt w0 a vars) (hb:RS tInt w0 b s) :
  Calls Tryz.prog 36 #[a,b] w0 fun e w'=>(∃ r,e=.returned (.bool r)∧(r=true↔StateOk vars s))∧Sat w0 w' []:=by
 have hla:=ha.big
 have hlb:=hb.big
 have hw:=Sat.start w0
 refine qab (args:=[a,b]) mixed Tryz.func36 rfl (by kernel_rfl) (Nat.le_of_ble_eq_true rfl) ?_
 repeat refine qaa ?_
 refine go_if (fun h0 => ?_) (fun h0 => ?_)
 ·repeat refine qaa ?_
  refine qae (v:=.bool false) rfl rfl ⟨⟨false,rfl,iffF fun h => ?_⟩,hw⟩
  exact absurd (by have:=h.1;omega) h0
 ·repeat refine qaa ?_
  refine qap [4,5,6,14,15,16,17,18,19,20,21,22,23,24,25,26,27,28,29] (G:=Nat) (fun k=>[(14,.int .i64 k)]) (fun k w=>k≤s.length∧(∀ i,i<k→0≤s.getD i tInt.dflt∧s.getD i tInt.dflt<vars.getD i tInt.dflt)∧Sat w0 w []) (fun k=>s.length-k) 0 (fun _=>rfl) ⟨rfl,trivial⟩ ⟨Nat.zero_le _,fun i hi=>absurd hi (Nat.not_lt_zero _),hw⟩ ?_
  clear hw
  rintro σ k w ⟨hk,hpre,hw⟩
  repeat refine qaa ?_
  refine go_if (fun h1 => ?_) (fun h1 => ?_)
  ·repeat refine qaa ?_
   refine go_if (fun h2 => ?_) (fun h2 => ?_)
   ·repeat refine qaa ?_
    refine qae (v:=.bool false) rfl rfl ⟨⟨false,rfl,iffF fun h => ?_⟩,hw⟩
    have:=h.2 k (by omega)
    omega
   ·repeat refine qaa ?_
    refine⟨k+1,⟨rfl,trivial⟩,agr,⟨by omega,fun i hi => ?_,hw⟩,by omega⟩
    by_cases h:i=k
    ·subst h;omega
    ·exact hpre i (by omega)
  ·repeat refine qaa ?_
   exact qae (v:=.bool true) rfl rfl ⟨⟨true,rfl,iffT ⟨by omega,fun i hi=>hpre i (by omega)⟩⟩,hw⟩
set_option maxRecDepth 8000 in
set_option maxHeartbeats 1000000 in
theorem qgO {w0:World}{a b:Value}{vars:List Int}{f:List Fact}(ha:RS tInt w0 a vars) (hb:RS tFact w0 b f) :
  Calls Tryz.prog 87 #[a,b] w0 fun e w'=>(∃ r,e=.returned (.bool r)∧(r=true↔FactsOk vars f))∧Sat w0 w' []:=by
 have hla:=ha.big
 have hlb:=hb.big
 have hw:=Sat.start w0
 refine qab (args:=[a,b]) mixed Tryz.func87 rfl (by kernel_rfl) (Nat.le_of_ble_eq_true rfl) ?_
 repeat refine qaa ?_
 refine qao [4,5,7,10,11,12,13,14,15,16,17,18,19,20,21,22,23,24,25,26,27,28,29,30,31,32,33,34,35,36,37,38,39,40,41,42] (G:=Nat) (H:=Int) (fun k l=>[(10,.int .i64 k),(5,.int .i64 l)]) (fun k l w=>k≤f.length ∧ -1≤l∧(l=if k=0 then -1 else (f.getD (k-1) tFact.dflt).var)∧(∀ i,i<k→FactOk vars (f.getD i tFact.dflt)∧(0<i→(f.getD (i-1) tFact.dflt).var<(f.getD i tFact.dflt).var))∧Sat w0 w []) (fun k l=>f.length-k) 0 (-1) (fun _ _=>rfl) ⟨rfl,rfl,trivial⟩ ⟨Nat.zero_le _,by omega,rfl,fun i hi=>absurd hi (Nat.not_lt_zero _),hw⟩ ?_
 clear hw
 rintro σ k l w ⟨hk,hl1,hl2,hpre,hw⟩
 repeat refine qaa ?_
 refine go_if (fun h1 => ?_) (fun h1 => ?_)
 ·repeat (first|refine qaa ?_|(refine qaf ?_;clear hw;intro p w hw)|(refine qag ?_;clear hw;intro w hw))
  refine go_if (fun h2 => ?_) (fun h2 => ?_)
  ·repeat refine qaa ?_
   refine qae (v:=.bool false) rfl rfl ⟨⟨false,rfl,iffF fun h => ?_⟩,hw.tail⟩
   have:=h k (by omega)
   unfold FactOk at this
   split at hl2 <;> omega
  ·repeat refine qaa ?_
   refine⟨k+1,_,⟨rfl,rfl,trivial⟩,agr,⟨by omega,by omega,by simp,fun i hi => ?_,hw.tail⟩,by omega⟩
   by_cases h:i=k
   ·subst h
    unfold FactOk
    split at hl2 <;> omega
   ·exact hpre i (by omega)
 ·repeat refine qaa ?_
  exact qae (v:=.bool true) rfl rfl ⟨⟨true,rfl,iffT fun i hi=>hpre i (by omega)⟩,hw⟩
set_option maxRecDepth 8000 in
set_option maxHeartbeats 1000000 in
theorem qcW {w0:World}{a b:Value}{f:List Fact}{s:List Int}(ha:RS tFact w0 a f) (hb:RS tInt w0 b s) :
  Calls Tryz.prog 93 #[a,b] w0 fun e w'=>(∃ r,e=.returned (.bool r)∧(r=true↔HoldFs s f))∧Sat w0 w' []:=by
 have hla:=ha.big
 have hlb:=hb.big
 have hw:=Sat.start w0
 refine qab (args:=[a,b]) mixed Tryz.func93 rfl (by kernel_rfl) (Nat.le_of_ble_eq_true rfl) ?_
 repeat refine qaa ?_
 refine qap [4,6,9,10,11,12,13,14,15,16,17,18,19,20,21,22,23,24,25,26,27,28,29,30,31,32,33] (G:=Nat) (fun k=>[(9,.int .i64 k)]) (fun k w=>k≤f.length∧(∀ i,i<k→HoldF s (f.getD i tFact.dflt))∧Sat w0 w []) (fun k=>f.length-k) 0 (fun _=>rfl) ⟨rfl,trivial⟩ ⟨Nat.zero_le _,fun i hi=>absurd hi (Nat.not_lt_zero _),hw⟩ ?_
 clear hw
 rintro σ k w ⟨hk,hpre,hw⟩
 repeat refine qaa ?_
 refine go_if (fun h1 => ?_) (fun h1 => ?_)
 ·repeat (first|refine qaa ?_|(refine qaf ?_;clear hw;intro p w hw)|(refine qag ?_;clear hw;intro w hw))
  refine go_if (fun h2 => ?_) (fun h2 => ?_)
  ·repeat refine qaa ?_
   refine qae (v:=.bool false) rfl rfl ⟨⟨false,rfl,iffF fun h => ?_⟩,hw.tail⟩
   have:=h k (by omega)
   unfold HoldF at this
   omega
  ·repeat refine qaa ?_
   refine⟨k+1,⟨rfl,trivial⟩,agr,⟨by omega,fun i hi => ?_,hw.tail⟩,by omega⟩
   by_cases h:i=k
   ·subst h;unfold HoldF;omega
   ·exact hpre i (by omega)
 ·repeat refine qaa ?_
  exact qae (v:=.bool true) rfl rfl ⟨⟨true,rfl,iffT fun i hi=>hpre i (by omega)⟩,hw⟩
set_option maxRecDepth 8000 in
set_option maxHeartbeats 1000000 in
theorem qdE {w0:World}{a b:Value}{f:List Fact}{s:List Int}(ha:RS tFact w0 a f) (hb:RS tInt w0 b s) :
  Calls Tryz.prog 76 #[a,b] w0 fun e w'=>(∃ r,e=.returned (.bool r)∧(r=true↔HoldFs s f))∧Sat w0 w' []:=by
 have hla:=ha.big
 have hlb:=hb.big
 have hw:=Sat.start w0
 refine qab (args:=[a,b]) mixed Tryz.func76 rfl (by kernel_rfl) (Nat.le_of_ble_eq_true rfl) ?_
 repeat refine qaa ?_
 refine qap [4,6,9,10,11,12,13,14,15,16,17,18,19,20,21,22,23,24,25,26,27,28,29,30,31,32,33] (G:=Nat) (fun k=>[(9,.int .i64 k)]) (fun k w=>k≤f.length∧(∀ i,i<k→HoldF s (f.getD i tFact.dflt))∧Sat w0 w []) (fun k=>f.length-k) 0 (fun _=>rfl) ⟨rfl,trivial⟩ ⟨Nat.zero_le _,fun i hi=>absurd hi (Nat.not_lt_zero _),hw⟩ ?_
 clear hw
 rintro σ k w ⟨hk,hpre,hw⟩
 repeat refine qaa ?_
 refine go_if (fun h1 => ?_) (fun h1 => ?_)
 ·repeat (first|refine qaa ?_|(refine qaf ?_;clear hw;intro p w hw)|(refine qag ?_;clear hw;intro w hw))
  refine go_if (fun h2 => ?_) (fun h2 => ?_)
  ·repeat refine qaa ?_
   refine qae (v:=.bool false) rfl rfl ⟨⟨false,rfl,iffF fun h => ?_⟩,hw.tail⟩
   have:=h k (by omega)
   unfold HoldF at this
   omega
  ·repeat refine qaa ?_
   refine⟨k+1,⟨rfl,trivial⟩,agr,⟨by omega,fun i hi => ?_,hw.tail⟩,by omega⟩
   by_cases h:i=k
   ·subst h;unfold HoldF;omega
   ·exact hpre i (by omega)
 ·repeat refine qaa ?_
  exact qae (v:=.bool true) rfl rfl ⟨⟨true,rfl,iffT fun i hi=>hpre i (by omega)⟩,hw⟩
set_option maxRecDepth 8000 in
theorem qnu {w0:World}{b:ByteArray}(hb:b.size≤9223372036854775807) :
  Calls Tryz.prog 88 #[.string b] w0 fun e w'=>(∃ r,e=.returned (.bool r)∧(r=true↔NameOk b))∧Sat w0 w' []:=by
 have hw:=Sat.start w0
 refine qab (args:=[.string b]) mixed Tryz.func88 rfl (by kernel_rfl) (Nat.le_of_ble_eq_true rfl) ?_
 repeat refine qaa ?_
 refine qap [2,3,6,7,8,9,10,11,12,13,14,15,16,17,18,19] (G:=Nat) (fun k=>[(6,.int .i64 k)]) (fun k w=>k≤b.size∧(∀ i,i<k→32≤bat b i∧bat b i≤126)∧Sat w0 w []) (fun k=>b.size-k) 0 (fun _=>rfl) ⟨rfl,trivial⟩ ⟨Nat.zero_le _,fun i hi=>absurd hi (Nat.not_lt_zero _),hw⟩ ?_
 clear hw
 rintro σ k w ⟨hk,hpre,hw⟩
 repeat refine qaa ?_
 refine go_if (fun h1 => ?_) (fun h1 => ?_)
 ·repeat refine qaa ?_
  refine go_if (fun h2 => ?_) (fun h2 => ?_)
  ·repeat refine qaa ?_
   refine qae (v:=.bool false) rfl rfl ⟨⟨false,rfl,iffF fun h => ?_⟩,hw⟩
   have:=h.2 k (by omega)
   omega
  ·repeat refine qaa ?_
   refine⟨k+1,⟨rfl,trivial⟩,agr,⟨by omega,fun i hi => ?_,hw⟩,by omega⟩
   by_cases h:i=k
   ·subst h;omega
   ·exact hpre i (by omega)
 ·repeat refine qaa ?_
  refine qae (v:=.bool (decide ((b.size:Int)≤256))) rfl rfl ⟨⟨_,rfl,?_⟩,hw⟩
  rw [decide_eq_true_eq]
  exact⟨fun h=>⟨by omega,fun i hi=>hpre i (by omega)⟩,fun h=>by have:=h.1;omega⟩
end Go.Proofs.YtkmbenhffledpaaGreat
/-
  Contracts of the helpers 'Ints', 'Is', 'Many', 'Small', 'Apply', 'Rank'.
-/
namespace Go.Proofs.YtkmbenhffledpaaGreat
open Go.Sl
attribute [local irreducible] vc opsW opsD opV opW PureV ReadV Thn Blk
theorem qm0 {xs ys:List Int}(hl:xs.length=ys.length) (h:∀ i,i<xs.length→xs.getD i tInt.dflt=ys.getD i tInt.dflt):xs=ys:=by
 apply List.ext_getElem hl
 intro i h1 h2
 have:=h i h1
 rwa [qaj h1,qaj h2] at this
set_option maxRecDepth 8000 in
theorem qp0 {w0:World}{a b:Value}{xs ys:List Int}(ha:RS tInt w0 a xs) (hb:RS tInt w0 b ys) :
  Calls Tryz.prog 46 #[a,b] w0 fun e w'=>(∃ r,e=.returned (.bool r)∧(r=true↔xs=ys))∧Sat w0 w' []:=by
 have hla:=ha.big
 have hlb:=hb.big
 have hw:=Sat.start w0
 refine qab (args:=[a,b]) mixed Tryz.func46 rfl (by kernel_rfl) (Nat.le_of_ble_eq_true rfl) ?_
 repeat refine qaa ?_
 refine go_if (fun h0 => ?_) (fun h0 => ?_)
 ·repeat refine qaa ?_
  refine qae (v:=.bool false) rfl rfl ⟨⟨false,rfl,iffF fun h => ?_⟩,hw⟩
  subst h
  omega
 ·repeat refine qaa ?_
  refine qap [4,5,13,14,15,16,17,18,19,20,21,22,23,24,25] (G:=Nat) (fun k=>[(13,.int .i64 k)]) (fun k w=>k≤xs.length∧(∀ i,i<k→xs.getD i tInt.dflt=ys.getD i tInt.dflt)∧Sat w0 w []) (fun k=>xs.length-k) 0 (fun _=>rfl) ⟨rfl,trivial⟩ ⟨Nat.zero_le _,fun i hi=>absurd hi (Nat.not_lt_zero _),hw⟩ ?_
  clear hw
  rintro σ k w ⟨hk,hpre,hw⟩
  repeat refine qaa ?_
  refine go_if (fun h1 => ?_) (fun h1 => ?_)
  ·repeat (first|refine qaa ?_|(refine qag ?_;clear hw;intro w hw))
   refine go_if (fun h2 => ?_) (fun h2 => ?_)
   ·repeat refine qaa ?_
    refine qae (v:=.bool false) rfl rfl ⟨⟨false,rfl,iffF fun h => ?_⟩,hw⟩
    subst h
    exact h2 rfl
   ·repeat refine qaa ?_
    refine⟨k+1,⟨rfl,trivial⟩,agr,⟨by omega,fun i hi => ?_,hw⟩,by omega⟩
    by_cases h:i=k
    ·subst h;omega
    ·exact hpre i (by omega)
  ·repeat refine qaa ?_
   exact qae (v:=.bool true) rfl rfl ⟨⟨true,rfl,iffT (qm0 (by omega) fun i hi=>hpre i (by omega))⟩,hw⟩
theorem qoY {n k m:Int}(hn:1≤n) (hk:1≤k) (hm:n≤m) (h0:m≤65536):let x:=n*(if m+1<(if 0>k then 0 else k) then m+1 else (if 0>k then 0 else k))
  0≤x∧x≤4295098368∧(x≤m→x=n*k)∧(m<x→m<n*k):=by
 intro x
 have e:x=n*min k (m+1):=by
  show n*(if m+1<(if 0>k then 0 else k) then m+1 else (if 0>k then 0 else k))=_
  have hk0:(if 0>k then 0 else k)=k:=if_neg (by omega)
  rw [hk0]
  congr 1
  split <;> omega
 have h2:n*min k (m+1)≤65536*65537:=Int.mul_le_mul (by omega) (by omega) (by omega) (by omega)
 have h3:0≤n*min k (m+1):=Int.mul_nonneg (by omega) (by omega)
 refine⟨by omega,by omega,fun h => ?_,fun h => ?_⟩
 ·rw [e] at h ⊢
  by_cases hh:k≤m+1
  ·rw [Int.min_eq_left hh]
  ·rw [Int.min_eq_right (by omega)] at h
   have:1*(m+1)≤n*(m+1):=Int.mul_le_mul_of_nonneg_right hn (by omega)
   omega
 ·rw [e] at h
  have:n*min k (m+1)≤n*k:=Int.mul_le_mul_of_nonneg_left (by omega) (by omega)
  omega
def manyL (vars:List Int) (m:Int):Int:=if prodL vars≤m then prodL vars else m+1
set_option maxRecDepth 8000 in
theorem qkh {w0:World}{a:Value}{vars:List Int}{m:Int}(ha:RS tInt w0 a vars) (hp:∀ x∈vars,1≤x) (hm1:1≤m) (hm2:m≤65536) :
  Calls Tryz.prog 28 #[a,.int .i64 m] w0 fun e w'=>e=.returned (.int .i64 (manyL vars m))∧Sat w0 w' []:=by
 have hla:=ha.big
 have hw:=Sat.start w0
 refine qab (args:=[a,.int .i64 m]) mixed Tryz.func28 rfl (by kernel_rfl) (Nat.le_of_ble_eq_true rfl) ?_
 repeat refine qaa ?_
 refine qao [4,5,7,10,11,12,13,14,15,16,17,18,19,20,21,22,23,24,25,26] (G:=Nat) (H:=Int) (fun k n=>[(10,.int .i64 k),(5,.int .i64 n)]) (fun k n w=>k≤vars.length∧n=prodL (vars.take k)∧n≤m∧Sat w0 w []) (fun k _=>vars.length-k) 0 1 (fun _ _=>rfl) ⟨rfl,rfl,trivial⟩ ⟨Nat.zero_le _,rfl,hm1,hw⟩ ?_
 clear hw
 rintro σ k n w ⟨hk,hn,hnm,hw⟩
 repeat refine qaa ?_
 refine go_if (fun h1 => ?_) (fun h1 => ?_)
 ·have hkl:k<vars.length:=by omega
  have hx:=hp _ (qak tInt.dflt hkl)
  have hpos:1≤n:=by rw [hn];exact qbW fun x hx=>hp x (List.mem_of_mem_take hx)
  obtain⟨b0,b1,b2,b3⟩:=qoY hpos hx hnm hm2
  have hs:prodL (vars.take (k+1))=n*vars.getD k tInt.dflt:=by rw [qan tInt.dflt hkl,qbq,hn]
  repeat refine qaa ?_
  refine go_if (fun h2 => ?_) (fun h2 => ?_)
  ·repeat refine qaa ?_
   refine qae (v:=.int .i64 (m+1)) rfl rfl ⟨?_,hw⟩
   have h3:=b3 (by omega)
   have h4:prodL (vars.take (k+1))≤prodL vars:=by
    have:=qhA (l:=vars.take (k+1)) (m:=vars.drop (k+1)) (fun x hx=>hp x (List.mem_of_mem_drop hx)) (fun x hx=>hp x (List.mem_of_mem_take hx))
    rwa [List.take_append_drop] at this
   rw [manyL,if_neg (by omega)]
  ·repeat refine qaa ?_
   refine⟨k+1,_,⟨rfl,rfl,trivial⟩,agr,⟨by omega,?_,by omega,hw⟩,by omega⟩
   rw [hs];exact b2 (by omega)
 ·repeat refine qaa ?_
  refine qae (v:=.int .i64 n) rfl rfl ⟨?_,hw⟩
  rw [List.take_of_length_le (by omega)] at hn
  rw [manyL,←hn,if_pos hnm]
set_option maxRecDepth 8000 in
set_option maxHeartbeats 2000000 in
theorem qnt {w0:World}{a b c d:Value}{vs:List OpV}{t:TTask}(ht:RTask w0 a b c d vs t) :
  Calls Tryz.prog 6 #[.agg #[a,b,c,d]] w0 fun e w'=>(∃ r,e=.returned (.bool r)∧(r=true↔SmallT t))∧Sat w0 w' []:=by
 have ht':=ht
 obtain⟨ha,hb,hc,hd⟩:=ht
 have hrs:=hd.rs
 have hdl:=hd.len
 have hla:=ha.big
 have hll:=hrs.big
 have hw:=Sat.start w0
 refine qab (args:=[.agg #[a,b,c,d]]) mixed Tryz.func6 rfl (by kernel_rfl) (Nat.le_of_ble_eq_true rfl) ?_
 repeat (first|refine qaa ?_|(refine qaf ?_;clear hw;intro p w hw))
 refine go_if (fun h1 => ?_) (fun h1 => ?_)
 ·repeat refine qaa ?_
  refine qae (v:=.bool false) rfl rfl ⟨⟨false,rfl,iffF fun h => ?_⟩,hw.tail⟩
  have:=h.vars
  have:=h.ops
  omega
 ·repeat refine qaa ?_
  obtain⟨pt,hpt⟩:∃ pt,pt=p:=⟨p,rfl⟩
  subst hpt
  refine qap [2,4,18,19,20,21,22,23,24,25,26] (G:=Nat) (fun k=>[(18,.int .i64 k)]) (fun k w=>k≤t.ops.length∧(∀ i,i<k→(t.ops.getD i dOp).effs.length≤8)∧Sat w0 w [Box pt 26 [a,b,c,d]]) (fun k=>t.ops.length-k) 0 (fun _=>rfl) ⟨rfl,trivial⟩ ⟨Nat.zero_le _,fun i hi=>absurd hi (Nat.not_lt_zero _),hw⟩ ?_
  clear hw
  rintro σ k w ⟨hk,hef,hw⟩
  repeat refine qaa ?_
  refine go_if (fun h2 => ?_) (fun h2 => ?_)
  ·have hop:=hd.at_ k (by omega)
   have hone:=hop.one
   obtain⟨es,hes⟩:=hop.effs
   have hers:=hes.rs
   have hel:=hes.len
   have heb:=hers.big
   repeat (first|refine qaa ?_|(refine qaf ?_;clear hw;intro p w hw)|(refine qag ?_;clear hw;intro w hw))
   refine go_if (fun h3 => ?_) (fun h3 => ?_)
   ·repeat refine qaa ?_
    refine qae (v:=.bool false) rfl rfl ⟨⟨false,rfl,iffF fun h => ?_⟩,hw.tail.tail⟩
    have:=h.effs k (by omega)
    omega
   ·repeat refine qaa ?_
    refine⟨k+1,⟨rfl,trivial⟩,agr,⟨by omega,fun i hi => ?_,hw.tail⟩,by omega⟩
    by_cases h:i=k
    ·subst h;omega
    ·exact hef i (by omega)
  ·repeat refine qaa ?_
   refine qac rfl (qpY (ht'.at hw)) ?_
   rintro _ w' ⟨⟨r,rfl,hr⟩,hk'⟩
   replace hw:=hw.call0 hk'
   clear hk'
   refine⟨_,rfl,?_⟩
   cases r with
   | false =>
    repeat refine qaa ?_
    refine qae (v:=.bool false) rfl rfl ⟨⟨false,rfl,iffF fun h => ?_⟩,hw.tail⟩
    have:=hr.2 h.good
    cases this
   | true =>
    have hg:=hr.1 rfl
    repeat refine qaa ?_
    refine qac rfl (qkh (m:=512) (ha.at hw) hg.pos (by decide) (by decide)) ?_
    rintro _ w' ⟨rfl,hk'⟩
    replace hw:=hw.call0 hk'
    clear hk'
    refine⟨_,rfl,?_⟩
    repeat refine qaa ?_
    refine qae (v:=.bool (decide (manyL t.vars 512≤512))) rfl rfl ⟨⟨_,rfl,?_⟩,hw.tail⟩
    rw [decide_eq_true_eq,manyL]
    constructor
    ·intro h
     exact⟨hg,by omega,by omega,fun i hi=>hef i (by omega),by split at h <;> omega⟩
    ·intro h
     rw [if_pos h.many];exact h.many
set_option maxRecDepth 8000 in
set_option maxHeartbeats 2000000 in
theorem qhV {w0:World}{a b c d sv:Value}{vs:List OpV}{t:TTask}{st:List Int}{op:Int}(ht:RTask w0 a b c d vs t) (hs:RS tInt w0 sv st) (hg:GoodT t) (hok:StateOk t.vars st) :
  Calls Tryz.prog 75 #[.agg #[a,b,c,d],sv,.int .i64 op] w0 fun e w'=>∃ r rv,e=.returned (.tuple #[rv,.bool r])∧(r=true↔0≤op∧op<t.ops.length∧AppT t st op.toNat)∧Sat w0 w' [OS tInt 3 rv (if r then succT t st op.toNat else [])]:=by
 have ht':=ht
 obtain⟨ha,hb,hc,hd⟩:=ht
 have hrs:=hd.rs
 have hdl:=hd.len
 have hla:=ha.big
 have hll:=hrs.big
 have hsl:=hok.1
 have hvl:=hg.vars
 have hw:=Sat.start w0
 refine qab (args:=[.agg #[a,b,c,d],sv,.int .i64 op]) mixed Tryz.func75 rfl (by kernel_rfl) (Nat.le_of_ble_eq_true rfl) ?_
 repeat (first|refine qaa ?_|(refine qaf ?_;clear hw;intro p w hw))
 obtain⟨pt,hpt⟩:∃ pt,pt=p:=⟨p,rfl⟩
 subst hpt
 refine qov (fun h1 => ?_) (fun h1 => ?_)
 ·simp only [h1,gvff,gvtt];(try simp only [beq_iff_eq,Bool.and_eq_true,Bool.or_eq_true,decide_eq_true_eq,decide_eq_false_iff_not,Bool.not_eq_true,Bool.not_eq_false,Bool.not_eq_eq_eq_not,Bool.not_true,Bool.not_false,Bool.and_eq_false_iff,Bool.or_eq_false_iff,bne_iff_ne,ne_eq,Int.not_lt,Int.not_le,Nat.not_lt,Nat.not_le] at h1)
  repeat refine qaa ?_
  refine qav (v:=.slice none 0 0) (v':=.bool false) rfl rfl rfl ⟨false,_,rfl,iffF fun h => ?_,hw.tail.nil⟩
  omega
 ·simp only [h1,gvff,gvtt];(try simp only [beq_iff_eq,Bool.and_eq_true,Bool.or_eq_true,decide_eq_true_eq,decide_eq_false_iff_not,Bool.not_eq_true,Bool.not_eq_false,Bool.not_eq_eq_eq_not,Bool.not_true,Bool.not_false,Bool.and_eq_false_iff,Bool.or_eq_false_iff,bne_iff_ne,ne_eq,Int.not_lt,Int.not_le,Nat.not_lt,Nat.not_le] at h1)
  have hop:=hd.at_ op.toNat (by omega)
  have hone:=hop.one
  obtain⟨es,hes⟩:=hop.effs
  have hers:=hes.rs
  have hel:=hes.len
  have heb:=hers.big
  have hpre:=hop.pre
  have hgo:=hg.op op.toNat (by omega)
  have he64:=hgo.effs
  repeat refine qaa ?_
  refine qac rfl (qdE (hpre.at hw) (hs.at hw)) ?_
  rintro _ w' ⟨⟨r,rfl,hr⟩,hk'⟩
  replace hw:=hw.call0 hk'
  clear hk'
  refine⟨_,rfl,?_⟩
  cases r with
  | false =>
   repeat refine qaa ?_
   refine qav (v:=.slice none 0 0) (v':=.bool false) rfl rfl rfl ⟨false,_,rfl,iffF fun h => ?_,hw.tail.nil⟩
   have:=hr.2 h.2.2
   cases this
  | true =>
   have happ:=hr.1 rfl
   repeat refine qaa ?_
   refine qaO tInt hw ?_
   clear hw
   intro s1 w hw
   repeat (first|refine qaa ?_|(refine qaq ?_;clear hw;intro s w hw))
   obtain⟨out,hout⟩:∃ out,out=s:=⟨s,rfl⟩
   subst hout
   rw [List.nil_append] at hw
   refine qap [10,41,42,43,44,45,46,47,48,49,50,51,52,53,54,55] (G:=Nat) (fun k=>[(41,.int .i64 k)]) (fun k w=>k≤(t.ops.getD op.toNat dOp).effs.length∧Sat w0 w [OS tInt 3 out (effsL st ((t.ops.getD op.toNat dOp).effs.take k)),Box pt 26 [a,b,c,d]]) (fun k=>(t.ops.getD op.toNat dOp).effs.length-k) 0 (fun _=>rfl) ⟨rfl,trivial⟩ ⟨Nat.zero_le _,hw⟩ ?_
   clear hw
   rintro σ k w ⟨hk,hw⟩
   repeat refine qaa ?_
   refine go_if (fun h2 => ?_) (fun h2 => ?_)
   ·have hek:=hes.at_ k (by omega)
    have hwh:=hek.when
    have hone2:=hek.one
    have hv1:=hek.var
    have hv2:=hek.val
    obtain⟨r1,r2,r3,r4⟩:=qaD (hgo.eff k (by omega))
    have hsn:=qbC st ((t.ops.getD op.toNat dOp).effs.take k) ((t.ops.getD op.toNat dOp).effs.getD k dEff)
    rw [←qan dEff (by omega)] at hsn
    have hln:=qdZ st ((t.ops.getD op.toNat dOp).effs.take k)
    repeat (first|refine qaa ?_|(refine qaf ?_;clear hw;intro p w hw)|(refine qag ?_;clear hw;intro w hw))
    refine qac rfl (qdE (hwh.at hw) (hs.at hw)) ?_
    rintro _ w' ⟨⟨r,rfl,hr2⟩,hk'⟩
    replace hw:=hw.call0 hk'
    clear hk'
    refine⟨_,rfl,?_⟩
    cases r with
    | false =>
     repeat refine qaa ?_
     refine⟨k+1,⟨rfl,trivial⟩,agr,⟨by omega,?_⟩,by omega⟩
     rw [hsn,if_neg fun h=>by have:=hr2.2 h;cases this]
     exact hw.tail
    | true =>
     repeat (first|refine qaa ?_|(refine qag ?_;clear hw;intro w hw))
     refine⟨k+1,⟨rfl,trivial⟩,agr,⟨by omega,?_⟩,by omega⟩
     rw [hsn,if_pos (hr2.1 rfl),←hv1,←hv2]
     exact hw.tail
   ·rw [List.take_of_length_le (by omega)] at hw
    repeat refine qaa ?_
    exact qav (v:=out) (v':=.bool true) rfl rfl rfl ⟨true,_,rfl,iffT ⟨by omega,by omega,happ⟩,hw.only⟩
theorem StateOk.take {vars s:List Int}(h:StateOk vars s) (k:Nat):StateOk (vars.take k) (s.take k):=by
 refine⟨by simp [h.1],fun i hi => ?_⟩
 simp only [List.length_take] at hi
 have:=h.2 i (by omega)
 simp only [List.getD_eq_getElem?_getD] at this ⊢
 rwa [List.getElem?_take_of_lt (by omega),List.getElem?_take_of_lt (by omega)]
theorem qcE {l:List Int}(h:∀ x∈l,1≤x) (k:Nat):prodL (l.take k)≤prodL l:=by
 have:=qhA (l:=l.take k) (m:=l.drop k) (fun x hx=>h x (List.mem_of_mem_drop hx)) (fun x hx=>h x (List.mem_of_mem_take hx))
 rwa [List.take_append_drop] at this
theorem qhB {vars s:List Int}(h:StateOk vars s) {k:Nat}(hk:k<s.length):rankL (vars.take (k+1)) (s.take (k+1))=rankL (vars.take k) (s.take k)*vars.getD k tInt.dflt+s.getD k tInt.dflt:=by
 rw [qan tInt.dflt hk,qan tInt.dflt (show k<vars.length by rw [←h.1];exact hk),qez (by simp [h.1])]
theorem qm1 {vars s:List Int}(h:StateOk vars s) (hp:∀ x∈vars,1≤x) {k:Nat}(hk:k<s.length):0≤rankL (vars.take k) (s.take k)*vars.getD k tInt.dflt∧rankL (vars.take k) (s.take k)*vars.getD k tInt.dflt+s.getD k tInt.dflt<prodL vars:=by
 have h1:=(qaQ (h.take k)).1
 have h2:=h.2 k hk
 have h3:=(qaQ (h.take (k+1))).2
 rw [qhB h hk] at h3
 have h4:=qcE hp (k+1)
 exact⟨Int.mul_nonneg h1 (by omega),by omega⟩
set_option maxRecDepth 8000 in
theorem qki {w0:World}{a b:Value}{vars s:List Int}(ha:RS tInt w0 a vars) (hb:RS tInt w0 b s) (hok:StateOk vars s) (hp:∀ x∈vars,1≤x) (hB:prodL vars≤1099511627776) :
  Calls Tryz.prog 50 #[a,b] w0 fun e w'=>e=.returned (.int .i64 (rankL vars s))∧Sat w0 w' []:=by
 have hla:=ha.big
 have hlb:=hb.big
 have hl:=hok.1
 have hw:=Sat.start w0
 refine qab (args:=[a,b]) mixed Tryz.func50 rfl (by kernel_rfl) (Nat.le_of_ble_eq_true rfl) ?_
 repeat refine qaa ?_
 refine qao [5,6,9,10,11,12,13,14,15,16,17,18,19,20,21,22,23] (G:=Nat) (H:=Int) (fun k n=>[(9,.int .i64 k),(5,.int .i64 n)]) (fun k n w=>k≤s.length∧n=rankL (vars.take k) (s.take k)∧Sat w0 w []) (fun k _=>s.length-k) 0 0 (fun _ _=>rfl) ⟨rfl,rfl,trivial⟩ ⟨Nat.zero_le _,rfl,hw⟩ ?_
 clear hw
 rintro σ k n w ⟨hk,hn,hw⟩
 repeat refine qaa ?_
 refine go_if (fun h1 => ?_) (fun h1 => ?_)
 ·have hkl:k<s.length:=by omega
  obtain⟨b1,b2⟩:=qm1 hok hp hkl
  have b3:=hok.2 k hkl
  rw [←hn] at b1 b2
  repeat (first|refine qaa ?_|(refine qag ?_;clear hw;intro w hw))
  refine⟨k+1,_,⟨rfl,rfl,trivial⟩,agr,⟨by omega,?_,hw⟩,by omega⟩
  rw [qhB hok hkl,hn]
 ·repeat refine qaa ?_
  refine qae (v:=.int .i64 n) rfl rfl ⟨?_,hw⟩
  rw [hn,List.take_of_length_le (by omega),List.take_of_length_le (by omega)]
end Go.Proofs.YtkmbenhffledpaaGreat
/-
  The kit's contracts of 'slices.Sort' and 'slices.Compact' over ints, at this program.
-/
namespace Go.Proofs.YtkmbenhffledpaaGreat
open Go.Sl Go Go.Shelf
def renS:Ren:=⟨fun k=>bif Nat.beq k 125 then 105 else bif Nat.beq k 128 then 143 else bif Nat.beq k 129 then 144 else bif Nat.beq k 189 then 71 else bif Nat.beq k 215 then 165 else bif Nat.beq k 216 then 140 else bif Nat.beq k 257 then 104 else bif Nat.beq k 294 then 134 else bif Nat.beq k 295 then 135 else bif Nat.beq k 296 then 136 else bif Nat.beq k 297 then 137 else bif Nat.beq k 298 then 138 else bif Nat.beq k 299 then 139 else bif Nat.beq k 300 then 141 else bif Nat.beq k 301 then 142 else bif Nat.beq k 328 then 160 else bif Nat.beq k 329 then 161 else bif Nat.beq k 330 then 162 else bif Nat.beq k 331 then 163 else bif Nat.beq k 332 then 164 else bif Nat.beq k 343 then 173 else 0,fun k=>bif Nat.beq k 0 then 0 else bif Nat.beq k 3 then 3 else bif Nat.beq k 4 then 4 else bif Nat.beq k 5 then 5 else bif Nat.beq k 9 then 9 else bif Nat.beq k 28 then 22 else bif Nat.beq k 46 then 189 else bif Nat.beq k 51 then 249 else bif Nat.beq k 53 then 251 else bif Nat.beq k 131 then 95 else bif Nat.beq k 182 then 241 else bif Nat.beq k 183 then 242 else bif Nat.beq k 218 then 292 else bif Nat.beq k 222 then 295 else bif Nat.beq k 228 then 303 else bif Nat.beq k 229 then 304 else 0,fun k=>k⟩
set_option maxRecDepth 100000 in
theorem laySort:Lays.n189 Tryz.prog renS:={ mixed:=mixed,f125:=Tryz.func105.trans (by kernel_rfl),f128:=Tryz.func143.trans (by kernel_rfl),f129:=Tryz.func144.trans (by kernel_rfl),f189:=Tryz.func71.trans (by kernel_rfl),f215:=Tryz.func165.trans (by kernel_rfl),f216:=Tryz.func140.trans (by kernel_rfl),f257:=Tryz.func104.trans (by kernel_rfl),f294:=Tryz.func134.trans (by kernel_rfl),f295:=Tryz.func135.trans (by kernel_rfl),f296:=Tryz.func136.trans (by kernel_rfl),f297:=Tryz.func137.trans (by kernel_rfl),f298:=Tryz.func138.trans (by kernel_rfl),f299:=Tryz.func139.trans (by kernel_rfl),f300:=Tryz.func141.trans (by kernel_rfl),f301:=Tryz.func142.trans (by kernel_rfl),f328:=Tryz.func160.trans (by kernel_rfl),f329:=Tryz.func161.trans (by kernel_rfl),f330:=Tryz.func162.trans (by kernel_rfl),f331:=Tryz.func163.trans (by kernel_rfl),f332:=Tryz.func164.trans (by kernel_rfl),f343:=Tryz.func173.trans (by kernel_rfl),t0:=by kernel_rfl,a0:=fun w=>by kernel_rfl,z0:=fun w=>by kernel_rfl,v0:=fun w=>by kernel_rfl,t3:=by kernel_rfl,a3:=fun w=>by kernel_rfl,z3:=fun w=>by kernel_rfl,v3:=fun w=>by kernel_rfl,t4:=by kernel_rfl,a4:=fun w=>by kernel_rfl,z4:=fun w=>by kernel_rfl,v4:=fun w=>by kernel_rfl,t5:=by kernel_rfl,a5:=fun w=>by kernel_rfl,z5:=fun w=>by kernel_rfl,v5:=fun w=>by kernel_rfl,t9:=by kernel_rfl,a9:=fun w=>by kernel_rfl,z9:=fun w=>by kernel_rfl,v9:=fun w=>by kernel_rfl,t28:=by kernel_rfl,a28:=fun w=>by kernel_rfl,z28:=fun w=>by kernel_rfl,v28:=fun w=>by kernel_rfl,t46:=by kernel_rfl,a46:=fun w=>by kernel_rfl,z46:=fun w=>by kernel_rfl,v46:=fun w=>by kernel_rfl,t51:=by kernel_rfl,a51:=fun w=>by kernel_rfl,z51:=fun w=>by kernel_rfl,v51:=fun w=>by kernel_rfl,t53:=by kernel_rfl,a53:=fun w=>by kernel_rfl,z53:=fun w=>by kernel_rfl,v53:=fun w=>by kernel_rfl,t131:=by kernel_rfl,a131:=fun w=>by kernel_rfl,z131:=fun w=>by kernel_rfl,v131:=fun w=>by kernel_rfl,t182:=by kernel_rfl,a182:=fun w=>by kernel_rfl,z182:=fun w=>by kernel_rfl,v182:=fun w=>by kernel_rfl,t183:=by kernel_rfl,a183:=fun w=>by kernel_rfl,z183:=fun w=>by kernel_rfl,v183:=fun w=>by kernel_rfl,t218:=by kernel_rfl,a218:=fun w=>by kernel_rfl,z218:=fun w=>by kernel_rfl,v218:=fun w=>by kernel_rfl,t222:=by kernel_rfl,a222:=fun w=>by kernel_rfl,z222:=fun w=>by kernel_rfl,v222:=fun w=>by kernel_rfl,t228:=by kernel_rfl,a228:=fun w=>by kernel_rfl,z228:=fun w=>by kernel_rfl,v228:=fun w=>by kernel_rfl,t229:=by kernel_rfl,a229:=fun w=>by kernel_rfl,z229:=fun w=>by kernel_rfl,v229:=fun w=>by kernel_rfl }
def renC:Ren:=⟨fun k=>bif Nat.beq k 20 then 72 else 0,fun k=>bif Nat.beq k 0 then 0 else bif Nat.beq k 3 then 3 else bif Nat.beq k 4 then 4 else bif Nat.beq k 22 then 22 else 0,fun k=>k⟩
set_option maxRecDepth 100000 in
theorem layCompact:Lays2.n20 Tryz.prog renC:={ mixed:=mixed,f20:=Tryz.func72.trans (by kernel_rfl),t0:=by kernel_rfl,a0:=fun w=>by kernel_rfl,z0:=fun w=>by kernel_rfl,v0:=fun w=>by kernel_rfl,t3:=by kernel_rfl,a3:=fun w=>by kernel_rfl,z3:=fun w=>by kernel_rfl,v3:=fun w=>by kernel_rfl,t4:=by kernel_rfl,a4:=fun w=>by kernel_rfl,z4:=fun w=>by kernel_rfl,v4:=fun w=>by kernel_rfl,t22:=by kernel_rfl,a22:=fun w=>by kernel_rfl,z22:=fun w=>by kernel_rfl,v22:=fun w=>by kernel_rfl,i3:=by kernel_rfl }
def sortL (xs:List Int):List Int:=xs.mergeSort fun x y=>decide (x≤y)
theorem qdd (xs:List Int):(sortL xs).length=xs.length:=List.length_mergeSort _
theorem qew {xs:List Int}{x:Int}:x∈sortL xs↔x∈xs:=List.mem_mergeSort
theorem qfw (xs:List Int):(sortL xs).Pairwise (·≤·):=by
 have:=List.pairwise_mergeSort (le:=fun x y:Int=>decide (x≤y)) (fun a b c h k=>by simp at h k ⊢;omega) (fun a b=>by simp;omega) xs
 exact this.imp fun h=>by simpa using h
theorem qdj {w0 w:World}{Γ:List HP}{s:Value}{xs:List Int}(hw:Sat w0 w (OS tInt 3 s xs::Γ)) (hn:xs.length<4611686018427387904) :
  Calls Tryz.prog 71 #[s] w fun e w'=>e=.returned (.tuple #[])∧Sat w0 w' (OS tInt 3 s (sortL xs)::Γ):=by
 rcases hw.intsAt with ⟨rfl,rfl⟩|⟨b,off,cap,rfl,hc,hb,hH,hput⟩
 ·refine Calls.mono (Any.slices_Sort_int_none laySort none 0 w) ?_
  rintro e w' ⟨rfl,rfl⟩
  exact⟨rfl,(by have e:sortL []=[]:=List.eq_nil_of_length_eq_zero (qdd []);rw [e];exact hw)⟩
 ·refine Calls.mono (Any.slices_Sort_int laySort b off cap xs w hH hb hn) ?_
  rintro e w' ⟨rfl,n,os,rfl⟩
  exact⟨rfl,(hput (sortL xs) (qdd xs) n).grow os⟩
def compL (xs:List Int):List Int:=Lib.compact xs
theorem qrx (xs:List Int):(compL xs).length≤xs.length:=by
 unfold compL Lib.compact Lib.compactUpTo
 rw [List.length_map]
 exact Nat.le_trans (List.length_filter_le _ _) (by simp)
theorem qdk {w0 w:World}{Γ:List HP}{s:Value}{xs:List Int}(hw:Sat w0 w (OS tInt 3 s xs::Γ)) (hn:xs.length≤9223372036854775807) :
  Calls Tryz.prog 72 #[s] w fun e w'=>∃ s',e=.returned s'∧Sat w0 w' (OS tInt 3 s' (compL xs)::Γ):=by
 rcases hw.intsAt with ⟨rfl,rfl⟩|⟨b,off,cap,rfl,hc,hb,hH,hput⟩
 ·refine Calls.mono (Any.slices_Compact_int_empty layCompact none 0 w) ?_
  rintro e w' ⟨rfl,rfl⟩
  exact⟨_,rfl,hw⟩
 ·refine Calls.mono (Any.slices_Compact_int layCompact b off cap xs w hH hn hc) ?_
  rintro e w' ⟨rfl,n,rfl⟩
  have hle:=qrx xs
  have h1:=hput (compL xs++List.replicate (xs.length-(compL xs).length) 0) (by simp;omega) n
  refine⟨_,rfl,?_⟩
  have hlen:(compL xs).length≤(compL xs++List.replicate (xs.length-(compL xs).length) 0).length:=by simp
  have h2:=h1.sub own_here 0 (compL xs).length (Nat.zero_le _) hlen
  have e:cut (compL xs++List.replicate (xs.length-(compL xs).length) 0) 0 (compL xs).length=compL xs:=by simp [cut]
  have e2:ssub (.slice (some ⟨b,off,none⟩) xs.length cap) tInt.sz 0 (compL xs).length=.slice (some ⟨b,off,none⟩) (compL xs).length cap:=by simp [ssub,qev,tInt]
  rw [e,e2] at h2
  exact h2
end Go.Proofs.YtkmbenhffledpaaGreat
/-
  Contracts of 'slices.Index', 'Contains' and 'Clone' over ints.
-/
namespace Go.Proofs.YtkmbenhffledpaaGreat
open Go.Sl Go
attribute [local irreducible] vc opsW opsD opV opW PureV ReadV Thn Blk
set_option maxRecDepth 8000 in
theorem qnx {w0:World}{a:Value}{xs:List Int}{v:Int}(ha:RS tInt w0 a xs) :
  Calls Tryz.prog 133 #[a,.int .i64 v] w0 fun e w'=>(∃ r:Int,e=.returned (.int .i64 r)∧(0≤r↔v∈xs))∧Sat w0 w' []:=by
 have hla:=ha.big
 have hw:=Sat.start w0
 refine qab (args:=[a,.int .i64 v]) mixed Tryz.func133 rfl (by kernel_rfl) (Nat.le_of_ble_eq_true rfl) ?_
 repeat refine qaa ?_
 refine qap [4,5,8,9,10,11,12,13,14,15,16,17,18] (G:=Nat) (fun k=>[(8,.int .i64 k)]) (fun k w=>k≤xs.length∧(∀ i,i<k→xs.getD i tInt.dflt≠v)∧Sat w0 w []) (fun k=>xs.length-k) 0 (fun _=>rfl) ⟨rfl,trivial⟩ ⟨Nat.zero_le _,fun i hi=>absurd hi (Nat.not_lt_zero _),hw⟩ ?_
 clear hw
 rintro σ k w ⟨hk,hpre,hw⟩
 repeat refine qaa ?_
 refine go_if (fun h1 => ?_) (fun h1 => ?_)
 ·have hkl:k<xs.length:=by omega
  repeat refine qaa ?_
  refine go_if (fun h2 => ?_) (fun h2 => ?_)
  ·repeat refine qaa ?_
   refine qae (v:=.int .i64 k) rfl rfl ⟨⟨k,rfl,⟨fun _ => ?_,fun _=>by omega⟩⟩,hw⟩
   rw [h2];exact qak _ hkl
  ·repeat refine qaa ?_
   refine⟨k+1,⟨rfl,trivial⟩,agr,⟨by omega,fun i hi => ?_,hw⟩,by omega⟩
   by_cases h:i=k
   ·subst h;exact fun h=>h2 h.symm
   ·exact hpre i (by omega)
 ·repeat refine qaa ?_
  refine qae (v:=.int .i64 (-1)) rfl rfl ⟨⟨-1,rfl,⟨fun h=>by omega,fun h => ?_⟩⟩,hw⟩
  obtain⟨i,hi,he⟩:=List.mem_iff_getElem.1 h
  exact absurd (by rw [qaj hi];exact he) (hpre i (by omega))
set_option maxRecDepth 8000 in
theorem qa1 {w0:World}{a:Value}{xs:List Int}{v:Int}(ha:RS tInt w0 a xs) :
  Calls Tryz.prog 102 #[a,.int .i64 v] w0 fun e w'=>e=.returned (.bool (decide (v∈xs)))∧Sat w0 w' []:=by
 have hw:=Sat.start w0
 refine qab (args:=[a,.int .i64 v]) mixed Tryz.func102 rfl (by kernel_rfl) (Nat.le_of_ble_eq_true rfl) ?_
 repeat refine qaa ?_
 refine qac rfl (qnx ha) ?_
 rintro _ w' ⟨⟨r,rfl,hr⟩,hk'⟩
 replace hw:=hw.call0 hk'
 clear hk'
 refine⟨_,rfl,?_⟩
 repeat refine qaa ?_
 refine qae (v:=.bool (decide (0≤r))) rfl rfl ⟨?_,hw⟩
 rw [decide_eq_decide.2 hr]
set_option maxRecDepth 8000 in
theorem qax {w0:World}{a:Value}{xs:List Int}(ha:RS tInt w0 a xs) (hn:xs.length≤1099511627776) :
  Calls Tryz.prog 65 #[a] w0 fun e w'=>∃ s,e=.returned s∧Sat w0 w' [OS tInt 3 s xs]:=by
 have hw:=Sat.start w0
 obtain⟨ad,cap,hs⟩:=ha.shape
 subst hs
 refine qab (args:=[.slice ad xs.length cap]) mixed Tryz.func65 rfl (by kernel_rfl) (Nat.le_of_ble_eq_true rfl) ?_
 repeat refine qaa ?_
 refine qau rfl (qdo (a:=ad) (n:=xs.length) (c:=cap) rfl) ?_
 cases ad with
 | none =>
  have h0:xs=[]:=by
   rcases Nat.eq_zero_or_pos xs.length with h|h
   ·exact List.eq_nil_of_length_eq_zero h
   ·obtain⟨p,c2,he,_⟩:=ha.some (by decide) h
    cases he
  subst h0
  repeat refine qaa ?_
  exact qae (v:=.slice none 0 0) rfl rfl ⟨_,rfl,hw.nil⟩
 | some p =>
  repeat refine qaa ?_
  refine qaO tInt hw ?_
  clear hw
  intro s1 w hw
  repeat (first|refine qaa ?_|(refine qaq ?_;clear hw;intro s w hw))
  rw [List.nil_append] at hw
  exact qae (v:=s) rfl rfl ⟨_,rfl,hw⟩
end Go.Proofs.YtkmbenhffledpaaGreat
