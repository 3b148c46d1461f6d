/-
  Several texts as one: WTCheck, WTState, WTStates, WSome.
-/
import Derived.Test.YtjdlohdcdmhigaaGreatDoorMW1
import Derived.Test.YtjdlohdcdmhigaaGreatDoorMTA
import Derived.Test.YtjdlohdcdmhigaaGreatDoorMSlB
set_option linter.unusedSimpArgs false
set_option linter.unusedVariables false
/-
  Contracts of the package 'task': 'Proper', 'Facts', 'Holds', 'named', 'conditions', 'large', 'Check'.
-/
namespace Go.Proofs.YtjdlohdcdmhigaaGreatDoor
open Go.Sl
attribute [local irreducible] vc opsW opsD opV opW PureV ReadV Thn Blk
set_option maxRecDepth 8000 in
theorem qbx {w0:World}{a b:Value}{vars s:List Int}(ha:RS tInt w0 a vars) (hb:RS tInt w0 b s) :
  Calls Tryz.prog 37 #[a,b] w0 fun e w'=>(∃ r,e=.returned (.bool r)∧(r=true↔StateOk vars s))∧Sat w0 w' []:=by
 have hla:=ha.big
 have hlb:=hb.big
 have hw:=Sat.start w0
 refine qaf (args:=[a,b]) mixed Tryz.func37 rfl (by kernel_rfl) (Nat.le_of_ble_eq_true rfl) ?_
 repeat (first|refine qac ?_|(refine qaa ?_;clear hw;intro p w hw)|(refine qae ?_;clear hw;intro w hw)|(refine qab ?_;clear hw;intro s w hw))
 refine go_if (fun h0 => ?_) (fun h0 => ?_)
 ·repeat (first|refine qac ?_|(refine qaa ?_;clear hw;intro p w hw)|(refine qae ?_;clear hw;intro w hw)|(refine qab ?_;clear hw;intro s w hw))
  refine qai (v:=.bool false) rfl rfl ⟨⟨false,rfl,iffF fun h => ?_⟩,hw⟩
  exact absurd (by have:=h.1;omega) h0
 ·repeat (first|refine qac ?_|(refine qaa ?_;clear hw;intro p w hw)|(refine qae ?_;clear hw;intro w hw)|(refine qab ?_;clear hw;intro s w hw))
  refine qak [4,5,6,14,15,16,17,18,19,20,21,22,23,24,25,26,27,28,29] (G:=Nat) (fun k=>[(14,.int .i64 k)]) (fun k w=>k≤s.length∧(∀ i,i<k→0≤s.getD i tInt.dflt∧s.getD i tInt.dflt<vars.getD i tInt.dflt)∧Sat w0 w []) (fun k=>s.length-k) 0 (fun _=>rfl) ⟨rfl,trivial⟩ ⟨Nat.zero_le _,fun i hi=>absurd hi (Nat.not_lt_zero _),hw⟩ ?_
  clear hw
  rintro σ k w ⟨hk,hpre,hw⟩
  repeat (first|refine qac ?_|(refine qaa ?_;clear hw;intro p w hw)|(refine qae ?_;clear hw;intro w hw)|(refine qab ?_;clear hw;intro s w hw))
  refine go_if (fun h1 => ?_) (fun h1 => ?_)
  ·repeat (first|refine qac ?_|(refine qaa ?_;clear hw;intro p w hw)|(refine qae ?_;clear hw;intro w hw)|(refine qab ?_;clear hw;intro s w hw))
   refine go_if (fun h2 => ?_) (fun h2 => ?_)
   ·repeat (first|refine qac ?_|(refine qaa ?_;clear hw;intro p w hw)|(refine qae ?_;clear hw;intro w hw)|(refine qab ?_;clear hw;intro s w hw))
    refine qai (v:=.bool false) rfl rfl ⟨⟨false,rfl,iffF fun h => ?_⟩,hw⟩
    have:=h.2 k (by omega)
    omega
   ·repeat (first|refine qac ?_|(refine qaa ?_;clear hw;intro p w hw)|(refine qae ?_;clear hw;intro w hw)|(refine qab ?_;clear hw;intro s w hw))
    refine⟨k+1,⟨rfl,trivial⟩,agr,⟨by omega,fun i hi => ?_,hw⟩,by omega⟩
    by_cases h:i=k
    ·subst h;omega
    ·exact hpre i (by omega)
  ·repeat (first|refine qac ?_|(refine qaa ?_;clear hw;intro p w hw)|(refine qae ?_;clear hw;intro w hw)|(refine qab ?_;clear hw;intro s w hw))
   exact qai (v:=.bool true) rfl rfl ⟨⟨true,rfl,iffT ⟨by omega,fun i hi=>hpre i (by omega)⟩⟩,hw⟩
set_option maxRecDepth 8000 in
set_option maxHeartbeats 1000000 in
theorem qeT {w0:World}{a b:Value}{vars:List Int}{f:List Fact}(ha:RS tInt w0 a vars) (hb:RS tFact w0 b f) :
  Calls Tryz.prog 76 #[a,b] w0 fun e w'=>(∃ r,e=.returned (.bool r)∧(r=true↔FactsOk vars f))∧Sat w0 w' []:=by
 have hla:=ha.big
 have hlb:=hb.big
 have hw:=Sat.start w0
 refine qaf (args:=[a,b]) mixed Tryz.func76 rfl (by kernel_rfl) (Nat.le_of_ble_eq_true rfl) ?_
 repeat (first|refine qac ?_|(refine qaa ?_;clear hw;intro p w hw)|(refine qae ?_;clear hw;intro w hw)|(refine qab ?_;clear hw;intro s w hw))
 refine qaq [4,5,7,10,11,12,13,14,15,16,17,18,19,20,21,22,23,24,25,26,27,28,29,30,31,32,33,34,35,36,37,38,39,40,41,42] (G:=Nat) (H:=Int) (fun k l=>[(10,.int .i64 k),(5,.int .i64 l)]) (fun k l w=>k≤f.length ∧ -1≤l∧(l=if k=0 then -1 else (f.getD (k-1) tFact.dflt).var)∧(∀ i,i<k→FactOk vars (f.getD i tFact.dflt)∧(0<i→(f.getD (i-1) tFact.dflt).var<(f.getD i tFact.dflt).var))∧Sat w0 w []) (fun k l=>f.length-k) 0 (-1) (fun _ _=>rfl) ⟨rfl,rfl,trivial⟩ ⟨Nat.zero_le _,by omega,rfl,fun i hi=>absurd hi (Nat.not_lt_zero _),hw⟩ ?_
 clear hw
 rintro σ k l w ⟨hk,hl1,hl2,hpre,hw⟩
 repeat (first|refine qac ?_|(refine qaa ?_;clear hw;intro p w hw)|(refine qae ?_;clear hw;intro w hw)|(refine qab ?_;clear hw;intro s w hw))
 refine go_if (fun h1 => ?_) (fun h1 => ?_)
 ·repeat (first|refine qac ?_|(refine qaa ?_;clear hw;intro p w hw)|(refine qae ?_;clear hw;intro w hw)|(refine qab ?_;clear hw;intro s w hw))
  refine go_if (fun h2 => ?_) (fun h2 => ?_)
  ·repeat (first|refine qac ?_|(refine qaa ?_;clear hw;intro p w hw)|(refine qae ?_;clear hw;intro w hw)|(refine qab ?_;clear hw;intro s w hw))
   refine qai (v:=.bool false) rfl rfl ⟨⟨false,rfl,iffF fun h => ?_⟩,hw.tail⟩
   have:=h k (by omega)
   unfold FactOk at this
   split at hl2 <;> omega
  ·repeat (first|refine qac ?_|(refine qaa ?_;clear hw;intro p w hw)|(refine qae ?_;clear hw;intro w hw)|(refine qab ?_;clear hw;intro s w hw))
   refine⟨k+1,_,⟨rfl,rfl,trivial⟩,agr,⟨by omega,by omega,by simp,fun i hi => ?_,hw.tail⟩,by omega⟩
   by_cases h:i=k
   ·subst h
    unfold FactOk
    split at hl2 <;> omega
   ·exact hpre i (by omega)
 ·repeat (first|refine qac ?_|(refine qaa ?_;clear hw;intro p w hw)|(refine qae ?_;clear hw;intro w hw)|(refine qab ?_;clear hw;intro s w hw))
  exact qai (v:=.bool true) rfl rfl ⟨⟨true,rfl,iffT fun i hi=>hpre i (by omega)⟩,hw⟩
set_option maxRecDepth 8000 in
set_option maxHeartbeats 1000000 in
theorem qeU {w0:World}{a b:Value}{f:List Fact}{s:List Int}(ha:RS tFact w0 a f) (hb:RS tInt w0 b s) :
  Calls Tryz.prog 146 #[a,b] w0 fun e w'=>(∃ r,e=.returned (.bool r)∧(r=true↔HoldFs s f))∧Sat w0 w' []:=by
 have hla:=ha.big
 have hlb:=hb.big
 have hw:=Sat.start w0
 refine qaf (args:=[a,b]) mixed Tryz.func146 rfl (by kernel_rfl) (Nat.le_of_ble_eq_true rfl) ?_
 repeat (first|refine qac ?_|(refine qaa ?_;clear hw;intro p w hw)|(refine qae ?_;clear hw;intro w hw)|(refine qab ?_;clear hw;intro s w hw))
 refine qak [4,6,9,10,11,12,13,14,15,16,17,18,19,20,21,22,23,24,25,26,27,28,29,30,31,32,33] (G:=Nat) (fun k=>[(9,.int .i64 k)]) (fun k w=>k≤f.length∧(∀ i,i<k→HoldF s (f.getD i tFact.dflt))∧Sat w0 w []) (fun k=>f.length-k) 0 (fun _=>rfl) ⟨rfl,trivial⟩ ⟨Nat.zero_le _,fun i hi=>absurd hi (Nat.not_lt_zero _),hw⟩ ?_
 clear hw
 rintro σ k w ⟨hk,hpre,hw⟩
 repeat (first|refine qac ?_|(refine qaa ?_;clear hw;intro p w hw)|(refine qae ?_;clear hw;intro w hw)|(refine qab ?_;clear hw;intro s w hw))
 refine go_if (fun h1 => ?_) (fun h1 => ?_)
 ·repeat (first|refine qac ?_|(refine qaa ?_;clear hw;intro p w hw)|(refine qae ?_;clear hw;intro w hw)|(refine qab ?_;clear hw;intro s w hw))
  refine go_if (fun h2 => ?_) (fun h2 => ?_)
  ·repeat (first|refine qac ?_|(refine qaa ?_;clear hw;intro p w hw)|(refine qae ?_;clear hw;intro w hw)|(refine qab ?_;clear hw;intro s w hw))
   refine qai (v:=.bool false) rfl rfl ⟨⟨false,rfl,iffF fun h => ?_⟩,hw.tail⟩
   have:=h k (by omega)
   unfold HoldF at this
   omega
  ·repeat (first|refine qac ?_|(refine qaa ?_;clear hw;intro p w hw)|(refine qae ?_;clear hw;intro w hw)|(refine qab ?_;clear hw;intro s w hw))
   refine⟨k+1,⟨rfl,trivial⟩,agr,⟨by omega,fun i hi => ?_,hw.tail⟩,by omega⟩
   by_cases h:i=k
   ·subst h;unfold HoldF;omega
   ·exact hpre i (by omega)
 ·repeat (first|refine qac ?_|(refine qaa ?_;clear hw;intro p w hw)|(refine qae ?_;clear hw;intro w hw)|(refine qab ?_;clear hw;intro s w hw))
  exact qai (v:=.bool true) rfl rfl ⟨⟨true,rfl,iffT fun i hi=>hpre i (by omega)⟩,hw⟩
set_option maxRecDepth 8000 in
theorem qj3 {w0:World}{b:ByteArray}(hb:b.size≤9223372036854775807) :
  Calls Tryz.prog 77 #[.string b] w0 fun e w'=>(∃ r,e=.returned (.bool r)∧(r=true↔NameOk b))∧Sat w0 w' []:=by
 have hw:=Sat.start w0
 refine qaf (args:=[.string b]) mixed Tryz.func77 rfl (by kernel_rfl) (Nat.le_of_ble_eq_true rfl) ?_
 repeat (first|refine qac ?_|(refine qaa ?_;clear hw;intro p w hw)|(refine qae ?_;clear hw;intro w hw)|(refine qab ?_;clear hw;intro s w hw))
 refine qak [2,3,6,7,8,9,10,11,12,13,14,15,16,17,18,19] (G:=Nat) (fun k=>[(6,.int .i64 k)]) (fun k w=>k≤b.size∧(∀ i,i<k→32≤bat b i∧bat b i≤126)∧Sat w0 w []) (fun k=>b.size-k) 0 (fun _=>rfl) ⟨rfl,trivial⟩ ⟨Nat.zero_le _,fun i hi=>absurd hi (Nat.not_lt_zero _),hw⟩ ?_
 clear hw
 rintro σ k w ⟨hk,hpre,hw⟩
 repeat (first|refine qac ?_|(refine qaa ?_;clear hw;intro p w hw)|(refine qae ?_;clear hw;intro w hw)|(refine qab ?_;clear hw;intro s w hw))
 refine go_if (fun h1 => ?_) (fun h1 => ?_)
 ·repeat (first|refine qac ?_|(refine qaa ?_;clear hw;intro p w hw)|(refine qae ?_;clear hw;intro w hw)|(refine qab ?_;clear hw;intro s w hw))
  refine go_if (fun h2 => ?_) (fun h2 => ?_)
  ·repeat (first|refine qac ?_|(refine qaa ?_;clear hw;intro p w hw)|(refine qae ?_;clear hw;intro w hw)|(refine qab ?_;clear hw;intro s w hw))
   refine qai (v:=.bool false) rfl rfl ⟨⟨false,rfl,iffF fun h => ?_⟩,hw⟩
   have:=h.2 k (by omega)
   omega
  ·repeat (first|refine qac ?_|(refine qaa ?_;clear hw;intro p w hw)|(refine qae ?_;clear hw;intro w hw)|(refine qab ?_;clear hw;intro s w hw))
   refine⟨k+1,⟨rfl,trivial⟩,agr,⟨by omega,fun i hi => ?_,hw⟩,by omega⟩
   by_cases h:i=k
   ·subst h;omega
   ·exact hpre i (by omega)
 ·repeat (first|refine qac ?_|(refine qaa ?_;clear hw;intro p w hw)|(refine qae ?_;clear hw;intro w hw)|(refine qab ?_;clear hw;intro s w hw))
  refine qai (v:=.bool (decide ((b.size:Int)≤256))) rfl rfl ⟨⟨_,rfl,?_⟩,hw⟩
  rw [decide_eq_true_eq]
  exact⟨fun h=>⟨by omega,fun i hi=>hpre i (by omega)⟩,fun h=>by have:=h.1;omega⟩
end Go.Proofs.YtjdlohdcdmhigaaGreatDoor
/-
  Contracts of the helpers 'Ints', 'Is', 'Many', 'Small', 'Apply', 'Rank'.
-/
namespace Go.Proofs.YtjdlohdcdmhigaaGreatDoor
open Go.Sl
attribute [local irreducible] vc opsW opsD opV opW PureV ReadV Thn Blk
theorem qjK {xs ys:List Int}(hl:xs.length=ys.length) (h:∀ i,i<xs.length→xs.getD i tInt.dflt=ys.getD i tInt.dflt):xs=ys:=by
 apply List.ext_getElem hl
 intro i h1 h2
 have:=h i h1
 rwa [getD_at h1,getD_at h2] at this
set_option maxRecDepth 8000 in
theorem qoE {w0:World}{a b:Value}{xs ys:List Int}(ha:RS tInt w0 a xs) (hb:RS tInt w0 b ys) :
  Calls Tryz.prog 59 #[a,b] w0 fun e w'=>(∃ r,e=.returned (.bool r)∧(r=true↔xs=ys))∧Sat w0 w' []:=by
 have hla:=ha.big
 have hlb:=hb.big
 have hw:=Sat.start w0
 refine qaf (args:=[a,b]) mixed Tryz.func59 rfl (by kernel_rfl) (Nat.le_of_ble_eq_true rfl) ?_
 repeat (first|refine qac ?_|(refine qaa ?_;clear hw;intro p w hw)|(refine qae ?_;clear hw;intro w hw)|(refine qab ?_;clear hw;intro s w hw))
 refine go_if (fun h0 => ?_) (fun h0 => ?_)
 ·repeat (first|refine qac ?_|(refine qaa ?_;clear hw;intro p w hw)|(refine qae ?_;clear hw;intro w hw)|(refine qab ?_;clear hw;intro s w hw))
  refine qai (v:=.bool false) rfl rfl ⟨⟨false,rfl,iffF fun h => ?_⟩,hw⟩
  subst h
  omega
 ·repeat (first|refine qac ?_|(refine qaa ?_;clear hw;intro p w hw)|(refine qae ?_;clear hw;intro w hw)|(refine qab ?_;clear hw;intro s w hw))
  refine qak [4,5,13,14,15,16,17,18,19,20,21,22,23,24,25] (G:=Nat) (fun k=>[(13,.int .i64 k)]) (fun k w=>k≤xs.length∧(∀ i,i<k→xs.getD i tInt.dflt=ys.getD i tInt.dflt)∧Sat w0 w []) (fun k=>xs.length-k) 0 (fun _=>rfl) ⟨rfl,trivial⟩ ⟨Nat.zero_le _,fun i hi=>absurd hi (Nat.not_lt_zero _),hw⟩ ?_
  clear hw
  rintro σ k w ⟨hk,hpre,hw⟩
  repeat (first|refine qac ?_|(refine qaa ?_;clear hw;intro p w hw)|(refine qae ?_;clear hw;intro w hw)|(refine qab ?_;clear hw;intro s w hw))
  refine go_if (fun h1 => ?_) (fun h1 => ?_)
  ·repeat (first|refine qac ?_|(refine qaa ?_;clear hw;intro p w hw)|(refine qae ?_;clear hw;intro w hw)|(refine qab ?_;clear hw;intro s w hw))
   refine go_if (fun h2 => ?_) (fun h2 => ?_)
   ·repeat (first|refine qac ?_|(refine qaa ?_;clear hw;intro p w hw)|(refine qae ?_;clear hw;intro w hw)|(refine qab ?_;clear hw;intro s w hw))
    refine qai (v:=.bool false) rfl rfl ⟨⟨false,rfl,iffF fun h => ?_⟩,hw⟩
    subst h
    exact h2 rfl
   ·repeat (first|refine qac ?_|(refine qaa ?_;clear hw;intro p w hw)|(refine qae ?_;clear hw;intro w hw)|(refine qab ?_;clear hw;intro s w hw))
    refine⟨k+1,⟨rfl,trivial⟩,agr,⟨by omega,fun i hi => ?_,hw⟩,by omega⟩
    by_cases h:i=k
    ·subst h;omega
    ·exact hpre i (by omega)
  ·repeat (first|refine qac ?_|(refine qaa ?_;clear hw;intro p w hw)|(refine qae ?_;clear hw;intro w hw)|(refine qab ?_;clear hw;intro s w hw))
   exact qai (v:=.bool true) rfl rfl ⟨⟨true,rfl,iffT (qjK (by omega) fun i hi=>hpre i (by omega))⟩,hw⟩
theorem qlo {n k m:Int}(hn:1≤n) (hk:1≤k) (hm:n≤m) (h0:m≤65536):let x:=n*(if m+1<(if 0>k then 0 else k) then m+1 else (if 0>k then 0 else k))
  0≤x∧x≤4295098368∧(x≤m→x=n*k)∧(m<x→m<n*k):=by
 intro x
 have e:x=n*min k (m+1):=by
  show n*(if m+1<(if 0>k then 0 else k) then m+1 else (if 0>k then 0 else k))=_
  have hk0:(if 0>k then 0 else k)=k:=if_neg (by omega)
  rw [hk0]
  congr 1
  split <;> omega
 have h2:n*min k (m+1)≤65536*65537:=Int.mul_le_mul (by omega) (by omega) (by omega) (by omega)
 have h3:0≤n*min k (m+1):=Int.mul_nonneg (by omega) (by omega)
 refine⟨by omega,by omega,fun h => ?_,fun h => ?_⟩
 ·rw [e] at h ⊢
  by_cases hh:k≤m+1
  ·rw [Int.min_eq_left hh]
  ·rw [Int.min_eq_right (by omega)] at h
   have:1*(m+1)≤n*(m+1):=Int.mul_le_mul_of_nonneg_right hn (by omega)
   omega
 ·rw [e] at h
  have:n*min k (m+1)≤n*k:=Int.mul_le_mul_of_nonneg_left (by omega) (by omega)
  omega
def manyL (vars:List Int) (m:Int):Int:=if prodL vars≤m then prodL vars else m+1
set_option maxRecDepth 8000 in
theorem qlZ {w0:World}{a:Value}{vars:List Int}{m:Int}(ha:RS tInt w0 a vars) (hp:∀ x∈vars,1≤x) (hm1:1≤m) (hm2:m≤65536) :
  Calls Tryz.prog 9 #[a,.int .i64 m] w0 fun e w'=>e=.returned (.int .i64 (manyL vars m))∧Sat w0 w' []:=by
 have hla:=ha.big
 have hw:=Sat.start w0
 refine qaf (args:=[a,.int .i64 m]) mixed Tryz.func9 rfl (by kernel_rfl) (Nat.le_of_ble_eq_true rfl) ?_
 repeat (first|refine qac ?_|(refine qaa ?_;clear hw;intro p w hw)|(refine qae ?_;clear hw;intro w hw)|(refine qab ?_;clear hw;intro s w hw))
 refine qaq [4,5,7,10,11,12,13,14,15,16,17,18,19,20,21,22,23,24,25,26] (G:=Nat) (H:=Int) (fun k n=>[(10,.int .i64 k),(5,.int .i64 n)]) (fun k n w=>k≤vars.length∧n=prodL (vars.take k)∧n≤m∧Sat w0 w []) (fun k _=>vars.length-k) 0 1 (fun _ _=>rfl) ⟨rfl,rfl,trivial⟩ ⟨Nat.zero_le _,rfl,hm1,hw⟩ ?_
 clear hw
 rintro σ k n w ⟨hk,hn,hnm,hw⟩
 repeat (first|refine qac ?_|(refine qaa ?_;clear hw;intro p w hw)|(refine qae ?_;clear hw;intro w hw)|(refine qab ?_;clear hw;intro s w hw))
 refine go_if (fun h1 => ?_) (fun h1 => ?_)
 ·have hkl:k<vars.length:=by omega
  have hx:=hp _ (qal tInt.dflt hkl)
  have hpos:1≤n:=by rw [hn];exact qbD fun x hx=>hp x (List.mem_of_mem_take hx)
  obtain⟨b0,b1,b2,b3⟩:=qlo hpos hx hnm hm2
  have hs:prodL (vars.take (k+1))=n*vars.getD k tInt.dflt:=by rw [qaj tInt.dflt hkl,qa4,hn]
  repeat (first|refine qac ?_|(refine qaa ?_;clear hw;intro p w hw)|(refine qae ?_;clear hw;intro w hw)|(refine qab ?_;clear hw;intro s w hw))
  refine go_if (fun h2 => ?_) (fun h2 => ?_)
  ·repeat (first|refine qac ?_|(refine qaa ?_;clear hw;intro p w hw)|(refine qae ?_;clear hw;intro w hw)|(refine qab ?_;clear hw;intro s w hw))
   refine qai (v:=.int .i64 (m+1)) rfl rfl ⟨?_,hw⟩
   have h3:=b3 (by omega)
   have h4:prodL (vars.take (k+1))≤prodL vars:=by
    have:=qfh (l:=vars.take (k+1)) (m:=vars.drop (k+1)) (fun x hx=>hp x (List.mem_of_mem_drop hx)) (fun x hx=>hp x (List.mem_of_mem_take hx))
    rwa [List.take_append_drop] at this
   rw [manyL,if_neg (by omega)]
  ·repeat (first|refine qac ?_|(refine qaa ?_;clear hw;intro p w hw)|(refine qae ?_;clear hw;intro w hw)|(refine qab ?_;clear hw;intro s w hw))
   refine⟨k+1,_,⟨rfl,rfl,trivial⟩,agr,⟨by omega,?_,by omega,hw⟩,by omega⟩
   rw [hs];exact b2 (by omega)
 ·repeat (first|refine qac ?_|(refine qaa ?_;clear hw;intro p w hw)|(refine qae ?_;clear hw;intro w hw)|(refine qab ?_;clear hw;intro s w hw))
  refine qai (v:=.int .i64 n) rfl rfl ⟨?_,hw⟩
  rw [List.take_of_length_le (by omega)] at hn
  rw [manyL,←hn,if_pos hnm]
set_option maxRecDepth 8000 in
set_option maxHeartbeats 2000000 in
theorem qkd {w0:World}{a b c d:Value}{vs:List OpV}{t:TTask}(ht:RTask w0 a b c d vs t) :
  Calls Tryz.prog 19 #[.agg #[a,b,c,d]] w0 fun e w'=>(∃ r,e=.returned (.bool r)∧(r=true↔SmallT t))∧Sat w0 w' []:=by
 have ht':=ht
 obtain⟨ha,hb,hc,hd⟩:=ht
 have hrs:=hd.rs
 have hdl:=hd.len
 have hla:=ha.big
 have hll:=hrs.big
 have hw:=Sat.start w0
 refine qaf (args:=[.agg #[a,b,c,d]]) mixed Tryz.func19 rfl (by kernel_rfl) (Nat.le_of_ble_eq_true rfl) ?_
 repeat (first|refine qac ?_|(refine qaa ?_;clear hw;intro p w hw)|(refine qae ?_;clear hw;intro w hw)|(refine qab ?_;clear hw;intro s w hw))
 refine go_if (fun h1 => ?_) (fun h1 => ?_)
 ·repeat (first|refine qac ?_|(refine qaa ?_;clear hw;intro p w hw)|(refine qae ?_;clear hw;intro w hw)|(refine qab ?_;clear hw;intro s w hw))
  refine qai (v:=.bool false) rfl rfl ⟨⟨false,rfl,iffF fun h => ?_⟩,hw.tail⟩
  have:=h.vars
  have:=h.ops
  omega
 ·repeat (first|refine qac ?_|(refine qaa ?_;clear hw;intro p w hw)|(refine qae ?_;clear hw;intro w hw)|(refine qab ?_;clear hw;intro s w hw))
  obtain⟨pt,hpt⟩:∃ pt,pt=p:=⟨p,rfl⟩
  subst hpt
  refine qak [2,4,18,19,20,21,22,23,24,25,26] (G:=Nat) (fun k=>[(18,.int .i64 k)]) (fun k w=>k≤t.ops.length∧(∀ i,i<k→(t.ops.getD i dOp).effs.length≤8)∧Sat w0 w [Box pt 26 [a,b,c,d]]) (fun k=>t.ops.length-k) 0 (fun _=>rfl) ⟨rfl,trivial⟩ ⟨Nat.zero_le _,fun i hi=>absurd hi (Nat.not_lt_zero _),hw⟩ ?_
  clear hw
  rintro σ k w ⟨hk,hef,hw⟩
  repeat (first|refine qac ?_|(refine qaa ?_;clear hw;intro p w hw)|(refine qae ?_;clear hw;intro w hw)|(refine qab ?_;clear hw;intro s w hw))
  refine go_if (fun h2 => ?_) (fun h2 => ?_)
  ·have hop:=hd.at_ k (by omega)
   have hone:=hop.one
   obtain⟨es,hes⟩:=hop.effs
   have hers:=hes.rs
   have hel:=hes.len
   have heb:=hers.big
   repeat (first|refine qac ?_|(refine qaa ?_;clear hw;intro p w hw)|(refine qae ?_;clear hw;intro w hw)|(refine qab ?_;clear hw;intro s w hw))
   refine go_if (fun h3 => ?_) (fun h3 => ?_)
   ·repeat (first|refine qac ?_|(refine qaa ?_;clear hw;intro p w hw)|(refine qae ?_;clear hw;intro w hw)|(refine qab ?_;clear hw;intro s w hw))
    refine qai (v:=.bool false) rfl rfl ⟨⟨false,rfl,iffF fun h => ?_⟩,hw.tail.tail⟩
    have:=h.effs k (by omega)
    omega
   ·repeat (first|refine qac ?_|(refine qaa ?_;clear hw;intro p w hw)|(refine qae ?_;clear hw;intro w hw)|(refine qab ?_;clear hw;intro s w hw))
    refine⟨k+1,⟨rfl,trivial⟩,agr,⟨by omega,fun i hi => ?_,hw.tail⟩,by omega⟩
    by_cases h:i=k
    ·subst h;omega
    ·exact hef i (by omega)
  ·repeat (first|refine qac ?_|(refine qaa ?_;clear hw;intro p w hw)|(refine qae ?_;clear hw;intro w hw)|(refine qab ?_;clear hw;intro s w hw))
   refine qah rfl (qlK (ht'.at hw)) ?_
   rintro _ w' ⟨⟨r,rfl,hr⟩,hk'⟩
   replace hw:=hw.call0 hk'
   clear hk'
   refine⟨_,rfl,?_⟩
   cases r with
   | false =>
    repeat (first|refine qac ?_|(refine qaa ?_;clear hw;intro p w hw)|(refine qae ?_;clear hw;intro w hw)|(refine qab ?_;clear hw;intro s w hw))
    refine qai (v:=.bool false) rfl rfl ⟨⟨false,rfl,iffF fun h => ?_⟩,hw.tail⟩
    have:=hr.2 h.good
    cases this
   | true =>
    have hg:=hr.1 rfl
    repeat (first|refine qac ?_|(refine qaa ?_;clear hw;intro p w hw)|(refine qae ?_;clear hw;intro w hw)|(refine qab ?_;clear hw;intro s w hw))
    refine qah rfl (qlZ (m:=512) (ha.at hw) hg.pos (by decide) (by decide)) ?_
    rintro _ w' ⟨rfl,hk'⟩
    replace hw:=hw.call0 hk'
    clear hk'
    refine⟨_,rfl,?_⟩
    repeat (first|refine qac ?_|(refine qaa ?_;clear hw;intro p w hw)|(refine qae ?_;clear hw;intro w hw)|(refine qab ?_;clear hw;intro s w hw))
    refine qai (v:=.bool (decide (manyL t.vars 512≤512))) rfl rfl ⟨⟨_,rfl,?_⟩,hw.tail⟩
    rw [decide_eq_true_eq,manyL]
    constructor
    ·intro h
     exact⟨hg,by omega,by omega,fun i hi=>hef i (by omega),by split at h <;> omega⟩
    ·intro h
     rw [if_pos h.many];exact h.many
theorem qcu {l:List Int}(h:∀ x∈l,1≤x) (k:Nat):prodL (l.take k)≤prodL l:=by
 have:=qfh (l:=l.take k) (m:=l.drop k) (fun x hx=>h x (List.mem_of_mem_drop hx)) (fun x hx=>h x (List.mem_of_mem_take hx))
 rwa [List.take_append_drop] at this
end Go.Proofs.YtjdlohdcdmhigaaGreatDoor
/-
  Contracts of the helpers 'States' and 'Edges'.
-/
namespace Go.Proofs.YtjdlohdcdmhigaaGreatDoor
open Go.Sl
attribute [local irreducible] vc opsW opsD opV opW PureV ReadV Thn Blk
def statesI (l:List (List Int)) (k:Int) (i:Nat):List (List Int):=statesS (l.take i) k
def rowsX (s:List Int) (x:Nat):List (List Int):=(List.range x).map fun (x:Nat)=>s++[(x:Int)]
theorem qgE {l:List (List Int)}{k:Int}{i:Nat}(hi:i<l.length):statesI l k (i+1)=statesI l k i++rowsX (l.getD i []) k.toNat:=by
 unfold statesI statesS rowsX
 rw [qaj [] hi];simp
theorem qhH (l:List (List Int)) (k:Int):statesI l k l.length=statesS l k:=by unfold statesI;rw [List.take_length]
theorem qjv (s:List Int) (x:Nat):rowsX s (x+1)=rowsX s x++[s++[(x:Int)]]:=by simp [rowsX,List.range_succ]
theorem qhI {vars:List Int}{i:Nat}(hi:i<(statesL vars).length):((statesL vars).getD i []).length=vars.length:=(qcF.1 (qal [] hi)).1
theorem qk0 {n k i:Nat}{p:Int}(h:i<n) (hp:((n:Int)*k)≤p):(i:Int)*k+k≤p:=by
 have h1:(i+1)*k≤n*k:=Nat.mul_le_mul_right k h
 rw [Nat.succ_mul] at h1
 have h2:((i*k+k:Nat):Int)≤((n*k:Nat):Int):=by exact_mod_cast h1
 simp only [Int.natCast_add,Int.natCast_mul] at h2
 omega
set_option maxRecDepth 8000 in
set_option maxHeartbeats 4000000 in
theorem qic {w0:World}{a:Value}{vars:List Int}(ha:RS tInt w0 a vars) (hp:∀ x∈vars,1≤x) (hn:vars.length≤64) (hB:prodL vars≤65536) :
  Calls Tryz.prog 12 #[a] w0 fun e w'=>∃ s ss,e=.returned s∧Sat w0 w' [RowsAt tInt 3 ss (statesL vars),OS tVal 22 s ss]:=by
 have hla:=ha.big
 have hw:=Sat.start w0
 refine qaf (args:=[a]) mixed Tryz.func12 rfl (by kernel_rfl) (Nat.le_of_ble_eq_true rfl) ?_
 repeat (first|refine qac ?_|(refine qaa ?_;clear hw;intro p w hw)|(refine qae ?_;clear hw;intro w hw)|(refine qab ?_;clear hw;intro s w hw))
 refine qaJ tInt hw ?_
 clear hw
 intro s w hw
 repeat (first|refine qac ?_|(refine qaa ?_;clear hw;intro p w hw)|(refine qae ?_;clear hw;intro w hw)|(refine qab ?_;clear hw;intro s w hw))
 replace hw:=(hw.swap.rows0 (T:=tInt) (e:=3)).swap.rowPush
 refine qbf [3,5,6,8,9,14,15,16,17,18,19,20,21,22,23,24,25,26,27,28,29,30,31,32,33,34,35,36,37,38,39,40] (G:=Nat) (H:=Value) (I:=List Value) (fun k s _=>[(14,.int .i64 k),(3,s)]) (fun k s ss w=>k≤vars.length∧Sat w0 w [RowsAt tInt 3 ss (statesL (vars.take k)),OS tVal 22 s ss]) (fun k _ _=>vars.length-k) 0 _ _ (fun _ _ _=>rfl) ⟨rfl,rfl,trivial⟩ ⟨Nat.zero_le _,hw⟩ ?_
 clear hw
 rintro σ k s ss w ⟨hk,hw⟩
 repeat (first|refine qac ?_|(refine qaa ?_;clear hw;intro p w hw)|(refine qae ?_;clear hw;intro w hw)|(refine qab ?_;clear hw;intro s w hw))
 refine go_if (fun h1 => ?_) (fun h1 => ?_)
 ·have hkl:k<vars.length:=by omega
  have hpk:∀ x∈vars.take k,1≤x:=fun x hx=>hp x (List.mem_of_mem_take hx)
  have hvk:=hp _ (qal tInt.dflt hkl)
  have hS:statesL (vars.take (k+1))=statesS (statesL (vars.take k)) (vars.getD k tInt.dflt):=by rw [qaj tInt.dflt hkl,qbZ]
  have hN:((statesL (vars.take k)).length:Int)*(vars.getD k tInt.dflt).toNat≤65536:=by
   have h2:=qcu hp (k+1)
   rw [qaj tInt.dflt hkl,qa4] at h2
   have h3:=qbD hpk
   rw [qa5 hpk,Int.toNat_of_nonneg (by omega),Int.toNat_of_nonneg (by omega)]
   omega
  have hN2:((statesL (vars.take k)).length:Int)≤65536:=by
   have h2:=qcu hp k
   rw [qa5 hpk]
   omega
  have hV:vars.getD k tInt.dflt≤65536:=by
   have h2:=qcu hp (k+1)
   rw [qaj tInt.dflt hkl,qa4] at h2
   have h3:=qbD hpk
   have h4:1*vars.getD k tInt.dflt≤prodL (vars.take k)*vars.getD k tInt.dflt:=Int.mul_le_mul_of_nonneg_right h3 (by omega)
   omega
  obtain⟨V,hVe⟩:∃ V,V=vars.getD k tInt.dflt:=⟨_,rfl⟩
  obtain⟨L,hLe⟩:∃ L,L=statesL (vars.take k):=⟨_,rfl⟩
  have hrow:∀ i,i<L.length→(L.getD i []).length≤64:=fun i hi=>by
   subst hLe
   rw [qhI hi,List.length_take];omega
  have hss:ss.length=(statesL (vars.take k)).length:=hw.rowsLen
  rw [←hLe] at hS hN hN2 hw hss
  rw [←hVe] at hS hN hV hvk
  repeat (first|refine qac ?_|(refine qaa ?_;clear hw;intro p w hw)|(refine qae ?_;clear hw;intro w hw)|(refine qab ?_;clear hw;intro s w hw))
  have hb:=hw
  have hout:RS tVal w s ss:=rsO hb
  have ha1:=ha.at hw
  obtain⟨w1,hw1⟩:∃ w1,w1=w:=⟨_,rfl⟩
  rw [←hw1] at hb hout ha1
  replace hw:=Sat.start w
  rw [←hw1] at hw
  rw [←hVe]
  refine qbf [6,8,9,20,21,22,23,24,25,26,27,28,29,30,31,32,33,34,35,36,37,38] (G:=Nat) (H:=Value) (I:=List Value) (fun i s _=>[(20,.int .i64 i),(6,s)]) (fun i s' ss' w=>i≤L.length∧ss'.length=i*V.toNat∧Sat w1 w [RowsAt tInt 3 ss' (statesI L V i),OS tVal 22 s' ss']) (fun i _ _=>L.length-i) 0 _ [] (fun _ _ _=>rfl) ⟨rfl,rfl,trivial⟩ ⟨Nat.zero_le _,(by simp),hw1 ▸ hw.nil.rows0⟩ ?_
  clear hw hw1
  rintro σ1 i s' ss' w ⟨hi,hsl',hw⟩
  repeat (first|refine qac ?_|(refine qaa ?_;clear hw;intro p w hw)|(refine qae ?_;clear hw;intro w hw)|(refine qab ?_;clear hw;intro s w hw))
  refine go_if (fun h2 => ?_) (fun h2 => ?_)
  ·have hil:i<L.length:=by omega
   have hr:=hb.row hil
   have hrl:=hrow i hil
   have hmul:=qk0 hil hN
   have hsl'':(ss'.length:Int)=(i:Int)*V.toNat:=by rw [hsl'];simp
   repeat (first|refine qac ?_|(refine qaa ?_;clear hw;intro p w hw)|(refine qae ?_;clear hw;intro w hw)|(refine qab ?_;clear hw;intro s w hw))
   refine qbf [6,9,25,26,27,28,29,30,31,32,33,34,35,36,37] (G:=Nat) (H:=Value) (I:=List Value) (fun x s _=>[(25,.int .i64 x),(6,s)]) (fun x s' ss' w=>x≤V.toNat∧ss'.length=i*V.toNat+x∧Sat w1 w [RowsAt tInt 3 ss' (statesI L V i++rowsX (L.getD i []) x),OS tVal 22 s' ss']) (fun x _ _=>V.toNat-x) 0 s' ss' (fun _ _ _=>rfl) ⟨rfl,rfl,trivial⟩ ⟨Nat.zero_le _,hsl',by simpa [rowsX] using hw⟩ ?_
   clear hw hsl' hsl''
   rintro σ2 x s2 ss2 w ⟨hx,hs2,hw⟩
   have hs3:(ss2.length:Int)=(i:Int)*V.toNat+x:=by rw [hs2];simp
   repeat (first|refine qac ?_|(refine qaa ?_;clear hw;intro p w hw)|(refine qae ?_;clear hw;intro w hw)|(refine qab ?_;clear hw;intro s w hw))
   refine go_if (fun h3 => ?_) (fun h3 => ?_)
   ·repeat (first|refine qac ?_|(refine qaa ?_;clear hw;intro p w hw)|(refine qae ?_;clear hw;intro w hw)|(refine qab ?_;clear hw;intro s w hw))
    refine qaJ tInt hw ?_
    clear hw
    intro e1 w hw
    repeat (first|refine qac ?_|(refine qaa ?_;clear hw;intro p w hw)|(refine qae ?_;clear hw;intro w hw)|(refine qab ?_;clear hw;intro s w hw))
    replace hw:=hw.tail.tail.rowPush
    rw [List.nil_append,List.append_assoc,←qjv] at hw
    exact⟨x+1,_,_,⟨rfl,rfl,trivial⟩,agr,⟨by omega,by simp;omega,hw⟩,by omega⟩
   ·have hxe:x=V.toNat:=by omega
    subst hxe
    rw [←qgE hil] at hw
    repeat (first|refine qac ?_|(refine qaa ?_;clear hw;intro p w hw)|(refine qae ?_;clear hw;intro w hw)|(refine qab ?_;clear hw;intro s w hw))
    exact⟨i+1,_,ss2,⟨rfl,rfl,trivial⟩,agr,⟨by omega,by rw [Nat.succ_mul];omega,hw⟩,by omega⟩
  ·have hie:i=L.length:=by omega
   subst hie
   rw [qhH,←hS] at hw
   repeat (first|refine qac ?_|(refine qaa ?_;clear hw;intro p w hw)|(refine qae ?_;clear hw;intro w hw)|(refine qab ?_;clear hw;intro s w hw))
   exact⟨k+1,_,ss',⟨rfl,rfl,trivial⟩,agr,⟨by omega,(hb.call hw).comm.tail.tail⟩,by omega⟩
 ·rw [List.take_of_length_le (by omega)] at hw
  repeat (first|refine qac ?_|(refine qaa ?_;clear hw;intro p w hw)|(refine qae ?_;clear hw;intro w hw)|(refine qab ?_;clear hw;intro s w hw))
  exact qai (v:=s) rfl rfl ⟨s,ss,rfl,hw⟩
end Go.Proofs.YtjdlohdcdmhigaaGreatDoor
/-
  Contract of law 47's 'some'.
-/
namespace Go.Proofs.YtjdlohdcdmhigaaGreatDoor
open Go.Sl Go
attribute [local irreducible] vc opsW opsD opV opW PureV ReadV Thn Blk
def SomeOk (b:Value) (t:TTask) (ss os:List Value) (Zs:List (List Int)):Prop:=os.length=Zs.length∧∀ i,i<Zs.length→(vget os i=b∧Zs.getD i []=t.init)∨∃ r,r<(statesL t.vars).length∧vget os i=vget ss r∧Zs.getD i []=(statesL t.vars).getD r []
theorem SomeOk.ok {b:Value}{t:TTask}{ss os:List Value}{Zs:List (List Int)}(h:SomeOk b t ss os Zs) (hg:GoodT t) {i:Nat}(hi:i<Zs.length):StateOk t.vars (Zs.getD i []):=by
 rcases h.2 i hi with ⟨_,e⟩|⟨r,hr,_,e⟩
 ·rw [e];exact hg.init
 ·rw [e];exact (qju hg.pos hr).1
theorem SomeOk.rs {w0 w:World}{Γ:List HP}{b:Value}{t:TTask}{ss os:List Value}{Zs:List (List Int)}(h:SomeOk b t ss os Zs) (hb:RS tInt w0 b t.init) (hw:Sat w0 w (RowsAt tInt 3 ss (statesL t.vars)::Γ)) {i:Nat}(hi:i<Zs.length):RS tInt w (vget os i) (Zs.getD i []):=by
 rcases h.2 i hi with ⟨e1,e⟩|⟨r,hr,e1,e⟩
 ·rw [e,e1];exact hb.at hw
 ·rw [e,e1];exact hw.row hr
theorem SomeOk.one {b:Value}{t:TTask}{ss:List Value}:SomeOk b t ss [b] [t.init]:=⟨rfl,fun i hi=>.inl (by
 have:i=0:=by simpa using hi
 subst this
 exact⟨by rw [qaR];rfl,rfl⟩)⟩
theorem qmS {os:List Value}{v:Value}{i:Nat}(h:i<os.length):vget (os++[v]) i=vget os i:=by
 rw [qaR,qaR,List.getD,List.getD,List.getElem?_append_left h]
theorem qlk {os:List Value}{v:Value}:vget (os++[v]) os.length=v:=by
 rw [qaR,List.getD,List.getElem?_append_right (Nat.le_refl _)];simp
theorem SomeOk.snoc {b:Value}{t:TTask}{ss os:List Value}{Zs:List (List Int)}(h:SomeOk b t ss os Zs) {r:Nat}(hr:r<(statesL t.vars).length):SomeOk b t ss (os++[vget ss r]) (Zs++[(statesL t.vars).getD r []]):=by
 refine⟨by simp [h.1],fun i hi => ?_⟩
 by_cases e:i<Zs.length
 ·have e1:(Zs++[(statesL t.vars).getD r []]).getD i []=Zs.getD i []:=by simp only [List.getD,List.getElem?_append_left e]
  rw [qmS (by rw [h.1];exact e),e1]
  exact h.2 i e
 ·have e2:i=Zs.length:=by
   simp only [List.length_append,List.length_cons,List.length_nil] at hi;omega
  subst e2
  refine .inr ⟨r,hr,?_,?_⟩
  ·rw [←h.1];exact qlk
  ·rw [List.getD,List.getElem?_append_right (Nat.le_refl _)];simp
set_option maxRecDepth 8000 in
set_option maxHeartbeats 4000000 in
theorem qih {w0:World}{a b c d:Value}{vs:List OpV}{t:TTask}(ht:RTask w0 a b c d vs t) (hs:SmallT t) :
  Calls Tryz.prog 24 #[.agg #[a,b,c,d]] w0 fun e w'=>∃ ov os ss Zs,e=.returned ov∧SomeOk b t ss os Zs∧Zs.length≤1024∧0<Zs.length∧Sat w0 w' [RowsAt tInt 3 ss (statesL t.vars),OS tVal 22 ov os]:=by
 have hg:=hs.good
 have hvl:=hg.vars
 have hB:=hs.many
 have hsl:(statesL t.vars).length=(prodL t.vars).toNat:=qa5 hg.pos
 have hbi:=ht.init
 have hw:=Sat.start w0
 refine qaf (args:=[.agg #[a,b,c,d]]) mixed Tryz.func24 rfl (by kernel_rfl) (Nat.le_of_ble_eq_true rfl) ?_
 repeat (first|refine qac ?_|(refine qaa ?_;clear hw;intro p w hw)|(refine qae ?_;clear hw;intro w hw)|(refine qab ?_;clear hw;intro s w hw))
 obtain⟨pt,hpt⟩:∃ pt,pt=p:=⟨p,rfl⟩
 subst hpt
 obtain⟨so,hso⟩:∃ so,so=s:=⟨s,rfl⟩
 subst hso
 refine qah rfl (qic (ht.vars.at hw) hg.pos hvl (by omega)) ?_
 rintro _ w' ⟨av,ss,rfl,hk'⟩
 replace hw:=hw.call2 hk'
 clear hk'
 refine⟨_,rfl,?_⟩
 replace hw:Sat w0 w' [RowsAt tInt 3 ss (statesL t.vars),OS tVal 22 av ss,OS tVal 22 so [b],Box pt 26 [a,b,c,d]]:=hw
 have hssl:ss.length=(statesL t.vars).length:=hw.rowsLen
 repeat (first|refine qac ?_|(refine qaa ?_;clear hw;intro p w hw)|(refine qae ?_;clear hw;intro w hw)|(refine qab ?_;clear hw;intro s w hw))
 refine qf5 [3,5,12,13,14,15,16,17,18,19,20,21,22,23,24,25,26,27,28] (G:=Nat) (H:=Value) (I:=List Value) (M:=List (List Int)) (fun i ov _ _=>[(5,.int .i64 i),(3,ov)]) (fun i ov os Zs w=>i≤2048∧SomeOk b t ss os Zs∧Zs.length≤min i 512+1∧0<Zs.length∧Sat w0 w [RowsAt tInt 3 ss (statesL t.vars),OS tVal 22 av ss,OS tVal 22 ov os,Box pt 26 [a,b,c,d]]) (fun i _ _ _=>4096-i) 0 so [b] [t.init] (fun _ _ _ _=>rfl) ⟨rfl,rfl,trivial⟩ ⟨Nat.zero_le _,.one,by simp,by simp,hw⟩ ?_
 clear hw
 rintro σ i ov os Zs w ⟨hi,hZ,hZl,hZ0,hw⟩
 have hosl:=hZ.1
 repeat (first|refine qac ?_|(refine qaa ?_;clear hw;intro p w hw)|(refine qae ?_;clear hw;intro w hw)|(refine qab ?_;clear hw;intro s w hw))
 refine go_if (fun h1 => ?_) (fun h1 => ?_)
 ·have hil:i<(statesL t.vars).length:=by omega
  have hrow:=hw.row hil
  have hq:((ss.length:Int)).tdiv 10=((ss.length / 10:Nat):Int):=by rw [Int.tdiv_eq_ediv_of_nonneg (by omega)];omega
  repeat (first|refine qac ?_|(refine qaa ?_;clear hw;intro p w hw)|(refine qae ?_;clear hw;intro w hw)|(refine qab ?_;clear hw;intro s w hw))
  obtain⟨ov2,hov2⟩:∃ ov2,ov2=s:=⟨s,rfl⟩
  subst hov2
  exact⟨i+(1+ss.length / 10),ov2,os++[vget ss i],Zs++[(statesL t.vars).getD i []],⟨by show Value.int .i64 ((i:Int)+(1+((ss.length:Int)).tdiv 10))=_;rw [hq];congr 1,rfl,trivial⟩,agr,⟨by omega,hZ.snoc hil,by rw [List.length_append];simp only [List.length_singleton];omega,by rw [List.length_append];omega,hw.tail⟩,by omega⟩
 repeat (first|refine qac ?_|(refine qaa ?_;clear hw;intro p w hw)|(refine qae ?_;clear hw;intro w hw)|(refine qab ?_;clear hw;intro s w hw))
 exact qai (v:=ov) rfl rfl ⟨ov,os,ss,Zs,rfl,hZ,by omega,hZ0,hw.sel⟩
end Go.Proofs.YtjdlohdcdmhigaaGreatDoor
