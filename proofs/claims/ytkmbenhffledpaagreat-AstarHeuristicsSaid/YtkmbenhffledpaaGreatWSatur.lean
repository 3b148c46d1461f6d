/-
  Contracts of the package 'saturate': 'pattern', 'New', 'Parts', 'Value'.
-/
import Derived.Test.YtkmbenhffledpaaGreatTRun
import Derived.Test.YtkmbenhffledpaaGreatMSlB
set_option linter.unusedSimpArgs false
set_option linter.unusedVariables false
namespace Go.Proofs.YtkmbenhffledpaaGreat
open Go.Sl Go
attribute [local irreducible] vc opsW opsD opV opW PureV ReadV Thn Blk
structure RLs (w:World) (s:Value) (ss:List Value) (Ls:List (List Int)):Prop where
 rs:RS tVal w s ss
 len:ss.length=Ls.length
 at_:∀ i,i<Ls.length→RS tInt w (vget ss i) (Ls.getD i [])
theorem RLs.at {w0 w:World}{Γ:List HP}{s:Value}{ss:List Value}{Ls:List (List Int)}(h:RLs w0 s ss Ls) (hw:Sat w0 w Γ):RLs w s ss Ls:=⟨h.rs.at hw,h.len,fun i hi=>(h.at_ i hi).at hw⟩
set_option maxRecDepth 8000 in
theorem qi2 {w0:World}{a b c d va:Value}{vs:List OpV}{t:TTask}{L:List Int}(ht:RTask w0 a b c d vs t) (hp:RS tInt w0 va L) :
  Calls Tryz.prog 82 #[.agg #[a,b,c,d],va] w0 fun e w'=>(∃ r,e=.returned (.bool r)∧(r=true↔PatOk t.vars L))∧Sat w0 w' []:=by
 obtain⟨ha,hb,hc,hd⟩:=ht
 have hla:=ha.big
 have hlp:=hp.big
 have hw:=Sat.start w0
 refine qab (args:=[.agg #[a,b,c,d],va]) mixed Tryz.func82 rfl (by kernel_rfl) (Nat.le_of_ble_eq_true rfl) ?_
 repeat (first|refine qaa ?_|(refine qaf ?_;clear hw;intro p w hw))
 obtain⟨pt,hpt⟩:∃ pt,pt=p:=⟨p,rfl⟩
 subst hpt
 refine qap [4,5,6,9,10,11,12,13,14,15,16,17,18,19,20,21,22,23,24,25,26,27,28,29,30,31,32,33,34,35,36] (G:=Nat) (fun k=>[(9,.int .i64 k)]) (fun k w=>k≤L.length∧(∀ i,i<k→(0≤L.getD i tInt.dflt∧L.getD i tInt.dflt<t.vars.length)∧(0<i→L.getD (i-1) tInt.dflt<L.getD i tInt.dflt))∧Sat w0 w [Box pt 26 [a,b,c,d]]) (fun k=>L.length-k) 0 (fun _=>rfl) ⟨rfl,trivial⟩ ⟨Nat.zero_le _,fun i hi=>absurd hi (Nat.not_lt_zero _),hw⟩ ?_
 clear hw
 rintro σ k w ⟨hk1,hpre,hw⟩
 repeat refine qaa ?_
 refine go_if (fun h1 => ?_) (fun h1 => ?_)
 ·have hkl:k<L.length:=by omega
  have e1:((k:Int)-1).toNat=k-1:=by omega
  repeat refine qaa ?_
  refine go_if (fun h2 => ?_) (fun h2 => ?_)
  ·repeat refine qaa ?_
   refine qae (v:=.bool false) rfl rfl ⟨⟨false,rfl,iffF fun hpk => ?_⟩,hw.tail⟩
   have h3:=hpk k hkl
   rw [e1] at h2
   rcases h2 with (h2|h2)|⟨h2,h4⟩
   ·omega
   ·omega
   ·have:=h3.2 (by omega);omega
  ·rw [e1] at h2
   repeat refine qaa ?_
   refine⟨k+1,⟨rfl,trivial⟩,agr,⟨by omega,fun i hi => ?_,hw⟩,by omega⟩
   by_cases h:i=k
   ·subst h;exact⟨by omega,fun h0=>by omega⟩
   ·exact hpre i (by omega)
 ·repeat refine qaa ?_
  refine qae (v:=.bool true) rfl rfl ⟨⟨true,rfl,iffT fun i hi=>hpre i (by omega)⟩,hw.tail⟩
set_option maxRecDepth 8000 in
theorem qnq {w0:World}{a b c d va:Value}{vs:List OpV}{t:TTask}{L:List Int}{pv:Addr}(ht:RTask w0 a b c d vs t) (hv:BoxR w0 pv [a,b,c,d]) (hp:RS tInt w0 va L) :
  Calls Tryz.prog 81 #[va,.pointer (some pv)] w0 fun e w'=>(∃ r,e=.returned (.bool r)∧(r=true↔¬PatOk t.vars L))∧Sat w0 w' []:=by
 have hw:=Sat.start w0
 refine qab (args:=[va,.pointer (some pv)]) mixed Tryz.func81 rfl (by kernel_rfl) (Nat.le_of_ble_eq_true rfl) ?_
 repeat refine qaa ?_
 refine qac rfl (qi2 (ht.at hw) (hp.at hw)) ?_
 rintro _ w' ⟨⟨r,rfl,hr⟩,hk'⟩
 replace hw:=hw.call0 hk'
 clear hk'
 refine⟨_,rfl,?_⟩
 repeat refine qaa ?_
 refine qae (v:=.bool (!r)) rfl rfl ⟨⟨_,rfl,?_⟩,hw⟩
 rw [←hr];simp
set_option maxRecDepth 8000 in
theorem qkg {w0:World}{a b c d s:Value}{vs:List OpV}{t:TTask}{ss:List Value}{Ls:List (List Int)}{pv:Addr}(ht:RTask w0 a b c d vs t) (hv:BoxR w0 pv [a,b,c,d]) (hs:RLs w0 s ss Ls) :
  Calls Tryz.prog 116 #[s,.func (.func 81) #[] #[.pointer (some pv)]] w0 fun e w'=>(∃ r:Int,e=.returned (.int .i64 r)∧(0≤r↔∃ i,i<Ls.length∧¬PatOk t.vars (Ls.getD i [])))∧Sat w0 w' []:=by
 have hrs:=hs.rs
 have hsl:=hs.len
 have hla:=hrs.big
 have hw:=Sat.start w0
 refine qab (args:=[s,.func (.func 81) #[] #[.pointer (some pv)]]) mixed Tryz.func116 rfl (by kernel_rfl) (Nat.le_of_ble_eq_true rfl) ?_
 repeat refine qaa ?_
 refine qap [4,5,8,9,10,11,12,13,14,15,16,17,18] (G:=Nat) (fun k=>[(8,.int .i64 k)]) (fun k w=>k≤Ls.length∧(∀ i,i<k→PatOk t.vars (Ls.getD i []))∧Sat w0 w []) (fun k=>Ls.length-k) 0 (fun _=>rfl) ⟨rfl,trivial⟩ ⟨Nat.zero_le _,fun i hi=>absurd hi (Nat.not_lt_zero _),hw⟩ ?_
 clear hw
 rintro σ k w ⟨hk,hpre,hw⟩
 repeat refine qaa ?_
 refine go_if (fun h1 => ?_) (fun h1 => ?_)
 ·have hkl:k<Ls.length:=by omega
  repeat refine qaa ?_
  refine qbM (cs:=[.pointer (some pv)]) rfl rfl (qnq (ht.at hw) (hv.at hw) ((hs.at_ k hkl).at hw)) ?_
  rintro _ w' ⟨⟨r,rfl,hr⟩,hk'⟩
  replace hw:=hw.call0 hk'
  clear hk'
  refine⟨_,rfl,?_⟩
  cases r
  ·have hpk:PatOk t.vars (Ls.getD k []):=by
    by_cases h:PatOk t.vars (Ls.getD k [])
    ·exact h
    ·have:=hr.2 h;cases this
   repeat refine qaa ?_
   refine⟨k+1,⟨rfl,trivial⟩,agr,⟨by omega,fun i hi => ?_,hw⟩,by omega⟩
   by_cases h:i=k
   ·subst h;exact hpk
   ·exact hpre i (by omega)
  ·repeat refine qaa ?_
   refine qae (v:=.int .i64 k) rfl rfl ⟨⟨k,rfl,⟨fun _=>⟨k,hkl,hr.1 rfl⟩,fun _=>by omega⟩⟩,hw⟩
 ·repeat refine qaa ?_
  refine qae (v:=.int .i64 (-1)) rfl rfl ⟨⟨-1,rfl,⟨fun h=>by omega,?_⟩⟩,hw⟩
  rintro⟨i,hi,he⟩
  exact absurd (hpre i (by omega)) he
set_option maxRecDepth 8000 in
theorem qnr {w0:World}{a b c d s:Value}{vs:List OpV}{t:TTask}{ss:List Value}{Ls:List (List Int)}{pv:Addr}(ht:RTask w0 a b c d vs t) (hv:BoxR w0 pv [a,b,c,d]) (hs:RLs w0 s ss Ls) :
  Calls Tryz.prog 80 #[s,.func (.func 81) #[] #[.pointer (some pv)]] w0 fun e w'=>(∃ r,e=.returned (.bool r)∧(r=true↔∃ i,i<Ls.length∧¬PatOk t.vars (Ls.getD i [])))∧Sat w0 w' []:=by
 have hw:=Sat.start w0
 refine qab (args:=[s,.func (.func 81) #[] #[.pointer (some pv)]]) mixed Tryz.func80 rfl (by kernel_rfl) (Nat.le_of_ble_eq_true rfl) ?_
 repeat refine qaa ?_
 refine qac rfl (qkg ht hv hs) ?_
 rintro _ w' ⟨⟨r,rfl,hr⟩,hk'⟩
 replace hw:=hw.call0 hk'
 clear hk'
 refine⟨_,rfl,?_⟩
 repeat refine qaa ?_
 exact qae (v:=.bool (decide (0≤r))) rfl rfl ⟨⟨_,rfl,by rw [decide_eq_true_eq];exact hr⟩,hw⟩
end Go.Proofs.YtkmbenhffledpaaGreat
