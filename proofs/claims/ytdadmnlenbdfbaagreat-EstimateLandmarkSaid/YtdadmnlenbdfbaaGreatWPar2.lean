/-
  Contract of partition.Greedy.
-/
import Derived.Test.YtdadmnlenbdfbaaGreatWPar1
import Derived.Test.YtdadmnlenbdfbaaGreatWFrac9
set_option linter.unusedSimpArgs false
set_option linter.unusedVariables false
namespace Go.Proofs.YtdadmnlenbdfbaaGreat
open Go.Sl Go
attribute [local irreducible] vc opsW opsD opV opW PureV ReadV Thn Blk
theorem qkt (left:List Int) (m:Int):decA left [] m=left:=by
 unfold decA
 refine List.ext_getElem (by simp) fun i h1 h2 => ?_
 rw [List.getElem_map,List.getElem_range,if_neg List.not_mem_nil,qak h2]
theorem qku {left c:List Int}{m:Int}{n k:Nat}(hok:okOps n c) (hl:left.length=n) (hk:k<c.length):(decA left (c.take k) m).set (c.getD k tInt.dflt).toNat ((decA left (c.take k) m).getD (c.getD k tInt.dflt).toNat tInt.dflt-m)=decA left (c.take (k+1)) m:=by
 obtain⟨o,ho⟩:∃ o,o=c.getD k tInt.dflt:=⟨_,rfl⟩
 have hr:=hok k hk
 have h0:0≤o:=by rw [ho];exact hr.1
 have h1:o<n:=by rw [ho];exact hr.2.1
 have hni:o∉c.take k:=fun h=>by
  obtain⟨j,hj,e⟩:=List.getElem_of_mem h
  rw [List.length_take] at hj
  rw [List.getElem_take] at e
  have:=qfM hok j k (by omega) hk
  rw [qak (by omega),e,ho] at this
  omega
 rw [←ho]
 have hol:o.toNat<left.length:=by omega
 have hoc:((o.toNat:Nat):Int)=o:=by omega
 rw [qdc hol,hoc,if_neg hni]
 refine List.ext_getElem (by rw [List.length_set,qbp,qbp]) fun i h1 h2 => ?_
 have hi:i<left.length:=by rw [qbp] at h2;exact h2
 rw [←qak (d:=tInt.dflt) h1,←qak (d:=tInt.dflt) h2,qdc hi,qav tInt.dflt hk,←ho]
 by_cases e:i=o.toNat
 ·rw [if_pos (List.mem_append.2 (.inr (List.mem_singleton.2 (by omega)))),qak h1,List.getElem_set,if_pos e.symm,e]
 ·rw [qak h1,List.getElem_set,if_neg (fun h=>e h.symm),←qak (d:=tInt.dflt),qdc hi]
  by_cases h:(i:Int)∈c.take k
  ·rw [if_pos h,if_pos (List.mem_append.2 (.inl h))]
  ·rw [if_neg h,if_neg fun h2=>by
    rcases List.mem_append.1 h2 with h2|h2
    ·exact h h2
    ·have:=List.mem_singleton.1 h2
     omega]
theorem qkv {left c:List Int}(hne:c≠[]):minA left c=c.foldl (fun m o=>min m (left.getD o.toNat tInt.dflt)) (left.getD (c.getD 0 tInt.dflt).toNat tInt.dflt):=by
 cases c with
 | nil=>exact absurd rfl hne
 | cons o c =>
  show _=(o::c).foldl _ (left.getD o.toNat tInt.dflt)
  rw [List.foldl_cons,Int.min_self];rfl
theorem qkw {left c:List Int}{a:Int}:a≤1048576→0≤a→(∀ x∈left,0≤x)→0≤c.foldl (fun m o=>min m (left.getD o.toNat tInt.dflt)) a∧c.foldl (fun m o=>min m (left.getD o.toNat tInt.dflt)) a≤1048576:=fun h1 h2 h3 =>
 ⟨qdb h3 h2,Int.le_trans (qda (left:=left) (c:=c) (a:=a)).1 h1⟩
theorem qkx {left c:List Int}(hl:∀ x∈left,0≤x∧x≤1048576):∀ x∈decA left c (minA left c),0≤x∧x≤1048576:=fun x hx=>by
 have h0:=qmc (fun x h=>(hl x h).1) x hx
 obtain⟨i,hi,rfl⟩:=List.getElem_of_mem hx
 have hi':i<left.length:=by rw [qbp] at hi;exact hi
 refine⟨h0,?_⟩
 have h1:=hl _ (qan tInt.dflt hi')
 have h2:=qmb (c:=c) fun x h=>(hl x h).1
 rw [←qak (d:=tInt.dflt) hi,qdc hi']
 split <;> omega
set_option maxRecDepth 8000 in
set_option maxHeartbeats 4000000 in
theorem qgi {w0:World}{cv ov:Value}{costs:List Int}{cs:List CutV}{C:List (List Int)}(hc:RS tInt w0 cv costs) (hcb:costs.length≤4096) (hcr:∀ x∈costs,0≤x∧x≤1048576) (hC:RCut w0 ov cs C) :
  Calls Tryz.prog 50 #[cv,ov] w0 fun e w'=>∃ lv,e=.returned (.tuple #[lv,errV (valsV 1 costs C).1])∧Sat w0 w' [OS tFrc 146 lv (valsV 1 costs C).2]:=by
 have hC0:=hC
 obtain⟨hCr,hCl,hCo⟩:=hC
 obtain⟨R,hR⟩:∃ R,R=valsV 1 costs C:=⟨_,rfl⟩
 rw [←hR]
 unfold valsV at hR
 have hw:=Sat.start w0
 refine qaf (args:=[cv,ov]) mixed Tryz.func50 rfl (by kernel_rfl) (Nat.le_of_ble_eq_true rfl) ?_
 repeat (first|refine qac ?_|(refine qaa ?_;clear hw;intro p w hw)|(refine qad ?_;clear hw;intro w hw)|(refine qab ?_;clear hw;intro s w hw))
 refine qag rfl (qcB (hc.at hw) hcr (hC0.at hw)) ?_
 rintro _ w' ⟨rfl,hk'⟩
 replace hw:=hw.call0 hk'
 clear hk'
 refine⟨_,rfl,?_⟩
 by_cases he:chkC costs.length C=0
 case neg =>
  rw [if_neg he] at hR
  rw [qaj he]
  repeat (first|refine qac ?_|(refine qaa ?_;clear hw;intro p w hw)|(refine qad ?_;clear hw;intro w hw)|(refine qab ?_;clear hw;intro s w hw))
  rw [hR]
  exact qaw (v:=.slice none 0 0) (v':=.iface 35 (.int .i64 (chkC costs.length C))) rfl rfl rfl ⟨.slice none 0 0,by rw [qaj he],(hw.nil (T:=tFrc) (e:=146)).only⟩
 rw [if_pos he,if_pos rfl] at hR
 rw [qam he]
 obtain⟨hC24,hCok⟩:=qgC he
 repeat (first|refine qac ?_|(refine qaa ?_;clear hw;intro p w hw)|(refine qad ?_;clear hw;intro w hw)|(refine qab ?_;clear hw;intro s w hw))
 refine qag rfl (qaZ (hc.at hw) (by omega)) ?_
 rintro _ w' ⟨dv,rfl,hk'⟩
 replace hw:=hw.call1 hk'
 clear hk'
 refine⟨_,rfl,?_⟩
 replace hw:=hw.nil (T:=tFrc) (e:=146)
 repeat (first|refine qac ?_|(refine qaa ?_;clear hw;intro p w hw)|(refine qad ?_;clear hw;intro w hw)|(refine qab ?_;clear hw;intro s w hw))
 refine qbn [8,10,11,13,15,26,27,28,29,30,31,32,33,34,35,36,37,38,39,40,41,42,43,44,45,46,47,48,49,50,51,52,53,54,55,56,57,58,59,60,61,62,63,64,65,66,67,68,69,70,71] (G:=Nat) (H:=Value) (I:=List Frc) (M:=List Int) (fun k lv _ _=>[(26,.int .i64 k),(8,lv)]) (fun k lv L left w=>k≤cs.length∧L.length=k∧left.length=costs.length∧(∀ x∈left,0≤x∧x≤1048576)∧R.1=0∧R.2=L++(gdyV left (C.drop k)).map whF∧Sat w0 w [OS tFrc 146 lv L,OS tInt 3 dv left]) (fun k _ _ _=>cs.length-k) 0 (.slice none 0 0) [] costs (fun _ _ _ _=>rfl) ⟨rfl,rfl,trivial⟩ ⟨Nat.zero_le _,rfl,rfl,hcr,by rw [hR],by rw [hR];rfl,hw⟩ ?_
 clear hw
 rintro σ k lv L left w ⟨hk,hLl,hll,hlr,hR1,hR2,hw⟩
 repeat (first|refine qac ?_|(refine qaa ?_;clear hw;intro p w hw)|(refine qad ?_;clear hw;intro w hw)|(refine qab ?_;clear hw;intro s w hw))
 refine go_if (fun h1 => ?_) (fun h1 => ?_)
 ·have hkC:k<C.length:=by omega
  have hop:=hCo k hkC
  have hone:=hop.one
  have houk:(tCut.enc (eget tCut cs k)).all Value.oneCell'=true:=by
   show ((eget tCut cs k).ops.oneCell' && ((Value.int .i64 (eget tCut cs k).cost).oneCell' && true))=true
   rw [hone];rfl
  have hen:tCut.enc (eget tCut cs k)=[(eget tCut cs k).ops,.int .i64 (eget tCut cs k).cost]:=rfl
  obtain⟨c,hcd⟩:∃ c,c=C.getD k []:=⟨_,rfl⟩
  obtain⟨hne,hok⟩:=hCok (C.getD k []) (qan [] hkC)
  rw [qaR [] hkC] at hR2
  rw [←hcd] at hop hne hok hR2
  have hob:=hop.big
  have hc0:0<c.length:=List.length_pos_iff.2 hne
  have hok0:=hok 0 hc0
  have hr0:0≤c.getD 0 tInt.dflt∧c.getD 0 tInt.dflt<left.length:=⟨hok0.1,by rw [hll];exact hok0.2.1⟩
  have hr00:0≤c.getD (nat_lit 0) tInt.dflt∧c.getD (nat_lit 0) tInt.dflt<left.length:=hr0
  have hmn:=qkv (left:=left) hne
  have hr1:=hlr _ (qan tInt.dflt (show (c.getD 0 tInt.dflt).toNat<left.length by omega))
  obtain⟨m,hm⟩:∃ m,m=minA left c:=⟨_,rfl⟩
  have hR3:R.2=L++whF m::(gdyV (decA left c m) (C.drop (k+1))).map whF:=by rw [hR2,hm];rfl
  have hm0:0≤m∧m≤1048576:=by rw [hm,hmn];exact qkw hr1.2 hr1.1 fun x h=>(hlr x h).1
  repeat (first|refine qac ?_|(refine qaa ?_;clear hw;intro p w hw)|(refine qae ?_;clear hw;intro w hw)|(refine qab ?_;clear hw;intro s w hw))
  rw [hen] at hw
  obtain⟨p10,rfl⟩:∃ x,x=p:=⟨_,rfl⟩
  repeat (first|refine qac ?_|(refine qaa ?_;clear hw;intro p w hw)|(refine qad ?_;clear hw;intro w hw)|(refine qab ?_;clear hw;intro s w hw))
  refine qat [11,13,40,41,42,43,44,45,46,47,48,49,50] (G:=Nat) (H:=Int) (fun i a=>[(40,.int .i64 i),(11,.int .i64 a)]) (fun i a w=>i≤c.length∧a=(c.take i).foldl (fun m o=>min m (left.getD o.toNat tInt.dflt)) (left.getD (c.getD 0 tInt.dflt).toNat tInt.dflt)∧Sat w0 w [Box p10 103 [(eget tCut cs k).ops,.int .i64 (eget tCut cs k).cost],OS tFrc 146 lv L,OS tInt 3 dv left]) (fun i _=>c.length-i) 0 _ (fun _ _=>rfl) ⟨rfl,rfl,trivial⟩ ⟨Nat.zero_le _,rfl,hw⟩ ?_
  clear hw
  rintro σ1 i a w ⟨hi,ha,hw⟩
  repeat (first|refine qac ?_|(refine qaa ?_;clear hw;intro p w hw)|(refine qad ?_;clear hw;intro w hw)|(refine qab ?_;clear hw;intro s w hw))
  refine go_if (fun h2 => ?_) (fun h2 => ?_)
  ·have hil:i<c.length:=by omega
   have hoki:=hok i hil
   have hri:0≤c.getD i tInt.dflt∧c.getD i tInt.dflt<left.length:=⟨hoki.1,by rw [hll];exact hoki.2.1⟩
   have hsn:(c.take (i+1)).foldl (fun m o=>min m (left.getD o.toNat tInt.dflt)) (left.getD (c.getD 0 tInt.dflt).toNat tInt.dflt)=min a (left.getD (c.getD i tInt.dflt).toNat tInt.dflt):=by
    rw [qav tInt.dflt hil,List.foldl_append,←ha];rfl
   repeat (first|refine qac ?_|(refine qaa ?_;clear hw;intro p w hw)|(refine qad ?_;clear hw;intro w hw)|(refine qab ?_;clear hw;intro s w hw))
   refine⟨i+1,_,⟨rfl,rfl,trivial⟩,agr,⟨by omega,?_,hw⟩,by omega⟩
   rw [hsn,Int.min_def]
   split <;> split <;> omega
  have ham:a=m:=by rw [ha,List.take_of_length_le (by omega),hm,hmn]
  subst ham
  clear ha hi h2
  rw [←qkt left a] at hw
  have hw':Sat w0 w [Box p10 103 [(eget tCut cs k).ops,.int .i64 (eget tCut cs k).cost],OS tFrc 146 lv L,OS tInt 3 dv (decA left (c.take 0) a)]:=hw
  clear hw
  have hw:=hw'
  clear hw'
  repeat (first|refine qac ?_|(refine qaa ?_;clear hw;intro p w hw)|(refine qad ?_;clear hw;intro w hw)|(refine qab ?_;clear hw;intro s w hw))
  refine qao [15,54,55,56,57,58,59,60,61,62,63,64,65] (G:=Nat) (fun i=>[(54,.int .i64 i)]) (fun i w=>i≤c.length∧Sat w0 w [Box p10 103 [(eget tCut cs k).ops,.int .i64 (eget tCut cs k).cost],OS tFrc 146 lv L,OS tInt 3 dv (decA left (c.take i) a)]) (fun i=>c.length-i) 0 (fun _=>rfl) ⟨rfl,trivial⟩ ⟨Nat.zero_le _,hw⟩ ?_
  clear hw
  rintro σ2 i w ⟨hi,hw⟩
  have hdl:=qbp left (c.take i) a
  repeat (first|refine qac ?_|(refine qaa ?_;clear hw;intro p w hw)|(refine qad ?_;clear hw;intro w hw)|(refine qab ?_;clear hw;intro s w hw))
  refine go_if (fun h3 => ?_) (fun h3 => ?_)
  ·have hil:i<c.length:=by omega
   have hoki:=hok i hil
   have hri:0≤c.getD i tInt.dflt∧c.getD i tInt.dflt<left.length:=⟨hoki.1,by rw [hll];exact hoki.2.1⟩
   have hst:=qku (m:=a) hok hll hil
   have hv : -1048576≤(decA left (c.take i) a).getD (c.getD i tInt.dflt).toNat tInt.dflt∧(decA left (c.take i) a).getD (c.getD i tInt.dflt).toNat tInt.dflt≤1048576:=by
    rw [qdc (by omega)]
    have:=hlr _ (qan tInt.dflt (show (c.getD i tInt.dflt).toNat<left.length by omega))
    split <;> omega
   repeat (first|refine qac ?_|(refine qaa ?_;clear hw;intro p w hw)|(refine qad ?_;clear hw;intro w hw)|(refine qab ?_;clear hw;intro s w hw))
   rw [hst] at hw
   exact⟨i+1,⟨rfl,trivial⟩,agr,⟨by omega,hw⟩,by omega⟩
  rw [List.take_of_length_le (by omega)] at hw
  repeat (first|refine qac ?_|(refine qaa ?_;clear hw;intro p w hw)|(refine qad ?_;clear hw;intro w hw)|(refine qab ?_;clear hw;intro s w hw))
  refine qag rfl (qbl a) ?_
  rintro _ w' ⟨rfl,hk'⟩
  replace hw:=hw.call0 hk'
  clear hk'
  refine⟨_,rfl,?_⟩
  repeat (first|refine qac ?_|(refine qaa ?_;clear hw;intro p w hw)|(refine qad ?_;clear hw;intro w hw)|(refine qab ?_;clear hw;intro s w hw))
  refine qal tFrc (x1:=whF a) rfl rfl rfl (Nat.le_of_ble_eq_true rfl) (Nat.zero_lt_succ _) hw ?_
  clear hw
  intro sl w hw
  repeat (first|refine qac ?_|(refine qaa ?_;clear hw;intro p w hw)|(refine qad ?_;clear hw;intro w hw)|(refine qab ?_;clear hw;intro s w hw))
  rw [hm] at hw hR3
  have hdr:=qkx (c:=c) hlr
  exact⟨k+1,_,L++[whF (minA left c)],decA left c (minA left c),⟨rfl,rfl,trivial⟩,agr,⟨by omega,by simp [hLl],by rw [qbp];exact hll,hdr,hR1,by rw [hR3,List.append_assoc];rfl,hw.tail.tail⟩,by omega⟩
 rw [List.drop_eq_nil_of_le (by omega)] at hR2
 have hRL:R.2=L:=by rw [hR2];simp [gdyV]
 repeat (first|refine qac ?_|(refine qaa ?_;clear hw;intro p w hw)|(refine qad ?_;clear hw;intro w hw)|(refine qab ?_;clear hw;intro s w hw))
 exact qaw (v:=lv) (v':=.nilIface) rfl rfl rfl ⟨lv,by rw [qam hR1],by rw [hRL];exact hw.only⟩
end Go.Proofs.YtdadmnlenbdfbaaGreat
