/-
  Contract of partition.Uniform.
-/
import Derived.Test.YtdadmnlenbdfbaaGreatWPar1
import Derived.Test.YtdadmnlenbdfbaaGreatWFrac9
set_option linter.unusedSimpArgs false
set_option linter.unusedVariables false
namespace Go.Proofs.YtdadmnlenbdfbaaGreat
open Go.Sl Go
attribute [local irreducible] vc opsW opsD opV opW PureV ReadV Thn Blk
def mnyI (n:Nat) (C:List (List Int)) (c:List Int):List Int:=(List.range n).map fun op=>((manyO C op:Nat):Int)+if (op:Int)∈c then 1 else 0
theorem qcV (n:Nat) (C:List (List Int)) (c:List Int):(mnyI n C c).length=n:=by simp [mnyI]
theorem qfk {n:Nat}{C:List (List Int)}{c:List Int}{op:Nat}(h:op<n):(mnyI n C c).getD op tInt.dflt=((manyO C op:Nat):Int)+if (op:Int)∈c then 1 else 0:=by
 rw [qak (by rw [qcV];exact h)];simp [mnyI]
theorem qkW (n:Nat) (C:List (List Int)):mnyI n C []=mnyU n C:=by simp [mnyI,mnyU]
theorem qii (C:List (List Int)) (c:List Int) (op:Nat):manyO (C++[c]) op=manyO C op+if (op:Int)∈c then 1 else 0:=by
 unfold manyO
 rw [List.countP_append]
 by_cases h:(op:Int)∈c
 ·rw [if_pos h,List.countP_cons_of_pos (by simpa using h)];rfl
 ·rw [if_neg h,List.countP_cons_of_neg (by simpa using h)];rfl
theorem qkX (n:Nat) (C:List (List Int)) (c:List Int):mnyI n C c=mnyU n (C++[c]):=by
 unfold mnyI mnyU
 refine List.map_congr_left fun op _ => ?_
 rw [qii]
 split <;> simp
theorem qhI (C:List (List Int)) (op:Nat):manyO C op≤C.length:=List.countP_le_length
theorem qjJ {C:List (List Int)}{c:List Int}{op:Nat}(hc:c∈C) (h:(op:Int)∈c):0<manyO C op:=List.countP_pos_iff.2 ⟨c,hc,by simpa using h⟩
theorem qkY {n k:Nat}{C:List (List Int)}{c:List Int}(hok:okOps n c) (hk:k<c.length):(mnyI n C (c.take k)).set (c.getD k tInt.dflt).toNat ((mnyI n C (c.take k)).getD (c.getD k tInt.dflt).toNat tInt.dflt+1)=mnyI n C (c.take (k+1)):=by
 obtain⟨o,ho⟩:∃ o,o=c.getD k tInt.dflt:=⟨_,rfl⟩
 have hr:=hok k hk
 have h0:0≤o:=by rw [ho];exact hr.1
 have h1:o<n:=by rw [ho];exact hr.2.1
 have hni:o∉c.take k:=fun h=>by
  obtain⟨j,hj,e⟩:=List.getElem_of_mem h
  rw [List.length_take] at hj
  rw [List.getElem_take] at e
  have:=qfM hok j k (by omega) hk
  rw [qak (by omega),e,ho] at this
  omega
 rw [←ho]
 have hol:o.toNat<n:=by omega
 have hoc:((o.toNat:Nat):Int)=o:=by omega
 rw [qfk hol,hoc,if_neg hni]
 refine List.ext_getElem (by rw [List.length_set,qcV,qcV]) fun i h1 h2 => ?_
 have hi:i<n:=by rw [qcV] at h2;exact h2
 rw [←qak (d:=tInt.dflt) h2,qfk hi,qav tInt.dflt hk,←ho]
 by_cases e:i=o.toNat
 ·rw [if_pos (List.mem_append.2 (.inr (List.mem_singleton.2 (by omega)))),List.getElem_set,if_pos e.symm,e];omega
 ·rw [List.getElem_set,if_neg (fun h=>e h.symm),←qak (d:=tInt.dflt),qfk hi]
  by_cases h:(i:Int)∈c.take k
  ·rw [if_pos h,if_pos (List.mem_append.2 (.inl h))]
  ·rw [if_neg h,if_neg fun h2=>by
    rcases List.mem_append.1 h2 with h2|h2
    ·exact h h2
    ·have:=List.mem_singleton.1 h2
     omega]
theorem qjK {costs many:List Int}{out:List Frc}{c:List Int}{C:List (List Int)}{U:Int × Frc}(hU:U=leaU costs many 0 dF c):uniA costs many out (c::C)=if U.1=0 then uniA costs many (out++[U.2]) C else (U.1,[]):=by
 subst hU;conv=>lhs;unfold uniA
theorem qjL {costs many:List Int}{i:Nat}{least:Frc}{op:Int}{l:List Int}{S:Int × Frc}(hS:S=newF (costs.getD op.toNat tInt.dflt) (many.getD op.toNat tInt.dflt)):leaU costs many i least (op::l)=if S.1=0 then leaU costs many (i+1) (if i=0∨cmpF S.2 least<0 then S.2 else least) l else (S.1,least):=by
 subst hS;conv=>lhs;unfold leaU
set_option maxRecDepth 8000 in
set_option maxHeartbeats 4000000 in
theorem qfx {w0:World}{cv ov:Value}{costs:List Int}{cs:List CutV}{C:List (List Int)}(hc:RS tInt w0 cv costs) (hcb:costs.length≤4096) (hcr:∀ x∈costs,0≤x∧x≤1048576) (hC:RCut w0 ov cs C) :
  Calls Tryz.prog 51 #[cv,ov] w0 fun e w'=>∃ lv,e=.returned (.tuple #[lv,errV (valsV 2 costs C).1])∧Sat w0 w' [OS tFrc 146 lv (valsV 2 costs C).2]:=by
 have hC0:=hC
 obtain⟨hCr,hCl,hCo⟩:=hC
 obtain⟨R,hR⟩:∃ R,R=valsV 2 costs C:=⟨_,rfl⟩
 rw [←hR]
 unfold valsV at hR
 have hw:=Sat.start w0
 refine qaf (args:=[cv,ov]) mixed Tryz.func51 rfl (by kernel_rfl) (Nat.le_of_ble_eq_true rfl) ?_
 repeat (first|refine qac ?_|(refine qaa ?_;clear hw;intro p w hw)|(refine qad ?_;clear hw;intro w hw)|(refine qab ?_;clear hw;intro s w hw))
 refine qag rfl (qcB (hc.at hw) hcr (hC0.at hw)) ?_
 rintro _ w' ⟨rfl,hk'⟩;replace hw:=hw.call0 hk';clear hk';refine⟨_,rfl,?_⟩
 by_cases he:chkC costs.length C=0
 case neg =>
  rw [if_neg he] at hR
  rw [qaj he]
  repeat (first|refine qac ?_|(refine qaa ?_;clear hw;intro p w hw)|(refine qad ?_;clear hw;intro w hw)|(refine qab ?_;clear hw;intro s w hw))
  rw [hR]
  exact qaw (v:=.slice none 0 0) (v':=.iface 35 (.int .i64 (chkC costs.length C))) rfl rfl rfl ⟨.slice none 0 0,by rw [qaj he],(hw.nil (T:=tFrc) (e:=146)).only⟩
 rw [if_pos he,if_neg (by decide),if_pos rfl] at hR
 rw [qam he]
 obtain⟨hC24,hCok⟩:=qgC he
 repeat (first|refine qac ?_|(refine qaa ?_;clear hw;intro p w hw)|(refine qad ?_;clear hw;intro w hw)|(refine qab ?_;clear hw;intro s w hw))
 obtain⟨mv,rfl⟩:∃ x,x=s:=⟨_,rfl⟩
 have e0:List.replicate ((costs.length:Int)).toNat (0:Int)=mnyU costs.length (C.take 0):=by
  rw [Int.toNat_natCast]
  refine List.ext_getElem (by simp [mnyU]) fun i h1 h2 => ?_
  simp [mnyU,manyO]
 rw [e0] at hw
 refine qao [9,11,31,32,33,34,35,36,37,38,39,40,41,42,43,44,45,46,47,48,49] (G:=Nat) (fun k=>[(31,.int .i64 k)]) (fun k w=>k≤cs.length∧Sat w0 w [OS tInt 3 mv (mnyU costs.length (C.take k))]) (fun k=>cs.length-k) 0 (fun _=>rfl) ⟨rfl,trivial⟩ ⟨Nat.zero_le _,hw⟩ ?_
 clear hw
 rintro σ k w ⟨hk,hw⟩
 repeat (first|refine qac ?_|(refine qaa ?_;clear hw;intro p w hw)|(refine qad ?_;clear hw;intro w hw)|(refine qab ?_;clear hw;intro s w hw))
 refine go_if (fun h1 => ?_) (fun h1 => ?_)
 ·have hkC:k<C.length:=by omega
  have hop:=hCo k hkC
  have hone:=hop.one
  have houk:(tCut.enc (eget tCut cs k)).all Value.oneCell'=true:=by
   show ((eget tCut cs k).ops.oneCell' && ((Value.int .i64 (eget tCut cs k).cost).oneCell' && true))=true
   rw [hone];rfl
  have hen:tCut.enc (eget tCut cs k)=[(eget tCut cs k).ops,.int .i64 (eget tCut cs k).cost]:=rfl
  obtain⟨c,hcd⟩:∃ c,c=C.getD k []:=⟨_,rfl⟩
  have hcm:c∈C:=by rw [hcd];exact qan [] hkC
  obtain⟨hne,hok⟩:=hCok c hcm
  rw [←hcd] at hop
  have hob:=hop.big
  have hsn:mnyI costs.length (C.take k) c=mnyU costs.length (C.take (k+1)):=by rw [qkX,qav [] hkC,←hcd]
  repeat (first|refine qac ?_|(refine qaa ?_;clear hw;intro p w hw)|(refine qae ?_;clear hw;intro w hw)|(refine qab ?_;clear hw;intro s w hw))
  rw [hen] at hw
  obtain⟨p9,rfl⟩:∃ x,x=p:=⟨_,rfl⟩
  rw [←qkW] at hw
  have hw':Sat w0 w [Box p9 103 [(eget tCut cs k).ops,.int .i64 (eget tCut cs k).cost],OS tInt 3 mv (mnyI costs.length (C.take k) (c.take 0))]:=hw
  clear hw
  have hw:=hw'
  clear hw'
  repeat (first|refine qac ?_|(refine qaa ?_;clear hw;intro p w hw)|(refine qad ?_;clear hw;intro w hw)|(refine qab ?_;clear hw;intro s w hw))
  refine qao [11,38,39,40,41,42,43,44,45,46,47,48] (G:=Nat) (fun i=>[(38,.int .i64 i)]) (fun i w=>i≤c.length∧Sat w0 w [Box p9 103 [(eget tCut cs k).ops,.int .i64 (eget tCut cs k).cost],OS tInt 3 mv (mnyI costs.length (C.take k) (c.take i))]) (fun i=>c.length-i) 0 (fun _=>rfl) ⟨rfl,trivial⟩ ⟨Nat.zero_le _,hw⟩ ?_
  clear hw
  rintro σ1 i w ⟨hi,hw⟩
  have hml:=qcV costs.length (C.take k) (c.take i)
  repeat (first|refine qac ?_|(refine qaa ?_;clear hw;intro p w hw)|(refine qad ?_;clear hw;intro w hw)|(refine qab ?_;clear hw;intro s w hw))
  refine go_if (fun h2 => ?_) (fun h2 => ?_)
  ·have hil:i<c.length:=by omega
   have hoki:=hok i hil
   have hri:0≤c.getD i tInt.dflt∧c.getD i tInt.dflt<costs.length:=⟨hoki.1,hoki.2.1⟩
   have hst:=qkY (C:=C.take k) hok hil
   have hv:0≤(mnyI costs.length (C.take k) (c.take i)).getD (c.getD i tInt.dflt).toNat tInt.dflt∧(mnyI costs.length (C.take k) (c.take i)).getD (c.getD i tInt.dflt).toNat tInt.dflt≤100:=by
    rw [qfk (by omega)]
    have:=qhI (C.take k) (c.getD i tInt.dflt).toNat
    rw [List.length_take] at this
    split <;> omega
   repeat (first|refine qac ?_|(refine qaa ?_;clear hw;intro p w hw)|(refine qad ?_;clear hw;intro w hw)|(refine qab ?_;clear hw;intro s w hw))
   rw [hst] at hw
   exact⟨i+1,⟨rfl,trivial⟩,agr,⟨by omega,hw⟩,by omega⟩
  rw [List.take_of_length_le (show c.length≤i by omega),hsn] at hw
  repeat (first|refine qac ?_|(refine qaa ?_;clear hw;intro p w hw)|(refine qad ?_;clear hw;intro w hw)|(refine qab ?_;clear hw;intro s w hw))
  exact⟨k+1,⟨rfl,trivial⟩,agr,⟨by omega,hw.tail⟩,by omega⟩
 rw [List.take_of_length_le (by omega)] at hw
 replace hw:=hw.nil (T:=tFrc) (e:=146)
 have hml:(mnyU costs.length C).length=costs.length:=by simp [mnyU]
 repeat (first|refine qac ?_|(refine qaa ?_;clear hw;intro p w hw)|(refine qad ?_;clear hw;intro w hw)|(refine qab ?_;clear hw;intro s w hw))
 refine qa7 [4,5,12,14,15,16,17,18,19,52,53,54,55,56,57,58,59,60,61,62,63,64,65,66,67,68,69,70,71,72,73,74,75,76,77,78,79,80,81,82,83,84,85,86,87,88,89,90,91,92,93] (G:=Nat) (H:=Value) (I:=List Frc) (fun k lv _=>[(52,.int .i64 k),(12,lv)]) (fun k lv L w=>k≤cs.length∧L.length=k∧R=uniA costs (mnyU costs.length C) L (C.drop k)∧Sat w0 w [OS tFrc 146 lv L,OS tInt 3 mv (mnyU costs.length C)]) (fun k _ _=>cs.length-k) 0 (.slice none 0 0) [] (fun _ _ _=>rfl) ⟨rfl,rfl,trivial⟩ ⟨Nat.zero_le _,rfl,hR,hw⟩ ?_
 clear hw hR
 rintro σ2 k lv L w ⟨hk,hLl,hR,hw⟩
 repeat (first|refine qac ?_|(refine qaa ?_;clear hw;intro p w hw)|(refine qad ?_;clear hw;intro w hw)|(refine qab ?_;clear hw;intro s w hw))
 refine go_if (fun h3 => ?_) (fun h3 => ?_)
 ·have hkC:k<C.length:=by omega
  have hop:=hCo k hkC
  have hone:=hop.one
  have houk:(tCut.enc (eget tCut cs k)).all Value.oneCell'=true:=by
   show ((eget tCut cs k).ops.oneCell' && ((Value.int .i64 (eget tCut cs k).cost).oneCell' && true))=true
   rw [hone];rfl
  have hen:tCut.enc (eget tCut cs k)=[(eget tCut cs k).ops,.int .i64 (eget tCut cs k).cost]:=rfl
  obtain⟨c,hcd⟩:∃ c,c=C.getD k []:=⟨_,rfl⟩
  have hcm:c∈C:=by rw [hcd];exact qan [] hkC
  obtain⟨hne,hok⟩:=hCok c hcm
  rw [←hcd] at hop
  have hob:=hop.big
  obtain⟨U,hU⟩:∃ U,U=leaU costs (mnyU costs.length C) 0 dF c:=⟨_,rfl⟩
  rw [qaR [] hkC,←hcd,qjK hU] at hR
  repeat (first|refine qac ?_|(refine qaa ?_;clear hw;intro p w hw)|(refine qae ?_;clear hw;intro w hw)|(refine qab ?_;clear hw;intro s w hw))
  rw [hen] at hw
  obtain⟨p15,rfl⟩:∃ x,x=p:=⟨_,rfl⟩
  replace hw:Sat w0 w [Box p15 146 [.int .i64 dF.num,.int .i64 dF.den],OS tFrc 146 lv L,OS tInt 3 mv (mnyU costs.length C)]:=hw.sel (Δ:=[Box p15 146 [.int .i64 0,.int .i64 0],OS tFrc 146 lv L,OS tInt 3 mv (mnyU costs.length C)])
  refine qat [4,5,16,17,18,19,59,60,61,62,63,64,65,66,67,68,69,70,71,72,73,74,75,76,77,78,79,80,81,82,83,84,85,86,87,88] (G:=Nat) (H:=Frc) (fun i _=>[(59,.int .i64 i)]) (fun i f w=>i≤c.length∧U=leaU costs (mnyU costs.length C) i f (c.drop i)∧Sat w0 w [Box p15 146 [.int .i64 f.num,.int .i64 f.den],OS tFrc 146 lv L,OS tInt 3 mv (mnyU costs.length C)]) (fun i _=>c.length-i) 0 dF (fun _ _=>rfl) ⟨rfl,trivial⟩ ⟨Nat.zero_le _,hU,hw⟩ ?_
  clear hw
  rintro σ3 i f w ⟨hi,hUi,hw⟩
  repeat (first|refine qac ?_|(refine qaa ?_;clear hw;intro p w hw)|(refine qad ?_;clear hw;intro w hw)|(refine qab ?_;clear hw;intro s w hw))
  refine go_if (fun h4 => ?_) (fun h4 => ?_)
  ·have hil:i<c.length:=by omega
   have hoki:=hok i hil
   have hri:0≤c.getD i tInt.dflt∧c.getD i tInt.dflt<costs.length:=⟨hoki.1,hoki.2.1⟩
   have hcv:=hcr _ (qan tInt.dflt (show (c.getD i tInt.dflt).toNat<costs.length by omega))
   have hmv:1≤(mnyU costs.length C).getD (c.getD i tInt.dflt).toNat tInt.dflt∧(mnyU costs.length C).getD (c.getD i tInt.dflt).toNat tInt.dflt≤24:=by
    have e1:(mnyU costs.length C).getD (c.getD i tInt.dflt).toNat tInt.dflt=((manyO C (c.getD i tInt.dflt).toNat:Nat):Int):=by
     rw [qak (by omega)];simp [mnyU]
    have h1:=qhI C (c.getD i tInt.dflt).toNat
    have h2:=qjJ (op:=(c.getD i tInt.dflt).toNat) hcm (by rw [show (((c.getD i tInt.dflt).toNat:Nat):Int)=c.getD i tInt.dflt by omega];exact qan _ hil)
    omega
   obtain⟨S,hS⟩:∃ S,S=newF (costs.getD (c.getD i tInt.dflt).toNat tInt.dflt) ((mnyU costs.length C).getD (c.getD i tInt.dflt).toNat tInt.dflt):=⟨_,rfl⟩
   rw [qaR tInt.dflt hil,qjL hS] at hUi
   have hSC:newC (costs.getD (c.getD i tInt.dflt).toNat tInt.dflt) ((mnyU costs.length C).getD (c.getD i tInt.dflt).toNat tInt.dflt)=S:=by rw [hS,newC,if_neg (by omega)]
   repeat (first|refine qac ?_|(refine qaa ?_;clear hw;intro p w hw)|(refine qae ?_;clear hw;intro w hw)|(refine qab ?_;clear hw;intro s w hw))
   refine qby [18,19,64,65,66,67,68,69,70,71,72,73,74,75] (G:=Addr) (fun x=>[(18,.pointer (some x)),(19,errV S.1)]) (fun x w=>Sat w0 w [Box x 146 [.int .i64 S.2.num,.int .i64 S.2.den],Box p15 146 [.int .i64 f.num,.int .i64 f.den],OS tFrc 146 lv L,OS tInt 3 mv (mnyU costs.length C)]) (fun _=>rfl) ?_ ?_
   ·refine qbf (.step 0 [.op 0] (.step 1 [.op 1] (.step 2 [.op 2] (.step 4 [.op 4] (.step 5 [.op 5] (.step 6 [.op 6] (.step 3 [.op 3] (.step 7 [.op 7] (.alt 8 [.op 8] (.step 9 [.op 9] (.step 10 [.op 10] (.step 11 [.op 11] (.step 12 [.op 12,.chk 3,.chk 7] (.step 13 [.op 13] (.step 14 [.op 14] (.lin []))))))) (.alt 12 [.op 12,.chk 3,.chk 7] (.step 8 [.op 8] (.step 9 [.op 9] (.step 10 [.op 10] (.step 11 [.op 11] (.step 13 [.op 13] (.step 14 [.op 14] (.lin []))))))) (.stop))))))))))) hw (by kernel_rfl) (by kernel_rfl) ?_;clear hw;intro w hw
    repeat (first|refine qac ?_|(refine qaa ?_;clear hw;intro p w hw)|(refine qae ?_;clear hw;intro w hw)|(refine qab ?_;clear hw;intro s w hw))
    refine qax ?_ (qax ?_ qaG)
    ·repeat (first|refine qac ?_|(refine qaa ?_;clear hw;intro p w hw)|(refine qae ?_;clear hw;intro w hw)|(refine qab ?_;clear hw;intro s w hw))
     refine qag rfl (qbF (by omega) (by omega) (by omega) (by omega)) ?_
     rintro _ w' ⟨rfl,hk'⟩;replace hw:=hw.call0 hk';clear hk';refine⟨_,rfl,?_⟩
     rw [hSC]
     repeat (first|refine qac ?_|(refine qaa ?_;clear hw;intro p w hw)|(refine qae ?_;clear hw;intro w hw)|(refine qab ?_;clear hw;intro s w hw))
     exact⟨_,⟨rfl,rfl,trivial⟩,agr,hw⟩
    ·repeat (first|refine qac ?_|(refine qaa ?_;clear hw;intro p w hw)|(refine qae ?_;clear hw;intro w hw)|(refine qab ?_;clear hw;intro s w hw))
     refine qag rfl (qbF (by omega) (by omega) (by omega) (by omega)) ?_
     rintro _ w' ⟨rfl,hk'⟩;replace hw:=hw.call0 hk';clear hk';refine⟨_,rfl,?_⟩
     rw [hSC]
     repeat (first|refine qac ?_|(refine qaa ?_;clear hw;intro p w hw)|(refine qae ?_;clear hw;intro w hw)|(refine qab ?_;clear hw;intro s w hw))
     exact⟨_,⟨rfl,rfl,trivial⟩,agr,hw⟩
   clear hw
   rintro σ4 p18 w hw
   by_cases he2:S.1=0
   case neg =>
    rw [if_neg he2] at hUi
    have hU1:U.1≠0:=by rw [hUi];exact he2
    rw [if_neg hU1] at hR
    have hUS:S.1=U.1:=by rw [hUi]
    rw [hUS,qaj hU1]
    repeat (first|refine qac ?_|(refine qaa ?_;clear hw;intro p w hw)|(refine qad ?_;clear hw;intro w hw)|(refine qab ?_;clear hw;intro s w hw))
    rw [hR]
    exact qaw (v:=.slice none 0 0) (v':=.iface 35 (.int .i64 U.1)) rfl rfl rfl ⟨.slice none 0 0,by rw [qaj hU1],(hw.nil (T:=tFrc) (e:=146)).only⟩
   rw [if_pos he2] at hUi
   rw [qam he2]
   by_cases q1:i=0
   ·rw [if_pos (Or.inl q1)] at hUi
    have hd1:decide ((i:Int)=0)=true:=decide_eq_true (by omega)
    repeat (first|refine qac ?_|(refine qaa ?_;clear hw;intro p w hw)|(refine qae ?_;clear hw;intro w hw)|(refine qab ?_;clear hw;intro s w hw))
    simp only [hd1,beq_self_eq_true,qap,qaq,Bool.false_and,Bool.true_and,Bool.and_true,Bool.and_false,Bool.false_or,Bool.true_or,Bool.or_false,Bool.not_true,Bool.not_false,Bool.cond_true,Bool.cond_false,gv_fF,gv_tF]
    repeat (first|refine qac ?_|(refine qaa ?_;clear hw;intro p w hw)|(refine qad ?_;clear hw;intro w hw)|(refine qab ?_;clear hw;intro s w hw))
    exact⟨i+1,S.2,⟨rfl,trivial⟩,agr,⟨by omega,hUi,hw.tail⟩,by omega⟩
   have hd1:decide ((i:Int)=0)=false:=decide_eq_false (by omega)
   repeat (first|refine qac ?_|(refine qaa ?_;clear hw;intro p w hw)|(refine qae ?_;clear hw;intro w hw)|(refine qab ?_;clear hw;intro s w hw))
   simp only [hd1,beq_self_eq_true,qap,qaq,Bool.false_and,Bool.true_and,Bool.and_true,Bool.and_false,Bool.false_or,Bool.true_or,Bool.or_false,Bool.not_true,Bool.not_false,Bool.cond_true,Bool.cond_false,gv_fF,gv_tF]
   repeat (first|refine qac ?_|(refine qaa ?_;clear hw;intro p w hw)|(refine qae ?_;clear hw;intro w hw)|(refine qab ?_;clear hw;intro s w hw))
   refine qag rfl (qgj S.2 f) ?_
   rintro _ w' ⟨rfl,hk'⟩;replace hw:=hw.call0 hk';clear hk';refine⟨_,rfl,?_⟩
   by_cases q2:cmpF S.2 f<0
   ·rw [if_pos (Or.inr q2)] at hUi
    repeat (first|refine qac ?_|(refine qaa ?_;clear hw;intro p w hw)|(refine qae ?_;clear hw;intro w hw)|(refine qab ?_;clear hw;intro s w hw))
    have hd2:decide (cmpF S.2 f<0)=true:=decide_eq_true q2
    simp only [hd2,beq_self_eq_true,qap,qaq,Bool.false_and,Bool.true_and,Bool.and_true,Bool.and_false,Bool.false_or,Bool.true_or,Bool.or_false,Bool.not_true,Bool.not_false,Bool.cond_true,Bool.cond_false,gv_fF,gv_tF]
    repeat (first|refine qac ?_|(refine qaa ?_;clear hw;intro p w hw)|(refine qad ?_;clear hw;intro w hw)|(refine qab ?_;clear hw;intro s w hw))
    exact⟨i+1,S.2,⟨rfl,trivial⟩,agr,⟨by omega,hUi,hw.tail⟩,by omega⟩
   ·rw [if_neg (fun h=>h.elim q1 q2)] at hUi
    repeat (first|refine qac ?_|(refine qaa ?_;clear hw;intro p w hw)|(refine qae ?_;clear hw;intro w hw)|(refine qab ?_;clear hw;intro s w hw))
    have hd2:decide (cmpF S.2 f<0)=false:=decide_eq_false q2
    simp only [hd2,beq_self_eq_true,qap,qaq,Bool.false_and,Bool.true_and,Bool.and_true,Bool.and_false,Bool.false_or,Bool.true_or,Bool.or_false,Bool.not_true,Bool.not_false,Bool.cond_true,Bool.cond_false,gv_fF,gv_tF]
    repeat (first|refine qac ?_|(refine qaa ?_;clear hw;intro p w hw)|(refine qad ?_;clear hw;intro w hw)|(refine qab ?_;clear hw;intro s w hw))
    exact⟨i+1,f,⟨rfl,trivial⟩,agr,⟨by omega,hUi,hw.tail⟩,by omega⟩
  rw [List.drop_eq_nil_of_le (by omega)] at hUi
  have hU0:U.1=0:=by rw [hUi,leaU]
  have hU2:U.2=f:=by rw [hUi,leaU]
  rw [if_pos hU0,hU2] at hR
  repeat (first|refine qac ?_|(refine qaa ?_;clear hw;intro p w hw)|(refine qad ?_;clear hw;intro w hw)|(refine qab ?_;clear hw;intro s w hw))
  refine qal tFrc (x1:=f) rfl rfl rfl (Nat.le_of_ble_eq_true rfl) (Nat.zero_lt_succ _) hw ?_
  clear hw
  intro sl w hw
  repeat (first|refine qac ?_|(refine qaa ?_;clear hw;intro p w hw)|(refine qad ?_;clear hw;intro w hw)|(refine qab ?_;clear hw;intro s w hw))
  exact⟨k+1,_,L++[f],⟨rfl,rfl,trivial⟩,agr,⟨by omega,by simp [hLl],hR,hw.tail.tail⟩,by omega⟩
 rw [List.drop_eq_nil_of_le (by omega)] at hR
 have hR1:R.1=0:=by rw [hR,uniA]
 have hR2:R.2=L:=by rw [hR,uniA]
 repeat (first|refine qac ?_|(refine qaa ?_;clear hw;intro p w hw)|(refine qad ?_;clear hw;intro w hw)|(refine qab ?_;clear hw;intro s w hw))
 exact qaw (v:=lv) (v':=.nilIface) rfl rfl rfl ⟨lv,by rw [qam hR1],by rw [hR2];exact hw.only⟩
end Go.Proofs.YtdadmnlenbdfbaaGreat
