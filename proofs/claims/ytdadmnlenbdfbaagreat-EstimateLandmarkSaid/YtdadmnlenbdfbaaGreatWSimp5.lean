/-
  Contract of simplex's leaving.
-/
import Derived.Test.YtdadmnlenbdfbaaGreatWSimp4
set_option linter.unusedSimpArgs false
set_option linter.unusedVariables false
namespace Go.Proofs.YtdadmnlenbdfbaaGreat
open Go.Sl Go
attribute [local irreducible] vc opsW opsD opV opW PureV ReadV Thn Blk
def candI (S:SimS) (k m:Nat):List Int:=(candS S k m).map fun i:Nat=>(i:Int)
theorem qmh (S:SimS) (k m:Nat):(candS S k m).length≤m:=by
 unfold candS
 exact Nat.le_trans (List.length_filter_le _ _) (by rw [List.length_range];exact Nat.le_refl _)
theorem qfT (S:SimS) (k m:Nat):(candI S k m).length=(candS S k m).length:=List.length_map _
theorem qic (S:SimS) (k m:Nat):candI S k (m+1)=if 0<((S.rows.getD m []).getD k tFrc.dflt).num then candI S k m++[(m:Int)] else candI S k m:=by
 unfold candI candS
 rw [List.range_succ,List.filter_append]
 by_cases h:0<((S.rows.getD m []).getD k tFrc.dflt).num
 ·have h':0<((S.rows.getD m []).getD k dF).num:=h
  rw [if_pos h,List.filter_cons_of_pos (by simpa using h'),List.filter_nil];simp
 ·have h':¬0<((S.rows.getD m []).getD k dF).num:=h
  rw [if_neg h,List.filter_cons_of_neg (by simpa using h'),List.filter_nil];simp
theorem qid {S:SimS}{k i:Nat}{best:Int}{least:Frc}{l:List Nat}{L:Int × Frc}(hL:L=divF 22 (S.right.getD i tFrc.dflt) ((S.rows.getD i []).getD k tFrc.dflt)) :
  pickS S k best least (i::l)=if L.1≠0 then (L.1,0) else if best<0∨cmpF L.2 least<0∨(cmpF L.2 least=0∧S.basic.getD i tInt.dflt<S.basic.getD best.toNat tInt.dflt) then pickS S k (i:Int) L.2 l else pickS S k best least l:=by
 subst hL
 conv=>lhs;unfold pickS
 rfl
set_option maxRecDepth 8000 in
set_option maxHeartbeats 8000000 in
theorem qiz {w0:World}{pt:Addr}{n m:Int}{rv bv av gv:Value}{ss:List Value}{S:SimS}{N M k:Nat}(hS:SimOk N M S) (hk:k<N) (hN:N≤4096) (hM:M≤4096) (hsl:ss.length=M) (hb:BoxR w0 pt [.int .i64 n,.int .i64 m,rv,bv,av,gv,.int .i64 S.value.num,.int .i64 S.value.den]) (hrv:RS tVal w0 rv ss) (hrows:∀ i,i<M→RS tFrc w0 (vget ss i) (S.rows.getD i [])) (hbv:RS tFrc w0 bv S.right) (hav:RS tInt w0 av S.basic) :
  Calls Tryz.prog 91 #[.pointer (some pt),.int .i64 k] w0 fun e w'=>e=.returned (.tuple #[.int .i64 (leavS S k M).2,errV (leavS S k M).1])∧Sat w0 w' []:=by
 obtain⟨R,hR⟩:∃ R,R=leavS S k M:=⟨_,rfl⟩
 rw [←hR]
 have h1:=hS.rl
 have h2:=hS.bl
 have h3:=hS.al
 have hro:∀ i,i<M→(S.rows.getD i []).length=N:=fun i hi=>hS.rw_ _ (qan [] (by omega))
 have hw:=Sat.start w0
 refine qaf (args:=[.pointer (some pt),.int .i64 k]) mixed Tryz.func91 rfl (by kernel_rfl) (Nat.le_of_ble_eq_true rfl) ?_
 replace hw:=hw.nil (T:=tInt) (e:=3)
 repeat (first|refine qac ?_|(refine qaa ?_;clear hw;intro p w hw)|(refine qad ?_;clear hw;intro w hw)|(refine qab ?_;clear hw;intro s w hw))
 refine qat [6,7,8,21,22,23,24,25,26,27,28,29,30,31,32,33,34,35] (G:=Nat) (H:=Value) (fun i lv=>[(21,.int .i64 i),(6,lv)]) (fun i lv w=>i≤M∧Sat w0 w [OS tInt 3 lv (candI S k i)]) (fun i _=>M-i) 0 (.slice none 0 0) (fun _ _=>rfl) ⟨rfl,rfl,trivial⟩ ⟨Nat.zero_le _,hw⟩ ?_
 clear hw
 rintro σ i lv w ⟨hi,hw⟩
 have hcl:(candI S k i).length≤i:=by rw [qfT];exact qmh S k i
 repeat (first|refine qac ?_|(refine qaa ?_;clear hw;intro p w hw)|(refine qad ?_;clear hw;intro w hw)|(refine qab ?_;clear hw;intro s w hw))
 refine go_if (fun g1 => ?_) (fun g1 => ?_)
 ·have him:i<M:=by omega
  have hsu:=qic S k i
  have hri:=hrows i him
  have hrl:=hro i him
  repeat (first|refine qac ?_|(refine qaa ?_;clear hw;intro p w hw)|(refine qad ?_;clear hw;intro w hw)|(refine qab ?_;clear hw;intro s w hw))
  refine qag rfl (qgm ((S.rows.getD i []).getD k tFrc.dflt)) ?_
  rintro _ w' ⟨rfl,hk'⟩;replace hw:=hw.call0 hk';clear hk';refine⟨_,rfl,?_⟩
  by_cases hc:0<((S.rows.getD i []).getD k tFrc.dflt).num
  ·rw [decide_eq_true hc]
   rw [if_pos hc] at hsu
   repeat (first|refine qac ?_|(refine qaa ?_;clear hw;intro p w hw)|(refine qad ?_;clear hw;intro w hw)|(refine qab ?_;clear hw;intro s w hw))
   rw [←hsu] at hw
   exact⟨i+1,_,⟨rfl,rfl,trivial⟩,agr,⟨by omega,hw.tail⟩,by omega⟩
  ·rw [decide_eq_false hc]
   rw [if_neg hc] at hsu
   rw [←hsu] at hw
   repeat (first|refine qac ?_|(refine qaa ?_;clear hw;intro p w hw)|(refine qad ?_;clear hw;intro w hw)|(refine qab ?_;clear hw;intro s w hw))
   exact⟨i+1,_,⟨rfl,rfl,trivial⟩,agr,⟨by omega,hw⟩,by omega⟩
 have hie:M=i:=by omega
 subst hie
 have hcN:=qfT S k M
 repeat (first|refine qac ?_|(refine qaa ?_;clear hw;intro p w hw)|(refine qad ?_;clear hw;intro w hw)|(refine qab ?_;clear hw;intro s w hw))
 refine go_if (fun g2 => ?_) (fun g2 => ?_)
 ·have hq:0<(candI S k M++[-1]).length:=by simp
  have hlv:R.1=0∧R.2=(candI S k M++[-1]).getD 0 tInt.dflt:=by
   unfold leavS at hR
   unfold candI at g2 ⊢
   cases hc:candS S k M with
   | nil=>rw [hc] at hR;subst hR;exact⟨rfl,rfl⟩
   | cons a l =>
    cases l with
    | nil=>rw [hc] at hR;subst hR;exact⟨rfl,rfl⟩
    | cons b l=>rw [hc] at g2;simp at g2;omega
  repeat (first|refine qac ?_|(refine qaa ?_;clear hw;intro p w hw)|(refine qad ?_;clear hw;intro w hw)|(refine qab ?_;clear hw;intro s w hw))
  rw [←hlv.2]
  exact qaw (v:=.int .i64 R.2) (v':=.nilIface) rfl rfl rfl ⟨by rw [qam hlv.1],qas hw⟩
 have hR0:R=pickS S k (-1) f0F ((candS S k M).drop 0):=by
  unfold leavS at hR
  unfold candI at g2
  cases hc:candS S k M with
  | nil=>rw [hc] at g2;simp at g2
  | cons a l =>
   cases l with
   | nil=>rw [hc] at g2;simp at g2
   | cons b l=>rw [hc] at hR;exact hR
 clear hR
 have hcI:∀ j,j<(candS S k M).length→∃ i,i<M∧(candI S k M).getD j tInt.dflt=(i:Int)∧(candS S k M).drop j=i::(candS S k M).drop (j+1):=fun j hj=>by
  refine⟨(candS S k M)[j],(qcU.1 (List.getElem_mem hj)).1,?_,List.drop_eq_getElem_cons hj⟩
  rw [qak (by rw [hcN];exact hj)]
  exact List.getElem_map _
 generalize candS S k M=cd at *
 generalize candI S k M=ci at *
 repeat (first|refine qac ?_|(refine qaa ?_;clear hw;intro p w hw)|(refine qad ?_;clear hw;intro w hw)|(refine qab ?_;clear hw;intro s w hw))
 refine qag rfl qbE ?_
 rintro _ w' ⟨rfl,hk'⟩;replace hw:=hw.call0 hk';clear hk';refine⟨_,rfl,?_⟩
 repeat (first|refine qac ?_|(refine qaa ?_;clear hw;intro p w hw)|(refine qad ?_;clear hw;intro w hw)|(refine qab ?_;clear hw;intro s w hw))
 obtain⟨p10,rfl⟩:∃ x,x=p:=⟨_,rfl⟩
 refine qa7 [4,5,9,12,13,14,15,47,48,49,50,51,52,53,54,55,56,57,58,59,60,61,62,63,64,65,66,67,68,69,70,71,72,73,74,75,76,77,78,79,80,81,82,83,84,85,86,87,88,89,90,91,92,93,94,95,96,97,98,99,100,101,102,103,104,105,106,107] (G:=Nat) (H:=Int) (I:=Frc) (fun j b _=>[(47,.int .i64 j),(9,.int .i64 b)]) (fun j b l w=>j≤cd.length∧b<M∧R=pickS S k b l (cd.drop j)∧Sat w0 w [Box p10 146 [.int .i64 l.num,.int .i64 l.den],OS tInt 3 lv ci]) (fun j _ _=>cd.length-j) 0 (-1) f0F (fun _ _ _=>rfl) ⟨rfl,rfl,trivial⟩ ⟨Nat.zero_le _,by omega,hR0,hw⟩ ?_
 clear hw hR0
 rintro σ2 j b l w ⟨hj,hbM,hR,hw⟩
 repeat (first|refine qac ?_|(refine qaa ?_;clear hw;intro p w hw)|(refine qad ?_;clear hw;intro w hw)|(refine qab ?_;clear hw;intro s w hw))
 refine go_if (fun g3 => ?_) (fun g3 => ?_)
 ·obtain⟨i,him,hij,hdr⟩:=hcI j (by omega)
  obtain⟨L,hL⟩:∃ L,L=divF 22 (S.right.getD i tFrc.dflt) ((S.rows.getD i []).getD k tFrc.dflt):=⟨_,rfl⟩
  rw [hdr,qid hL] at hR
  have hri:=hrows i him
  have hrl:=hro i him
  repeat (first|refine qac ?_|(refine qaa ?_;clear hw;intro p w hw)|(refine qae ?_;clear hw;intro w hw)|(refine qab ?_;clear hw;intro s w hw))
  rw [hij]
  refine qby [13,14,51,52,53,54,55,56,57,58,59,60,61,62,63,64,65,66,67,68,69,70,71] (G:=Addr) (fun x=>[(13,.pointer (some x)),(14,errV L.1)]) (fun x w=>Sat w0 w [Box x 146 [.int .i64 L.2.num,.int .i64 L.2.den],Box p10 146 [.int .i64 l.num,.int .i64 l.den],OS tInt 3 lv ci]) (fun _=>rfl) ?_ ?_
  ·refine qbf (.step 0 [.op 0] (.step 1 [.op 1] (.step 2 [.op 2] (.step 4 [.op 4] (.step 7 [.op 7] (.step 8 [.op 8] (.step 9 [.op 9] (.step 11 [.op 11] (.step 14 [.op 14] (.step 3 [.op 3] (.step 5 [.op 5] (.step 6 [.op 6] (.step 10 [.op 10] (.step 12 [.op 12] (.step 13 [.op 13] (.step 15 [.op 15] (.step 16 [.op 16] (.alt 17 [.op 17] (.step 18 [.op 18] (.step 19 [.op 19] (.step 20 [.op 20] (.step 21 [.op 21,.chk 3,.chk 6,.chk 10,.chk 13,.chk 16] (.step 22 [.op 22] (.step 23 [.op 23] (.lin []))))))) (.alt 21 [.op 21,.chk 3,.chk 6,.chk 10,.chk 13,.chk 16] (.step 17 [.op 17] (.step 18 [.op 18] (.step 19 [.op 19] (.step 20 [.op 20] (.step 22 [.op 22] (.step 23 [.op 23] (.lin []))))))) (.stop)))))))))))))))))))) hw (by kernel_rfl) (by kernel_rfl) ?_;clear hw;intro w hw
   repeat (first|refine qac ?_|(refine qaa ?_;clear hw;intro p w hw)|(refine qae ?_;clear hw;intro w hw)|(refine qab ?_;clear hw;intro s w hw))
   refine qax ?_ (qax ?_ qaG)
   ·repeat (first|refine qac ?_|(refine qaa ?_;clear hw;intro p w hw)|(refine qae ?_;clear hw;intro w hw)|(refine qab ?_;clear hw;intro s w hw))
    refine qag rfl (qbH (S.right.getD i tFrc.dflt) ((S.rows.getD i []).getD k tFrc.dflt)) ?_
    rintro _ w' ⟨rfl,hk'⟩;replace hw:=hw.call0 hk';clear hk';refine⟨_,rfl,?_⟩
    repeat (first|refine qac ?_|(refine qaa ?_;clear hw;intro p w hw)|(refine qae ?_;clear hw;intro w hw)|(refine qab ?_;clear hw;intro s w hw))
    rw [←hL] at hw ⊢
    exact⟨_,⟨rfl,rfl,trivial⟩,agr,hw⟩
   ·repeat (first|refine qac ?_|(refine qaa ?_;clear hw;intro p w hw)|(refine qae ?_;clear hw;intro w hw)|(refine qab ?_;clear hw;intro s w hw))
    refine qag rfl (qbH (S.right.getD i tFrc.dflt) ((S.rows.getD i []).getD k tFrc.dflt)) ?_
    rintro _ w' ⟨rfl,hk'⟩;replace hw:=hw.call0 hk';clear hk';refine⟨_,rfl,?_⟩
    repeat (first|refine qac ?_|(refine qaa ?_;clear hw;intro p w hw)|(refine qae ?_;clear hw;intro w hw)|(refine qab ?_;clear hw;intro s w hw))
    rw [←hL] at hw ⊢
    exact⟨_,⟨rfl,rfl,trivial⟩,agr,hw⟩
  clear hw
  rintro σ3 p13 w hw
  by_cases he:L.1=0
  case neg =>
   rw [if_pos he] at hR
   rw [qaj he]
   repeat (first|refine qac ?_|(refine qaa ?_;clear hw;intro p w hw)|(refine qad ?_;clear hw;intro w hw)|(refine qab ?_;clear hw;intro s w hw))
   rw [hR]
   exact qaw (v:=.int .i64 0) (v':=.iface 35 (.int .i64 L.1)) rfl rfl rfl ⟨by rw [qaj he],qas hw⟩
  rw [if_neg (Decidable.not_not.2 he)] at hR
  rw [qam he]
  repeat (first|refine qac ?_|(refine qaa ?_;clear hw;intro p w hw)|(refine qad ?_;clear hw;intro w hw)|(refine qab ?_;clear hw;intro s w hw))
  refine qag rfl (qgj L.2 l) ?_
  rintro _ w' ⟨rfl,hk'⟩;replace hw:=hw.call0 hk';clear hk';refine⟨_,rfl,?_⟩
  generalize cmpF L.2 l=c at *
  repeat (first|refine qac ?_|(refine qaa ?_;clear hw;intro p w hw)|(refine qae ?_;clear hw;intro w hw)|(refine qab ?_;clear hw;intro s w hw))
  by_cases q1:b<0
  ·have hd1:decide (b<0)=true:=decide_eq_true q1
   rw [if_pos (Or.inl q1)] at hR
   refine qb2 ?_
   clear hw
   intro w hw
   repeat (first|refine qac ?_|(refine qaa ?_;clear hw;intro p w hw)|(refine qae ?_;clear hw;intro w hw)|(refine qab ?_;clear hw;intro s w hw))
   simp only [hd1,beq_self_eq_true,qap,qaq,Bool.false_and,Bool.true_and,Bool.and_true,Bool.and_false,Bool.false_or,Bool.true_or,Bool.or_false,Bool.not_true,Bool.not_false,Bool.cond_true,Bool.cond_false,gv_fF,gv_tF]
   repeat (first|refine qac ?_|(refine qaa ?_;clear hw;intro p w hw)|(refine qad ?_;clear hw;intro w hw)|(refine qab ?_;clear hw;intro s w hw))
   exact⟨j+1,(i:Int),L.2,⟨rfl,rfl,trivial⟩,agr,⟨by omega,by omega,hR,hw.tail⟩,by omega⟩
  have hd1:decide (b<0)=false:=decide_eq_false q1
  by_cases q2:c<0
  ·have hd2:decide (c<0)=true:=decide_eq_true q2
   rw [if_pos (Or.inr (Or.inl q2))] at hR
   refine qb2 ?_
   clear hw
   intro w hw
   repeat (first|refine qac ?_|(refine qaa ?_;clear hw;intro p w hw)|(refine qae ?_;clear hw;intro w hw)|(refine qab ?_;clear hw;intro s w hw))
   simp only [hd1,beq_self_eq_true,qap,qaq,Bool.false_and,Bool.true_and,Bool.and_true,Bool.and_false,Bool.false_or,Bool.true_or,Bool.or_false,Bool.not_true,Bool.not_false,Bool.cond_true,Bool.cond_false,gv_fF,gv_tF]
   repeat (first|refine qac ?_|(refine qaa ?_;clear hw;intro p w hw)|(refine qae ?_;clear hw;intro w hw)|(refine qab ?_;clear hw;intro s w hw))
   simp only [hd2,beq_self_eq_true,qap,qaq,Bool.false_and,Bool.true_and,Bool.and_true,Bool.and_false,Bool.false_or,Bool.true_or,Bool.or_false,Bool.not_true,Bool.not_false,Bool.cond_true,Bool.cond_false,gv_fF,gv_tF]
   repeat (first|refine qac ?_|(refine qaa ?_;clear hw;intro p w hw)|(refine qad ?_;clear hw;intro w hw)|(refine qab ?_;clear hw;intro s w hw))
   exact⟨j+1,(i:Int),L.2,⟨rfl,rfl,trivial⟩,agr,⟨by omega,by omega,hR,hw.tail⟩,by omega⟩
  have hd2:decide (c<0)=false:=decide_eq_false q2
  by_cases q3:c=0
  ·have hd3:decide (c=0)=true:=decide_eq_true q3
   by_cases q4:S.basic.getD i tInt.dflt<S.basic.getD b.toNat tInt.dflt
   ·have hd4:=decide_eq_true q4
    rw [if_pos (Or.inr (Or.inr ⟨q3,q4⟩))] at hR
    refine qb2 ?_
    clear hw
    intro w hw
    repeat (first|refine qac ?_|(refine qaa ?_;clear hw;intro p w hw)|(refine qae ?_;clear hw;intro w hw)|(refine qab ?_;clear hw;intro s w hw))
    simp only [hd1,beq_self_eq_true,qap,qaq,Bool.false_and,Bool.true_and,Bool.and_true,Bool.and_false,Bool.false_or,Bool.true_or,Bool.or_false,Bool.not_true,Bool.not_false,Bool.cond_true,Bool.cond_false,gv_fF,gv_tF]
    repeat (first|refine qac ?_|(refine qaa ?_;clear hw;intro p w hw)|(refine qae ?_;clear hw;intro w hw)|(refine qab ?_;clear hw;intro s w hw))
    simp only [hd2,beq_self_eq_true,qap,qaq,Bool.false_and,Bool.true_and,Bool.and_true,Bool.and_false,Bool.false_or,Bool.true_or,Bool.or_false,Bool.not_true,Bool.not_false,Bool.cond_true,Bool.cond_false,gv_fF,gv_tF]
    repeat (first|refine qac ?_|(refine qaa ?_;clear hw;intro p w hw)|(refine qae ?_;clear hw;intro w hw)|(refine qab ?_;clear hw;intro s w hw))
    simp only [hd3,beq_self_eq_true,qap,qaq,Bool.false_and,Bool.true_and,Bool.and_true,Bool.and_false,Bool.false_or,Bool.true_or,Bool.or_false,Bool.not_true,Bool.not_false,Bool.cond_true,Bool.cond_false,gv_fF,gv_tF]
    repeat (first|refine qac ?_|(refine qaa ?_;clear hw;intro p w hw)|(refine qae ?_;clear hw;intro w hw)|(refine qab ?_;clear hw;intro s w hw))
    simp only [hd4,beq_self_eq_true,qap,qaq,Bool.false_and,Bool.true_and,Bool.and_true,Bool.and_false,Bool.false_or,Bool.true_or,Bool.or_false,Bool.not_true,Bool.not_false,Bool.cond_true,Bool.cond_false,gv_fF,gv_tF]
    repeat (first|refine qac ?_|(refine qaa ?_;clear hw;intro p w hw)|(refine qad ?_;clear hw;intro w hw)|(refine qab ?_;clear hw;intro s w hw))
    exact⟨j+1,(i:Int),L.2,⟨rfl,rfl,trivial⟩,agr,⟨by omega,by omega,hR,hw.tail⟩,by omega⟩
   have hd4:=decide_eq_false q4
   rw [if_neg fun h=>h.elim q1 fun h=>h.elim q2 fun h=>q4 h.2] at hR
   refine qb2 ?_
   clear hw
   intro w hw
   repeat (first|refine qac ?_|(refine qaa ?_;clear hw;intro p w hw)|(refine qae ?_;clear hw;intro w hw)|(refine qab ?_;clear hw;intro s w hw))
   simp only [hd1,beq_self_eq_true,qap,qaq,Bool.false_and,Bool.true_and,Bool.and_true,Bool.and_false,Bool.false_or,Bool.true_or,Bool.or_false,Bool.not_true,Bool.not_false,Bool.cond_true,Bool.cond_false,gv_fF,gv_tF]
   repeat (first|refine qac ?_|(refine qaa ?_;clear hw;intro p w hw)|(refine qae ?_;clear hw;intro w hw)|(refine qab ?_;clear hw;intro s w hw))
   simp only [hd2,beq_self_eq_true,qap,qaq,Bool.false_and,Bool.true_and,Bool.and_true,Bool.and_false,Bool.false_or,Bool.true_or,Bool.or_false,Bool.not_true,Bool.not_false,Bool.cond_true,Bool.cond_false,gv_fF,gv_tF]
   repeat (first|refine qac ?_|(refine qaa ?_;clear hw;intro p w hw)|(refine qae ?_;clear hw;intro w hw)|(refine qab ?_;clear hw;intro s w hw))
   simp only [hd3,beq_self_eq_true,qap,qaq,Bool.false_and,Bool.true_and,Bool.and_true,Bool.and_false,Bool.false_or,Bool.true_or,Bool.or_false,Bool.not_true,Bool.not_false,Bool.cond_true,Bool.cond_false,gv_fF,gv_tF]
   repeat (first|refine qac ?_|(refine qaa ?_;clear hw;intro p w hw)|(refine qae ?_;clear hw;intro w hw)|(refine qab ?_;clear hw;intro s w hw))
   simp only [hd4,beq_self_eq_true,qap,qaq,Bool.false_and,Bool.true_and,Bool.and_true,Bool.and_false,Bool.false_or,Bool.true_or,Bool.or_false,Bool.not_true,Bool.not_false,Bool.cond_true,Bool.cond_false,gv_fF,gv_tF]
   repeat (first|refine qac ?_|(refine qaa ?_;clear hw;intro p w hw)|(refine qad ?_;clear hw;intro w hw)|(refine qab ?_;clear hw;intro s w hw))
   exact⟨j+1,b,l,⟨rfl,rfl,trivial⟩,agr,⟨by omega,by omega,hR,hw.tail⟩,by omega⟩
  have hd3:decide (c=0)=false:=decide_eq_false q3
  rw [if_neg fun h=>h.elim q1 fun h=>h.elim q2 fun h=>q3 h.1] at hR
  refine qb2 ?_
  clear hw
  intro w hw
  repeat (first|refine qac ?_|(refine qaa ?_;clear hw;intro p w hw)|(refine qae ?_;clear hw;intro w hw)|(refine qab ?_;clear hw;intro s w hw))
  simp only [hd1,beq_self_eq_true,qap,qaq,Bool.false_and,Bool.true_and,Bool.and_true,Bool.and_false,Bool.false_or,Bool.true_or,Bool.or_false,Bool.not_true,Bool.not_false,Bool.cond_true,Bool.cond_false,gv_fF,gv_tF]
  repeat (first|refine qac ?_|(refine qaa ?_;clear hw;intro p w hw)|(refine qae ?_;clear hw;intro w hw)|(refine qab ?_;clear hw;intro s w hw))
  simp only [hd2,beq_self_eq_true,qap,qaq,Bool.false_and,Bool.true_and,Bool.and_true,Bool.and_false,Bool.false_or,Bool.true_or,Bool.or_false,Bool.not_true,Bool.not_false,Bool.cond_true,Bool.cond_false,gv_fF,gv_tF]
  repeat (first|refine qac ?_|(refine qaa ?_;clear hw;intro p w hw)|(refine qae ?_;clear hw;intro w hw)|(refine qab ?_;clear hw;intro s w hw))
  simp only [hd3,beq_self_eq_true,qap,qaq,Bool.false_and,Bool.true_and,Bool.and_true,Bool.and_false,Bool.false_or,Bool.true_or,Bool.or_false,Bool.not_true,Bool.not_false,Bool.cond_true,Bool.cond_false,gv_fF,gv_tF]
  repeat (first|refine qac ?_|(refine qaa ?_;clear hw;intro p w hw)|(refine qad ?_;clear hw;intro w hw)|(refine qab ?_;clear hw;intro s w hw))
  exact⟨j+1,b,l,⟨rfl,rfl,trivial⟩,agr,⟨by omega,by omega,hR,hw.tail⟩,by omega⟩
 have hje:cd.length=j:=by omega
 rw [List.drop_eq_nil_of_le (by omega)] at hR
 repeat (first|refine qac ?_|(refine qaa ?_;clear hw;intro p w hw)|(refine qad ?_;clear hw;intro w hw)|(refine qab ?_;clear hw;intro s w hw))
 rw [hR]
 exact qaw (v:=.int .i64 b) (v':=.nilIface) rfl rfl rfl ⟨by rw [pickS,qam rfl],qas hw⟩
end Go.Proofs.YtdadmnlenbdfbaaGreat
