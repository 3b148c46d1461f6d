/-
  Contract of partition.rows.
-/
import Derived.Test.YtdadmnlenbdfbaaGreatWPar4
import Derived.Test.YtdadmnlenbdfbaaGreatWPar1
import Derived.Test.YtdadmnlenbdfbaaGreatMW2
set_option linter.unusedSimpArgs false
set_option linter.unusedVariables false
namespace Go.Proofs.YtdadmnlenbdfbaaGreat
open Go.Sl Go
attribute [local irreducible] vc opsW opsD opV opW PureV ReadV Thn Blk
structure RowV where
 inn:Value
 cost:Int
def tRow:Ty RowV:=⟨2,fun x=>[x.inn,.int .i64 x.cost],fun _=>rfl,⟨.slice none 0 0,0⟩⟩
instance inPar5:ShutT tRow:=⟨trivial⟩
def dR:List Bool × Int:=([],0)
def RowF (vs:List RowV) (R:List (List Bool × Int)) (w:World):Prop:=∀ i:Nat,i<R.length→(eget tRow vs i).cost=(R.getD i dR).2∧RS tBool w (eget tRow vs i).inn (R.getD i dR).1
structure RRow (w:World) (v:Value) (vs:List RowV) (R:List (List Bool × Int)):Prop where
 rs:RS tRow w v vs
 len:vs.length=R.length
 row:RowF vs R w
theorem RowF.snoc {w:World}{vs:List RowV}{R:List (List Bool × Int)}{v:RowV}{r:List Bool × Int}(h:RowF vs R w) (hl:vs.length=R.length) (h1:v.cost=r.2) (h2:RS tBool w v.inn r.1):RowF (vs++[v]) (R++[r]) w:=fun i hi=>by
 rw [List.length_append,List.length_singleton] at hi
 by_cases e:i=R.length
 ·subst e
  have e1:eget tRow (vs++[v]) R.length=v:=by rw [qaA,List.getD,←hl,List.getElem?_append_right (Nat.le_refl _),Nat.sub_self];rfl
  have e2:(R++[r]).getD R.length dR=r:=by rw [List.getD,List.getElem?_append_right (Nat.le_refl _),Nat.sub_self];rfl
  rw [e1,e2];exact⟨h1,h2⟩
 ·have e1:eget tRow (vs++[v]) i=eget tRow vs i:=by rw [qaA,qaA,List.getD,List.getElem?_append_left (by omega)];rfl
  have e2:(R++[r]).getD i dR=R.getD i dR:=by rw [List.getD,List.getElem?_append_left (by omega)];rfl
  rw [e1,e2];exact h i (by omega)
theorem qiX {C:List (List Int)}{i:Nat}{c:Int}{l:List Int}:allR C i (c::l)=if true∈inO C i then (inO C i,c)::allR C (i+1) l else allR C (i+1) l:=rfl
theorem qh0 {R:List (List Bool × Int)}{i:Nat}{x:List Bool × Int}{l:List (List Bool × Int)}:keptR R i (x::l)=if betR x i 0 R=true then keptR R (i+1) l else x::keptR R (i+1) l:=rfl
theorem qiY {x y:List Bool × Int}{i j:Nat}{l:List (List Bool × Int)}:betR x i j (y::l)=(decide (i≠j∧x.1=y.1∧(y.2<x.2∨(y.2=x.2∧j<i))) || betR x i (j+1) l):=rfl
theorem qkr (C:List (List Int)) (c:List Int) (op:Nat):inO (C++[c]) op=inO C op++[decide ((op:Int)∈c)]:=by simp [inO]
theorem ql2 (C:List (List Int)) (op:Nat):(inO C op).length=C.length:=by simp [inO]
theorem qiZ {A:List Bool}{x:Bool}{m:Nat}:(A++List.replicate (m+1) false).set A.length x=(A++[x])++List.replicate m false:=by
 rw [List.set_append_right _ _ (Nat.le_refl _),Nat.sub_self,List.replicate_succ,List.set_cons_zero,List.append_assoc];rfl
set_option maxRecDepth 8000 in
set_option maxHeartbeats 8000000 in
theorem qit {w0:World}{cv ov:Value}{costs:List Int}{cs:List CutV}{C:List (List Int)}(hc:RS tInt w0 cv costs) (hcb:costs.length≤4096) (hC:RCut w0 ov cs C) (hCb:C.length≤24) :
  Calls Tryz.prog 72 #[cv,ov] w0 fun e w'=>∃ rv vs,e=.returned rv∧vs.length≤4096∧Sat w0 w' [RdH fun w=>RRow w rv vs (rowsO costs C)]:=by
 have hC0:=hC
 obtain⟨hCr,hCl,hCo⟩:=hC
 have hw:=Sat.start w0
 refine qaf (args:=[cv,ov]) mixed Tryz.func72 rfl (by kernel_rfl) (Nat.le_of_ble_eq_true rfl) ?_
 replace hw:=hw.nil (T:=tRow) (e:=156)
 replace hw:=Sat.rd0 (φ:=RowF [] []) (fun w i hi=>absurd hi (Nat.not_lt_zero _)) hw
 replace hw:=hw.swap
 repeat (first|refine qac ?_|(refine qaa ?_;clear hw;intro p w hw)|(refine qad ?_;clear hw;intro w hw)|(refine qab ?_;clear hw;intro s w hw))
 refine qbn [5,6,7,8,9,10,19,20,21,22,23,24,25,26,27,28,29,30,31,32,33,34,35,36,37,38,39,40,41,42,43,44,45,46,47,48,49,50,51] (G:=Nat) (H:=Value) (I:=List RowV) (M:=List (List Bool × Int)) (fun k rv _ _=>[(19,.int .i64 k),(5,rv)]) (fun k rv vs Q w=>k≤costs.length∧vs.length≤k∧vs.length=Q.length∧allR C 0 costs=Q++allR C k (costs.drop k)∧Sat w0 w [OS tRow 156 rv vs,RdH (RowF vs Q)]) (fun k _ _ _=>costs.length-k) 0 (.slice none 0 0) [] [] (fun _ _ _ _=>rfl) ⟨rfl,rfl,trivial⟩ ⟨Nat.zero_le _,Nat.le_refl _,rfl,rfl,hw⟩ ?_
 clear hw
 rintro σ k rv vs Q w ⟨hk,hvk,hvQ,hA,hw⟩
 repeat (first|refine qac ?_|(refine qaa ?_;clear hw;intro p w hw)|(refine qad ?_;clear hw;intro w hw)|(refine qab ?_;clear hw;intro s w hw))
 refine go_if (fun h1 => ?_) (fun h1 => ?_)
 ·have hkl:k<costs.length:=by omega
  rw [qaR tInt.dflt hkl,qiX] at hA
  repeat (first|refine qac ?_|(refine qaa ?_;clear hw;intro p w hw)|(refine qad ?_;clear hw;intro w hw)|(refine qab ?_;clear hw;intro s w hw))
  obtain⟨iv,rfl⟩:∃ x,x=s:=⟨_,rfl⟩
  have e0:List.replicate ((cs.length:Int)).toNat false=inO (C.take 0) k++List.replicate (C.length-0) false:=by
   rw [Int.toNat_natCast,hCl];simp [inO]
  rw [e0] at hw
  refine qao [9,10,29,30,31,32,33,34,35,36,37,38,39,40,41] (G:=Nat) (fun i=>[(29,.int .i64 i)]) (fun i w=>i≤C.length∧Sat w0 w [OS tBool 4 iv (inO (C.take i) k++List.replicate (C.length-i) false),OS tRow 156 rv vs,RdH (RowF vs Q)]) (fun i=>C.length-i) 0 (fun _=>rfl) ⟨rfl,trivial⟩ ⟨Nat.zero_le _,hw⟩ ?_
  clear hw
  rintro σ1 i w ⟨hi,hw⟩
  have hil0:(inO (C.take i) k).length=i:=by rw [ql2,List.length_take];omega
  have hil1:(inO (C.take i) k++List.replicate (C.length-i) false).length=C.length:=by rw [List.length_append,hil0,List.length_replicate];omega
  repeat (first|refine qac ?_|(refine qaa ?_;clear hw;intro p w hw)|(refine qad ?_;clear hw;intro w hw)|(refine qab ?_;clear hw;intro s w hw))
  refine go_if (fun h2 => ?_) (fun h2 => ?_)
  ·have hiC:i<C.length:=by omega
   have hop:=hCo i hiC
   have hone:=hop.one
   have houk:(tCut.enc (eget tCut cs i)).all Value.oneCell'=true:=by
    show ((eget tCut cs i).ops.oneCell' && ((Value.int .i64 (eget tCut cs i).cost).oneCell' && true))=true
    rw [hone];rfl
   have hen:tCut.enc (eget tCut cs i)=[(eget tCut cs i).ops,.int .i64 (eget tCut cs i).cost]:=rfl
   repeat (first|refine qac ?_|(refine qaa ?_;clear hw;intro p w hw)|(refine qae ?_;clear hw;intro w hw)|(refine qab ?_;clear hw;intro s w hw))
   rw [hen] at hw
   obtain⟨p10,rfl⟩:∃ x,x=p:=⟨_,rfl⟩
   repeat (first|refine qac ?_|(refine qaa ?_;clear hw;intro p w hw)|(refine qad ?_;clear hw;intro w hw)|(refine qab ?_;clear hw;intro s w hw))
   refine qag rfl (qc6 (v:=(k:Int)) (hop.at hw)) ?_
   rintro _ w' ⟨rfl,hk'⟩
   replace hw:=hw.call0 hk'
   clear hk'
   refine⟨_,rfl,?_⟩
   repeat (first|refine qac ?_|(refine qaa ?_;clear hw;intro p w hw)|(refine qad ?_;clear hw;intro w hw)|(refine qab ?_;clear hw;intro s w hw))
   have hst:=qiZ (A:=inO (C.take i) k) (x:=decide ((k:Int)∈C.getD i [])) (m:=C.length-(i+1))
   rw [hil0,show C.length-(i+1)+1=C.length-i by omega,←qkr,←qav [] hiC] at hst
   rw [hst] at hw
   exact⟨i+1,⟨rfl,trivial⟩,agr,⟨by omega,hw.tail⟩,by omega⟩
  have hie:i=C.length:=by omega
  rw [hie,List.take_of_length_le (Nat.le_refl _),Nat.sub_self,List.replicate_zero,List.append_nil] at hw
  repeat (first|refine qac ?_|(refine qaa ?_;clear hw;intro p w hw)|(refine qad ?_;clear hw;intro w hw)|(refine qab ?_;clear hw;intro s w hw))
  refine qag rfl (qez (rsO (s:=iv) hw)) ?_
  rintro _ w' ⟨rfl,hk'⟩
  replace hw:=hw.call0 hk'
  clear hk'
  refine⟨_,rfl,?_⟩
  by_cases q1:true∈inO C k
  case neg =>
   rw [if_neg q1] at hA
   rw [decide_eq_false q1]
   repeat (first|refine qac ?_|(refine qaa ?_;clear hw;intro p w hw)|(refine qad ?_;clear hw;intro w hw)|(refine qab ?_;clear hw;intro s w hw))
   exact⟨k+1,rv,vs,Q,⟨rfl,rfl,trivial⟩,agr,⟨by omega,by omega,hvQ,hA,hw.tail⟩,by omega⟩
  rw [if_pos q1] at hA
  rw [decide_eq_true q1]
  have oiv:=(rsO (s:=iv) hw).one
  repeat (first|refine qac ?_|(refine qaa ?_;clear hw;intro p w hw)|(refine qad ?_;clear hw;intro w hw)|(refine qab ?_;clear hw;intro s w hw))
  refine qbA (v1:=iv) (v2:=.int .i64 (costs.getD k tInt.dflt)) rfl rfl rfl (by simp only [List.all_cons,List.all_nil,oiv];rfl) ?_
  repeat (first|refine qac ?_|(refine qaa ?_;clear hw;intro p w hw)|(refine qad ?_;clear hw;intro w hw)|(refine qab ?_;clear hw;intro s w hw))
  refine qal tRow (x1:=⟨iv,costs.getD k tInt.dflt⟩) rfl rfl rfl (Nat.le_of_ble_eq_true rfl) (Nat.zero_lt_succ _) hw ?_
  clear hw
  intro so w hw
  refine qaM (s:=rv) (s2:=so) inferInstance rfl rfl (rsO hw) rfl rfl (fun x hx v hv => ?_) (by simp only [List.length_cons,List.length_nil];omega) (by unfold big;simp only [List.length_cons,List.length_nil];omega) hw ?_
  ·rw [List.mem_singleton.1 hx] at hv
   simp only [tRow,List.mem_cons,List.not_mem_nil,or_false] at hv
   rcases hv with rfl|rfl
   ·exact oiv
   ·rfl
  clear hw
  intro rv2 w hw
  repeat (first|refine qac ?_|(refine qaa ?_;clear hw;intro p w hw)|(refine qad ?_;clear hw;intro w hw)|(refine qab ?_;clear hw;intro s w hw))
  replace hw:Sat w0 w [OS tBool 4 iv (inO C k),RdH (RowF vs Q),OS tRow 156 rv2 (vs++[⟨iv,costs.getD k tInt.dflt⟩])]:=hw.sel
  replace hw:=Sat.rd (Δ:=[OS tBool 4 iv (inO C k),RdH (RowF vs Q)]) (φ:=RowF (vs++[⟨iv,costs.getD k tInt.dflt⟩]) (Q++[(inO C k,costs.getD k tInt.dflt)])) (fun _ w h=>(h.rdE 1 rfl).snoc hvQ rfl (h.rs 0 rfl)) hw
  exact⟨k+1,rv2,_,Q++[(inO C k,costs.getD k tInt.dflt)],⟨rfl,rfl,trivial⟩,agr,⟨by omega,by simp;omega,by simp [hvQ],by rw [hA,List.append_assoc];rfl,hw.swap⟩,by omega⟩
 rw [List.drop_eq_nil_of_le (by omega)] at hA
 have hQ:Q=allR C 0 costs:=by rw [hA];simp [allR]
 have hvl:vs.length≤4096:=by omega
 have hlo:rowsO costs C=keptR Q 0 Q:=by rw [rowsO,hQ]
 clear hA
 have hQl:Q.length≤4096:=by omega
 replace hw:=hw.nil (T:=tRow) (e:=156)
 repeat (first|refine qac ?_|(refine qaa ?_;clear hw;intro p w hw)|(refine qad ?_;clear hw;intro w hw)|(refine qab ?_;clear hw;intro s w hw))
 refine qbn [11,12,13,14,15,16,54,55,56,57,58,59,60,61,62,63,64,65,66,67,68,69,70,71,72,73,74,75,76,77,78,79,80,81,82,83,84,85,86,87,88,89,90,91,92,93,94,95,96,97,98,99,100,101,102,103,104,105] (G:=Nat) (H:=Value) (I:=List RowV) (M:=List (List Bool × Int)) (fun i kv _ _=>[(54,.int .i64 i),(11,kv)]) (fun i kv ks K w=>i≤vs.length∧ks.length≤i∧ks.length=K.length∧keptR Q 0 Q=K++keptR Q i (Q.drop i)∧(∀ w,RowF vs Q w→RowF ks K w)∧Sat w0 w [OS tRow 156 kv ks,OS tRow 156 rv vs,RdH (RowF vs Q)]) (fun i _ _ _=>vs.length-i) 0 (.slice none 0 0) [] [] (fun _ _ _ _=>rfl) ⟨rfl,rfl,trivial⟩ ⟨Nat.zero_le _,Nat.le_refl _,rfl,rfl,(fun _ _ i hi=>absurd hi (Nat.not_lt_zero _)),hw⟩ ?_
 clear hw
 rintro σ2 i kv ks K w ⟨hi,hki,hkK,hE,hfun,hw⟩
 repeat (first|refine qac ?_|(refine qaa ?_;clear hw;intro p w hw)|(refine qad ?_;clear hw;intro w hw)|(refine qab ?_;clear hw;intro s w hw))
 refine go_if (fun h3 => ?_) (fun h3 => ?_)
 ·have hiQ:i<Q.length:=by omega
  have hiv:i<vs.length:=by omega
  obtain⟨X,hX⟩:∃ X,X=Q.getD i dR:=⟨_,rfl⟩
  obtain⟨xi,hxi⟩:∃ x,x=(eget tRow vs i).inn:=⟨_,rfl⟩
  have hF0:RowF vs Q w:=hw.rdE 2 rfl
  have hone:=(hF0 i hiQ).2.one
  have hxe:tRow.enc (eget tRow vs i)=[xi,.int .i64 X.2]:=by
   show [(eget tRow vs i).inn,.int .i64 (eget tRow vs i).cost]=_
   rw [(hF0 i hiQ).1,←hxi,←hX]
  have houk:(tRow.enc (eget tRow vs i)).all Value.oneCell'=true:=by
   rw [hxe]
   simp only [List.all_cons,List.all_nil]
   rw [hxi,hone];rfl
  rw [qaR dR hiQ,qh0,←hX] at hE
  clear hF0
  repeat (first|refine qac ?_|(refine qaa ?_;clear hw;intro p w hw)|(refine qae ?_;clear hw;intro w hw)|(refine qab ?_;clear hw;intro s w hw))
  rw [hxe] at hw
  obtain⟨p13,rfl⟩:∃ x,x=p:=⟨_,rfl⟩
  repeat (first|refine qac ?_|(refine qaa ?_;clear hw;intro p w hw)|(refine qad ?_;clear hw;intro w hw)|(refine qab ?_;clear hw;intro s w hw))
  refine qat [14,15,16,61,62,63,64,65,66,67,68,69,70,71,72,73,74,75,76,77,78,79,80,81,82,83,84,85,86,87,88,89,90,91,92,93,94,95,96,97,98] (G:=Nat) (H:=Bool) (fun j b=>[(61,.int .i64 j),(14,.bool b)]) (fun j b w=>j≤vs.length∧(b || betR X i j (Q.drop j))=betR X i 0 Q∧Sat w0 w [Box p13 156 [xi,.int .i64 X.2],OS tRow 156 kv ks,OS tRow 156 rv vs,RdH (RowF vs Q)]) (fun j _=>vs.length-j) 0 false (fun _ _=>rfl) ⟨rfl,rfl,trivial⟩ ⟨Nat.zero_le _,rfl,hw⟩ ?_
  clear hw
  rintro σ3 j b w ⟨hj,hB,hw⟩
  repeat (first|refine qac ?_|(refine qaa ?_;clear hw;intro p w hw)|(refine qad ?_;clear hw;intro w hw)|(refine qab ?_;clear hw;intro s w hw))
  refine go_if (fun h4 => ?_) (fun h4 => ?_)
  ·have hjQ:j<Q.length:=by omega
   obtain⟨Y,hY⟩:∃ Y,Y=Q.getD j dR:=⟨_,rfl⟩
   have hF0:RowF vs Q w:=hw.rdE 3 rfl
   have hone2:=(hF0 j hjQ).2.one
   have hyc:(eget tRow vs j).cost=Y.2:=by rw [(hF0 j hjQ).1,←hY]
   have houk2:(tRow.enc (eget tRow vs j)).all Value.oneCell'=true:=by
    show ((eget tRow vs j).inn.oneCell' && ((Value.int .i64 (eget tRow vs j).cost).oneCell' && true))=true
    rw [hone2];rfl
   rw [qaR dR hjQ,qiY,←hY] at hB
   clear hF0
   cases b with
   | true =>
    repeat (first|refine qac ?_|(refine qaa ?_;clear hw;intro p w hw)|(refine qad ?_;clear hw;intro w hw)|(refine qab ?_;clear hw;intro s w hw))
    exact⟨j+1,true,⟨rfl,rfl,trivial⟩,agr,⟨by omega,by rw [←hB];rfl,hw.tail⟩,by omega⟩
   | false =>
    by_cases q1:i=j
    ·have hd1:decide ((i:Int)=(j:Int))=true:=decide_eq_true (by omega)
     have hB2:(false || betR X i (j+1) (Q.drop (j+1)))=betR X i 0 Q:=by rw [←hB,decide_eq_false fun h=>h.1 q1];rfl
     repeat (first|refine qac ?_|(refine qaa ?_;clear hw;intro p w hw)|(refine qae ?_;clear hw;intro w hw)|(refine qab ?_;clear hw;intro s w hw))
     simp only [hd1,beq_self_eq_true,qap,qaq,Bool.false_and,Bool.true_and,Bool.and_true,Bool.and_false,Bool.false_or,Bool.true_or,Bool.or_false,Bool.not_true,Bool.not_false,Bool.cond_true,Bool.cond_false,gv_fF,gv_tF]
     repeat (first|refine qac ?_|(refine qaa ?_;clear hw;intro p w hw)|(refine qad ?_;clear hw;intro w hw)|(refine qab ?_;clear hw;intro s w hw))
     exact⟨j+1,false,⟨rfl,rfl,trivial⟩,agr,⟨by omega,hB2,hw.tail⟩,by omega⟩
    have hd1:decide ((i:Int)=(j:Int))=false:=decide_eq_false (by omega)
    repeat (first|refine qac ?_|(refine qaa ?_;clear hw;intro p w hw)|(refine qae ?_;clear hw;intro w hw)|(refine qab ?_;clear hw;intro s w hw))
    simp only [hd1,beq_self_eq_true,qap,qaq,Bool.false_and,Bool.true_and,Bool.and_true,Bool.and_false,Bool.false_or,Bool.true_or,Bool.or_false,Bool.not_true,Bool.not_false,Bool.cond_true,Bool.cond_false,gv_fF,gv_tF]
    repeat (first|refine qac ?_|(refine qaa ?_;clear hw;intro p w hw)|(refine qae ?_;clear hw;intro w hw)|(refine qab ?_;clear hw;intro s w hw))
    have hF1:RowF vs Q w:=hw.rdE 4 rfl
    have r1:=(hF1 i hiQ).2
    have r2:=(hF1 j hjQ).2
    rw [←hxi,←hX] at r1
    rw [←hY] at r2
    refine qag rfl (qhb r1 r2) ?_
    rintro _ w' ⟨rfl,hk'⟩
    replace hw:=hw.call0 hk'
    clear hk' hF1 r1 r2
    refine⟨_,rfl,?_⟩
    by_cases q2:X.1=Y.1
    case neg =>
     rw [decide_eq_false q2]
     have hB2:(false || betR X i (j+1) (Q.drop (j+1)))=betR X i 0 Q:=by rw [←hB,decide_eq_false fun h=>q2 h.2.1];rfl
     repeat (first|refine qac ?_|(refine qaa ?_;clear hw;intro p w hw)|(refine qad ?_;clear hw;intro w hw)|(refine qab ?_;clear hw;intro s w hw))
     exact⟨j+1,false,⟨rfl,rfl,trivial⟩,agr,⟨by omega,hB2,hw.tail⟩,by omega⟩
    rw [decide_eq_true q2]
    by_cases q3:Y.2<X.2
    ·have hd3:decide ((eget tRow vs j).cost<X.2)=true:=decide_eq_true (by rw [hyc];exact q3)
     have hB2:(true || betR X i (j+1) (Q.drop (j+1)))=betR X i 0 Q:=by rw [←hB,decide_eq_true ⟨q1,q2,.inl q3⟩];rfl
     repeat (first|refine qac ?_|(refine qaa ?_;clear hw;intro p w hw)|(refine qae ?_;clear hw;intro w hw)|(refine qab ?_;clear hw;intro s w hw))
     simp only [hd3,beq_self_eq_true,qap,qaq,Bool.false_and,Bool.true_and,Bool.and_true,Bool.and_false,Bool.false_or,Bool.true_or,Bool.or_false,Bool.not_true,Bool.not_false,Bool.cond_true,Bool.cond_false,gv_fF,gv_tF]
     repeat (first|refine qac ?_|(refine qaa ?_;clear hw;intro p w hw)|(refine qad ?_;clear hw;intro w hw)|(refine qab ?_;clear hw;intro s w hw))
     exact⟨j+1,true,⟨rfl,rfl,trivial⟩,agr,⟨by omega,hB2,hw.tail⟩,by omega⟩
    have hd3:decide ((eget tRow vs j).cost<X.2)=false:=decide_eq_false (by rw [hyc];exact q3)
    by_cases q4:Y.2=X.2
    case neg =>
     have hd4:decide ((eget tRow vs j).cost=X.2)=false:=decide_eq_false (by rw [hyc];exact q4)
     have hB2:(false || betR X i (j+1) (Q.drop (j+1)))=betR X i 0 Q:=by rw [←hB,decide_eq_false fun h=>h.2.2.elim q3 fun h=>q4 h.1];rfl
     repeat (first|refine qac ?_|(refine qaa ?_;clear hw;intro p w hw)|(refine qae ?_;clear hw;intro w hw)|(refine qab ?_;clear hw;intro s w hw))
     simp only [hd3,beq_self_eq_true,qap,qaq,Bool.false_and,Bool.true_and,Bool.and_true,Bool.and_false,Bool.false_or,Bool.true_or,Bool.or_false,Bool.not_true,Bool.not_false,Bool.cond_true,Bool.cond_false,gv_fF,gv_tF]
     repeat (first|refine qac ?_|(refine qaa ?_;clear hw;intro p w hw)|(refine qae ?_;clear hw;intro w hw)|(refine qab ?_;clear hw;intro s w hw))
     simp only [hd4,beq_self_eq_true,qap,qaq,Bool.false_and,Bool.true_and,Bool.and_true,Bool.and_false,Bool.false_or,Bool.true_or,Bool.or_false,Bool.not_true,Bool.not_false,Bool.cond_true,Bool.cond_false,gv_fF,gv_tF]
     repeat (first|refine qac ?_|(refine qaa ?_;clear hw;intro p w hw)|(refine qad ?_;clear hw;intro w hw)|(refine qab ?_;clear hw;intro s w hw))
     exact⟨j+1,false,⟨rfl,rfl,trivial⟩,agr,⟨by omega,hB2,hw.tail⟩,by omega⟩
    have hd4:decide ((eget tRow vs j).cost=X.2)=true:=decide_eq_true (by rw [hyc];exact q4)
    by_cases q5:j<i
    ·have hd5:decide ((j:Int)<(i:Int))=true:=decide_eq_true (by omega)
     have hB2:(true || betR X i (j+1) (Q.drop (j+1)))=betR X i 0 Q:=by rw [←hB,decide_eq_true ⟨q1,q2,.inr ⟨q4,q5⟩⟩];rfl
     repeat (first|refine qac ?_|(refine qaa ?_;clear hw;intro p w hw)|(refine qae ?_;clear hw;intro w hw)|(refine qab ?_;clear hw;intro s w hw))
     simp only [hd3,beq_self_eq_true,qap,qaq,Bool.false_and,Bool.true_and,Bool.and_true,Bool.and_false,Bool.false_or,Bool.true_or,Bool.or_false,Bool.not_true,Bool.not_false,Bool.cond_true,Bool.cond_false,gv_fF,gv_tF]
     repeat (first|refine qac ?_|(refine qaa ?_;clear hw;intro p w hw)|(refine qae ?_;clear hw;intro w hw)|(refine qab ?_;clear hw;intro s w hw))
     simp only [hd4,beq_self_eq_true,qap,qaq,Bool.false_and,Bool.true_and,Bool.and_true,Bool.and_false,Bool.false_or,Bool.true_or,Bool.or_false,Bool.not_true,Bool.not_false,Bool.cond_true,Bool.cond_false,gv_fF,gv_tF]
     repeat (first|refine qac ?_|(refine qaa ?_;clear hw;intro p w hw)|(refine qae ?_;clear hw;intro w hw)|(refine qab ?_;clear hw;intro s w hw))
     simp only [hd5,beq_self_eq_true,qap,qaq,Bool.false_and,Bool.true_and,Bool.and_true,Bool.and_false,Bool.false_or,Bool.true_or,Bool.or_false,Bool.not_true,Bool.not_false,Bool.cond_true,Bool.cond_false,gv_fF,gv_tF]
     repeat (first|refine qac ?_|(refine qaa ?_;clear hw;intro p w hw)|(refine qad ?_;clear hw;intro w hw)|(refine qab ?_;clear hw;intro s w hw))
     exact⟨j+1,true,⟨rfl,rfl,trivial⟩,agr,⟨by omega,hB2,hw.tail⟩,by omega⟩
    have hd5:decide ((j:Int)<(i:Int))=false:=decide_eq_false (by omega)
    have hB2:(false || betR X i (j+1) (Q.drop (j+1)))=betR X i 0 Q:=by rw [←hB,decide_eq_false fun h=>h.2.2.elim q3 fun h=>q5 h.2];rfl
    repeat (first|refine qac ?_|(refine qaa ?_;clear hw;intro p w hw)|(refine qae ?_;clear hw;intro w hw)|(refine qab ?_;clear hw;intro s w hw))
    simp only [hd3,beq_self_eq_true,qap,qaq,Bool.false_and,Bool.true_and,Bool.and_true,Bool.and_false,Bool.false_or,Bool.true_or,Bool.or_false,Bool.not_true,Bool.not_false,Bool.cond_true,Bool.cond_false,gv_fF,gv_tF]
    repeat (first|refine qac ?_|(refine qaa ?_;clear hw;intro p w hw)|(refine qae ?_;clear hw;intro w hw)|(refine qab ?_;clear hw;intro s w hw))
    simp only [hd4,beq_self_eq_true,qap,qaq,Bool.false_and,Bool.true_and,Bool.and_true,Bool.and_false,Bool.false_or,Bool.true_or,Bool.or_false,Bool.not_true,Bool.not_false,Bool.cond_true,Bool.cond_false,gv_fF,gv_tF]
    repeat (first|refine qac ?_|(refine qaa ?_;clear hw;intro p w hw)|(refine qae ?_;clear hw;intro w hw)|(refine qab ?_;clear hw;intro s w hw))
    simp only [hd5,beq_self_eq_true,qap,qaq,Bool.false_and,Bool.true_and,Bool.and_true,Bool.and_false,Bool.false_or,Bool.true_or,Bool.or_false,Bool.not_true,Bool.not_false,Bool.cond_true,Bool.cond_false,gv_fF,gv_tF]
    repeat (first|refine qac ?_|(refine qaa ?_;clear hw;intro p w hw)|(refine qad ?_;clear hw;intro w hw)|(refine qab ?_;clear hw;intro s w hw))
    exact⟨j+1,false,⟨rfl,rfl,trivial⟩,agr,⟨by omega,hB2,hw.tail⟩,by omega⟩
  have hbE:b=betR X i 0 Q:=by
   rw [List.drop_eq_nil_of_le (by omega)] at hB
   rw [←hB];simp [betR]
  rw [←hbE] at hE
  cases b with
  | true =>
   rw [if_pos rfl] at hE
   repeat (first|refine qac ?_|(refine qaa ?_;clear hw;intro p w hw)|(refine qad ?_;clear hw;intro w hw)|(refine qab ?_;clear hw;intro s w hw))
   exact⟨i+1,kv,ks,K,⟨rfl,rfl,trivial⟩,agr,⟨by omega,by omega,hkK,hE,hfun,hw.tail⟩,by omega⟩
  | false =>
   rw [if_neg (by decide)] at hE
   have oxi:xi.oneCell'=true:=by rw [hxi];exact hone
   repeat (first|refine qac ?_|(refine qaa ?_;clear hw;intro p w hw)|(refine qad ?_;clear hw;intro w hw)|(refine qab ?_;clear hw;intro s w hw))
   refine qal tRow (x1:=⟨xi,X.2⟩) rfl rfl rfl (Nat.le_of_ble_eq_true rfl) (Nat.zero_lt_succ _) hw ?_
   clear hw
   intro so w hw
   refine qaM (s:=kv) (s2:=so) inferInstance rfl rfl (rsO hw) rfl rfl (fun x hx v hv => ?_) (by simp only [List.length_cons,List.length_nil];omega) (by unfold big;simp only [List.length_cons,List.length_nil];omega) hw ?_
   ·rw [List.mem_singleton.1 hx] at hv
    simp only [tRow,List.mem_cons,List.not_mem_nil,or_false] at hv
    rcases hv with rfl|rfl
    ·exact oxi
    ·rfl
   clear hw
   intro kv2 w hw
   repeat (first|refine qac ?_|(refine qaa ?_;clear hw;intro p w hw)|(refine qad ?_;clear hw;intro w hw)|(refine qab ?_;clear hw;intro s w hw))
   refine⟨i+1,kv2,ks++[⟨xi,X.2⟩],K++[X],⟨rfl,rfl,trivial⟩,agr,⟨by omega,by simp;omega,by simp [hkK],by rw [hE,List.append_assoc];rfl,fun w h=>(hfun w h).snoc hkK rfl ?_,hw.tail.tail⟩,by omega⟩
   have:=(h i hiQ).2
   rw [←hxi,←hX] at this
   exact this
 rw [List.drop_eq_nil_of_le (by omega)] at hE
 have hK:K=rowsO costs C:=by rw [hlo,hE];simp [keptR]
 repeat (first|refine qac ?_|(refine qaa ?_;clear hw;intro p w hw)|(refine qad ?_;clear hw;intro w hw)|(refine qab ?_;clear hw;intro s w hw))
 replace hw:=Sat.rd (Δ:=[OS tRow 156 kv ks,OS tRow 156 rv vs,RdH (RowF vs Q)]) (Γ:=[]) (φ:=fun w=>RRow w kv ks (rowsO costs C)) (fun _ w h=>by rw [←hK];exact⟨h.rs 0 rfl,hkK,hfun w (h.rdE 2 rfl)⟩) hw
 exact qai (v:=kv) rfl rfl ⟨kv,ks,rfl,by omega,hw⟩
end Go.Proofs.YtdadmnlenbdfbaaGreat
