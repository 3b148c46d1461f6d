/-
  Contracts of partition.Value and Optimal.
-/
import Derived.Test.YtdadmnlenbdfbaaGreatWPar5
import Derived.Test.YtdadmnlenbdfbaaGreatWSimp9
set_option linter.unusedSimpArgs false
set_option linter.unusedVariables false
namespace Go.Proofs.YtdadmnlenbdfbaaGreat
open Go.Sl Go
attribute [local irreducible] vc opsW opsD opV opW PureV ReadV Thn Blk
set_option maxRecDepth 8000 in
set_option maxHeartbeats 4000000 in
theorem qcx {w0:World}{lv:Value}{l:List Frc}(hl:RS tFrc w0 lv l) :
  Calls Tryz.prog 53 #[lv] w0 fun e w'=>e=.returned (.tuple #[.int .i64 (vluV l).2,errV (vluV l).1])∧Sat w0 w' []:=by
 have hw:=Sat.start w0
 obtain⟨R,hR⟩:∃ R,R=vluV l:=⟨_,rfl⟩
 obtain⟨S,hS⟩:∃ S,S=sumF ⟨0,1⟩ l:=⟨_,rfl⟩
 rw [←hR]
 unfold vluV at hR
 rw [←hS] at hR
 refine qaf (args:=[lv]) mixed Tryz.func53 rfl (by kernel_rfl) (Nat.le_of_ble_eq_true rfl) ?_
 repeat (first|refine qac ?_|(refine qaa ?_;clear hw;intro p w hw)|(refine qad ?_;clear hw;intro w hw)|(refine qab ?_;clear hw;intro s w hw))
 refine qag rfl (qj7 (hl.at hw)) ?_
 rintro _ w' ⟨rfl,hk'⟩;replace hw:=hw.call0 hk';clear hk';refine⟨_,rfl,?_⟩
 rw [←hS]
 by_cases he:S.1=0
 ·rw [if_pos he] at hR
  rw [qam he]
  repeat (first|refine qac ?_|(refine qaa ?_;clear hw;intro p w hw)|(refine qad ?_;clear hw;intro w hw)|(refine qab ?_;clear hw;intro s w hw))
  refine qag rfl (qiw S.2) ?_
  rintro _ w' ⟨rfl,hk'⟩;replace hw:=hw.call0 hk';clear hk';refine⟨_,rfl,?_⟩
  repeat (first|refine qac ?_|(refine qaa ?_;clear hw;intro p w hw)|(refine qad ?_;clear hw;intro w hw)|(refine qab ?_;clear hw;intro s w hw))
  rw [hR]
  exact qaw (v:=.int .i64 (ceilF S.2)) (v':=.nilIface) rfl rfl rfl ⟨by rw [qam rfl],qas hw⟩
 ·rw [if_neg he] at hR
  rw [qaj he]
  repeat (first|refine qac ?_|(refine qaa ?_;clear hw;intro p w hw)|(refine qad ?_;clear hw;intro w hw)|(refine qab ?_;clear hw;intro s w hw))
  rw [hR]
  exact qaw (v:=.int .i64 0) (v':=.iface 35 (.int .i64 S.1)) rfl rfl rfl ⟨by rw [qaj he],qas hw⟩
def bF (b:Bool):Frc:=if b=true then f1F else f0F
theorem ql0 {R:List (List Bool × Int)}{k:Nat}(hk:k<R.length):(mtxO R).take (k+1)=(mtxO R).take k++[(R.getD k dR).1.map bF]:=by
 have hl:k<(mtxO R).length:=by simpa [mtxO] using hk
 rw [qav [] hl]
 congr 2
 unfold mtxO
 rw [qak (by simpa using hk),List.getElem_map,qak hk];rfl
theorem ql1 {R:List (List Bool × Int)}{k:Nat}(hk:k<R.length):(rgtO R).take (k+1)=(rgtO R).take k++[whF (R.getD k dR).2]:=by
 have hl:k<(rgtO R).length:=by simpa [rgtO] using hk
 rw [qav dF hl]
 congr 2
 unfold rgtO
 rw [qak (by simpa using hk),List.getElem_map,qak hk];rfl
set_option maxRecDepth 8000 in
set_option maxHeartbeats 8000000 in
theorem qfs {w0:World}{cv ov:Value}{costs:List Int}{cs:List CutV}{C:List (List Int)}(hc:RS tInt w0 cv costs) (hcb:costs.length≤4096) (hcr:∀ x∈costs,0≤x∧x≤1048576) (hC:RCut w0 ov cs C) :
  Calls Tryz.prog 52 #[cv,ov] w0 fun e w'=>∃ lv,e=.returned (.tuple #[lv,errV (valsV 3 costs C).1])∧Sat w0 w' [OS tFrc 146 lv (valsV 3 costs C).2]:=by
 obtain⟨R,hR⟩:∃ R,R=valsV 3 costs C:=⟨_,rfl⟩
 rw [←hR]
 unfold valsV at hR
 have hCl:=hC.len
 have hCr:=hC.rs
 have hw:=Sat.start w0
 refine qaf (args:=[cv,ov]) mixed Tryz.func52 rfl (by kernel_rfl) (Nat.le_of_ble_eq_true rfl) ?_
 repeat (first|refine qac ?_|(refine qaa ?_;clear hw;intro p w hw)|(refine qad ?_;clear hw;intro w hw)|(refine qab ?_;clear hw;intro s w hw))
 refine qag rfl (qcB (hc.at hw) hcr (hC.at hw)) ?_
 rintro _ w' ⟨rfl,hk'⟩;replace hw:=hw.call0 hk';clear hk';refine⟨_,rfl,?_⟩
 by_cases he:chkC costs.length C=0
 case neg =>
  rw [if_neg he] at hR
  rw [qaj he]
  repeat (first|refine qac ?_|(refine qaa ?_;clear hw;intro p w hw)|(refine qad ?_;clear hw;intro w hw)|(refine qab ?_;clear hw;intro s w hw))
  rw [hR]
  exact qaw (v:=.slice none 0 0) (v':=.iface 35 (.int .i64 (chkC costs.length C))) rfl rfl rfl ⟨.slice none 0 0,by rw [qaj he],(hw.nil (T:=tFrc) (e:=146)).only⟩
 rw [if_pos he,if_neg (by decide),if_neg (by decide)] at hR
 rw [qam he]
 obtain⟨hC24,hCok⟩:=qgC he
 replace hw:=hw.nil (T:=tFrc) (e:=146)
 repeat (first|refine qac ?_|(refine qaa ?_;clear hw;intro p w hw)|(refine qad ?_;clear hw;intro w hw)|(refine qab ?_;clear hw;intro s w hw))
 refine qat [7,27,28,29,30,31,32,33] (G:=Nat) (H:=Value) (fun k bv=>[(27,.int .i64 k),(7,bv)]) (fun k bv w=>k≤C.length∧Sat w0 w [OS tFrc 146 bv (List.replicate k f1F)]) (fun k _=>C.length-k) 0 (.slice none 0 0) (fun _ _=>rfl) ⟨rfl,rfl,trivial⟩ ⟨Nat.zero_le _,hw⟩ ?_
 clear hw
 rintro σ k bv w ⟨hk,hw⟩
 have hrl:(List.replicate k f1F).length=k:=List.length_replicate
 repeat (first|refine qac ?_|(refine qaa ?_;clear hw;intro p w hw)|(refine qad ?_;clear hw;intro w hw)|(refine qab ?_;clear hw;intro s w hw))
 refine go_if (fun h1 => ?_) (fun h1 => ?_)
 ·repeat (first|refine qac ?_|(refine qaa ?_;clear hw;intro p w hw)|(refine qad ?_;clear hw;intro w hw)|(refine qab ?_;clear hw;intro s w hw))
  refine qag rfl (qbl 1) ?_
  rintro _ w' ⟨rfl,hk'⟩;replace hw:=hw.call0 hk';clear hk';refine⟨_,rfl,?_⟩
  repeat (first|refine qac ?_|(refine qaa ?_;clear hw;intro p w hw)|(refine qad ?_;clear hw;intro w hw)|(refine qab ?_;clear hw;intro s w hw))
  refine qal tFrc (x1:=f1F) rfl rfl rfl (Nat.le_of_ble_eq_true rfl) (Nat.zero_lt_succ _) hw ?_
  clear hw
  intro sl w hw
  repeat (first|refine qac ?_|(refine qaa ?_;clear hw;intro p w hw)|(refine qad ?_;clear hw;intro w hw)|(refine qab ?_;clear hw;intro s w hw))
  rw [←List.replicate_succ' (n:=k)] at hw
  exact⟨k+1,_,⟨rfl,rfl,trivial⟩,agr,⟨by omega,hw.tail⟩,by omega⟩
 have hke:k=C.length:=by omega
 have hob:List.replicate k f1F=objO C:=by rw [hke];rfl
 rw [hob] at hw
 clear hke hob hrl hk h1
 repeat (first|refine qac ?_|(refine qaa ?_;clear hw;intro p w hw)|(refine qad ?_;clear hw;intro w hw)|(refine qab ?_;clear hw;intro s w hw))
 refine qag rfl (qit (hc.at hw) hcb (hC.at hw) hC24) ?_
 rintro _ w' ⟨rv,vs,rfl,hvl,hk'⟩
 replace hw:=hw.call1 hk'
 clear hk'
 refine⟨_,rfl,?_⟩
 obtain⟨Q,hQ⟩:∃ Q,Q=rowsO costs C:=⟨_,rfl⟩
 rw [←hQ] at hw hR
 have hpre:SimPre (objO C) (mtxO Q) (rgtO Q):=by rw [hQ];exact qlN hcr
 have hvQ:vs.length=Q.length:=(hw.rdE 0 rfl).len
 have hrr:RS tRow w' rv vs:=(hw.rdE 0 rfl).rs
 replace hw:=hw.nil (T:=tFrc) (e:=146)
 replace hw:=(hw.nil (T:=tVal) (e:=110)).rows0 (T:=tFrc) (e:=146)
 replace hw:Sat w0 w' [OS tVal 110 (.slice none 0 0) [],RowsAt tFrc 146 [] ((mtxO Q).take 0),OS tFrc 146 (.slice none 0 0) ((rgtO Q).take 0),OS tFrc 146 bv (objO C),RdH (fun w=>RRow w rv vs Q)]:=hw.sel (Δ:=[OS tVal 110 (.slice none 0 0) [],RowsAt tFrc 146 [] [],OS tFrc 146 (.slice none 0 0) [],OS tFrc 146 bv (objO C),RdH (fun w=>RRow w rv vs Q)])
 repeat (first|refine qac ?_|(refine qaa ?_;clear hw;intro p w hw)|(refine qad ?_;clear hw;intro w hw)|(refine qab ?_;clear hw;intro s w hw))
 refine qbn [8,9,11,12,14,38,39,40,41,42,43,44,45,46,47,48,49,50,51,52,53,54,55,56,57,58,59,60,61,62,63,64,65,66,67,68,69] (G:=Nat) (H:=Value) (I:=Value) (M:=List Value) (fun k mv gv _=>[(38,.int .i64 k),(9,mv),(8,gv)]) (fun k mv gv ss w=>k≤vs.length∧Sat w0 w [OS tVal 110 mv ss,RowsAt tFrc 146 ss ((mtxO Q).take k),OS tFrc 146 gv ((rgtO Q).take k),OS tFrc 146 bv (objO C),RdH (fun w=>RRow w rv vs Q)]) (fun k _ _ _=>vs.length-k) 0 (.slice none 0 0) (.slice none 0 0) [] (fun _ _ _ _=>rfl) ⟨rfl,rfl,rfl,trivial⟩ ⟨Nat.zero_le _,hw⟩ ?_
 clear hw hrr
 rintro σ1 k mv gv ss w ⟨hk,hw⟩
 have hRR:RRow w rv vs Q:=hw.rdE 4 rfl
 have hrr:=hRR.rs
 have hQl:Q.length≤4096:=by omega
 repeat (first|refine qac ?_|(refine qaa ?_;clear hw;intro p w hw)|(refine qad ?_;clear hw;intro w hw)|(refine qab ?_;clear hw;intro s w hw))
 refine go_if (fun h2 => ?_) (fun h2 => ?_)
 ·have hkQ:k<Q.length:=by omega
  obtain⟨A,hA⟩:∃ A,A=(Q.getD k dR).1:=⟨_,rfl⟩
  have hrow:=hRR.row k hkQ
  obtain⟨hr1,hr2⟩:=hrow
  rw [←hA] at hr2
  have hone:=hr2.one
  have hAb:=hr2.big
  have houk:(tRow.enc (eget tRow vs k)).all Value.oneCell'=true:=by
   show ((eget tRow vs k).inn.oneCell' && ((Value.int .i64 (eget tRow vs k).cost).oneCell' && true))=true
   rw [hone];rfl
  have hAC:A.length=C.length:=by
   have:=(qcC (C:=C) hcr (x:=Q.getD k dR) (by rw [←hQ];exact qan dR hkQ)).1
   rw [hA];exact this
  clear hr2
  repeat (first|refine qac ?_|(refine qaa ?_;clear hw;intro p w hw)|(refine qae ?_;clear hw;intro w hw)|(refine qab ?_;clear hw;intro s w hw))
  replace hw:=hw.nil (T:=tFrc) (e:=146)
  obtain⟨p11,rfl⟩:∃ x,x=p:=⟨_,rfl⟩
  have hen:tRow.enc (eget tRow vs k)=[(eget tRow vs k).inn,.int .i64 (eget tRow vs k).cost]:=rfl
  rw [hen] at hw
  have hiA:RS tBool w (eget tRow vs k).inn A:=by
   have:=((hw.rdE 6 rfl:RRow w rv vs Q).row k hkQ).2
   rw [←hA] at this;exact this
  repeat (first|refine qac ?_|(refine qaa ?_;clear hw;intro p w hw)|(refine qae ?_;clear hw;intro w hw)|(refine qab ?_;clear hw;intro s w hw))
  refine qat [12,14,45,46,47,48,49,50,51,52,53,54,55,56,57,58] (G:=Nat) (H:=Value) (fun i lv=>[(45,.int .i64 i),(12,lv)]) (fun i lv w=>i≤A.length∧Sat w0 w [OS tFrc 146 lv ((A.take i).map bF),Box p11 156 [(eget tRow vs k).inn,.int .i64 (eget tRow vs k).cost],OS tVal 110 mv ss,RowsAt tFrc 146 ss ((mtxO Q).take k),OS tFrc 146 gv ((rgtO Q).take k),OS tFrc 146 bv (objO C),RdH (fun w=>RRow w rv vs Q)]) (fun i _=>A.length-i) 0 (.slice none 0 0) (fun _ _=>rfl) ⟨rfl,rfl,trivial⟩ ⟨Nat.zero_le _,hw⟩ ?_
  clear hw hiA
  rintro σ2 i lv w ⟨hi,hw⟩
  have hiA:RS tBool w (eget tRow vs k).inn A:=by
   have:=((hw.rdE 6 rfl:RRow w rv vs Q).row k hkQ).2
   rw [←hA] at this;exact this
  have hll:((A.take i).map bF).length=i:=by rw [List.length_map,List.length_take];omega
  repeat (first|refine qac ?_|(refine qaa ?_;clear hw;intro p w hw)|(refine qad ?_;clear hw;intro w hw)|(refine qab ?_;clear hw;intro s w hw))
  refine go_if (fun h3 => ?_) (fun h3 => ?_)
  ·have hil:i<A.length:=by omega
   have hsn:(A.take (i+1)).map bF=(A.take i).map bF++[bF (A.getD i tBool.dflt)]:=by rw [qav tBool.dflt hil,List.map_append];rfl
   repeat (first|refine qac ?_|(refine qaa ?_;clear hw;intro p w hw)|(refine qae ?_;clear hw;intro w hw)|(refine qab ?_;clear hw;intro s w hw))
   cases hb:A.getD i tBool.dflt
   ·repeat (first|refine qac ?_|(refine qaa ?_;clear hw;intro p w hw)|(refine qad ?_;clear hw;intro w hw)|(refine qab ?_;clear hw;intro s w hw))
    refine qag rfl (qbl 0) ?_
    rintro _ w' ⟨rfl,hk'⟩;replace hw:=hw.call0 hk';clear hk';refine⟨_,rfl,?_⟩
    repeat (first|refine qac ?_|(refine qaa ?_;clear hw;intro p w hw)|(refine qad ?_;clear hw;intro w hw)|(refine qab ?_;clear hw;intro s w hw))
    refine qal tFrc (x1:=bF (A.getD i tBool.dflt)) rfl (by rw [hb];rfl) rfl (Nat.le_of_ble_eq_true rfl) (Nat.zero_lt_succ _) hw ?_
    clear hw
    intro sl w hw
    repeat (first|refine qac ?_|(refine qaa ?_;clear hw;intro p w hw)|(refine qad ?_;clear hw;intro w hw)|(refine qab ?_;clear hw;intro s w hw))
    rw [←hsn] at hw
    exact⟨i+1,_,⟨rfl,rfl,trivial⟩,agr,⟨by omega,hw.tail⟩,by omega⟩
   ·repeat (first|refine qac ?_|(refine qaa ?_;clear hw;intro p w hw)|(refine qad ?_;clear hw;intro w hw)|(refine qab ?_;clear hw;intro s w hw))
    refine qag rfl (qbl 1) ?_
    rintro _ w' ⟨rfl,hk'⟩;replace hw:=hw.call0 hk';clear hk';refine⟨_,rfl,?_⟩
    repeat (first|refine qac ?_|(refine qaa ?_;clear hw;intro p w hw)|(refine qad ?_;clear hw;intro w hw)|(refine qab ?_;clear hw;intro s w hw))
    refine qal tFrc (x1:=bF (A.getD i tBool.dflt)) rfl (by rw [hb];rfl) rfl (Nat.le_of_ble_eq_true rfl) (Nat.zero_lt_succ _) hw ?_
    clear hw
    intro sl w hw
    repeat (first|refine qac ?_|(refine qaa ?_;clear hw;intro p w hw)|(refine qad ?_;clear hw;intro w hw)|(refine qab ?_;clear hw;intro s w hw))
    rw [←hsn] at hw
    exact⟨i+1,_,⟨rfl,rfl,trivial⟩,agr,⟨by omega,hw.tail⟩,by omega⟩
  rw [List.take_of_length_le (show A.length≤i by omega)] at hw
  have olv:=(rsO (s:=lv) hw).one
  have hsl:ss.length≤k:=by
   have h1:=(hw.focus 3 rfl).rowsLen
   rw [List.length_take] at h1
   omega
  have hrgl:((rgtO Q).take k).length≤k:=by rw [List.length_take];omega
  clear hiA hll
  repeat (first|refine qac ?_|(refine qaa ?_;clear hw;intro p w hw)|(refine qae ?_;clear hw;intro w hw)|(refine qab ?_;clear hw;intro s w hw))
  refine qay [.op 0,.op 1,.op 4,.op 5,.op 6,.op 2,.chk 6,.op 3,.chk 6,.op 7,.op 8,.op 9,.op 10,.op 11] hw (by kernel_rfl) ?_;clear hw;intro w hw
  repeat (first|refine qac ?_|(refine qaa ?_;clear hw;intro p w hw)|(refine qae ?_;clear hw;intro w hw)|(refine qab ?_;clear hw;intro s w hw))
  obtain⟨mv2,rfl⟩:∃ x,x=s:=⟨_,rfl⟩
  refine qag rfl (qbl (eget tRow vs k).cost) ?_
  rintro _ w' ⟨rfl,hk'⟩;replace hw:=hw.call0 hk';clear hk';refine⟨_,rfl,?_⟩
  repeat (first|refine qac ?_|(refine qaa ?_;clear hw;intro p w hw)|(refine qae ?_;clear hw;intro w hw)|(refine qab ?_;clear hw;intro s w hw))
  refine qal tFrc (x1:=whF (eget tRow vs k).cost) rfl rfl rfl (Nat.le_of_ble_eq_true rfl) (Nat.zero_lt_succ _) hw ?_
  clear hw
  intro sl w hw
  repeat (first|refine qac ?_|(refine qaa ?_;clear hw;intro p w hw)|(refine qae ?_;clear hw;intro w hw)|(refine qab ?_;clear hw;intro s w hw))
  obtain⟨gv2,rfl⟩:∃ x,x=s:=⟨_,rfl⟩
  replace hw:Sat w0 w [OS tFrc 146 lv (A.map bF),RowsAt tFrc 146 ss ((mtxO Q).take k),OS tVal 110 mv2 (ss++[lv]),OS tFrc 146 gv2 ((rgtO Q).take k++[whF (eget tRow vs k).cost]),OS tFrc 146 bv (objO C),RdH (fun w=>RRow w rv vs Q)]:=hw.sel
  replace hw:=hw.rowPush
  rw [hA,←ql0 hkQ,hr1,←ql1 hkQ] at hw
  exact⟨k+1,mv2,gv2,ss++[lv],⟨rfl,rfl,rfl,trivial⟩,agr,⟨by omega,hw.swap⟩,by omega⟩
 have hke:k=Q.length:=by omega
 rw [hke,List.take_of_length_le (by simp [mtxO]),List.take_of_length_le (by simp [rgtO])] at hw
 clear hRR hrr hke hk h2
 repeat (first|refine qac ?_|(refine qaa ?_;clear hw;intro p w hw)|(refine qad ?_;clear hw;intro w hw)|(refine qab ?_;clear hw;intro s w hw))
 have hob:(objO C).length≤24:=by simp [objO];exact hC24
 refine qag rfl (qg8 hpre (rsO (s:=bv) hw) ⟨rsO (s:=mv) hw,(hw.focus 1 rfl).rowsLen,fun i hi=>(hw.focus 1 rfl).row hi⟩ (rsO (s:=gv) hw) hob) ?_
 rintro _ w' ⟨f,xv,yv,rfl,hk'⟩
 rw [←hR] at hk' ⊢
 replace hw:=hw.call1 hk'
 clear hk'
 refine⟨_,rfl,?_⟩
 by_cases he2:R.1=0
 ·rw [qam he2]
  repeat (first|refine qac ?_|(refine qaa ?_;clear hw;intro p w hw)|(refine qad ?_;clear hw;intro w hw)|(refine qab ?_;clear hw;intro s w hw))
  exact qaw (v:=xv) (v':=.nilIface) rfl rfl rfl ⟨xv,rfl,hw.sel⟩
 ·rw [qaj he2]
  repeat (first|refine qac ?_|(refine qaa ?_;clear hw;intro p w hw)|(refine qad ?_;clear hw;intro w hw)|(refine qab ?_;clear hw;intro s w hw))
  exact qaw (v:=xv) (v':=.iface 35 (.int .i64 R.1)) rfl rfl rfl ⟨xv,rfl,hw.sel⟩
end Go.Proofs.YtdadmnlenbdfbaaGreat
