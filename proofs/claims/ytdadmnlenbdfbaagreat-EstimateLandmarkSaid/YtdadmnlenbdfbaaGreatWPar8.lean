/-
  Contract of partition.Heuristic.
-/
import Derived.Test.YtdadmnlenbdfbaaGreatWPar7
set_option linter.unusedSimpArgs false
set_option linter.unusedVariables false
namespace Go.Proofs.YtdadmnlenbdfbaaGreat
open Go.Sl Go
attribute [local irreducible] vc opsW opsD opV opW PureV ReadV Thn Blk
theorem RCut.cut {w:World}{v:Value}{cs:List CutV}{C:List (List Int)}{n:Nat}(h:RCut w v cs C) (hn:n≤cs.length):RCut w (ssub v tCut.sz 0 n) (cut cs 0 n) (C.take n):=by
 obtain⟨h1,h2,h3⟩:=h
 refine⟨qje h1 (Nat.zero_le _) hn,by rw [qc9 hn,List.length_take];omega,fun i hi => ?_⟩
 rw [List.length_take] at hi
 have e1:eget tCut (Go.Sl.cut cs 0 n) i=eget tCut cs i:=by
  rw [qaA,qaA]
  simp only [Go.Sl.cut,List.drop_zero,List.getD]
  rw [List.getElem?_take,if_pos (by omega)]
 have e2:(C.take n).getD i []=C.getD i []:=by
  simp only [List.getD]
  rw [List.getElem?_take,if_pos (by omega)]
 rw [e1,e2]
 exact h3 i (by omega)
set_option maxRecDepth 8000 in
set_option maxHeartbeats 8000000 in
theorem qeS {w0:World}{a b c d sv:Value}{vs:List OpV}{t:TTask}{z:List Int}{kind:Int}(hk1:1≤kind) (hk3:kind≤3) (ht:RTask w0 a b c d vs t) (hg:GoodT t) (hs:RS tInt w0 sv z) (hok:StateOk t.vars z) :
  Calls Tryz.prog 9 #[.agg #[a,b,c,d],sv,.int .i64 kind] w0 fun e w'=>e=.returned (.tuple #[.int .i64 (lmkE t z kind).2,errV (lmkE t z kind).1])∧Sat w0 w' []:=by
 have ht':=ht
 obtain⟨ha,hb,hc,hd⟩:=ht
 have hdr:=hd.rs
 have hdl:=hd.len
 have hol:=hg.ops
 obtain⟨R,hR⟩:∃ R,R=lmkE t z kind:=⟨_,rfl⟩
 rw [←hR]
 unfold lmkE at hR
 have hw:=Sat.start w0
 refine qaf (args:=[.agg #[a,b,c,d],sv,.int .i64 kind]) mixed Tryz.func9 rfl (by kernel_rfl) (Nat.le_of_ble_eq_true rfl) ?_
 repeat (first|refine qac ?_|(refine qaa ?_;clear hw;intro p w hw)|(refine qad ?_;clear hw;intro w hw)|(refine qab ?_;clear hw;intro s w hw))
 obtain⟨pt,rfl⟩:∃ x,x=p:=⟨_,rfl⟩
 refine qag rfl (qiA (ht'.at hw) hg) ?_
 rintro _ w' ⟨pr,a2,gv,cv,lv,us,rfl,hk'⟩
 replace hw:=hw.call1 hk'
 clear hk'
 refine⟨_,rfl,?_⟩
 have hd1:decide (kind<1)=false:=decide_eq_false (by omega)
 have hd2:decide (3<kind)=false:=decide_eq_false (by omega)
 repeat (first|refine qac ?_|(refine qaa ?_;clear hw;intro p w hw)|(refine qae ?_;clear hw;intro w hw)|(refine qab ?_;clear hw;intro s w hw))
 simp only [hd1,hd2,beq_self_eq_true,qap,qaq,Bool.false_and,Bool.true_and,Bool.and_true,Bool.and_false,Bool.false_or,Bool.true_or,Bool.or_false,Bool.not_true,Bool.not_false,Bool.cond_true,Bool.cond_false,gv_fF,gv_tF]
 repeat (first|refine qac ?_|(refine qaa ?_;clear hw;intro p w hw)|(refine qad ?_;clear hw;intro w hw)|(refine qab ?_;clear hw;intro s w hw))
 refine qag rfl (qg2 (hw.rdE 0 rfl:FinR w' pr t a2 gv cv lv us) hg (hs.at hw) hok) ?_
 rintro _ w' hres
 rcases hres with ⟨hn,rfl,hk'⟩|⟨ov,cs,hRG,rfl,hcl,hk'⟩
 ·replace hw:=hw.call0 hk'
  clear hk'
  refine⟨_,rfl,?_⟩
  rw [if_neg hn] at hR
  generalize hev:errV 3=ev
  repeat (first|refine qac ?_|(refine qaa ?_;clear hw;intro p w hw)|(refine qad ?_;clear hw;intro w hw)|(refine qab ?_;clear hw;intro s w hw))
  refine qag rfl (hev ▸ qft 3 3) ?_
  rintro _ w' ⟨rfl,hk'⟩;replace hw:=hw.call0 hk';clear hk';refine⟨_,rfl,?_⟩
  rw [show decide ((3:Int)≠0∧(3:Int)=3)=true by decide]
  repeat (first|refine qac ?_|(refine qaa ?_;clear hw;intro p w hw)|(refine qad ?_;clear hw;intro w hw)|(refine qab ?_;clear hw;intro s w hw))
  rw [hR]
  exact qaw (v:=.int .i64 1125899906842624) (v':=.nilIface) rfl rfl rfl ⟨by rw [qam rfl],qas hw⟩
 replace hw:=hw.call1 hk'
 clear hk'
 refine⟨_,rfl,?_⟩
 rw [if_pos hRG] at hR
 obtain⟨C,hC⟩:∃ C,C=cutsF t z (factsF t z) []:=⟨_,rfl⟩
 rw [←hC] at hw hR
 have h00:errV 0=.nilIface:=qam rfl
 repeat (first|refine qac ?_|(refine qaa ?_;clear hw;intro p w hw)|(refine qad ?_;clear hw;intro w hw)|(refine qab ?_;clear hw;intro s w hw))
 refine qag rfl (h00 ▸ qft 0 3) ?_
 rintro _ w' ⟨rfl,hk'⟩;replace hw:=hw.call0 hk';clear hk';refine⟨_,rfl,?_⟩
 rw [show decide ((0:Int)≠0∧(0:Int)=3)=false by decide]
 have hRC:RCut _ ov cs C:=hw.rdE 0 rfl
 have hrs:=hRC.rs
 repeat (first|refine qac ?_|(refine qaa ?_;clear hw;intro p w hw)|(refine qad ?_;clear hw;intro w hw)|(refine qab ?_;clear hw;intro s w hw))
 obtain⟨n,hn⟩:∃ n,n=(if (24:Int)<cs.length then 24 else (cs.length:Int)).toNat:=⟨_,rfl⟩
 have hnl:n≤cs.length:=by rw [hn];split <;> omega
 have hn24:C.take n=C.take 24:=by
  have hCl:=hRC.len
  by_cases h:(24:Int)<cs.length
  ·rw [hn,if_pos h];rfl
  ·rw [hn,if_neg h,List.take_of_length_le (by omega),List.take_of_length_le (by omega)]
 rw [←hn]
 obtain⟨C2,hC2⟩:∃ C2,C2=C.take 24:=⟨_,rfl⟩
 rw [←hC2] at hR
 obtain⟨ov2,hov2⟩:∃ x,x=ssub ov tCut.sz 0 n:=⟨_,rfl⟩
 obtain⟨cs2,hcs2⟩:∃ x,x=cut cs 0 n:=⟨_,rfl⟩
 rw [←hov2]
 replace hw:=Sat.rd (Δ:=[RdH fun w=>RCut w ov cs C]) (φ:=fun w=>RCut w ov2 cs2 C2) (fun _ w h=>by rw [hov2,hcs2,hC2,←hn24];exact (h.rdE 0 rfl:RCut w ov cs C).cut hnl) hw
 clear hRC hrs hn
 replace hw:=hw.nil (T:=tInt) (e:=3)
 replace hw:=hw.sel (Δ:=[OS tInt 3 (.slice none 0 0) [],RdH fun w=>RCut w ov2 cs2 C2])
 refine qat [11,13,52,53,54,55,56,57,58,59,60,61] (G:=Nat) (H:=Value) (fun k qv=>[(52,.int .i64 k),(11,qv)]) (fun k qv w=>k≤t.ops.length∧Sat w0 w [OS tInt 3 qv ((costsT t).take k),RdH fun w=>RCut w ov2 cs2 C2]) (fun k _=>t.ops.length-k) 0 (.slice none 0 0) (fun _ _=>rfl) ⟨rfl,rfl,trivial⟩ ⟨Nat.zero_le _,hw⟩ ?_
 clear hw
 rintro σ k qv w ⟨hk,hw⟩
 have hcl:(costsT t).length=t.ops.length:=qbY t
 have hctl:((costsT t).take k).length=k:=by rw [List.length_take];omega
 repeat (first|refine qac ?_|(refine qaa ?_;clear hw;intro p w hw)|(refine qad ?_;clear hw;intro w hw)|(refine qab ?_;clear hw;intro s w hw))
 refine go_if (fun h2 => ?_) (fun h2 => ?_)
 ·have hkl:k<t.ops.length:=by omega
  have hop:=hd.at_ k hkl
  have hone:=hop.one
  have hco:=hop.cost
  have hcsn:(costsT t).take (k+1)=(costsT t).take k++[(eget tOp vs k).cost]:=by rw [qav tInt.dflt (by omega),qee hkl,hco]
  repeat (first|refine qac ?_|(refine qaa ?_;clear hw;intro p w hw)|(refine qad ?_;clear hw;intro w hw)|(refine qab ?_;clear hw;intro s w hw))
  rw [←hcsn] at hw
  exact⟨k+1,_,⟨rfl,rfl,trivial⟩,agr,⟨by omega,by
   have h1:=hw.tail.tail
   exact h1⟩,by omega⟩
 have hke:k=t.ops.length:=by omega
 rw [hke,List.take_of_length_le (by omega)] at hw
 have hcr:=qjF hg
 repeat (first|refine qac ?_|(refine qaa ?_;clear hw;intro p w hw)|(refine qad ?_;clear hw;intro w hw)|(refine qab ?_;clear hw;intro s w hw))
 refine qag rfl (qhS hk1 hk3 (rsO (s:=qv) hw) (by omega) hcr (hw.rdE 1 rfl:RCut w ov2 cs2 C2)) ?_
 rintro _ w' ⟨rfl,hk'⟩;replace hw:=hw.call0 hk';clear hk';refine⟨_,rfl,?_⟩
 obtain⟨V,hV⟩:∃ V,V=ofV kind (costsT t) C2:=⟨_,rfl⟩
 rw [←hV] at hR ⊢
 generalize hev:errV V.1=ev
 repeat (first|refine qac ?_|(refine qaa ?_;clear hw;intro p w hw)|(refine qad ?_;clear hw;intro w hw)|(refine qab ?_;clear hw;intro s w hw))
 refine qag rfl (hev ▸ qft V.1 5) ?_
 rintro _ w' ⟨rfl,hk'⟩;replace hw:=hw.call0 hk';clear hk';refine⟨_,rfl,?_⟩
 by_cases h5:V.1=5
 ·rw [if_pos h5] at hR
  rw [show decide (V.1≠0∧V.1=5)=true from decide_eq_true ⟨by omega,h5⟩]
  repeat (first|refine qac ?_|(refine qaa ?_;clear hw;intro p w hw)|(refine qad ?_;clear hw;intro w hw)|(refine qab ?_;clear hw;intro s w hw))
  refine qag rfl (qhS (kind:=1) (by decide) (by decide) (rsO (s:=qv) hw) (by omega) hcr (hw.rdE 1 rfl:RCut _ ov2 cs2 C2)) ?_
  rintro _ w' ⟨rfl,hk'⟩;replace hw:=hw.call0 hk';clear hk';refine⟨_,rfl,?_⟩
  rw [←hR]
  by_cases he2:R.1=0
  ·rw [qam he2]
   repeat (first|refine qac ?_|(refine qaa ?_;clear hw;intro p w hw)|(refine qad ?_;clear hw;intro w hw)|(refine qab ?_;clear hw;intro s w hw))
   exact qaw (v:=.int .i64 R.2) (v':=.nilIface) rfl rfl rfl ⟨rfl,qas hw⟩
  ·rw [qaj he2]
   repeat (first|refine qac ?_|(refine qaa ?_;clear hw;intro p w hw)|(refine qad ?_;clear hw;intro w hw)|(refine qab ?_;clear hw;intro s w hw))
   exact qaw (v:=.int .i64 R.2) (v':=.iface 35 (.int .i64 R.1)) rfl rfl rfl ⟨rfl,qas hw⟩
 ·rw [if_neg h5] at hR
  rw [show decide (V.1≠0∧V.1=5)=false from decide_eq_false fun h=>h5 h.2]
  subst hR
  repeat (first|refine qac ?_|(refine qaa ?_;clear hw;intro p w hw)|(refine qad ?_;clear hw;intro w hw)|(refine qab ?_;clear hw;intro s w hw))
  exact qaw (v:=.int .i64 R.2) (v':=ev) rfl rfl rfl ⟨by rw [hev],qas hw⟩
end Go.Proofs.YtdadmnlenbdfbaaGreat
