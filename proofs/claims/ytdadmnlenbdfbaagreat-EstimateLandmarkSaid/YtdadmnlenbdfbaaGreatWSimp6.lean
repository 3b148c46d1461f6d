/-
  Contracts of simplex's check and of slices.Clone over fractions.
-/
import Derived.Test.YtdadmnlenbdfbaaGreatWSimp4
set_option linter.unusedSimpArgs false
set_option linter.unusedVariables false
namespace Go.Proofs.YtdadmnlenbdfbaaGreat
open Go.Sl Go
attribute [local irreducible] vc opsW opsD opV opW PureV ReadV Thn Blk
set_option maxRecDepth 8000 in
theorem qb7 {w0:World}{a:Value}{xs:List Frc}(ha:RS tFrc w0 a xs) (hn:xs.length≤1099511627776) :
  Calls Tryz.prog 100 #[a] w0 fun e w'=>∃ s,e=.returned s∧Sat w0 w' [OS tFrc 146 s xs]:=by
 have hw:=Sat.start w0
 obtain⟨ad,cap,hs⟩:=ha.shape
 subst hs
 refine qaf (args:=[.slice ad xs.length cap]) mixed Tryz.func100 rfl (by kernel_rfl) (Nat.le_of_ble_eq_true rfl) ?_
 repeat (first|refine qac ?_|(refine qaa ?_;clear hw;intro p w hw)|(refine qad ?_;clear hw;intro w hw)|(refine qab ?_;clear hw;intro s w hw))
 refine qaE rfl (qbw (a:=ad) (n:=xs.length) (c:=cap) rfl) ?_
 cases ad with
 | none =>
  have h0:xs=[]:=by
   rcases Nat.eq_zero_or_pos xs.length with h|h
   ·exact List.eq_nil_of_length_eq_zero h
   ·obtain⟨p,c2,he,_⟩:=ha.some (by decide) h
    cases he
  subst h0
  repeat (first|refine qac ?_|(refine qaa ?_;clear hw;intro p w hw)|(refine qad ?_;clear hw;intro w hw)|(refine qab ?_;clear hw;intro s w hw))
  exact qai (v:=.slice none 0 0) rfl rfl ⟨_,rfl,hw.nil⟩
 | some p =>
  repeat (first|refine qac ?_|(refine qaa ?_;clear hw;intro p w hw)|(refine qad ?_;clear hw;intro w hw)|(refine qab ?_;clear hw;intro s w hw))
  refine qaJ tFrc hw ?_
  clear hw
  intro s1 w hw
  repeat (first|refine qac ?_|(refine qaa ?_;clear hw;intro p w hw)|(refine qad ?_;clear hw;intro w hw)|(refine qab ?_;clear hw;intro s w hw))
  rw [List.nil_append] at hw
  exact qai (v:=s) rfl rfl ⟨_,rfl,hw⟩
structure RMat (w:World) (v:Value) (ss:List Value) (a:List (List Frc)):Prop where
 rs:RS tVal w v ss
 len:ss.length=a.length
 row:∀ i,i<a.length→RS tFrc w (vget ss i) (a.getD i [])
theorem RMat.at {w0 w:World}{Γ:List HP}{v:Value}{ss:List Value}{a:List (List Frc)}(h:RMat w0 v ss a) (hw:Sat w0 w Γ):RMat w v ss a:=⟨h.rs.at hw,h.len,fun i hi=>(h.row i hi).at hw⟩
set_option maxRecDepth 8000 in
set_option maxHeartbeats 4000000 in
theorem qhc {w0:World}{cv av bv:Value}{ss:List Value}{c b:List Frc}{a:List (List Frc)}(h:SimPre c a b) (hc:RS tFrc w0 cv c) (ha:RMat w0 av ss a) (hb:RS tFrc w0 bv b) (hcl:c.length≤24) :
  Calls Tryz.prog 87 #[cv,av,bv] w0 fun e w'=>e=.returned (errV (if 24<a.length then 5 else 0))∧Sat w0 w' []:=by
 have hw:=Sat.start w0
 obtain⟨har,hal,hrow⟩:=ha
 have hab:=h.ab
 have hd1:decide ((24:Int)<(c.length:Int))=false:=decide_eq_false (by omega)
 have hlr:∀ i,i<a.length→(a.getD i []).length=c.length:=fun i hi=>h.ac _ (qan [] hi)
 refine qaf (args:=[cv,av,bv]) mixed Tryz.func87 rfl (by kernel_rfl) (Nat.le_of_ble_eq_true rfl) ?_
 repeat (first|refine qac ?_|(refine qaa ?_;clear hw;intro p w hw)|(refine qae ?_;clear hw;intro w hw)|(refine qab ?_;clear hw;intro s w hw))
 by_cases h5:24<a.length
 ·have hd2:decide ((24:Int)<(ss.length:Int))=true:=decide_eq_true (by omega)
  simp only [hd1,hd2,beq_self_eq_true,qap,qaq,Bool.false_and,Bool.true_and,Bool.and_true,Bool.and_false,Bool.false_or,Bool.true_or,Bool.or_false,Bool.not_true,Bool.not_false,Bool.cond_true,Bool.cond_false,gv_fF,gv_tF]
  repeat (first|refine qac ?_|(refine qaa ?_;clear hw;intro p w hw)|(refine qad ?_;clear hw;intro w hw)|(refine qab ?_;clear hw;intro s w hw))
  rw [if_pos h5]
  exact qai (v:=.iface 35 (.int .i64 5)) rfl rfl ⟨by rw [qaj (by decide)],hw⟩
 have hd2:decide ((24:Int)<(ss.length:Int))=false:=decide_eq_false (by omega)
 have hd3:decide ((24:Int)<(b.length:Int))=false:=decide_eq_false (by omega)
 simp only [hd1,hd2,hd3,beq_self_eq_true,qap,qaq,Bool.false_and,Bool.true_and,Bool.and_true,Bool.and_false,Bool.false_or,Bool.true_or,Bool.or_false,Bool.not_true,Bool.not_false,Bool.cond_true,Bool.cond_false,gv_fF,gv_tF]
 repeat (first|refine qac ?_|(refine qaa ?_;clear hw;intro p w hw)|(refine qad ?_;clear hw;intro w hw)|(refine qab ?_;clear hw;intro s w hw))
 refine go_if (fun q0 => ?_) (fun q0 => ?_)
 ·exact absurd q0 (by omega)
 repeat (first|refine qac ?_|(refine qaa ?_;clear hw;intro p w hw)|(refine qad ?_;clear hw;intro w hw)|(refine qab ?_;clear hw;intro s w hw))
 refine qao [6,8,35,36,37,38,39,40,41,42,43,44,45] (G:=Nat) (fun k=>[(35,.int .i64 k)]) (fun k w=>k≤a.length∧Sat w0 w []) (fun k=>a.length-k) 0 (fun _=>rfl) ⟨rfl,trivial⟩ ⟨Nat.zero_le _,hw⟩ ?_
 clear hw
 rintro σ k w ⟨hk,hw⟩
 repeat (first|refine qac ?_|(refine qaa ?_;clear hw;intro p w hw)|(refine qad ?_;clear hw;intro w hw)|(refine qab ?_;clear hw;intro s w hw))
 refine go_if (fun g1 => ?_) (fun g1 => ?_)
 ·have hka:k<a.length:=by omega
  have hr:=hrow k hka
  have hrl:=hlr k hka
  repeat (first|refine qac ?_|(refine qaa ?_;clear hw;intro p w hw)|(refine qad ?_;clear hw;intro w hw)|(refine qab ?_;clear hw;intro s w hw))
  refine go_if (fun q1 => ?_) (fun q1 => ?_)
  ·exact absurd q1 (by omega)
  repeat (first|refine qac ?_|(refine qaa ?_;clear hw;intro p w hw)|(refine qad ?_;clear hw;intro w hw)|(refine qab ?_;clear hw;intro s w hw))
  exact⟨k+1,⟨rfl,trivial⟩,agr,⟨by omega,hw⟩,by omega⟩
 repeat (first|refine qac ?_|(refine qaa ?_;clear hw;intro p w hw)|(refine qad ?_;clear hw;intro w hw)|(refine qab ?_;clear hw;intro s w hw))
 refine qag rfl (qdo (hc.at hw)) ?_
 rintro _ w' ⟨⟨r,rfl,hr⟩,hk'⟩
 replace hw:=hw.call0 hk'
 clear hk'
 refine⟨_,rfl,?_⟩
 obtain rfl:r=true:=hr.2 h.cp
 repeat (first|refine qac ?_|(refine qaa ?_;clear hw;intro p w hw)|(refine qad ?_;clear hw;intro w hw)|(refine qab ?_;clear hw;intro s w hw))
 refine qag rfl (qdo (hb.at hw)) ?_
 rintro _ w' ⟨⟨r,rfl,hr⟩,hk'⟩
 replace hw:=hw.call0 hk'
 clear hk'
 refine⟨_,rfl,?_⟩
 obtain rfl:r=true:=hr.2 h.bp
 repeat (first|refine qac ?_|(refine qaa ?_;clear hw;intro p w hw)|(refine qad ?_;clear hw;intro w hw)|(refine qab ?_;clear hw;intro s w hw))
 refine qao [6,10,57,58,59,60,61,62,63,64,65] (G:=Nat) (fun k=>[(57,.int .i64 k)]) (fun k w=>k≤a.length∧Sat w0 w []) (fun k=>a.length-k) 0 (fun _=>rfl) ⟨rfl,trivial⟩ ⟨Nat.zero_le _,hw⟩ ?_
 clear hw
 rintro σ k w ⟨hk,hw⟩
 repeat (first|refine qac ?_|(refine qaa ?_;clear hw;intro p w hw)|(refine qad ?_;clear hw;intro w hw)|(refine qab ?_;clear hw;intro s w hw))
 refine go_if (fun g2 => ?_) (fun g2 => ?_)
 ·have hka:k<a.length:=by omega
  have hr2:=hrow k hka
  repeat (first|refine qac ?_|(refine qaa ?_;clear hw;intro p w hw)|(refine qad ?_;clear hw;intro w hw)|(refine qab ?_;clear hw;intro s w hw))
  refine qag rfl (qdo (hr2.at hw)) ?_
  rintro _ w' ⟨⟨r,rfl,hr⟩,hk'⟩
  replace hw:=hw.call0 hk'
  clear hk'
  refine⟨_,rfl,?_⟩
  obtain rfl:r=true:=hr.2 (h.ap _ (qan [] hka))
  repeat (first|refine qac ?_|(refine qaa ?_;clear hw;intro p w hw)|(refine qad ?_;clear hw;intro w hw)|(refine qab ?_;clear hw;intro s w hw))
  exact⟨k+1,⟨rfl,trivial⟩,agr,⟨by omega,hw⟩,by omega⟩
 repeat (first|refine qac ?_|(refine qaa ?_;clear hw;intro p w hw)|(refine qad ?_;clear hw;intro w hw)|(refine qab ?_;clear hw;intro s w hw))
 refine qao [6,12,68,69,70,71,72,73,74,75,76] (G:=Nat) (fun k=>[(68,.int .i64 k)]) (fun k w=>k≤b.length∧Sat w0 w []) (fun k=>b.length-k) 0 (fun _=>rfl) ⟨rfl,trivial⟩ ⟨Nat.zero_le _,hw⟩ ?_
 clear hw
 rintro σ k w ⟨hk,hw⟩
 repeat (first|refine qac ?_|(refine qaa ?_;clear hw;intro p w hw)|(refine qad ?_;clear hw;intro w hw)|(refine qab ?_;clear hw;intro s w hw))
 refine go_if (fun g3 => ?_) (fun g3 => ?_)
 ·have hkb:k<b.length:=by omega
  have hn:=h.bn _ (qan tFrc.dflt hkb)
  repeat (first|refine qac ?_|(refine qaa ?_;clear hw;intro p w hw)|(refine qad ?_;clear hw;intro w hw)|(refine qab ?_;clear hw;intro s w hw))
  refine go_if (fun q2 => ?_) (fun q2 => ?_)
  ·exact absurd q2 (by omega)
  repeat (first|refine qac ?_|(refine qaa ?_;clear hw;intro p w hw)|(refine qad ?_;clear hw;intro w hw)|(refine qab ?_;clear hw;intro s w hw))
  exact⟨k+1,⟨rfl,trivial⟩,agr,⟨by omega,hw.sel⟩,by omega⟩
 repeat (first|refine qac ?_|(refine qaa ?_;clear hw;intro p w hw)|(refine qad ?_;clear hw;intro w hw)|(refine qab ?_;clear hw;intro s w hw))
 exact qai (v:=.nilIface) rfl rfl ⟨by rw [if_neg h5,qam rfl],hw⟩
end Go.Proofs.YtdadmnlenbdfbaaGreat
