/-
  Saturated partitions as an estimate: contract of 'estimate.Saturated'; consistent, admissible.
-/
import Derived.Test.YtkmbenhffledpaaGreatWChs
import Derived.Test.YtkmbenhffledpaaGreatWSatNew
import Derived.Test.YtkmbenhffledpaaGreatWSatVal
import Derived.Test.YtkmbenhffledpaaGreatTSatLaw
import Derived.Test.YtkmbenhffledpaaGreatMW6
import Derived.Test.YtkmbenhffledpaaGreatMW13
set_option linter.unusedSimpArgs false
set_option linter.unusedVariables false
namespace Go.Proofs.YtkmbenhffledpaaGreat
open Go.Sl Go
attribute [local irreducible] vc opsW opsD opV opW PureV ReadV Thn Blk
open Classical in
noncomputable def satH (t:TTask) (Ls Ds:List (List Int)) (s:List Int):Int:=if StateOk t.vars s then valPt t Ls Ds s else 0
theorem qgA {t:TTask}{Ls Ds:List (List Int)}{s:List Int}(h:StateOk t.vars s):satH t Ls Ds s=valPt t Ls Ds s:=if_pos h
theorem qiT {t:TTask}{size:Int}{Ds Ps:List (List Int)}(hs:SmallT t) (hR:Run t (chsL t size) (costsT t) Ds Ps):Qtx t (chsL t size) Ds Ps :=
 ⟨hR,hs.good,fun _ hk=>qfz hk,fun _ hk=>Int.le_trans (qkP hs.good.pos (qfz hk)) hs.many,qfy t size⟩
section
variable {t:TTask}{Ls Ds Ps:List (List Int)}
theorem Qtx.hok (h:Qtx t Ls Ds Ps):HOk t (satH t Ls Ds):=by
 have key:∀ s,0≤satH t Ls Ds s∧satH t Ls Ds s≤inf:=fun s=>by
  unfold satH
  split
  ·rename_i hs;exact (h.fin hs).2.2
  ·exact⟨Int.le_refl _,by decide⟩
 exact⟨h.good,fun y=>(key y).1,fun y=>(key y).2⟩
theorem Qtx.cons (h:Qtx t Ls Ds Ps):Cons t (satH t Ls Ds):=fun s op hs ho ha=>by
 have hs2:=qaZ h.good hs ho
 rw [qgA hs,qgA hs2]
 have hc:=qa9 h.good ho
 have h1:=(h.fin hs).2.2.2
 by_cases hf:valPt t Ls Ds (succT t s op)<inf
 ·have:=(h.step hs ho ha hf).2
  rw [qbi ho] at this
  exact this
 ·omega
theorem Qtx.admH (h:Qtx t Ls Ds Ps) {y q:List Int}{d:Int}(hp:Pln t y q d):satH t Ls Ds y<inf∧satH t Ls Ds y≤d:=by
 have e:inf=1125899906842624:=rfl
 have hnn:=hp.nn h.good
 by_cases hy:StateOk t.vars y
 ·rw [qgA hy]
  induction hp with
  | goal hh=>rw [h.goal hy hh];omega
  | @step y op q d ho ha hp ih =>
   have hn2:=hp.nn h.good
   have hs2:=qaZ h.good hy ho
   obtain⟨h1,h2⟩:=ih hn2 hs2
   have h3:=h.step hy ho ha h1
   rw [qbi ho] at h3
   refine⟨h3.1,?_⟩
   have e2:(t.ops.getD op dOp).cost=opC t op:=rfl
   omega
 ·have:satH t Ls Ds y=0:=if_neg hy
  omega
theorem Qtx.smallH (h:Qtx t Ls Ds Ps):∀ y,satH t Ls Ds y<inf→satH t Ls Ds y≤17179869184:=fun y hf=>by
 have hl:=h.len
 by_cases hs:StateOk t.vars y
 ·rw [qgA hs] at hf ⊢
  rw [(h.fin hs).2.1 hf]
  have hk:=(h.fin hs).1.1 hf
  have hb:=qkQ (n:=Ls.length) (f:=svalK t Ls Ds y) (B:=536870912) fun k hk2=>⟨(h.rng hs hk2).1,h.bound hs hk2 (hk k hk2)⟩
  omega
 ·have:satH t Ls Ds y=0:=if_neg hs
  omega
end
theorem qrB {t:TTask}{size:Int}(hs:SmallT t):nErr t (chsL t size)=0:=by
 have hg:=(qbk t).2 hs.good
 have hl:=qfy t size
 unfold nErr
 rw [if_neg (by rw [hg];decide),if_neg (fun⟨i,hi,h⟩=>h (qfz hi).pat),if_neg (by omega)]
theorem qrC {w:World}{t:TTask}{p:Addr}{size:Int}{Ds Ps:List (List Int)}(hs:SmallT t) (h:RPt w p t (chsL t size) Ds Ps) (hR:Run t (chsL t size) (costsT t) Ds Ps):HVal w (.iface 102 (.pointer (some p))) t (satH t (chsL t size) Ds) :=
 ⟨_,_,_,_,rfl,qlv _,inferInstance,fun _ _ _ _ hw hsv hok=>by
  rw [qgA hok]
  exact qlo (h.at hw) hR (qfy t size) (fun _ hi=>qmq hs hi) hsv⟩
set_option maxRecDepth 8000 in
set_option maxHeartbeats 2000000 in
theorem qgW {w0:World}{a b c d:Value}{vs:List OpV}{t:TTask}{size:Int}(ht:RTask w0 a b c d vs t) (hs:SmallT t) :
  Calls Tryz.prog 24 #[.agg #[a,b,c,d],.int .i64 size] w0 fun e w'=>∃ p Ds Ps,e=.returned (.tuple #[.pointer (some p),.nilIface])∧Run t (chsL t size) (costsT t) Ds Ps∧Sat w0 w' [RdH fun w=>REst w p t (satH t (chsL t size) Ds)]:=by
 have hg:=hs.good
 have hw:=Sat.start w0
 refine qab (args:=[.agg #[a,b,c,d],.int .i64 size]) mixed Tryz.func24 rfl (by kernel_rfl) (Nat.le_of_ble_eq_true rfl) ?_
 repeat (first|refine qaa ?_|(refine qaf ?_;clear hw;intro p w hw))
 obtain⟨pt,hpt⟩:∃ pt,pt=p:=⟨p,rfl⟩
 subst hpt
 refine qac rfl (qkm (ht.at hw) hs) ?_
 rintro _ w' ⟨ov,rfl,hk'⟩
 replace hw:=hw.call1 hk'
 clear hk'
 refine⟨_,rfl,?_⟩
 obtain⟨os,hos⟩:=hw.rdE 0 rfl
 repeat refine qaa ?_
 obtain⟨os,hos⟩:=hw.rdE 0 rfl
 refine qac rfl (qrJ (ht.at hw) hos (fun _ _ _ i hi=>qmq hs hi)) ?_
 rintro _ w' (⟨h1,_⟩|⟨_,_,_,_,ps,Ds,Ps,rfl,hR,hk'⟩)
 ·exact absurd (qrB hs) h1
 replace hw:=hw.call1 hk'
 clear hk'
 refine⟨_,rfl,?_⟩
 repeat refine qaa ?_
 refine qac rfl (qdf (h:=.iface 102 (.pointer (some ps))) (H:=satH t (chsL t size) Ds) (ht.at hw) hg ⟨_,_,rfl⟩) ?_
 rintro _ w' ⟨pe,rfl,hk'⟩
 replace hw:=hw.call1 hk'
 clear hk'
 refine⟨_,rfl,?_⟩
 repeat refine qaa ?_
 have hw2:Sat w0 w' (([RdH fun w=>HVal w (.iface 102 (.pointer (some ps))) t (satH t (chsL t size) Ds)→REst w pe t (satH t (chsL t size) Ds),RdH fun w=>RPt w ps t (chsL t size) Ds Ps]:List HP)++[RdH fun w=>∃ ss,RLs w ov ss (chsL t size),Box pt 26 [a,b,c,d]]):=hw
 have hw3:=Sat.rd (φ:=fun w=>REst w pe t (satH t (chsL t size) Ds)) (fun _ w h=>(h.rdE 0 rfl) (qrC hs (h.rdE 1 rfl) hR)) hw2
 exact qav (v:=.pointer (some pe)) (v':=.nilIface) rfl rfl rfl ⟨pe,Ds,Ps,rfl,hR,hw3.only⟩
end Go.Proofs.YtkmbenhffledpaaGreat
