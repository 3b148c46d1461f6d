/-
  The canonical heuristic as an estimate: contract of 'estimate.Patterns'; consistent, admissible.
-/
import Derived.Test.YtggdgcmjcahbbaaGreatDoorMW13
import Derived.Test.YtggdgcmjcahbbaaGreatDoorMW15
import Derived.Test.YtggdgcmjcahbbaaGreatDoorWEst2
import Derived.Test.YtggdgcmjcahbbaaGreatDoorTAstC
set_option linter.unusedSimpArgs false
set_option linter.unusedVariables false
namespace Go.Proofs.YtggdgcmjcahbbaaGreatDoor
open Go.Sl Go
attribute [local irreducible] vc opsW opsD opV opW PureV ReadV Thn Blk
open Classical in
noncomputable def canH (t:TTask) (Ls Ds Cs:List (List Int)) (s:List Int):Int:=if StateOk t.vars s then canV t Ls Ds Cs s else 0
theorem ql6 {t:TTask}{Ls Ds Cs:List (List Int)}{s:List Int}(h:StateOk t.vars s):canH t Ls Ds Cs s=canV t Ls Ds Cs s:=if_pos h
theorem qjG {t:TTask}{size:Int}(hs:SmallT t):lErr t (chsL t size)=0:=by
 unfold lErr
 rw [if_neg (by rw [(qaM t).2 hs.good];decide),if_pos fun i hi=>(qdx hi).pat]
theorem ql7 {t:TTask}{size:Int}(hs:SmallT t):clqErr t (chsL t size)=10∨(clqErr t (chsL t size)=0∧PatsOk t (chsL t size)):=by
 have hl:=qcK t size
 by_cases hf:0<(chsL t size).length∧ClqFull (chsL t size).length (nbA (chsL t size).length (arcP t (chsL t size) (chsL t size).length))
 ·left
  unfold clqErr
  rw [if_neg (by rw [qjG hs];decide),if_neg (by omega),if_pos hf]
 ·right
  refine⟨?_,hs,hl,fun i hi=>qdx hi,fun i hi=>Int.le_trans (qip hs.good.pos (qdx hi)) hs.many,fun h0 hq=>hf ⟨h0,hq⟩⟩
  unfold clqErr
  rw [if_neg (by rw [qjG hs];decide),if_neg (by omega),if_neg hf]
section
variable {t:TTask}{Ls Ds Cs:List (List Int)}
theorem CanOk.uniq {Ds' Cs':List (List Int)}(h:CanOk t Ls Ds Cs) (h':CanOk t Ls Ds' Cs') {s:List Int}(hs:StateOk t.vars s):canV t Ls Ds Cs s=canV t Ls Ds' Cs' s:=by
 obtain⟨C1,h1,h2⟩:=h.can
 obtain⟨C2,h3,h4⟩:=h'.can
 rw [h2,h4]
 exact Int.le_antisymm (h1.le h3 hs id (fun k hk=>hk) (fun j k _ _ e=>e) fun k _=>rfl) (h3.le h1 hs id (fun k hk=>hk) (fun j k _ _ e=>e) fun k _=>rfl)
end
theorem RCan.at {w0 w:World}{Γ:List HP}{p:Addr}{t:TTask}{Ls Ds Cs:List (List Int)}(h:RCan w0 p t Ls Ds Cs) (hw:Sat w0 w Γ):RCan w p t Ls Ds Cs:=by
 obtain⟨vv,dv,cv,qs,fs,h1,h2,h3,h4,h5⟩:=h
 exact⟨vv,dv,cv,qs,fs,h1.at hw,h2.at hw,h3.at hw,h4.at hw,h5.at hw⟩
theorem qfn {w0:World}{p:Addr}{t:TTask}{Ls Ds Cs:List (List Int)}{sv:Value}{s:List Int}(hr:RCan w0 p t Ls Ds Cs) (hC:CanOk t Ls Ds Cs) (hs:RS tInt w0 sv s) (hok:StateOk t.vars s) :
  Calls Tryz.prog 14 #[.pointer (some p),sv] w0 fun e w'=>e=.returned (.int .i64 (canV t Ls Ds Cs s))∧Sat w0 w' []:=by
 rw [←qlq hok]
 exact qiV hr hC.pats.len hC.dl hC.cl hC.ci hC.pats.perr hC.dist hs
theorem qnW {w:World}{t:TTask}{p:Addr}{Ls Ds Cs:List (List Int)}(h:RCan w p t Ls Ds Cs) (hC:CanOk t Ls Ds Cs):HVal w (.iface 37 (.pointer (some p))) t (canH t Ls Ds Cs) :=
 ⟨_,_,_,_,rfl,qjh _,inferInstance,fun _ _ _ _ hw hsv hok=>by
  rw [ql6 hok]
  exact qfn (h.at hw) hC hsv hok⟩
set_option maxRecDepth 8000 in
theorem qh3 {w0:World}{a b c d h v:Value}{T:Nat} :
  Calls Tryz.prog 26 #[.agg #[a,b,c,d],h,.iface T v] w0 fun e w'=>e=.returned (.tuple #[.pointer none,.iface T v])∧Sat w0 w' []:=by
 have hw:=Sat.start w0
 refine qab (args:=[.agg #[a,b,c,d],h,.iface T v]) mixed Tryz.func26 rfl (by kernel_rfl) (Nat.le_of_ble_eq_true rfl) ?_
 repeat (first|refine qaa ?_|(refine qaf ?_;clear hw;intro p w hw))
 exact qaq (v:=.pointer none) (v':=.iface T v) rfl rfl rfl ⟨rfl,qbr hw⟩
set_option maxRecDepth 8000 in
set_option maxHeartbeats 2000000 in
theorem qcN {w0:World}{a b c d:Value}{vs:List OpV}{t:TTask}{size:Int}(ht:RTask w0 a b c d vs t) (hs:SmallT t) (hT:TabB w0) :
  Calls Tryz.prog 7 #[.agg #[a,b,c,d],.int .i64 size] w0 fun e w'=>(clqErr t (chsL t size)=10∧e=.returned (.tuple #[.pointer none,errV 10])∧Sat w0 w' [])∨∃ p Ds Cs,e=.returned (.tuple #[.pointer (some p),.nilIface])∧CanOk t (chsL t size) Ds Cs∧Sat w0 w' [RdH fun w=>REst w p t (canH t (chsL t size) Ds Cs)]:=by
 have hg:=hs.good
 have hw:=Sat.start w0
 refine qab (args:=[.agg #[a,b,c,d],.int .i64 size]) mixed Tryz.func7 rfl (by kernel_rfl) (Nat.le_of_ble_eq_true rfl) ?_
 repeat (first|refine qaa ?_|(refine qaf ?_;clear hw;intro p w hw))
 obtain⟨pt,hpt⟩:∃ pt,pt=p:=⟨p,rfl⟩
 subst hpt
 refine qad rfl (qd2 (ht.at hw) hs) ?_
 rintro _ w' ⟨ov,rfl,hk'⟩
 replace hw:=hw.call1 hk'
 clear hk'
 refine⟨_,rfl,?_⟩
 repeat refine qaa ?_
 obtain⟨os,hos⟩:=hw.rdE 0 rfl
 rcases ql7 (size:=size) hs with hE|⟨hE,hP⟩
 ·refine qad rfl (qdO (ht.at hw) hos (hT.at hw)) ?_
  rintro _ w' (⟨h1,rfl,hk'⟩|⟨h1,_⟩|⟨h1,_⟩)
  rotate_left
  ·omega
  ·omega
  replace hw:=hw.call0 hk'
  clear hk'
  refine⟨_,rfl,?_⟩
  rw [hE,qan (show (10:Int)≠0 by decide)]
  repeat refine qaa ?_
  refine qad rfl qh3 ?_
  rintro _ w' ⟨rfl,hk'⟩
  replace hw:=hw.call0 hk'
  clear hk'
  refine⟨_,rfl,?_⟩
  repeat refine qaa ?_
  exact qaq (v:=.pointer none) (v':=.iface 74 (.int .i64 10)) rfl rfl rfl (.inl ⟨rfl,rfl,qbr hw⟩)
 refine qad rfl (qjl (ht.at hw) hos (hT.at hw) hP) ?_
 rintro _ w' ⟨ps,Ds,Cs,rfl,hC,hk'⟩
 replace hw:=hw.call1 hk'
 clear hk'
 refine⟨_,rfl,?_⟩
 repeat refine qaa ?_
 refine qad rfl (qbW (h:=.iface 37 (.pointer (some ps))) (H:=canH t (chsL t size) Ds Cs) (ht.at hw) hg ⟨_,_,rfl⟩) ?_
 rintro _ w' ⟨pe,rfl,hk'⟩
 replace hw:=hw.call1 hk'
 clear hk'
 refine⟨_,rfl,?_⟩
 repeat refine qaa ?_
 have hw2:Sat w0 w' (([RdH fun w=>HVal w (.iface 37 (.pointer (some ps))) t (canH t (chsL t size) Ds Cs)→REst w pe t (canH t (chsL t size) Ds Cs),RdH fun w=>RCan w ps t (chsL t size) Ds Cs]:List HP)++[RdH fun w=>∃ ss,RLs w ov ss (chsL t size),Box pt 26 [a,b,c,d]]):=hw
 have hw3:=Sat.rd (φ:=fun w=>REst w pe t (canH t (chsL t size) Ds Cs)) (fun _ w h=>(h.rdE 0 rfl) (qnW (h.rdE 1 rfl) hC)) hw2
 exact qaq (v:=.pointer (some pe)) (v':=.nilIface) rfl rfl rfl (.inr ⟨pe,Ds,Cs,rfl,hC,hw3.only⟩)
end Go.Proofs.YtggdgcmjcahbbaaGreatDoor
