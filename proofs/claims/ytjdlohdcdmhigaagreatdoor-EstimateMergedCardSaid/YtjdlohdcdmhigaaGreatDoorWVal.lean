/-
  Contract of transys.Valid.
-/
import Derived.Test.YtjdlohdcdmhigaaGreatDoorWMs4
import Derived.Test.YtjdlohdcdmhigaaGreatDoorMTA
import Derived.Test.YtjdlohdcdmhigaaGreatDoorWMs2
import Derived.Test.YtjdlohdcdmhigaaGreatDoorMW4
set_option linter.unusedSimpArgs false
set_option linter.unusedVariables false
namespace Go.Proofs.YtjdlohdcdmhigaaGreatDoor
open Go.Sl Go
attribute [local irreducible] vc opsW opsD opV opW PureV ReadV Thn Blk
theorem qb5 {S:SysV}(h:¬ValS S):valB S=false:=by unfold valB;simp only [h,decide_false]
theorem qfr {S:SysV}(h:ValS S):valB S=true:=by unfold valB;simp only [h,decide_true]
def EdgI (S:SysV) (i:Nat):Prop:=(0≤(S.edges.getD i tEdg.dflt).src∧(S.edges.getD i tEdg.dflt).src<S.st)∧(0≤(S.edges.getD i tEdg.dflt).dst∧(S.edges.getD i tEdg.dflt).dst<S.st)∧(0≤(S.edges.getD i tEdg.dflt).lab∧(S.edges.getD i tEdg.dflt).lab<S.costs.length)∧(0<i→cmpE (S.edges.getD (i-1) tEdg.dflt) (S.edges.getD i tEdg.dflt)<0)
theorem ValS.edg {S:SysV}(h:ValS S) {i:Nat}(hi:i<S.edges.length):EdgI S i:=by
 obtain⟨_,_,_,_,_,_,_,_,h1,h2⟩:=h
 obtain⟨a,b,c⟩:=h1 _ (qal tEdg.dflt hi)
 exact⟨a,b,c,fun h0=>h2 i h0 hi⟩
set_option maxRecDepth 8000 in
set_option maxHeartbeats 8000000 in
theorem qcd {w0:World}{cv ev gv:Value}{S:SysV}(hS:RSys w0 cv ev gv S) :
  Calls Tryz.prog 86 #[sysV S cv ev gv] w0 fun e w'=>e=.returned (.bool (valB S))∧Sat w0 w' []:=by
 have hcv:=hS.costs
 have hev:=hS.edges
 have hgv:=hS.goals
 have hcb:=hcv.big
 have heb:=hev.big
 have hgb:=hgv.big
 have hw:=Sat.start w0
 refine qaf (args:=[sysV S cv ev gv]) mixed Tryz.func86 rfl (by kernel_rfl) (Nat.le_of_ble_eq_true rfl) ?_
 unfold sysV
 repeat (first|refine qac ?_|(refine qaa ?_;clear hw;intro p w hw)|(refine qae ?_;clear hw;intro w hw)|(refine qab ?_;clear hw;intro s w hw))
 refine go_if (fun h1 => ?_) (fun h1 => ?_)
 ·have hn:¬ValS S:=fun⟨a,b,c,d,e,f,g,_⟩=>by omega
  repeat (first|refine qac ?_|(refine qaa ?_;clear hw;intro p w hw)|(refine qae ?_;clear hw;intro w hw)|(refine qab ?_;clear hw;intro s w hw))
  exact qai (v:=.bool false) rfl rfl ⟨by rw [qb5 hn],hw.sel⟩
 obtain⟨⟨⟨⟨⟨⟨a1,a2⟩,a3⟩,a4⟩,a5⟩,a6⟩,a7⟩:=h1
 repeat (first|refine qac ?_|(refine qaa ?_;clear hw;intro p w hw)|(refine qae ?_;clear hw;intro w hw)|(refine qab ?_;clear hw;intro s w hw))
 have hw:Sat w0 w [Box p 96 [.int .i64 S.st,.int .i64 S.ini,cv,ev,gv]]:=hw
 obtain⟨ps,hps⟩:∃ q,q=p:=⟨p,rfl⟩
 subst hps
 refine qak [2,4,50,51,52,53,54,55,56,57,58,59,60] (G:=Nat) (fun k=>[(50,.int .i64 k),(2,.bool false)]) (fun k w=>k≤S.costs.length∧(∀ i,i<k→0≤S.costs.getD i tInt.dflt∧S.costs.getD i tInt.dflt≤1048576)∧Sat w0 w [Box ps 96 [.int .i64 S.st,.int .i64 S.ini,cv,ev,gv]]) (fun k=>S.costs.length-k) 0 (fun _=>rfl) ⟨rfl,rfl,trivial⟩ ⟨Nat.zero_le _,fun i hi=>absurd hi (Nat.not_lt_zero _),hw⟩ ?_
 clear hw
 rintro σ k w ⟨hk,hcs,hw⟩
 repeat (first|refine qac ?_|(refine qaa ?_;clear hw;intro p w hw)|(refine qae ?_;clear hw;intro w hw)|(refine qab ?_;clear hw;intro s w hw))
 refine go_if (fun h2 => ?_) (fun h2 => ?_)
 ·repeat (first|refine qac ?_|(refine qaa ?_;clear hw;intro p w hw)|(refine qae ?_;clear hw;intro w hw)|(refine qab ?_;clear hw;intro s w hw))
  refine go_if (fun h3 => ?_) (fun h3 => ?_)
  ·have hn:¬ValS S:=fun⟨_,_,_,_,_,_,_,h,_⟩=>by
    have:=h _ (qal tInt.dflt (show k<S.costs.length by omega))
    omega
   repeat (first|refine qac ?_|(refine qaa ?_;clear hw;intro p w hw)|(refine qae ?_;clear hw;intro w hw)|(refine qab ?_;clear hw;intro s w hw))
   exact qai (v:=.bool false) rfl rfl ⟨by rw [qb5 hn],hw.sel⟩
  obtain⟨b1,b2⟩:=h3
  repeat (first|refine qac ?_|(refine qaa ?_;clear hw;intro p w hw)|(refine qae ?_;clear hw;intro w hw)|(refine qab ?_;clear hw;intro s w hw))
  refine⟨k+1,⟨rfl,rfl,trivial⟩,agr,⟨by omega,fun i hi => ?_,hw⟩,by omega⟩
  by_cases e:i=k
  ·subst e;exact⟨b1,b2⟩
  ·exact hcs i (by omega)
 have hcs2:∀ c∈S.costs,0≤c∧c≤1048576:=fun c hc=>by
  obtain⟨i,hi,rfl⟩:=List.getElem_of_mem hc
  have:=hcs i (by omega)
  rwa [getD_at hi] at this
 clear hcs
 repeat (first|refine qac ?_|(refine qaa ?_;clear hw;intro p w hw)|(refine qae ?_;clear hw;intro w hw)|(refine qab ?_;clear hw;intro s w hw))
 refine qak [2,5,6,64,65,66,67,68,69,70,71,72,73,74,75,76,77,78,79,80,81,82,83,84,85,86,87,88,89,90,91,92,93,94,95,96,97,98,99,100,101,102,103,104,105,106,107,108,109,110,111,112,113,114,115,116,117,118,119] (G:=Nat) (fun k=>[(64,.int .i64 k),(2,.bool false)]) (fun k w=>k≤S.edges.length∧(∀ i,i<k→EdgI S i)∧Sat w0 w [Box ps 96 [.int .i64 S.st,.int .i64 S.ini,cv,ev,gv]]) (fun k=>S.edges.length-k) 0 (fun _=>rfl) ⟨rfl,rfl,trivial⟩ ⟨Nat.zero_le _,fun i hi=>absurd hi (Nat.not_lt_zero _),hw⟩ ?_
 clear hw
 rintro σ k w ⟨hk,hes,hw⟩
 repeat (first|refine qac ?_|(refine qaa ?_;clear hw;intro p w hw)|(refine qae ?_;clear hw;intro w hw)|(refine qab ?_;clear hw;intro s w hw))
 refine go_if (fun h4 => ?_) (fun h4 => ?_)
 ·have hkl:k<S.edges.length:=by omega
  obtain⟨a,ha⟩:∃ a,a=S.edges.getD k tEdg.dflt:=⟨_,rfl⟩
  have hEk:EdgI S k↔(0≤a.src∧a.src<S.st)∧(0≤a.dst∧a.dst<S.st)∧(0≤a.lab∧a.lab<S.costs.length)∧(0<k→cmpE (S.edges.getD (k-1) tEdg.dflt) a<0):=by rw [ha];exact Iff.rfl
  repeat (first|refine qac ?_|(refine qaa ?_;clear hw;intro p w hw)|(refine qad ?_;clear hw;intro w hw)|(refine qab ?_;clear hw;intro s w hw))
  have hw:Sat w0 w [Box p 196 [.int .i64 a.src,.int .i64 a.lab,.int .i64 a.dst],Box ps 96 [.int .i64 S.st,.int .i64 S.ini,cv,ev,gv]]:=by rw [ha];exact hw
  refine qbA ?_;clear hw;intro w hw
  repeat (first|refine qac ?_|(refine qaa ?_;clear hw;intro p w hw)|(refine qad ?_;clear hw;intro w hw)|(refine qab ?_;clear hw;intro s w hw))
  by_cases hch:(decide (a.src<0) || decide (S.st≤a.src) || decide (a.dst<0) || decide (S.st≤a.dst) || decide (a.lab<0) || decide ((S.costs.length:Int)≤a.lab))=true
  ·have hn:¬ValS S:=fun h=>by
    have:=(hEk.1 (h.edg hkl))
    simp only [Bool.or_eq_true,decide_eq_true_eq] at hch
    omega
   simp only [hch,beq_self_eq_true,qaX,qaY,Bool.false_and,Bool.true_and,Bool.false_or,Bool.true_or,Bool.not_true,Bool.not_false,Bool.cond_true,Bool.cond_false,gv_fI,gv_tI]
   repeat (first|refine qac ?_|(refine qaa ?_;clear hw;intro p w hw)|(refine qae ?_;clear hw;intro w hw)|(refine qab ?_;clear hw;intro s w hw))
   exact qai (v:=.bool false) rfl rfl ⟨by rw [qb5 hn],hw.sel⟩
  ·rw [Bool.not_eq_true] at hch
   simp only [hch,beq_self_eq_true,qaX,qaY,Bool.false_and,Bool.true_and,Bool.false_or,Bool.true_or,Bool.not_true,Bool.not_false,Bool.cond_true,Bool.cond_false,gv_fI,gv_tI]
   simp only [Bool.or_eq_false_iff,decide_eq_false_iff_not] at hch
   repeat (first|refine qac ?_|(refine qaa ?_;clear hw;intro p w hw)|(refine qad ?_;clear hw;intro w hw)|(refine qab ?_;clear hw;intro s w hw))
   by_cases hk0:0<k
   ·have hd:decide ((0:Int)<(k:Int))=true:=decide_eq_true (by omega)
    simp only [hd,beq_self_eq_true,qaX,qaY,Bool.false_and,Bool.true_and,Bool.false_or,Bool.true_or,Bool.not_true,Bool.not_false,Bool.cond_true,Bool.cond_false,gv_fI,gv_tI]
    repeat (first|refine qac ?_|(refine qaa ?_;clear hw;intro p w hw)|(refine qad ?_;clear hw;intro w hw)|(refine qab ?_;clear hw;intro s w hw))
    refine qah rfl (qhg (S.edges.getD ((k:Int)-1).toNat tEdg.dflt) a) ?_
    rintro _ w' ⟨rfl,q,os,rfl⟩
    refine⟨_,rfl,?_⟩
    replace hw:=(hw.ahead q).grow os
    have e1:((k:Int)-1).toNat=k-1:=by omega
    rw [e1]
    obtain⟨c,hc⟩:∃ c,c=cmpE (S.edges.getD (k-1) tEdg.dflt) a:=⟨_,rfl⟩
    rw [←hc] at hEk ⊢
    clear hc
    repeat (first|refine qac ?_|(refine qaa ?_;clear hw;intro p w hw)|(refine qad ?_;clear hw;intro w hw)|(refine qab ?_;clear hw;intro s w hw))
    refine go_if (fun h5 => ?_) (fun h5 => ?_)
    ·have hn:¬ValS S:=fun h=>by
      have:=(hEk.1 (h.edg hkl)).2.2.2 hk0
      omega
     repeat (first|refine qac ?_|(refine qaa ?_;clear hw;intro p w hw)|(refine qae ?_;clear hw;intro w hw)|(refine qab ?_;clear hw;intro s w hw))
     exact qai (v:=.bool false) rfl rfl ⟨by rw [qb5 hn],hw.sel⟩
    ·repeat (first|refine qac ?_|(refine qaa ?_;clear hw;intro p w hw)|(refine qae ?_;clear hw;intro w hw)|(refine qab ?_;clear hw;intro s w hw))
     refine⟨k+1,⟨rfl,rfl,trivial⟩,agr,⟨by omega,fun i hi => ?_,hw.sel⟩,by omega⟩
     by_cases e:i=k
     ·subst e;exact hEk.2 ⟨by omega,by omega,by omega,fun _=>by omega⟩
     ·exact hes i (by omega)
   ·have hd:decide ((0:Int)<(k:Int))=false:=decide_eq_false (by omega)
    simp only [hd,beq_self_eq_true,qaX,qaY,Bool.false_and,Bool.true_and,Bool.false_or,Bool.true_or,Bool.not_true,Bool.not_false,Bool.cond_true,Bool.cond_false,gv_fI,gv_tI]
    repeat (first|refine qac ?_|(refine qaa ?_;clear hw;intro p w hw)|(refine qae ?_;clear hw;intro w hw)|(refine qab ?_;clear hw;intro s w hw))
    refine⟨k+1,⟨rfl,rfl,trivial⟩,agr,⟨by omega,fun i hi => ?_,hw.sel⟩,by omega⟩
    by_cases e:i=k
    ·subst e;exact hEk.2 ⟨by omega,by omega,by omega,fun h=>absurd h hk0⟩
    ·exact hes i (by omega)
 repeat (first|refine qac ?_|(refine qaa ?_;clear hw;intro p w hw)|(refine qae ?_;clear hw;intro w hw)|(refine qab ?_;clear hw;intro s w hw))
 refine qai (v:=.bool true) rfl rfl ⟨?_,hw.sel⟩
 rw [qfr ⟨a1,a2,a3,a4,a5,by omega,by omega,hcs2,fun e he => ?_,fun i h0 hi=>(hes i (by omega)).2.2.2 h0⟩]
 obtain⟨i,hi,rfl⟩:=List.getElem_of_mem he
 have:=hes i (by omega)
 unfold EdgI at this
 rw [getD_at hi] at this
 exact⟨this.1,this.2.1,this.2.2.1⟩
end Go.Proofs.YtjdlohdcdmhigaaGreatDoor
