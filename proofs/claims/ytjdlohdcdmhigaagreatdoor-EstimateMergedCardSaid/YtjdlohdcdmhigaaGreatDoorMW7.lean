/-
  Several texts as one: WProject, WSys, WDist, TProjD.
-/
import Derived.Test.YtjdlohdcdmhigaaGreatDoorMW6
import Derived.Test.YtjdlohdcdmhigaaGreatDoorMTA
import Derived.Test.YtjdlohdcdmhigaaGreatDoorMSlB
import Derived.Test.YtjdlohdcdmhigaaGreatDoorMW2
set_option linter.unusedSimpArgs false
set_option linter.unusedVariables false
/-
  Contract of 'project.Project'.
-/
namespace Go.Proofs.YtjdlohdcdmhigaaGreatDoor
open Go.Sl Go
attribute [local irreducible] vc opsW opsD opV opW PureV ReadV Thn Blk
noncomputable def pErr (t:TTask) (p:List Int):Int:=if chkP t p≠0 then chkP t p else pErr0 t p
theorem qkj {t:TTask}{p:List Int}:chkP t p=0↔GoodT t∧PatOk t.vars p:=by
 rw [←qcW]
 unfold chkP
 by_cases h:checkT t=0
 ·rw [if_neg (by simp [h])]
  by_cases h2:PatOk t.vars p
  ·rw [if_pos h2];exact⟨fun _=>⟨h,h2⟩,fun _=>rfl⟩
  ·rw [if_neg h2];exact⟨(fun e=>by cases e),fun e=>absurd e.2 h2⟩
 ·rw [if_pos h];exact⟨fun e=>absurd e h,fun e=>absurd e.1 h⟩
theorem qnF {t:TTask}{p:List Int}(h:chkP t p=0):pErr t p=pErr0 t p:=by rw [pErr,if_neg (by simp [h])]
noncomputable def frI (t:TTask) (L:List Int) (i:Nat):List (List Int):=(List.range t.ops.length).map fun op=>if op<i then frL t L op else []
theorem qee (t:TTask) (L:List Int) (i:Nat):(frI t L i).length=t.ops.length:=by simp [frI]
theorem qma (t:TTask) (L:List Int):frI t L 0=List.replicate t.ops.length []:=by
 apply List.ext_getElem (by simp [frI])
 intro i h1 h2;simp [frI]
theorem qm8 {t:TTask}{L:List Int}{i j:Nat}(hj:j<i) (hj2:j<t.ops.length):(frI t L i).getD j []=frL t L j:=by simp [frI,List.getD,hj,hj2]
theorem qmb {t:TTask}{L:List Int}{i:Nat}(hi:i<t.ops.length):(frI t L i).set i (frL t L i)=frI t L (i+1):=by
 apply List.ext_getElem (by simp [frI])
 intro j h1 h2
 rw [List.getElem_set]
 simp only [frI,List.getElem_map,List.getElem_range]
 split
 ·rename_i e;subst e;rw [if_pos (by omega)]
 ·by_cases h:j<i
  ·rw [if_pos h,if_pos (by omega)]
  ·rw [if_neg h,if_neg (by omega)]
theorem qbb {w0 w:World}{Γ:List HP}(hw:Sat w0 w Γ):Sat w0 w []:=⟨hw.below,trivial⟩
theorem sat3 {w0 w:World}{A B C:HP}{Γ:List HP}(h:Sat w0 w (A::B::C::Γ)):Sat w0 w [A,B,C]:=h.tailMono fun _ h=>SatL.cons_mono (fun _ h=>h) (fun _ h=>SatL.cons_mono (fun _ h=>h) (fun _ _=>trivial) h) h
def SysAt (w0 w:World) (cv ev gv:Value) (S:SysV):Prop:=Sat w0 w [OS tInt 3 cv S.costs,OS tEdg 196 ev S.edges,OS tBool 4 gv S.goals]
theorem qaO {w0 w:World}{Γ:List HP}(hw:Sat w0 w Γ):SysAt w0 w (.slice none 0 0) (.slice none 0 0) (.slice none 0 0) sysNo:=(qbb hw).nil.nil.nil
def sysV (S:SysV) (cv ev gv:Value):Value:=.agg #[.int .i64 S.st,.int .i64 S.ini,cv,ev,gv]
set_option maxRecDepth 8000 in
set_option maxHeartbeats 4000000 in
theorem qdN {w0:World}{a b c d vp:Value}{vs:List OpV}{t:TTask}{L:List Int}(ht:RTask w0 a b c d vs t) (hp:RS tInt w0 vp L) :
  Calls Tryz.prog 81 #[.agg #[a,b,c,d],vp] w0 fun e w'=>∃ cv ev gv,e=.returned (.tuple #[sysV (sysE t L (pErr t L)) cv ev gv,errV (pErr t L)])∧SysAt w0 w' cv ev gv (sysE t L (pErr t L)):=by
 have ht':=ht
 obtain⟨ha,hb,hc,hd⟩:=ht
 have hrs:=hd.rs
 have hdl:=hd.len
 have hla:=ha.big
 have hll:=hrs.big
 have hcb:=hc.big
 have hw:=Sat.start w0
 refine qaf (args:=[.agg #[a,b,c,d],vp]) mixed Tryz.func81 rfl (by kernel_rfl) (Nat.le_of_ble_eq_true rfl) ?_
 refine qbU ?_
 refine qaF ?_
 refine qdI ?_
 clear hw
 intro pt w hw
 refine qd3 ?_
 clear hw
 intro pr w hw
 repeat (first|refine qac ?_|(refine qaa ?_;clear hw;intro p w hw)|(refine qae ?_;clear hw;intro w hw)|(refine qab ?_;clear hw;intro s w hw))
 refine qah rfl (qil (ht'.at hw) (hp.at hw)) ?_
 rintro _ w' ⟨rfl,hk'⟩
 replace hw:=hw.call0 hk'
 clear hk'
 refine⟨_,rfl,?_⟩
 by_cases hk:chkP t L=0
 ·rw [qas hk]
  obtain⟨hg,hpo⟩:=qkj.1 hk
  have hL:=hpo.inV
  rw [qnF hk]
  have hvl:=hg.vars
  have hol:=hg.ops
  repeat (first|refine qac ?_|(refine qaa ?_;clear hw;intro p w hw)|(refine qae ?_;clear hw;intro w hw)|(refine qab ?_;clear hw;intro s w hw))
  refine qah rfl (qdC (ht'.at hw) (hp.at hw) hg hL.mem) ?_
  rintro _ w' ⟨rfl,hk'⟩
  replace hw:=hw.call0 hk'
  clear hk'
  by_cases hB:cntL t.vars L≤4096
  ·rw [if_pos hB]
   refine⟨_,rfl,?_⟩
   repeat (first|refine qac ?_|(refine qaa ?_;clear hw;intro p w hw)|(refine qae ?_;clear hw;intro w hw)|(refine qab ?_;clear hw;intro s w hw))
   refine qah rfl (qe1 (s:=t.init) (ht'.at hw) (hp.at hw) (hb.at hw) hg hL.mem hg.init (by omega)) ?_
   rintro _ w' ⟨rfl,hk'⟩
   replace hw:=hw.call0 hk'
   clear hk'
   refine⟨_,rfl,?_⟩
   repeat (first|refine qac ?_|(refine qaa ?_;clear hw;intro p w hw)|(refine qae ?_;clear hw;intro w hw)|(refine qab ?_;clear hw;intro s w hw))
   obtain⟨px,hpx⟩:∃ px,px=p:=⟨p,rfl⟩
   subst hpx
   obtain⟨fv,hfv⟩:∃ fv,fv=s:=⟨s,rfl⟩
   subst hfv
   rw [hdl] at hw
   have hw1:=(hw.rowsNil (T:=tInt) (e:=3) t.ops.length).nil (T:=tInt) (e:=3)
   rw [←qma t L] at hw1
   clear hw
   refine qbf [5,11,12,13,14,54,55,56,57,58,59,60,61,62,63,64,65,66,67,68,69,70,71,72,73,74,75,76,77,78,79,80,81,82,83,84,85] (G:=Nat) (H:=Value) (I:=List Value) (fun i _ _=>[(54,.int .i64 i)]) (fun i cv fs w=>i≤t.ops.length∧(∀ op,op<i→cntL t.vars (frL t L op)≤4096)∧Sat w0 w [OS tInt 3 cv ((costsT t).take i),RowsAt tInt 3 fs (frI t L i),OS tVal 22 fv fs,Box px 96 [.int .i64 (cntL t.vars L),.int .i64 (idxL t.vars L t.init),cv,.slice none 0 0,.slice none 0 0],Box pr 96 [.int .i64 0,.int .i64 0,.slice none 0 0,.slice none 0 0,.slice none 0 0],Box pt 26 [a,b,c,d]]) (fun i _ _=>t.ops.length-i) 0 (.slice none 0 0) (List.replicate t.ops.length (.slice none 0 0)) (fun _ _ _=>rfl) ⟨rfl,trivial⟩ ⟨Nat.zero_le _,fun op h=>absurd h (Nat.not_lt_zero _),hw1⟩ ?_
   clear hw1
   rintro σ i cv fs w ⟨hi,hfr,hw⟩
   repeat (first|refine qac ?_|(refine qaa ?_;clear hw;intro p w hw)|(refine qae ?_;clear hw;intro w hw)|(refine qab ?_;clear hw;intro s w hw))
   refine go_if (fun h1 => ?_) (fun h1 => ?_)
   ·have hil:i<t.ops.length:=by omega
    have hop:=hd.at_ i hil
    have hone:=hop.one
    have hco:=hop.cost
    have hfs:fs.length=t.ops.length:=by have:=(hw.focus 1 rfl).rowsLen;rw [qee] at this;exact this
    have hct:((costsT t).take i).length≤4096:=by simp [costsT];omega
    repeat (first|refine qac ?_|(refine qaa ?_;clear hw;intro p w hw)|(refine qae ?_;clear hw;intro w hw)|(refine qab ?_;clear hw;intro s w hw))
    refine qah rfl (qhe (vars:=t.vars) (L:=L) (hop.at hw) (hp.at hw) (hg.op i hil) hvl) ?_
    rintro _ w' ⟨sf,rfl,hk'⟩
    replace hw:=hw.call1 hk'
    clear hk'
    refine⟨_,rfl,?_⟩
    have hfs2:(fs.set i sf).length=t.ops.length:=by simp [hfs]
    repeat (first|refine qac ?_|(refine qaa ?_;clear hw;intro p w hw)|(refine qae ?_;clear hw;intro w hw)|(refine qab ?_;clear hw;intro s w hw))
    have hw2:=(((hw.focus 4 rfl).swap.rowNew (by rw [qee];exact hil)).swap.tail.swap.tail).swap
    rw [show freeL t.vars (t.ops.getD i dOp) L=frL t L i from rfl,qmb hil] at hw2
    have hrow:=(hw2.swap).row (i:=i) (by rw [qee];exact hil)
    rw [qm8 (Nat.lt_succ_self i) hil] at hrow
    clear hw
    have hw:Sat w0 w [OS tInt 3 s ((costsT t).take i++[(eget tOp vs i).cost]),RowsAt tInt 3 (fs.set i sf) (frI t L (i+1)),OS tVal 22 fv (fs.set i sf),Box px 96 [.int .i64 (cntL t.vars L),.int .i64 (idxL t.vars L t.init),s,.slice none 0 0,.slice none 0 0],Box pr 96 [.int .i64 0,.int .i64 0,.slice none 0 0,.slice none 0 0,.slice none 0 0],Box pt 26 [a,b,c,d]]:=hw2
    clear hw2
    have hcs:(costsT t).take i++[(eget tOp vs i).cost]=(costsT t).take (i+1):=by
     rw [qaj tInt.dflt (show i<(costsT t).length by simp [costsT];exact hil),qkJ hil,hco]
    rw [hcs] at hw
    refine qah rfl (qdC (ht'.at hw) hrow hg (qc2 _ _ _).mem) ?_
    rintro _ w' ⟨rfl,hk'⟩
    replace hw:=hw.call0 hk'
    clear hk'
    by_cases hB3:cntL t.vars (frL t L i)≤4096
    ·rw [if_pos hB3]
     refine⟨_,rfl,?_⟩
     repeat (first|refine qac ?_|(refine qaa ?_;clear hw;intro p w hw)|(refine qae ?_;clear hw;intro w hw)|(refine qab ?_;clear hw;intro s w hw))
     refine⟨i+1,_,_,⟨rfl,trivial⟩,agr,⟨by omega,fun op h => ?_,hw⟩,by omega⟩
     by_cases e:op=i
     ·subst e;exact hB3
     ·exact hfr op (by omega)
    ·rw [if_neg hB3]
     refine⟨_,rfl,?_⟩
     repeat (first|refine qac ?_|(refine qaa ?_;clear hw;intro p w hw)|(refine qae ?_;clear hw;intro w hw)|(refine qab ?_;clear hw;intro s w hw))
     refine qap (parts:=[]) (vs:=[]) rfl rfl rfl ?_
     repeat (first|refine qac ?_|(refine qaa ?_;clear hw;intro p w hw)|(refine qae ?_;clear hw;intro w hw)|(refine qab ?_;clear hw;intro s w hw))
     have he:pErr0 t L=5:=by rw [pErr0,if_neg (by omega),if_pos ⟨i,hil,by omega⟩]
     rw [he]
     exact qar (p:=pr) (vs:=[.int .i64 0,.int .i64 0,.slice none 0 0,.slice none 0 0,.slice none 0 0]) rfl rfl (v':=errV 5) (by rw [qan (by decide)];rfl) rfl (fun j v hv=>qau (i:=4) hw rfl hv) ⟨_,_,_,rfl,qaO hw⟩
   ·have hie:i=t.ops.length:=by omega
    subst hie
    rw [List.take_of_length_le (by simp [costsT])] at hw
    have hnb:¬BigFree t L:=fun⟨op,h,h2⟩=>by have:=hfr op h;omega
    have hfs:fs.length=t.ops.length:=by have:=(hw.focus 1 rfl).rowsLen;rw [qee] at this;exact this
    have hN1:=qfJ hg.pos hL.mem
    obtain⟨N,hN⟩:∃ N,N=cntL t.vars L:=⟨_,rfl⟩
    repeat (first|refine qac ?_|(refine qaa ?_;clear hw;intro p w hw)|(refine qae ?_;clear hw;intro w hw)|(refine qab ?_;clear hw;intro s w hw))
    obtain⟨sv,hsv⟩:∃ sv,sv=s:=⟨s,rfl⟩
    subst hsv
    have hw1:Sat w0 w [OS tInt 3 sv (zerosL t.vars.length),OS tBool 4 (.slice none 0 0) (goalsK t L 0),OS tEdg 196 (.slice none 0 0) (edgA t L 0),OS tInt 3 cv (costsT t),RowsAt tInt 3 fs (frI t L t.ops.length),OS tVal 22 fv fs,Box px 96 [.int .i64 (cntL t.vars L),.int .i64 (idxL t.vars L t.init),cv,(.slice none 0 0),(.slice none 0 0)],Box pr 96 [.int .i64 0,.int .i64 0,.slice none 0 0,.slice none 0 0,.slice none 0 0],Box pt 26 [a,b,c,d]]:=(hw.nil (T:=tEdg) (e:=196)).nil (T:=tBool) (e:=4) |>.focus 2 rfl
    clear hw
    refine qf5 [5,16,17,19,20,22,91,92,93,94,95,96,97,98,99,100,101,102,103,104,105,106,107,108,109,110,111,112,113,114,115,116,117,118,119,120,121,122,123,124,125,126,127,128,129,130,131,132,133,134,135,136,137,138,139,140,141,142,143,144,145,146,147,148,149,150,151,152,153,154,155,156,157,158,159,160,161,162,163,164,165,166,167,168] (G:=Nat) (H:=Value) (I:=Value) (M:=List Int) (fun k _ _ _=>[(91,.int .i64 k)]) (fun k ev gv S w=>(k:Int)≤cntL t.vars L∧(edgA t L k).length≤65536∧StateOk t.vars S∧Sat w0 w [OS tInt 3 sv S,OS tBool 4 gv (goalsK t L k),OS tEdg 196 ev (edgA t L k),OS tInt 3 cv (costsT t),RowsAt tInt 3 fs (frI t L t.ops.length),OS tVal 22 fv fs,Box px 96 [.int .i64 (cntL t.vars L),.int .i64 (idxL t.vars L t.init),cv,ev,gv],Box pr 96 [.int .i64 0,.int .i64 0,.slice none 0 0,.slice none 0 0,.slice none 0 0],Box pt 26 [a,b,c,d]]) (fun k _ _ _=>(cntL t.vars L).toNat-k) 0 (.slice none 0 0) (.slice none 0 0) (zerosL t.vars.length) (fun _ _ _ _=>rfl) ⟨rfl,trivial⟩ ⟨by omega,by rw [qkD];exact Nat.zero_le _,qi3 hg.pos,hw1⟩ ?_
    clear hw1
    rintro σ1 k ev gv S w ⟨hkN,hel,hS,hw⟩
    repeat (first|refine qac ?_|(refine qaa ?_;clear hw;intro p w hw)|(refine qae ?_;clear hw;intro w hw)|(refine qab ?_;clear hw;intro s w hw))
    refine go_if (fun h2 => ?_) (fun h2 => ?_)
    ·have hk0:(0:Int)≤k:=by omega
     have hq:=qcc (s:=S) hg.pos hL hS.1 hk0 h2
     have hSo:=qfK (s:=S) hg.pos hL hk0 h2 hS.1 fun v hv hv' _=>hS.rng hv hv'
     repeat (first|refine qac ?_|(refine qaa ?_;clear hw;intro p w hw)|(refine qae ?_;clear hw;intro w hw)|(refine qab ?_;clear hw;intro s w hw))
     refine qah rfl (qgd (s:=sv) (L:=L) (st:=S) ht' hp hw hg.pos hL.mem hS.1 hk0 (by omega)) ?_
     clear hw
     rintro _ w ⟨rfl,hw⟩
     refine⟨_,rfl,?_⟩
     obtain⟨S',hS'⟩:∃ S',S'=putS t.vars L S k:=⟨_,rfl⟩
     rw [←hS'] at hw hSo hq
     have hgp:=qmo hg hL hSo hq.1
     have hSl:=hSo.1
     clear hS hq
     repeat (first|refine qac ?_|(refine qaa ?_;clear hw;intro p w hw)|(refine qae ?_;clear hw;intro w hw)|(refine qab ?_;clear hw;intro s w hw))
     refine qaq [17,19,102,103,104,105,106,107,108,109,110,111,112,113,114,115,116,117,118,119,120,121,122,123,124] (G:=Nat) (H:=Bool) (fun j g=>[(102,.int .i64 j),(17,.bool g)]) (fun j g w=>j≤t.goal.length∧(g=true↔GoalF L S' (t.goal.take j))∧Sat w0 w [OS tInt 3 sv S',OS tBool 4 gv (goalsK t L k),OS tEdg 196 ev (edgA t L k),OS tInt 3 cv (costsT t),RowsAt tInt 3 fs (frI t L t.ops.length),OS tVal 22 fv fs,Box px 96 [.int .i64 (cntL t.vars L),.int .i64 (idxL t.vars L t.init),cv,ev,gv],Box pr 96 [.int .i64 0,.int .i64 0,.slice none 0 0,.slice none 0 0,.slice none 0 0],Box pt 26 [a,b,c,d]]) (fun j _=>t.goal.length-j) 0 true (fun _ _=>rfl) ⟨rfl,rfl,trivial⟩ ⟨Nat.zero_le _,⟨fun _ x hx=>by simp at hx,fun _=>rfl⟩,hw⟩ ?_
     clear hw
     rintro σ2 j g w ⟨hj,hgl,hw⟩
     repeat (first|refine qac ?_|(refine qaa ?_;clear hw;intro p w hw)|(refine qae ?_;clear hw;intro w hw)|(refine qab ?_;clear hw;intro s w hw))
     refine go_if (fun h3 => ?_) (fun h3 => ?_)
     ·have hjl:j<t.goal.length:=by omega
      obtain⟨f1,f2,f3,f4⟩:=qbG hg.goal _ (qal tFact.dflt hjl)
      have hsn:GoalF L S' (t.goal.take (j+1))↔GoalF L S' (t.goal.take j)∧((t.goal.getD j tFact.dflt).var∈L→sg S' (t.goal.getD j tFact.dflt).var=(t.goal.getD j tFact.dflt).val):=by
       rw [qaj tFact.dflt hjl]
       unfold GoalF
       constructor
       ·exact fun h=>⟨fun x hx=>h x (by simp [hx]),h _ (by simp)⟩
       ·rintro⟨h,h'⟩ x hx
        rcases List.mem_append.1 hx with hx|hx
        ·exact h x hx
        ·rw [List.mem_singleton.1 hx];exact h'
      cases g with
      | false =>
       repeat (first|refine qac ?_|(refine qaa ?_;clear hw;intro p w hw)|(refine qae ?_;clear hw;intro w hw)|(refine qab ?_;clear hw;intro s w hw))
       exact⟨j+1,false,⟨rfl,rfl,trivial⟩,agr,⟨by omega,iffF (fun h=>by have:=hgl.2 (hsn.1 h).1;cases this),hw.tail⟩,by omega⟩
      | true =>
       have hgt:=hgl.1 rfl
       repeat (first|refine qac ?_|(refine qaa ?_;clear hw;intro p w hw)|(refine qae ?_;clear hw;intro w hw)|(refine qab ?_;clear hw;intro s w hw))
       refine qah rfl (qaI (hp.at hw)) ?_
       rintro _ w' ⟨rfl,hk'⟩
       replace hw:=hw.call0 hk'
       clear hk'
       by_cases hm:(t.goal.getD j tFact.dflt).var∈L
       ·rw [decide_eq_true hm]
        refine⟨_,rfl,?_⟩
        repeat (first|refine qac ?_|(refine qaa ?_;clear hw;intro p w hw)|(refine qae ?_;clear hw;intro w hw)|(refine qab ?_;clear hw;intro s w hw))
        refine⟨j+1,_,⟨rfl,rfl,trivial⟩,agr,⟨by omega,?_,hw.tail⟩,by omega⟩
        rw [decide_eq_true_eq,hsn]
        exact⟨fun h=>⟨hgt,fun _=>h⟩,fun h=>h.2 hm⟩
       ·rw [decide_eq_false hm]
        refine⟨_,rfl,?_⟩
        repeat (first|refine qac ?_|(refine qaa ?_;clear hw;intro p w hw)|(refine qae ?_;clear hw;intro w hw)|(refine qab ?_;clear hw;intro s w hw))
        exact⟨j+1,true,⟨rfl,rfl,trivial⟩,agr,⟨by omega,iffT (hsn.2 ⟨hgt,fun h=>absurd h hm⟩),hw.tail⟩,by omega⟩
     ·rw [List.take_of_length_le (by omega),hgp,←qkI] at hgl
      have hgb:g=goalB t L k:=Bool.eq_iff_iff.2 hgl
      have hgkl:=qjn t L k
      subst hgb
      repeat (first|refine qac ?_|(refine qaa ?_;clear hw;intro p w hw)|(refine qae ?_;clear hw;intro w hw)|(refine qcq ?_;clear hw;intro s w hw))
      refine qam tBool (x1:=goalB t L k) rfl rfl rfl (Nat.le_of_ble_eq_true rfl) (Nat.zero_lt_succ _) hw ?_
      clear hw
      intro s2 w hw
      repeat (first|refine qac ?_|(refine qaa ?_;clear hw;intro p w hw)|(refine qae ?_;clear hw;intro w hw)|(refine qab ?_;clear hw;intro s w hw))
      obtain⟨gw,hgw⟩:∃ gw,gw=s:=⟨s,rfl⟩
      subst hgw
      rw [←qhx] at hw
      refine qaq [5,20,22,134,135,136,137,138,139,140,141,142,143,144,145,146,147,148,149,150,151,152,153,154,155,156,157,158,159,160,161,162,163,164,165,166,167] (G:=Nat) (H:=Value) (fun j _=>[(134,.int .i64 j)]) (fun j ev w=>j≤t.ops.length∧(edgA t L k++edgO t L k j).length≤65536∧Sat w0 w [OS tInt 3 sv S',OS tBool 4 gw (goalsK t L (k+1)),OS tEdg 196 ev (edgA t L k++edgO t L k j),OS tInt 3 cv (costsT t),RowsAt tInt 3 fs (frI t L t.ops.length),OS tVal 22 fv fs,Box px 96 [.int .i64 (cntL t.vars L),.int .i64 (idxL t.vars L t.init),cv,ev,gw],Box pr 96 [.int .i64 0,.int .i64 0,.slice none 0 0,.slice none 0 0,.slice none 0 0],Box pt 26 [a,b,c,d]]) (fun j _=>t.ops.length-j) 0 ev (fun _ _=>rfl) ⟨rfl,trivial⟩ ⟨Nat.zero_le _,by rw [qgy,List.append_nil];exact hel,by rw [qgy,List.append_nil];exact hw.tail⟩ ?_
      clear hw
      rintro σ3 j ev w ⟨hj,hel2,hw⟩
      repeat (first|refine qac ?_|(refine qaa ?_;clear hw;intro p w hw)|(refine qae ?_;clear hw;intro w hw)|(refine qab ?_;clear hw;intro s w hw))
      refine go_if (fun h4 => ?_) (fun h4 => ?_)
      ·have hjl:j<t.ops.length:=by omega
       have hfrj:=hfr j hjl
       repeat (first|refine qac ?_|(refine qaa ?_;clear hw;intro p w hw)|(refine qae ?_;clear hw;intro w hw)|(refine qab ?_;clear hw;intro s w hw))
       have hrow:=(hw.focus 4 rfl).row (i:=j) (by rw [qee];exact hjl)
       rw [qm8 hjl hjl] at hrow
       refine qah rfl (qhi (op:=j) (fro:=k) (ht'.at hw) (hp.at hw) hrow hg hL hjl hk0 h2 hB hfrj) ?_
       rintro _ w' ⟨tv,rfl,hk'⟩
       replace hw:=hw.call1 hk'
       clear hk'
       have htl:=qkC (cntL t.vars L) (TGp t L k j)
       have hlim:=qkH h2 hjl
       rw [show pickL (cntL t.vars L) (TGp t L k j)=tgtL t L k j from rfl] at htl
       obtain⟨tg,htg⟩:∃ tg,tg=tgtL t L k j:=⟨_,rfl⟩
       rw [←htg] at hw htl hlim
       refine⟨_,rfl,?_⟩
       repeat (first|refine qac ?_|(refine qaa ?_;clear hw;intro p w hw)|(refine qae ?_;clear hw;intro w hw)|(refine qab ?_;clear hw;intro s w hw))
       refine qaq [5,22,147,148,149,150,151,152,153,154,155,156,157,158,159,160,161,162,163,164,165,166] (G:=Nat) (H:=Value) (fun m _=>[(147,.int .i64 m)]) (fun m ev w=>m≤tg.length∧(edgA t L k++edgO t L k j++edgB k j (tg.take m)).length≤65536∧Sat w0 w [OS tInt 3 tv tg,OS tInt 3 sv S',OS tBool 4 gw (goalsK t L (k+1)),OS tEdg 196 ev (edgA t L k++edgO t L k j++edgB k j (tg.take m)),OS tInt 3 cv (costsT t),RowsAt tInt 3 fs (frI t L t.ops.length),OS tVal 22 fv fs,Box px 96 [.int .i64 (cntL t.vars L),.int .i64 (idxL t.vars L t.init),cv,ev,gw],Box pr 96 [.int .i64 0,.int .i64 0,.slice none 0 0,.slice none 0 0,.slice none 0 0],Box pt 26 [a,b,c,d]]) (fun m _=>tg.length-m) 0 ev (fun _ _=>rfl) ⟨rfl,trivial⟩ ⟨Nat.zero_le _,by simpa [edgB] using hel2,by simpa [edgB] using hw⟩ ?_
       clear hw
       rintro σ4 m ev w ⟨hm,hel3,hw⟩
       repeat (first|refine qac ?_|(refine qaa ?_;clear hw;intro p w hw)|(refine qae ?_;clear hw;intro w hw)|(refine qab ?_;clear hw;intro s w hw))
       refine go_if (fun h5 => ?_) (fun h5 => ?_)
       ·have hml:m<tg.length:=by omega
        have hsn:=qkE (a:=k) (op:=j) hml
        have hlen3:(edgA t L k++edgO t L k j++edgB k j (tg.take m)).length=(edgA t L k).length+(edgO t L k j).length+m:=by simp [qiw];omega
        repeat (first|refine qac ?_|(refine qaa ?_;clear hw;intro p w hw)|(refine qae ?_;clear hw;intro w hw)|(refine qab ?_;clear hw;intro s w hw))
        refine go_if (fun h6 => ?_) (fun h6 => ?_)
        ·repeat (first|refine qac ?_|(refine qaa ?_;clear hw;intro p w hw)|(refine qae ?_;clear hw;intro w hw)|(refine qab ?_;clear hw;intro s w hw))
         refine qap (parts:=[]) (vs:=[]) rfl rfl rfl ?_
         repeat (first|refine qac ?_|(refine qaa ?_;clear hw;intro p w hw)|(refine qae ?_;clear hw;intro w hw)|(refine qab ?_;clear hw;intro s w hw))
         have he:pErr0 t L=5:=by rw [pErr0,if_neg (by omega),if_neg hnb,if_pos (by omega)]
         rw [he]
         exact qar (p:=pr) (vs:=[.int .i64 0,.int .i64 0,.slice none 0 0,.slice none 0 0,.slice none 0 0]) rfl rfl (v':=errV 5) (by rw [qan (by decide)];rfl) rfl (fun j v hv=>qau (i:=8) hw rfl hv) ⟨_,_,_,rfl,qaO hw⟩
        ·repeat (first|refine qac ?_|(refine qaa ?_;clear hw;intro p w hw)|(refine qae ?_;clear hw;intro w hw)|(refine qab ?_;clear hw;intro s w hw))
         refine qam tEdg (x1:=⟨k,j,tg.getD m tInt.dflt⟩) rfl rfl rfl (Nat.le_of_ble_eq_true rfl) (Nat.zero_lt_succ _) hw ?_
         clear hw
         intro s3 w hw
         repeat (first|refine qac ?_|(refine qaa ?_;clear hw;intro p w hw)|(refine qae ?_;clear hw;intro w hw)|(refine qab ?_;clear hw;intro s w hw))
         rw [List.append_assoc,←hsn] at hw
         refine⟨m+1,_,⟨rfl,trivial⟩,agr,⟨by omega,?_,hw.tail⟩,by omega⟩
         rw [hsn,←List.append_assoc,List.length_append,hlen3]
         simp only [List.length_cons,List.length_nil]
         omega
       ·rw [List.take_of_length_le (by omega),htg,List.append_assoc,←qek] at hw hel3
        repeat (first|refine qac ?_|(refine qaa ?_;clear hw;intro p w hw)|(refine qae ?_;clear hw;intro w hw)|(refine qab ?_;clear hw;intro s w hw))
        exact⟨j+1,ev,⟨rfl,trivial⟩,agr,⟨by omega,hel3,hw.tail⟩,by omega⟩
      ·have hje:j=t.ops.length:=by omega
       subst hje
       rw [←qel] at hw hel2
       repeat (first|refine qac ?_|(refine qaa ?_;clear hw;intro p w hw)|(refine qae ?_;clear hw;intro w hw)|(refine qab ?_;clear hw;intro s w hw))
       exact⟨k+1,ev,gw,S',⟨rfl,trivial⟩,agr,⟨by omega,hel2,hSo,hw⟩,by omega⟩
    ·have hkN2:k=(cntL t.vars L).toNat:=by omega
     subst hkN2
     have he:pErr0 t L=0:=by rw [pErr0,if_neg (by omega),if_neg hnb,if_neg (by unfold pEdges;omega)]
     rw [he]
     have o1:=(hw.rs 3 rfl).one
     have o2:=(hw.rs 2 rfl).one
     have o3:=(hw.rs 1 rfl).one
     repeat (first|refine qac ?_|(refine qaa ?_;clear hw;intro p w hw)|(refine qmM ?_;clear hw;intro w hw)|(refine qab ?_;clear hw;intro s w hw))
     refine qao (n:=5) (p:=pr) (vs:=[.int .i64 (cntL t.vars L),.int .i64 (idxL t.vars L t.init),cv,ev,gv]) rfl rfl hw inferInstance rfl rfl (by simp only [List.all_cons,List.all_nil,o1,o2,o3];rfl) ?_
     clear hw
     intro w hw
     repeat (first|refine qac ?_|(refine qaa ?_;clear hw;intro p w hw)|(refine qae ?_;clear hw;intro w hw)|(refine qab ?_;clear hw;intro s w hw))
     exact qar (p:=pr) (vs:=[.int .i64 (cntL t.vars L),.int .i64 (idxL t.vars L t.init),cv,ev,gv]) rfl rfl (v':=errV 0) (by rw [qas rfl];rfl) rfl (fun j v hv=>qau (i:=7) hw rfl hv) ⟨cv,ev,gv,rfl,sat3 ((hw.tail.focus 2 rfl).tailMono fun _ h=>h.swap)⟩
  ·rw [if_neg hB]
   refine⟨_,rfl,?_⟩
   repeat (first|refine qac ?_|(refine qaa ?_;clear hw;intro p w hw)|(refine qae ?_;clear hw;intro w hw)|(refine qab ?_;clear hw;intro s w hw))
   refine qap (parts:=[]) (vs:=[]) rfl rfl rfl ?_
   repeat (first|refine qac ?_|(refine qaa ?_;clear hw;intro p w hw)|(refine qae ?_;clear hw;intro w hw)|(refine qab ?_;clear hw;intro s w hw))
   have he:pErr0 t L=5:=by rw [pErr0,if_pos (by omega)]
   rw [he]
   refine qar (p:=pr) (vs:=[.int .i64 0,.int .i64 0,.slice none 0 0,.slice none 0 0,.slice none 0 0]) rfl rfl (v':=errV 5) (by rw [qan (by decide)];rfl) rfl (fun j v hv=>qau (i:=0) hw rfl hv) ⟨_,_,_,rfl,qaO hw⟩
 ·rw [qan hk]
  repeat (first|refine qac ?_|(refine qaa ?_;clear hw;intro p w hw)|(refine qae ?_;clear hw;intro w hw)|(refine qab ?_;clear hw;intro s w hw))
  refine qap (parts:=[]) (vs:=[]) rfl rfl rfl ?_
  repeat (first|refine qac ?_|(refine qaa ?_;clear hw;intro p w hw)|(refine qae ?_;clear hw;intro w hw)|(refine qab ?_;clear hw;intro s w hw))
  have he:pErr t L=chkP t L:=by rw [pErr,if_pos hk]
  rw [he]
  have he2:sysE t L (chkP t L)=sysNo:=by rw [sysE,if_neg hk]
  rw [he2]
  exact qar (p:=pr) (vs:=[.int .i64 0,.int .i64 0,.slice none 0 0,.slice none 0 0,.slice none 0 0]) rfl rfl (v':=errV (chkP t L)) (by rw [qan hk];rfl) rfl (fun j v hv=>qau (i:=0) hw rfl hv) ⟨_,_,_,rfl,qaO hw⟩
end Go.Proofs.YtjdlohdcdmhigaaGreatDoor
/-
  A system's three lists are read.
-/
namespace Go.Proofs.YtjdlohdcdmhigaaGreatDoor
open Go.Sl Go
structure RSys (w:World) (cv ev gv:Value) (S:SysV):Prop where
 costs:RS tInt w cv S.costs
 edges:RS tEdg w ev S.edges
 goals:RS tBool w gv S.goals
theorem RSys.at {w0 w:World}{Γ:List HP}{cv ev gv:Value}{S:SysV}(h:RSys w0 cv ev gv S) (hw:Sat w0 w Γ):RSys w cv ev gv S:=⟨h.costs.at hw,h.edges.at hw,h.goals.at hw⟩
end Go.Proofs.YtjdlohdcdmhigaaGreatDoor
/-
  Contracts of 'Distances' of the base and of the reference of layer 40.
-/
namespace Go.Proofs.YtjdlohdcdmhigaaGreatDoor
open Go.Sl Go
attribute [local irreducible] vc opsW opsD opV opW PureV ReadV Thn Blk
end Go.Proofs.YtjdlohdcdmhigaaGreatDoor
/-
  Walks of a task project to walks of its projections.
-/
namespace Go.Proofs.YtjdlohdcdmhigaaGreatDoor
open Go.Sl Go
end Go.Proofs.YtjdlohdcdmhigaaGreatDoor
