/-
  Several texts as one: WProject, WSys, WDist, TProjD.
-/
import Derived.Test.YtkmbenhffledpaaGreatMW8
import Derived.Test.YtkmbenhffledpaaGreatMTA
import Derived.Test.YtkmbenhffledpaaGreatMSlB
import Derived.Test.YtkmbenhffledpaaGreatMW7
set_option linter.unusedSimpArgs false
set_option linter.unusedVariables false
/-
  Contract of 'project.Project'.
-/
namespace Go.Proofs.YtkmbenhffledpaaGreat
open Go.Sl Go
attribute [local irreducible] vc opsW opsD opV opW PureV ReadV Thn Blk
noncomputable def pErr (t:TTask) (p:List Int):Int:=if chkP t p≠0 then chkP t p else pErr0 t p
theorem qfT {t:TTask}{p:List Int}:chkP t p=0↔GoodT t∧PatOk t.vars p:=by
 rw [←qbk]
 unfold chkP
 by_cases h:checkT t=0
 ·rw [if_neg (by simp [h])]
  by_cases h2:PatOk t.vars p
  ·rw [if_pos h2];exact⟨fun _=>⟨h,h2⟩,fun _=>rfl⟩
  ·rw [if_neg h2];exact⟨(fun e=>by cases e),fun e=>absurd e.2 h2⟩
 ·rw [if_pos h];exact⟨fun e=>absurd e h,fun e=>absurd e.1 h⟩
theorem qkx {t:TTask}{p:List Int}(h:chkP t p=0):pErr t p=pErr0 t p:=by rw [pErr,if_neg (by simp [h])]
noncomputable def frI (t:TTask) (L:List Int) (i:Nat):List (List Int):=(List.range t.ops.length).map fun op=>if op<i then frL t L op else []
theorem qfU (t:TTask) (L:List Int) (i:Nat):(frI t L i).length=t.ops.length:=by simp [frI]
theorem qqn (t:TTask) (L:List Int):frI t L 0=List.replicate t.ops.length []:=by
 apply List.ext_getElem (by simp [frI])
 intro i h1 h2;simp [frI]
theorem qrQ {t:TTask}{L:List Int}{i j:Nat}(hj:j<i) (hj2:j<t.ops.length):(frI t L i).getD j []=frL t L j:=by simp [frI,List.getD,hj,hj2]
theorem qqo {t:TTask}{L:List Int}{i:Nat}(hi:i<t.ops.length):(frI t L i).set i (frL t L i)=frI t L (i+1):=by
 apply List.ext_getElem (by simp [frI])
 intro j h1 h2
 rw [List.getElem_set]
 simp only [frI,List.getElem_map,List.getElem_range]
 split
 ·rename_i e;subst e;rw [if_pos (by omega)]
 ·by_cases h:j<i
  ·rw [if_pos h,if_pos (by omega)]
  ·rw [if_neg h,if_neg (by omega)]
theorem qaG {w0 w:World}{Γ:List HP}(hw:Sat w0 w Γ):Sat w0 w []:=⟨hw.below,trivial⟩
theorem sat3 {w0 w:World}{A B C:HP}{Γ:List HP}(h:Sat w0 w (A::B::C::Γ)):Sat w0 w [A,B,C]:=h.tailMono fun _ h=>SatL.cons_mono (fun _ h=>h) (fun _ h=>SatL.cons_mono (fun _ h=>h) (fun _ _=>trivial) h) h
def SysAt (w0 w:World) (cv ev gv:Value) (S:SysV):Prop:=Sat w0 w [OS tInt 3 cv S.costs,OS tEdg 208 ev S.edges,OS tBool 4 gv S.goals]
theorem qd7 {w0 w:World}{Γ:List HP}(hw:Sat w0 w Γ):SysAt w0 w (.slice none 0 0) (.slice none 0 0) (.slice none 0 0) sysNo:=(qaG hw).nil.nil.nil
def sysV (S:SysV) (cv ev gv:Value):Value:=.agg #[.int .i64 S.st,.int .i64 S.ini,cv,ev,gv]
set_option maxRecDepth 8000 in
set_option maxHeartbeats 4000000 in
theorem qff {w0:World}{a b c d vp:Value}{vs:List OpV}{t:TTask}{L:List Int}(ht:RTask w0 a b c d vs t) (hp:RS tInt w0 vp L) :
  Calls Tryz.prog 79 #[.agg #[a,b,c,d],vp] w0 fun e w'=>∃ cv ev gv,e=.returned (.tuple #[sysV (sysE t L (pErr t L)) cv ev gv,errV (pErr t L)])∧SysAt w0 w' cv ev gv (sysE t L (pErr t L)):=by
 have ht':=ht
 obtain⟨ha,hb,hc,hd⟩:=ht
 have hrs:=hd.rs
 have hdl:=hd.len
 have hla:=ha.big
 have hll:=hrs.big
 have hcb:=hc.big
 have hw:=Sat.start w0
 refine qab (args:=[.agg #[a,b,c,d],vp]) mixed Tryz.func79 rfl (by kernel_rfl) (Nat.le_of_ble_eq_true rfl) ?_
 refine qbV ?_
 refine qaS ?_
 refine qcx ?_
 clear hw
 intro pt w hw
 refine qds ?_
 clear hw
 intro pr w hw
 repeat refine qaa ?_
 refine qac rfl (qlg (ht'.at hw) (hp.at hw)) ?_
 rintro _ w' ⟨rfl,hk'⟩
 replace hw:=hw.call0 hk'
 clear hk'
 refine⟨_,rfl,?_⟩
 by_cases hk:chkP t L=0
 ·rw [qaT hk]
  obtain⟨hg,hpo⟩:=qfT.1 hk
  have hL:=hpo.inV
  rw [qkx hk]
  have hvl:=hg.vars
  have hol:=hg.ops
  repeat refine qaa ?_
  refine qac rfl (qeX (ht'.at hw) (hp.at hw) hg hL.mem) ?_
  rintro _ w' ⟨rfl,hk'⟩
  replace hw:=hw.call0 hk'
  clear hk'
  by_cases hB:cntL t.vars L≤4096
  ·rw [if_pos hB]
   refine⟨_,rfl,?_⟩
   repeat refine qaa ?_
   refine qac rfl (qgN (s:=t.init) (ht'.at hw) (hp.at hw) (hb.at hw) hg hL.mem hg.init (by omega)) ?_
   rintro _ w' ⟨rfl,hk'⟩
   replace hw:=hw.call0 hk'
   clear hk'
   refine⟨_,rfl,?_⟩
   repeat (first|refine qaa ?_|(refine qaf ?_;clear hw;intro p w hw)|(refine qag ?_;clear hw;intro w hw)|(refine qaq ?_;clear hw;intro s w hw))
   obtain⟨px,hpx⟩:∃ px,px=p:=⟨p,rfl⟩
   subst hpx
   obtain⟨fv,hfv⟩:∃ fv,fv=s:=⟨s,rfl⟩
   subst hfv
   rw [hdl] at hw
   have hw1:=(hw.rowsNil (T:=tInt) (e:=3) t.ops.length).nil (T:=tInt) (e:=3)
   rw [←qqn t L] at hw1
   clear hw
   refine qay [5,11,12,13,14,54,55,56,57,58,59,60,61,62,63,64,65,66,67,68,69,70,71,72,73,74,75,76,77,78,79,80,81,82,83,84,85] (G:=Nat) (H:=Value) (I:=List Value) (fun i _ _=>[(54,.int .i64 i)]) (fun i cv fs w=>i≤t.ops.length∧(∀ op,op<i→cntL t.vars (frL t L op)≤4096)∧Sat w0 w [OS tInt 3 cv ((costsT t).take i),RowsAt tInt 3 fs (frI t L i),OS tVal 22 fv fs,Box px 157 [.int .i64 (cntL t.vars L),.int .i64 (idxL t.vars L t.init),cv,.slice none 0 0,.slice none 0 0],Box pr 157 [.int .i64 0,.int .i64 0,.slice none 0 0,.slice none 0 0,.slice none 0 0],Box pt 26 [a,b,c,d]]) (fun i _ _=>t.ops.length-i) 0 (.slice none 0 0) (List.replicate t.ops.length (.slice none 0 0)) (fun _ _ _=>rfl) ⟨rfl,trivial⟩ ⟨Nat.zero_le _,fun op h=>absurd h (Nat.not_lt_zero _),hw1⟩ ?_
   clear hw1
   rintro σ i cv fs w ⟨hi,hfr,hw⟩
   repeat refine qaa ?_
   refine go_if (fun h1 => ?_) (fun h1 => ?_)
   ·have hil:i<t.ops.length:=by omega
    have hop:=hd.at_ i hil
    have hone:=hop.one
    have hco:=hop.cost
    have hfs:fs.length=t.ops.length:=by have:=(hw.focus 1 rfl).rowsLen;rw [qfU] at this;exact this
    have hct:((costsT t).take i).length≤4096:=by simp [costsT];omega
    repeat (first|refine qaa ?_|(refine qaf ?_;clear hw;intro p w hw)|(refine qag ?_;clear hw;intro w hw)|(refine qaq ?_;clear hw;intro s w hw))
    refine qac rfl (qka (vars:=t.vars) (L:=L) (hop.at hw) (hp.at hw) (hg.op i hil) hvl) ?_
    rintro _ w' ⟨sf,rfl,hk'⟩
    replace hw:=hw.call1 hk'
    clear hk'
    refine⟨_,rfl,?_⟩
    have hfs2:(fs.set i sf).length=t.ops.length:=by simp [hfs]
    repeat (first|refine qaa ?_|(refine qag ?_;clear hw;intro w hw))
    have hw2:=(((hw.focus 4 rfl).swap.rowNew (by rw [qfU];exact hil)).swap.tail.swap.tail).swap
    rw [show freeL t.vars (t.ops.getD i dOp) L=frL t L i from rfl,qqo hil] at hw2
    have hrow:=(hw2.swap).row (i:=i) (by rw [qfU];exact hil)
    rw [qrQ (Nat.lt_succ_self i) hil] at hrow
    clear hw
    have hw:Sat w0 w [OS tInt 3 s ((costsT t).take i++[(eget tOp vs i).cost]),RowsAt tInt 3 (fs.set i sf) (frI t L (i+1)),OS tVal 22 fv (fs.set i sf),Box px 157 [.int .i64 (cntL t.vars L),.int .i64 (idxL t.vars L t.init),s,.slice none 0 0,.slice none 0 0],Box pr 157 [.int .i64 0,.int .i64 0,.slice none 0 0,.slice none 0 0,.slice none 0 0],Box pt 26 [a,b,c,d]]:=hw2
    clear hw2
    have hcs:(costsT t).take i++[(eget tOp vs i).cost]=(costsT t).take (i+1):=by
     rw [qan tInt.dflt (show i<(costsT t).length by simp [costsT];exact hil),qbi hil,hco]
    rw [hcs] at hw
    refine qac rfl (qeX (ht'.at hw) hrow hg (qcZ _ _ _).mem) ?_
    rintro _ w' ⟨rfl,hk'⟩
    replace hw:=hw.call0 hk'
    clear hk'
    by_cases hB3:cntL t.vars (frL t L i)≤4096
    ·rw [if_pos hB3]
     refine⟨_,rfl,?_⟩
     repeat refine qaa ?_
     refine⟨i+1,_,_,⟨rfl,trivial⟩,agr,⟨by omega,fun op h => ?_,hw⟩,by omega⟩
     by_cases e:op=i
     ·subst e;exact hB3
     ·exact hfr op (by omega)
    ·rw [if_neg hB3]
     refine⟨_,rfl,?_⟩
     repeat refine qaa ?_
     refine qbS (parts:=[]) (vs:=[]) rfl rfl rfl ?_
     repeat (first|refine qaa ?_|(refine qag ?_;clear hw;intro w hw))
     have he:pErr0 t L=5:=by rw [pErr0,if_neg (by omega),if_pos ⟨i,hil,by omega⟩]
     rw [he]
     exact qaL (p:=pr) (vs:=[.int .i64 0,.int .i64 0,.slice none 0 0,.slice none 0 0,.slice none 0 0]) rfl rfl (v':=errV 5) (by rw [qaA (by decide)];rfl) rfl (fun j v hv=>qbv (i:=4) hw rfl hv) ⟨_,_,_,rfl,qd7 hw⟩
   ·have hie:i=t.ops.length:=by omega
    subst hie
    rw [List.take_of_length_le (by simp [costsT])] at hw
    have hnb:¬BigFree t L:=fun⟨op,h,h2⟩=>by have:=hfr op h;omega
    have hfs:fs.length=t.ops.length:=by have:=(hw.focus 1 rfl).rowsLen;rw [qfU] at this;exact this
    have hN1:=qfj hg.pos hL.mem
    obtain⟨N,hN⟩:∃ N,N=cntL t.vars L:=⟨_,rfl⟩
    repeat (first|refine qaa ?_|(refine qaq ?_;clear hw;intro s w hw))
    obtain⟨sv,hsv⟩:∃ sv,sv=s:=⟨s,rfl⟩
    subst hsv
    have hw1:Sat w0 w [OS tInt 3 sv (zerosL t.vars.length),OS tBool 4 (.slice none 0 0) (goalsK t L 0),OS tEdg 208 (.slice none 0 0) (edgA t L 0),OS tInt 3 cv (costsT t),RowsAt tInt 3 fs (frI t L t.ops.length),OS tVal 22 fv fs,Box px 157 [.int .i64 (cntL t.vars L),.int .i64 (idxL t.vars L t.init),cv,(.slice none 0 0),(.slice none 0 0)],Box pr 157 [.int .i64 0,.int .i64 0,.slice none 0 0,.slice none 0 0,.slice none 0 0],Box pt 26 [a,b,c,d]]:=(hw.nil (T:=tEdg) (e:=208)).nil (T:=tBool) (e:=4) |>.focus 2 rfl
    clear hw
    refine qfs [5,16,17,19,20,22,91,92,93,94,95,96,97,98,99,100,101,102,103,104,105,106,107,108,109,110,111,112,113,114,115,116,117,118,119,120,121,122,123,124,125,126,127,128,129,130,131,132,133,134,135,136,137,138,139,140,141,142,143,144,145,146,147,148,149,150,151,152,153,154,155,156,157,158,159,160,161,162,163,164,165,166,167,168] (G:=Nat) (H:=Value) (I:=Value) (M:=List Int) (fun k _ _ _=>[(91,.int .i64 k)]) (fun k ev gv S w=>(k:Int)≤cntL t.vars L∧(edgA t L k).length≤65536∧StateOk t.vars S∧Sat w0 w [OS tInt 3 sv S,OS tBool 4 gv (goalsK t L k),OS tEdg 208 ev (edgA t L k),OS tInt 3 cv (costsT t),RowsAt tInt 3 fs (frI t L t.ops.length),OS tVal 22 fv fs,Box px 157 [.int .i64 (cntL t.vars L),.int .i64 (idxL t.vars L t.init),cv,ev,gv],Box pr 157 [.int .i64 0,.int .i64 0,.slice none 0 0,.slice none 0 0,.slice none 0 0],Box pt 26 [a,b,c,d]]) (fun k _ _ _=>(cntL t.vars L).toNat-k) 0 (.slice none 0 0) (.slice none 0 0) (zerosL t.vars.length) (fun _ _ _ _=>rfl) ⟨rfl,trivial⟩ ⟨by omega,by rw [qn1];exact Nat.zero_le _,ql4 hg.pos,hw1⟩ ?_
    clear hw1
    rintro σ1 k ev gv S w ⟨hkN,hel,hS,hw⟩
    repeat refine qaa ?_
    refine go_if (fun h2 => ?_) (fun h2 => ?_)
    ·have hk0:(0:Int)≤k:=by omega
     have hq:=qdh (s:=S) hg.pos hL hS.1 hk0 h2
     have hSo:=qib (s:=S) hg.pos hL hk0 h2 hS.1 fun v hv hv' _=>hS.rng hv hv'
     repeat refine qaa ?_
     refine qac rfl (qi6 (s:=sv) (L:=L) (st:=S) ht' hp hw hg.pos hL.mem hS.1 hk0 (by omega)) ?_
     clear hw
     rintro _ w ⟨rfl,hw⟩
     refine⟨_,rfl,?_⟩
     obtain⟨S',hS'⟩:∃ S',S'=putS t.vars L S k:=⟨_,rfl⟩
     rw [←hS'] at hw hSo hq
     have hgp:=qqf hg hL hSo hq.1
     have hSl:=hSo.1
     clear hS hq
     repeat refine qaa ?_
     refine qao [17,19,102,103,104,105,106,107,108,109,110,111,112,113,114,115,116,117,118,119,120,121,122,123,124] (G:=Nat) (H:=Bool) (fun j g=>[(102,.int .i64 j),(17,.bool g)]) (fun j g w=>j≤t.goal.length∧(g=true↔GoalF L S' (t.goal.take j))∧Sat w0 w [OS tInt 3 sv S',OS tBool 4 gv (goalsK t L k),OS tEdg 208 ev (edgA t L k),OS tInt 3 cv (costsT t),RowsAt tInt 3 fs (frI t L t.ops.length),OS tVal 22 fv fs,Box px 157 [.int .i64 (cntL t.vars L),.int .i64 (idxL t.vars L t.init),cv,ev,gv],Box pr 157 [.int .i64 0,.int .i64 0,.slice none 0 0,.slice none 0 0,.slice none 0 0],Box pt 26 [a,b,c,d]]) (fun j _=>t.goal.length-j) 0 true (fun _ _=>rfl) ⟨rfl,rfl,trivial⟩ ⟨Nat.zero_le _,⟨fun _ x hx=>by simp at hx,fun _=>rfl⟩,hw⟩ ?_
     clear hw
     rintro σ2 j g w ⟨hj,hgl,hw⟩
     repeat refine qaa ?_
     refine go_if (fun h3 => ?_) (fun h3 => ?_)
     ·have hjl:j<t.goal.length:=by omega
      obtain⟨f1,f2,f3,f4⟩:=qbx hg.goal _ (qak tFact.dflt hjl)
      have hsn:GoalF L S' (t.goal.take (j+1))↔GoalF L S' (t.goal.take j)∧((t.goal.getD j tFact.dflt).var∈L→sg S' (t.goal.getD j tFact.dflt).var=(t.goal.getD j tFact.dflt).val):=by
       rw [qan tFact.dflt hjl]
       unfold GoalF
       constructor
       ·exact fun h=>⟨fun x hx=>h x (by simp [hx]),h _ (by simp)⟩
       ·rintro⟨h,h'⟩ x hx
        rcases List.mem_append.1 hx with hx|hx
        ·exact h x hx
        ·rw [List.mem_singleton.1 hx];exact h'
      cases g with
      | false =>
       repeat (first|refine qaa ?_|(refine qaf ?_;clear hw;intro p w hw)|(refine qag ?_;clear hw;intro w hw))
       exact⟨j+1,false,⟨rfl,rfl,trivial⟩,agr,⟨by omega,iffF (fun h=>by have:=hgl.2 (hsn.1 h).1;cases this),hw.tail⟩,by omega⟩
      | true =>
       have hgt:=hgl.1 rfl
       repeat (first|refine qaa ?_|(refine qaf ?_;clear hw;intro p w hw)|(refine qag ?_;clear hw;intro w hw))
       refine qac rfl (qa1 (hp.at hw)) ?_
       rintro _ w' ⟨rfl,hk'⟩
       replace hw:=hw.call0 hk'
       clear hk'
       by_cases hm:(t.goal.getD j tFact.dflt).var∈L
       ·rw [decide_eq_true hm]
        refine⟨_,rfl,?_⟩
        repeat refine qaa ?_
        refine⟨j+1,_,⟨rfl,rfl,trivial⟩,agr,⟨by omega,?_,hw.tail⟩,by omega⟩
        rw [decide_eq_true_eq,hsn]
        exact⟨fun h=>⟨hgt,fun _=>h⟩,fun h=>h.2 hm⟩
       ·rw [decide_eq_false hm]
        refine⟨_,rfl,?_⟩
        repeat refine qaa ?_
        exact⟨j+1,true,⟨rfl,rfl,trivial⟩,agr,⟨by omega,iffT (hsn.2 ⟨hgt,fun h=>absurd h hm⟩),hw.tail⟩,by omega⟩
     ·rw [List.take_of_length_le (by omega),hgp,←qjl] at hgl
      have hgb:g=goalB t L k:=Bool.eq_iff_iff.2 hgl
      have hgkl:=qhf t L k
      subst hgb
      repeat refine qaa ?_
      refine qah tBool (x1:=goalB t L k) rfl rfl rfl (Nat.le_of_ble_eq_true rfl) (Nat.zero_lt_succ _) hw ?_
      clear hw
      intro s2 w hw
      repeat (first|refine qaa ?_|(refine qag ?_;clear hw;intro w hw)|(refine qaq ?_;clear hw;intro s w hw))
      obtain⟨gw,hgw⟩:∃ gw,gw=s:=⟨s,rfl⟩
      subst hgw
      rw [←qkw] at hw
      refine qao [5,20,22,134,135,136,137,138,139,140,141,142,143,144,145,146,147,148,149,150,151,152,153,154,155,156,157,158,159,160,161,162,163,164,165,166,167] (G:=Nat) (H:=Value) (fun j _=>[(134,.int .i64 j)]) (fun j ev w=>j≤t.ops.length∧(edgA t L k++edgO t L k j).length≤65536∧Sat w0 w [OS tInt 3 sv S',OS tBool 4 gw (goalsK t L (k+1)),OS tEdg 208 ev (edgA t L k++edgO t L k j),OS tInt 3 cv (costsT t),RowsAt tInt 3 fs (frI t L t.ops.length),OS tVal 22 fv fs,Box px 157 [.int .i64 (cntL t.vars L),.int .i64 (idxL t.vars L t.init),cv,ev,gw],Box pr 157 [.int .i64 0,.int .i64 0,.slice none 0 0,.slice none 0 0,.slice none 0 0],Box pt 26 [a,b,c,d]]) (fun j _=>t.ops.length-j) 0 ev (fun _ _=>rfl) ⟨rfl,trivial⟩ ⟨Nat.zero_le _,by rw [qjk,List.append_nil];exact hel,by rw [qjk,List.append_nil];exact hw.tail⟩ ?_
      clear hw
      rintro σ3 j ev w ⟨hj,hel2,hw⟩
      repeat refine qaa ?_
      refine go_if (fun h4 => ?_) (fun h4 => ?_)
      ·have hjl:j<t.ops.length:=by omega
       have hfrj:=hfr j hjl
       repeat (first|refine qaa ?_|(refine qag ?_;clear hw;intro w hw))
       have hrow:=(hw.focus 4 rfl).row (i:=j) (by rw [qfU];exact hjl)
       rw [qrQ hjl hjl] at hrow
       refine qac rfl (qj9 (op:=j) (fro:=k) (ht'.at hw) (hp.at hw) hrow hg hL hjl hk0 h2 hB hfrj) ?_
       rintro _ w' ⟨tv,rfl,hk'⟩
       replace hw:=hw.call1 hk'
       clear hk'
       have htl:=qob (cntL t.vars L) (TGp t L k j)
       have hlim:=qn5 h2 hjl
       rw [show pickL (cntL t.vars L) (TGp t L k j)=tgtL t L k j from rfl] at htl
       obtain⟨tg,htg⟩:∃ tg,tg=tgtL t L k j:=⟨_,rfl⟩
       rw [←htg] at hw htl hlim
       refine⟨_,rfl,?_⟩
       repeat refine qaa ?_
       refine qao [5,22,147,148,149,150,151,152,153,154,155,156,157,158,159,160,161,162,163,164,165,166] (G:=Nat) (H:=Value) (fun m _=>[(147,.int .i64 m)]) (fun m ev w=>m≤tg.length∧(edgA t L k++edgO t L k j++edgB k j (tg.take m)).length≤65536∧Sat w0 w [OS tInt 3 tv tg,OS tInt 3 sv S',OS tBool 4 gw (goalsK t L (k+1)),OS tEdg 208 ev (edgA t L k++edgO t L k j++edgB k j (tg.take m)),OS tInt 3 cv (costsT t),RowsAt tInt 3 fs (frI t L t.ops.length),OS tVal 22 fv fs,Box px 157 [.int .i64 (cntL t.vars L),.int .i64 (idxL t.vars L t.init),cv,ev,gw],Box pr 157 [.int .i64 0,.int .i64 0,.slice none 0 0,.slice none 0 0,.slice none 0 0],Box pt 26 [a,b,c,d]]) (fun m _=>tg.length-m) 0 ev (fun _ _=>rfl) ⟨rfl,trivial⟩ ⟨Nat.zero_le _,by simpa [edgB] using hel2,by simpa [edgB] using hw⟩ ?_
       clear hw
       rintro σ4 m ev w ⟨hm,hel3,hw⟩
       repeat refine qaa ?_
       refine go_if (fun h5 => ?_) (fun h5 => ?_)
       ·have hml:m<tg.length:=by omega
        have hsn:=qn2 (a:=k) (op:=j) hml
        have hlen3:(edgA t L k++edgO t L k j++edgB k j (tg.take m)).length=(edgA t L k).length+(edgO t L k j).length+m:=by simp [qh5];omega
        repeat refine qaa ?_
        refine go_if (fun h6 => ?_) (fun h6 => ?_)
        ·repeat refine qaa ?_
         refine qbS (parts:=[]) (vs:=[]) rfl rfl rfl ?_
         repeat (first|refine qaa ?_|(refine qag ?_;clear hw;intro w hw))
         have he:pErr0 t L=5:=by rw [pErr0,if_neg (by omega),if_neg hnb,if_pos (by omega)]
         rw [he]
         exact qaL (p:=pr) (vs:=[.int .i64 0,.int .i64 0,.slice none 0 0,.slice none 0 0,.slice none 0 0]) rfl rfl (v':=errV 5) (by rw [qaA (by decide)];rfl) rfl (fun j v hv=>qbv (i:=8) hw rfl hv) ⟨_,_,_,rfl,qd7 hw⟩
        ·repeat refine qaa ?_
         refine qah tEdg (x1:=⟨k,j,tg.getD m tInt.dflt⟩) rfl rfl rfl (Nat.le_of_ble_eq_true rfl) (Nat.zero_lt_succ _) hw ?_
         clear hw
         intro s3 w hw
         repeat (first|refine qaa ?_|(refine qag ?_;clear hw;intro w hw)|(refine qaq ?_;clear hw;intro s w hw))
         rw [List.append_assoc,←hsn] at hw
         refine⟨m+1,_,⟨rfl,trivial⟩,agr,⟨by omega,?_,hw.tail⟩,by omega⟩
         rw [hsn,←List.append_assoc,List.length_append,hlen3]
         simp only [List.length_cons,List.length_nil]
         omega
       ·rw [List.take_of_length_le (by omega),htg,List.append_assoc,←qd2] at hw hel3
        repeat refine qaa ?_
        exact⟨j+1,ev,⟨rfl,trivial⟩,agr,⟨by omega,hel3,hw.tail⟩,by omega⟩
      ·have hje:j=t.ops.length:=by omega
       subst hje
       rw [←qd3] at hw hel2
       repeat refine qaa ?_
       exact⟨k+1,ev,gw,S',⟨rfl,trivial⟩,agr,⟨by omega,hel2,hSo,hw⟩,by omega⟩
    ·have hkN2:k=(cntL t.vars L).toNat:=by omega
     subst hkN2
     have he:pErr0 t L=0:=by rw [pErr0,if_neg (by omega),if_neg hnb,if_neg (by unfold pEdges;omega)]
     rw [he]
     have o1:=(hw.rs 3 rfl).one
     have o2:=(hw.rs 2 rfl).one
     have o3:=(hw.rs 1 rfl).one
     repeat refine qaa ?_
     refine qat (n:=5) (p:=pr) (vs:=[.int .i64 (cntL t.vars L),.int .i64 (idxL t.vars L t.init),cv,ev,gv]) rfl rfl hw inferInstance rfl rfl (by simp only [List.all_cons,List.all_nil,o1,o2,o3];rfl) ?_
     clear hw
     intro w hw
     repeat refine qaa ?_
     exact qaL (p:=pr) (vs:=[.int .i64 (cntL t.vars L),.int .i64 (idxL t.vars L t.init),cv,ev,gv]) rfl rfl (v':=errV 0) (by rw [qaT rfl];rfl) rfl (fun j v hv=>qbv (i:=7) hw rfl hv) ⟨cv,ev,gv,rfl,sat3 ((hw.tail.focus 2 rfl).tailMono fun _ h=>h.swap)⟩
  ·rw [if_neg hB]
   refine⟨_,rfl,?_⟩
   repeat refine qaa ?_
   refine qbS (parts:=[]) (vs:=[]) rfl rfl rfl ?_
   repeat (first|refine qaa ?_|(refine qag ?_;clear hw;intro w hw))
   have he:pErr0 t L=5:=by rw [pErr0,if_pos (by omega)]
   rw [he]
   refine qaL (p:=pr) (vs:=[.int .i64 0,.int .i64 0,.slice none 0 0,.slice none 0 0,.slice none 0 0]) rfl rfl (v':=errV 5) (by rw [qaA (by decide)];rfl) rfl (fun j v hv=>qbv (i:=0) hw rfl hv) ⟨_,_,_,rfl,qd7 hw⟩
 ·rw [qaA hk]
  repeat refine qaa ?_
  refine qbS (parts:=[]) (vs:=[]) rfl rfl rfl ?_
  repeat (first|refine qaa ?_|(refine qag ?_;clear hw;intro w hw))
  have he:pErr t L=chkP t L:=by rw [pErr,if_pos hk]
  rw [he]
  have he2:sysE t L (chkP t L)=sysNo:=by rw [sysE,if_neg hk]
  rw [he2]
  exact qaL (p:=pr) (vs:=[.int .i64 0,.int .i64 0,.slice none 0 0,.slice none 0 0,.slice none 0 0]) rfl rfl (v':=errV (chkP t L)) (by rw [qaA hk];rfl) rfl (fun j v hv=>qbv (i:=0) hw rfl hv) ⟨_,_,_,rfl,qd7 hw⟩
end Go.Proofs.YtkmbenhffledpaaGreat
/-
  A system's three lists are read.
-/
namespace Go.Proofs.YtkmbenhffledpaaGreat
open Go.Sl Go
structure RSys (w:World) (cv ev gv:Value) (S:SysV):Prop where
 costs:RS tInt w cv S.costs
 edges:RS tEdg w ev S.edges
 goals:RS tBool w gv S.goals
end Go.Proofs.YtkmbenhffledpaaGreat
/-
  Contracts of 'Distances' of the base and of the reference of layer 40.
-/
namespace Go.Proofs.YtkmbenhffledpaaGreat
open Go.Sl Go
attribute [local irreducible] vc opsW opsD opV opW PureV ReadV Thn Blk
def GoalS (t:TTask) (i:Int):Prop:=HoldFs ((statesL t.vars).getD i.toNat []) t.goal
inductive CostsOf (w:World) (t:TTask) (kv:Value) (cs:List Int):Prop
 | own:kv=.slice none 0 0→cs=costsT t→CostsOf w t kv cs
 | new:(∃ p n k,kv=.slice (some p) n k)→RS tInt w kv cs→cs.length=t.ops.length→(∀ x∈cs,0≤x∧x≤1099511627776)→CostsOf w t kv cs
theorem CostsOf.ok {w:World}{t:TTask}{kv:Value}{cs:List Int}(h:CostsOf w t kv cs) (hg:GoodT t):cs.length=t.ops.length∧∀ x∈cs,0≤x∧x≤1099511627776:=by
 rcases h with ⟨h1,h2⟩|⟨h1,h2,h3,h4⟩
 ·subst h2
  refine⟨by simp [costsT],fun x hx => ?_⟩
  obtain⟨o,ho,rfl⟩:=List.mem_map.1 hx
  obtain⟨i,hi,rfl⟩:=List.getElem_of_mem ho
  have:=hg.op i hi
  rw [qaj hi] at this
  have h1:=this.cost0
  have h2:=this.cost1
  omega
 ·exact⟨h3,h4⟩
theorem eok_T {t:TTask}{cs:List Int}(hg:GoodT t) (h:cs.length=t.ops.length∧∀ x∈cs,0≤x∧x≤1099511627776):EOk (edgesT t) cs (statesL t.vars).length:=by
 have key:∀ e∈edgesT t,(0≤e.src∧e.src<(statesL t.vars).length)∧(0≤e.dst∧e.dst<(statesL t.vars).length)∧0≤e.lab∧e.lab<cs.length:=by
  intro e he
  obtain⟨i,op,hi,ho,ha,rfl⟩:=qeA.1 he
  have hs:=qaZ hg (qdm hg.pos hi).1 ho
  have h1:=qaQ hs
  have h2:=(qcs hg.pos hs).1
  exact⟨⟨by simp only;omega,by simp only;omega⟩,⟨h1.1,by simp only;omega⟩,by simp only;omega,by simp only;omega⟩
 exact⟨fun e he=>(key e he).1,fun e he=>(key e he).2.1,fun e he=>(key e he).2.2,h.2⟩
set_option maxRecDepth 8000 in
set_option maxHeartbeats 4000000 in
theorem qg2 {w0:World}{a b c d kv:Value}{vs:List OpV}{t:TTask}{cs:List Int}(ht:RTask w0 a b c d vs t) (hk:CostsOf w0 t kv cs) (hg:GoodT t) (hB:prodL t.vars≤65536) :
  Calls Tryz.prog 49 #[.agg #[a,b,c,d],kv] w0 fun e w'=>∃ s D,e=.returned s∧DistOk (edgesT t) cs (GoalS t) (statesL t.vars).length D∧Sat w0 w' [OS tInt 3 s D]:=by
 have ht':=ht
 obtain⟨ha,hb,hc,hd⟩:=ht
 have hrs:=hd.rs
 have hdl:=hd.len
 have hol:=hg.ops
 have hlen:(statesL t.vars).length≤65536:=by rw [qaK hg.pos];omega
 have hE:=eok_T hg (hk.ok hg)
 have hcl:=(hk.ok hg).1
 have hel:(edgesT t).length≤65536*4096:=Nat.le_trans (qg9 t _) (Nat.mul_le_mul hlen hol)
 have hrl:(List.replicate (statesL t.vars).length (0:Int)).length=(statesL t.vars).length:=List.length_replicate
 have hw:=Sat.start w0
 refine qab (args:=[.agg #[a,b,c,d],kv]) mixed Tryz.func49 rfl (by kernel_rfl) (Nat.le_of_ble_eq_true rfl) ?_
 repeat (first|refine qaa ?_|(refine qaf ?_;clear hw;intro p w hw))
 obtain⟨pt,hpt⟩:∃ pt,pt=p:=⟨p,rfl⟩
 subst hpt
 refine qac rfl (qgI (ha.at hw) hg.pos hg.vars hB) ?_
 rintro _ w' ⟨sv,ss,rfl,hk'⟩
 replace hw:=hw.call2 hk'
 clear hk'
 have hss:=hw.rowsLen
 refine⟨_,rfl,?_⟩
 repeat (first|refine qaa ?_|(refine qaq ?_;clear hw;intro s w hw))
 obtain⟨ov,hov⟩:∃ ov,ov=s:=⟨s,rfl⟩
 subst hov
 rw [hss,Int.toNat_natCast,←qgB (GoalS t)] at hw
 have hlk:∀ k,(dist0K (GoalS t) (statesL t.vars).length k).length=(statesL t.vars).length:=fun k=>qhO _ _ k
 refine qap [7,8,22,23,24,25,26,27,28,29,30,31,32,33,34,35,36,37] (G:=Nat) (fun k=>[(22,.int .i64 k)]) (fun k w=>k≤(statesL t.vars).length∧Sat w0 w [OS tInt 3 ov (dist0K (GoalS t) (statesL t.vars).length k),RowsAt tInt 3 ss (statesL t.vars),OS tVal 22 sv ss,Box pt 26 [a,b,c,d]]) (fun k=>(statesL t.vars).length-k) 0 (fun _=>rfl) ⟨rfl,trivial⟩ ⟨Nat.zero_le _,hw⟩ ?_
 clear hw
 rintro σ k w ⟨hk1,hw⟩
 have hlk1:=hlk k
 repeat refine qaa ?_
 refine go_if (fun h1 => ?_) (fun h1 => ?_)
 ·have hkl:k<(statesL t.vars).length:=by omega
  repeat (first|refine qaa ?_|(refine qag ?_;clear hw;intro w hw))
  refine qac rfl (qdE (a:=c) (hc.at hw) ((hw.focus 1 rfl).row hkl)) ?_
  rintro _ w' ⟨⟨r,rfl,hr⟩,hk'⟩
  replace hw:=hw.call0 hk'
  clear hk'
  refine⟨_,rfl,?_⟩
  have hgk:GoalS t (k:Int)↔HoldFs ((statesL t.vars).getD k []) t.goal:=by unfold GoalS;rw [Int.toNat_natCast]
  have hsl:((dist0K (GoalS t) (statesL t.vars).length k).set k 1125899906842624).length=(statesL t.vars).length:=by rw [List.length_set,hlk1]
  cases r
  ·repeat refine qaa ?_
   rw [qj5 (G:=GoalS t) (k:=k) (fun h=>by have:=hr.2 (hgk.1 h);cases this)] at hw
   exact⟨k+1,⟨rfl,trivial⟩,agr,⟨by omega,hw⟩,by omega⟩
  ·repeat (first|refine qaa ?_|(refine qag ?_;clear hw;intro w hw))
   rw [qgC (hgk.2 (hr.1 rfl))] at hw
   exact⟨k+1,⟨rfl,trivial⟩,agr,⟨by omega,hw⟩,by omega⟩
 have hke:k=(statesL t.vars).length:=by omega
 subst hke
 rw [qhP] at hw
 clear hlk1 hlk hrl
 repeat refine qaa ?_
 refine qac rfl (qnm (ht'.at hw) hg hB) ?_
 rintro _ w' ⟨es,rfl,hk'⟩
 replace hw:=hw.call1 hk'
 clear hk'
 refine⟨_,rfl,?_⟩
 replace hw:=hw.swap
 repeat refine qaa ?_
 refine qao [10,12,13,40,41,42,43,44,45,46,47,48,49,50,51,52,53,54,55,56,57,58,59,60,61,62,63,64,65,66,67,68,69,70,71,72,73,74,75,76,77,78,79,80,81,82,83,84,85,86,87,88,89,90,91,92,93] (G:=Bool) (H:=List Int) (fun ch _=>[(10,.bool ch)]) (fun ch D w=>DInv (edgesT t) cs (GoalS t) (statesL t.vars).length D∧(ch=false→∀ e∈edgesT t,Stab cs D e)∧Sat w0 w [OS tInt 3 ov D,OS tEdg 148 es (edgesT t),RowsAt tInt 3 ss (statesL t.vars),OS tVal 22 sv ss,Box pt 26 [a,b,c,d]]) (fun ch D=>2*sumD D+(bif ch then 1 else 0)) true _ (fun _ _=>rfl) ⟨rfl,trivial⟩ ⟨qj4 _ _ _ _,(fun h=>by cases h),hw⟩ ?_
 clear hw
 rintro σ1 ch D w ⟨hD,hst,hw⟩
 cases ch
 ·repeat refine qaa ?_
  exact qae (v:=ov) rfl rfl ⟨ov,D,rfl,hD.dist hE (hst rfl),hw.only⟩
 clear hst
 repeat refine qaa ?_
 refine qay [10,12,13,43,44,45,46,47,48,49,50,51,52,53,54,55,56,57,58,59,60,61,62,63,64,65,66,67,68,69,70,71,72,73,74,75,76,77,78,79,80,81,82,83,84,85,86,87,88,89,90,91,92,93] (G:=Nat) (H:=Bool) (I:=List Int) (fun k ch _=>[(43,.int .i64 k),(10,.bool ch)]) (fun k ch D' w=>k≤(edgesT t).length∧DInv (edgesT t) cs (GoalS t) (statesL t.vars).length D'∧sumD D'≤sumD D∧(ch=true→sumD D'<sumD D)∧(ch=false→∀ i,i<k→Stab cs D' ((edgesT t).getD i tEdg.dflt))∧Sat w0 w [OS tInt 3 ov D',OS tEdg 148 es (edgesT t),RowsAt tInt 3 ss (statesL t.vars),OS tVal 22 sv ss,Box pt 26 [a,b,c,d]]) (fun k _ _=>(edgesT t).length-k) 0 false D (fun _ _ _=>rfl) ⟨rfl,rfl,trivial⟩ ⟨Nat.zero_le _,hD,Nat.le_refl _,(fun h=>by cases h),fun _ i hi=>absurd hi (Nat.not_lt_zero _),hw⟩ ?_
 clear hw
 rintro σ2 k ch D' w ⟨hk2,hD',hs1,hs2,hs3,hw⟩
 repeat refine qaa ?_
 refine go_if (fun h3 => ?_) (fun h3 => ?_)
 ·have hkl:k<(edgesT t).length:=by omega
  obtain⟨e1,e2,e3,e4⟩:=hE.getD hkl
  have hme:=qak tEdg.dflt hkl
  have hDl:=hD'.len
  have r1:=hD'.rng ((edgesT t).getD k tEdg.dflt).dst.toNat (by omega)
  rw [Int.toNat_of_nonneg e2.1] at r1
  simp only [dg,cst] at r1 e4
  have hopl:((edgesT t).getD k tEdg.dflt).lab.toNat<t.ops.length:=by omega
  have hopc:=(hd.at_ _ hopl).cost
  repeat (first|refine qaa ?_|(refine qaf ?_;clear hw;intro p w hw)|(refine qag ?_;clear hw;intro w hw))
  rcases hk with ⟨hk3,hk4⟩|⟨⟨pk,nk,ck,hk3⟩,hk4,hk5,hk6⟩
  ·have hce:(eget tOp vs ((edgesT t).getD k tEdg.dflt).lab.toNat).cost=cs.getD ((edgesT t).getD k tEdg.dflt).lab.toNat tInt.dflt:=by rw [hopc,hk4,qbi hopl]
   refine qau rfl (qhi (a:=none) (n:=0) (c:=0) hk3) ?_
   rw [hce]
   repeat (first|refine qaa ?_|(refine qag ?_;clear hw;intro w hw))
   refine go_if (fun h4 => ?_) (fun h4 => ?_)
   ·have hrx:=hD'.relax hE hme h4.1 h4.2
    simp only [dg,cst] at hrx
    repeat (first|refine qaa ?_|(refine qag ?_;clear hw;intro w hw))
    exact⟨k+1,true,_,⟨rfl,rfl,trivial⟩,agr,⟨by omega,hrx.1,by omega,fun _=>by omega,(fun h=>by cases h),hw.tail⟩,by omega⟩
   ·repeat refine qaa ?_
    refine⟨k+1,ch,D',⟨rfl,rfl,trivial⟩,agr,⟨by omega,hD',hs1,hs2,fun hch i hi => ?_,hw.tail⟩,by omega⟩
    by_cases e:i=k
    ·subst e
     intro hlt
     have:inf≤dg D' ((edgesT t).getD i tEdg.dflt).dst∨dg D' ((edgesT t).getD i tEdg.dflt).src≤dg D' ((edgesT t).getD i tEdg.dflt).dst+cst cs ((edgesT t).getD i tEdg.dflt):=h4
     omega
    ·exact hs3 hch i (by omega)
  ·refine qau rfl (qhi (a:=some pk) (n:=nk) (c:=ck) hk3) ?_
   repeat (first|refine qaa ?_|(refine qag ?_;clear hw;intro w hw))
   refine go_if (fun h4 => ?_) (fun h4 => ?_)
   ·have hrx:=hD'.relax hE hme h4.1 h4.2
    simp only [dg,cst] at hrx
    repeat (first|refine qaa ?_|(refine qag ?_;clear hw;intro w hw))
    exact⟨k+1,true,_,⟨rfl,rfl,trivial⟩,agr,⟨by omega,hrx.1,by omega,fun _=>by omega,(fun h=>by cases h),hw.tail⟩,by omega⟩
   ·repeat refine qaa ?_
    refine⟨k+1,ch,D',⟨rfl,rfl,trivial⟩,agr,⟨by omega,hD',hs1,hs2,fun hch i hi => ?_,hw.tail⟩,by omega⟩
    by_cases e:i=k
    ·subst e
     intro hlt
     have:inf≤dg D' ((edgesT t).getD i tEdg.dflt).dst∨dg D' ((edgesT t).getD i tEdg.dflt).src≤dg D' ((edgesT t).getD i tEdg.dflt).dst+cst cs ((edgesT t).getD i tEdg.dflt):=h4
     omega
    ·exact hs3 hch i (by omega)
 ·repeat refine qaa ?_
  refine⟨ch,D',⟨rfl,trivial⟩,agr,⟨hD',fun hch e he => ?_,hw⟩,?_⟩
  ·obtain⟨i,hi,rfl⟩:=List.getElem_of_mem he
   have:=hs3 hch i (by omega)
   rwa [qaj hi] at this
  ·cases ch
   ·simp only [cond_true,cond_false];omega
   ·have:=hs2 rfl
    simp only [cond_true];omega
end Go.Proofs.YtkmbenhffledpaaGreat
/-
  Walks of a task project to walks of its projections.
-/
namespace Go.Proofs.YtkmbenhffledpaaGreat
open Go.Sl Go
def GoalPK (t:TTask) (L:List Int) (i:Int):Prop:=(goalsK t L (cntL t.vars L).toNat).getD i.toNat tBool.dflt=true
theorem qm7 {t:TTask}{L:List Int}{i:Int}(h0:0≤i) (h1:i<cntL t.vars L):GoalPK t L i↔GoalP t L i:=by
 unfold GoalPK
 rw [←qjl,show (goalsK t L (cntL t.vars L).toNat).getD i.toNat tBool.dflt=goalB t L (i.toNat:Int) from qn6 (by omega),Int.toNat_of_nonneg h0]
theorem eok_P {t:TTask}{L cs:List Int}(h:cs.length=t.ops.length∧∀ x∈cs,0≤x∧x≤1099511627776):EOk (pEdges t L) cs (cntL t.vars L).toNat:=by
 have key:∀ e∈pEdges t L,(0≤e.src∧e.src<(cntL t.vars L).toNat)∧(0≤e.dst∧e.dst<(cntL t.vars L).toNat)∧0≤e.lab∧e.lab<cs.length:=by
  intro e he
  obtain⟨x,op,y,hx,hop,hy,hT,rfl⟩:=qeD.1 he
  exact⟨⟨by simp only;omega,by simp only;omega⟩,⟨by simp only;omega,by simp only;omega⟩,by simp only;omega,by simp only;omega⟩
 exact⟨fun e he=>(key e he).1,fun e he=>(key e he).2.1,fun e he=>(key e he).2.2,h.2⟩
theorem qpt {t:TTask}{L:List Int}(hg:GoodT t) (hL:InV t.vars L) {s:List Int}{op:Nat}(hs:StateOk t.vars s) (ho:op<t.ops.length) (ha:AppT t s op):(⟨idxL t.vars L s,op,idxL t.vars L (succT t s op)⟩:Edg)∈pEdges t L :=
 qeD.2 ⟨_,op,_,qaF hs hL.mem,ho,qaF (qaZ hg hs ho) hL.mem,⟨s,hs,rfl,ha,rfl⟩,rfl⟩
theorem qpu {t:TTask}{L:List Int}(hL:InV t.vars L) {s:List Int}(hs:StateOk t.vars s) (h:HoldFs s t.goal):GoalPK t L (idxL t.vars L s):=by
 have hb:=qaF hs hL.mem
 rw [qm7 hb.1 hb.2]
 exact⟨s,hs,rfl,qa3.2 fun x hx=>qa3.1 h x (List.mem_filter.1 hx).1⟩
end Go.Proofs.YtkmbenhffledpaaGreat
