/-
  Contracts of 'causal.Arcs' and 'patterns.Systematic'.
-/
import Derived.Test.YtkmbenhffledpaaGreatWCaus
set_option linter.unusedSimpArgs false
set_option linter.unusedVariables false
namespace Go.Proofs.YtkmbenhffledpaaGreat
open Go.Sl Go
attribute [local irreducible] vc opsW opsD opV opW PureV ReadV Thn Blk
theorem qkN (t:TTask) (u:Nat):arcRow t u 0=[]:=qbI (Nat.le_refl _)
theorem qoX {t:TTask}{u v:Nat}(h:arcT t (u:Int) (v:Int)):arcRow t u (v+1)=arcRow t u v++[⟨(u:Int),(v:Int),1⟩]:=by
 unfold arcRow;rw [qaN (Nat.zero_le _),if_pos h]
theorem qmZ {t:TTask}{u v:Nat}(h:¬arcT t (u:Int) (v:Int)):arcRow t u (v+1)=arcRow t u v:=by
 unfold arcRow;rw [qaN (Nat.zero_le _),if_neg h,List.append_nil]
theorem qkO (t:TTask) (u:Nat):arcAll t (u+1)=arcAll t u++arcRow t u t.vars.length:=by
 unfold arcAll;rw [qaN (Nat.zero_le _)]
set_option maxRecDepth 8000 in
set_option maxHeartbeats 4000000 in
theorem qpZ {w0:World}{a b c d:Value}{vs:List OpV}{t:TTask}(ht:RTask w0 a b c d vs t) (hg:GoodT t) :
  Calls Tryz.prog 109 #[.agg #[a,b,c,d]] w0 fun e w'=>∃ av,e=.returned (.tuple #[av,.nilIface])∧Sat w0 w' [OS tArc 200 av (arcAll t t.vars.length)]:=by
 have ht':=ht
 obtain⟨ha,hb,hc,hd⟩:=ht
 have hvb:=ha.big
 have hV:=hg.vars
 have hw:=Sat.start w0
 refine qab (args:=[.agg #[a,b,c,d]]) mixed Tryz.func109 rfl (by kernel_rfl) (Nat.le_of_ble_eq_true rfl) ?_
 repeat (first|refine qaa ?_|(refine qaf ?_;clear hw;intro p w hw))
 obtain⟨pt,hpt⟩:∃ pt,pt=p:=⟨p,rfl⟩
 subst hpt
 refine qac rfl (qa6 (ht'.at hw)) ?_
 rintro _ w' ⟨rfl,hk'⟩
 replace hw:=hw.call0 hk'
 clear hk'
 refine⟨_,rfl,?_⟩
 rw [qaT ((qbk t).2 hg)]
 repeat refine qaa ?_
 refine qac rfl (qj7 (ht'.at hw) hg) ?_
 rintro _ w' ⟨out,ss,M,rfl,hM,hk'⟩
 replace hw:=hw.call2 hk'
 clear hk'
 refine⟨_,rfl,?_⟩
 have hml:=hM.len
 repeat refine qaa ?_
 have hw1:Sat w0 w' [OS tArc 200 (.slice none 0 0) (arcAll t 0),RowsAt tBool 4 ss M,OS tVal 150 out ss,Box pt 26 [a,b,c,d]]:=hw.nil (T:=tArc) (e:=200)
 clear hw
 refine qao [6,7,8,19,20,21,22,23,24,25,26,27,28,29,30,31,32,33,34,35,36,37,38,39,40,41,42] (G:=Nat) (H:=Value) (fun u av=>[(19,.int .i64 u),(6,av)]) (fun u av w=>u≤t.vars.length∧Sat w0 w [OS tArc 200 av (arcAll t u),RowsAt tBool 4 ss M,OS tVal 150 out ss,Box pt 26 [a,b,c,d]]) (fun u _=>t.vars.length-u) 0 (.slice none 0 0) (fun _ _=>rfl) ⟨rfl,rfl,trivial⟩ ⟨Nat.zero_le _,hw1⟩ ?_
 clear hw1
 rintro σ u av w ⟨hu,hw⟩
 repeat refine qaa ?_
 refine go_if (fun h1 => ?_) (fun h1 => ?_)
 ·have hul:u<t.vars.length:=by omega
  have hal:=qhR t u
  have hal2:u*t.vars.length≤64*64:=Nat.mul_le_mul (by omega) hV
  repeat refine qaa ?_
  have hw1:Sat w0 w [OS tArc 200 av (arcAll t u++arcRow t u 0),RowsAt tBool 4 ss M,OS tVal 150 out ss,Box pt 26 [a,b,c,d]]:=by rw [qkN,List.append_nil];exact hw
  clear hw
  refine qao [6,8,25,26,27,28,29,30,31,32,33,34,35,36,37,38,39,40,41] (G:=Nat) (H:=Value) (fun v av=>[(25,.int .i64 v),(6,av)]) (fun v av w=>v≤t.vars.length∧Sat w0 w [OS tArc 200 av (arcAll t u++arcRow t u v),RowsAt tBool 4 ss M,OS tVal 150 out ss,Box pt 26 [a,b,c,d]]) (fun v _=>t.vars.length-v) 0 av (fun _ _=>rfl) ⟨rfl,rfl,trivial⟩ ⟨Nat.zero_le _,hw1⟩ ?_
  clear hw1
  rintro σ1 v av1 w ⟨hv,hw⟩
  have hsl:=hw.tail.rowsLen
  repeat refine qaa ?_
  refine go_if (fun h2 => ?_) (fun h2 => ?_)
  ·have hvl:v<t.vars.length:=by omega
   have hrow:=hw.tail.row (i:=v) (by omega)
   have hrl:=hM.row v hvl
   have hat:=hM.at_ v u hvl hul
   have hrl2:=qhQ t u v
   have hall:(arcAll t u++arcRow t u v).length≤8192:=by rw [List.length_append];omega
   repeat refine qaY ?_
   have hat':(M.getD v []).getD u tBool.dflt=true↔arcT t (u:Int) (v:Int):=hat
   cases hb:(M.getD v []).getD u tBool.dflt with
   | false =>
    rw [hb] at hat'
    repeat refine qaa ?_
    exact⟨v+1,av1,⟨rfl,rfl,trivial⟩,agr,⟨by omega,by rw [qmZ (fun h=>by have:=hat'.2 h;cases this)];exact hw⟩,by omega⟩
   | true =>
    rw [hb] at hat'
    repeat refine qaa ?_
    refine qah tArc (x1:=⟨(u:Int),(v:Int),1⟩) rfl rfl rfl (Nat.le_of_ble_eq_true rfl) (Nat.zero_lt_succ _) hw ?_
    clear hw hrow
    intro bs w hw
    refine qaJ (s:=av1) (s2:=bs) inferInstance rfl rfl (rsO hw) rfl rfl (fun y hy v hv=>by
     rw [List.mem_singleton.1 hy] at hv
     simp only [tArc,List.mem_cons,List.not_mem_nil,or_false] at hv
     rcases hv with rfl|rfl|rfl <;> rfl) (by simp only [List.length_cons,List.length_nil];omega) (by unfold big;simp only [List.length_cons,List.length_nil];omega) hw ?_
    clear hw
    intro s' w hw
    repeat refine qaa ?_
    refine⟨v+1,s',⟨rfl,rfl,trivial⟩,agr,⟨by omega,?_⟩,by omega⟩
    rw [qoX (hat'.1 rfl),←List.append_assoc]
    exact hw.tail
  ·have hve:v=t.vars.length:=by omega
   subst hve
   rw [←qkO] at hw
   repeat refine qaa ?_
   exact⟨u+1,av1,⟨rfl,rfl,trivial⟩,agr,⟨by omega,hw⟩,by omega⟩
 ·have hue:u=t.vars.length:=by omega
  subst hue
  repeat refine qaa ?_
  exact qav (v:=av) (v':=.nilIface) rfl rfl rfl ⟨av,rfl,hw.sel⟩
end Go.Proofs.YtkmbenhffledpaaGreat
