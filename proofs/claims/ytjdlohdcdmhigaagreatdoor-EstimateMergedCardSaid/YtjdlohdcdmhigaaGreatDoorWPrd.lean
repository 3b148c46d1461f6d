/-
  Contract of transys.Product.
-/
import Derived.Test.YtjdlohdcdmhigaaGreatDoorWDst
import Derived.Test.YtjdlohdcdmhigaaGreatDoorWSrt
import Derived.Test.YtjdlohdcdmhigaaGreatDoorMW4
set_option linter.unusedSimpArgs false
set_option linter.unusedVariables false
namespace Go.Proofs.YtjdlohdcdmhigaaGreatDoor
open Go.Sl Go
attribute [local irreducible] vc opsW opsD opV opW PureV ReadV Thn Blk
theorem qeQ {a b M N:Int}(h0:0≤a) (h1:a≤M) (h2:0≤b) (h3:b≤N):0≤a*b∧a*b≤M*N:=⟨Int.mul_nonneg h0 h2,Int.mul_le_mul h1 h3 h2 (by omega)⟩
def gRow (A B:SysV) (i j:Nat):List Bool:=(List.range j).map fun j=>A.goals.getD i tBool.dflt && B.goals.getD j tBool.dflt
def gAll (A B:SysV) (i:Nat):List Bool:=(List.range i).flatMap fun i=>gRow A B i B.st.toNat
theorem qly (A B:SysV) (i j:Nat):gRow A B i (j+1)=gRow A B i j++[A.goals.getD i tBool.dflt && B.goals.getD j tBool.dflt]:=by simp [gRow,List.range_succ]
theorem qhb (A B:SysV) (i:Nat):gAll A B (i+1)=gAll A B i++gRow A B i B.st.toNat:=by simp [gAll,List.range_succ]
theorem qja (A B:SysV) (i j:Nat):(gRow A B i j).length=j:=by simp [gRow]
theorem qjb (A B:SysV):∀ i,(gAll A B i).length=i*B.st.toNat
 | 0=>by simp [gAll]
 | i+1=>by rw [qhb,List.length_append,qjb A B i,qja,Nat.add_mul,Nat.one_mul]
def manyK (A B:SysV) (k:Nat):Nat:=((List.range k).map fun l=>((labS A).getD l []).length*((labS B).getD l []).length).foldl (·+·) 0
theorem qcx (A B:SysV) (k:Nat):manyK A B (k+1)=manyK A B k+((labS A).getD k []).length*((labS B).getD k []).length:=by simp [manyK,List.range_succ]
theorem qea {A B:SysV}(ha:A.edges.length≤65536) (hb:B.edges.length≤65536):∀ k,manyK A B k≤k*4294967296
 | 0=>by simp [manyK]
 | k+1=>by
  have ih:=qea ha hb k
  have h1:((labS A).getD k []).length≤65536:=Nat.le_trans qcz ha
  have h2:((labS B).getD k []).length≤65536:=Nat.le_trans qcz hb
  have h3:((labS A).getD k []).length*((labS B).getD k []).length≤65536*65536:=Nat.mul_le_mul h1 h2
  rw [qcx]
  omega
theorem qjU (A B:SysV) {i j:Nat}(h:i≤j):manyK A B i≤manyK A B j:=by
 induction j with
 | zero =>
   have:i=0:=by omega
   subst this;exact Nat.le_refl _
 | succ j ih =>
  by_cases e:i=j+1
  ·subst e;exact Nat.le_refl _
  ·rw [qcx];have:=ih (by omega);omega
def prdR (B:SysV) (l:Nat) (e:Edg) (f:Edg):Edg:=⟨e.src*B.st+f.src,l,e.dst*B.st+f.dst⟩
def edB (B:SysV) (l:Nat) (e:Edg) (k:Nat):List Edg:=(((labS B).getD l []).take k).map (prdR B l e)
def edA (A B:SysV) (l j:Nat):List Edg:=(((labS A).getD l []).take j).flatMap fun e=>((labS B).getD l []).map (prdR B l e)
def edL (A B:SysV) (l:Nat):List Edg:=(List.range l).flatMap fun l=>edA A B l ((labS A).getD l []).length
theorem qnA (A B:SysV):edL A B A.costs.length=prdE A B:=by
 unfold edL prdE edA
 congr 1
 funext l
 rw [List.take_length]
 rfl
theorem qjc (A B:SysV) (l:Nat):edL A B (l+1)=edL A B l++edA A B l ((labS A).getD l []).length:=by simp [edL,List.range_succ]
theorem qjd {A B:SysV}{l j:Nat}(hj:j<((labS A).getD l []).length):edA A B l (j+1)=edA A B l j++edB B l (((labS A).getD l []).getD j tEdg.dflt) ((labS B).getD l []).length:=by
 unfold edA edB
 rw [qaj tEdg.dflt hj,List.flatMap_append,List.take_length]
 simp
theorem qm2 {B:SysV}{l k:Nat}{e:Edg}(hk:k<((labS B).getD l []).length):edB B l e (k+1)=edB B l e k++[prdR B l e (((labS B).getD l []).getD k tEdg.dflt)]:=by
 unfold edB
 rw [qaj tEdg.dflt hk,List.map_append]
 rfl
theorem qlz {B:SysV}{l k:Nat}{e:Edg}(hk:k≤((labS B).getD l []).length):(edB B l e k).length=k:=by unfold edB;rw [List.length_map,List.length_take];omega
theorem qhX {A B:SysV}{l:Nat}:∀ {j:Nat},j≤((labS A).getD l []).length→(edA A B l j).length=j*((labS B).getD l []).length
 | 0,_=>by simp [edA]
 | j+1,h=>by rw [qjd (by omega),List.length_append,qhX (by omega),qlz (Nat.le_refl _),Nat.add_mul,Nat.one_mul]
theorem qhY (A B:SysV):∀ l,(edL A B l).length=manyK A B l
 | 0=>rfl
 | l+1=>by rw [qjc,List.length_append,qhY A B l,qhX (Nat.le_refl _),qcx]
set_option maxRecDepth 8000 in
set_option maxHeartbeats 16000000 in
theorem ql2 {w0:World}{ac ae ag bc be bg:Value}{A B:SysV}(hA:RSys w0 ac ae ag A) (hB:RSys w0 bc be bg B) :
  Calls Tryz.prog 85 #[sysV A ac ae ag,sysV B bc be bg] w0 fun e w'=>∃ cv ev gv,e=.returned (.tuple #[sysV (prdS A B) cv ev gv,errV (prdErr A B)])∧SysAt w0 w' cv ev gv (prdS A B):=by
 have hw:=Sat.start w0
 have oA:=hA.ones
 have oB:=hB.ones
 have hag:=hA.goals
 have hbg:=hB.goals
 refine qaf (args:=[sysV A ac ae ag,sysV B bc be bg]) mixed Tryz.func85 rfl (by kernel_rfl) (Nat.le_of_ble_eq_true rfl) ?_
 unfold sysV
 repeat (first|refine qac ?_|(refine qaa ?_;clear hw;intro p w hw)|(refine qad ?_;clear hw;intro w hw)|(refine qab ?_;clear hw;intro s w hw))
 rename_i pa wa pb wb
 obtain⟨pr,hpr⟩:∃ q,q=p:=⟨p,rfl⟩
 subst hpr
 have hw:Sat w0 w [Box pr 96 [.int .i64 0,.int .i64 0,.slice none 0 0,.slice none 0 0,.slice none 0 0],Box pb 96 [.int .i64 B.st,.int .i64 B.ini,bc,be,bg],Box pa 96 [.int .i64 A.st,.int .i64 A.ini,ac,ae,ag]]:=hw
 refine qah rfl (qcd (S:=A) (hA.at hw)) ?_
 rintro _ w' ⟨rfl,hk'⟩;replace hw:=hw.call0 hk';clear hk';refine⟨_,rfl,?_⟩
 by_cases vA:valB A=true
 case neg =>
  have hE:prdErr A B=2:=by
   have:¬ValS A:=fun h=>vA (qfr h)
   unfold prdErr;rw [if_neg (fun h=>this h.1)]
  have hP:prdS A B=sysNo:=by unfold prdS;rw [if_neg (by rw [hE];decide)]
  rw [hE,hP]
  rw [Bool.not_eq_true] at vA
  rw [vA]
  repeat (first|refine qac ?_|(refine qaa ?_;clear hw;intro p w hw)|(refine qae ?_;clear hw;intro w hw)|(refine qab ?_;clear hw;intro s w hw))
  refine qap (parts:=[]) (vs:=[]) rfl rfl rfl ?_
  repeat (first|refine qac ?_|(refine qaa ?_;clear hw;intro p w hw)|(refine qae ?_;clear hw;intro w hw)|(refine qab ?_;clear hw;intro s w hw))
  exact qar (p:=pr) (vs:=[.int .i64 0,.int .i64 0,.slice none 0 0,.slice none 0 0,.slice none 0 0]) rfl rfl (v':=errV 2) (by rw [qan (by decide)];rfl) rfl (fun j v hv=>qau (i:=0) hw rfl hv) ⟨_,_,_,rfl,qaO hw⟩
 rw [vA]
 repeat (first|refine qac ?_|(refine qaa ?_;clear hw;intro p w hw)|(refine qad ?_;clear hw;intro w hw)|(refine qab ?_;clear hw;intro s w hw))
 refine qah rfl (qcd (S:=B) (hB.at hw)) ?_
 rintro _ w' ⟨rfl,hk'⟩;replace hw:=hw.call0 hk';clear hk';refine⟨_,rfl,?_⟩
 by_cases vB:valB B=true
 case neg =>
  have hE:prdErr A B=2:=by
   have:¬ValS B:=fun h=>vB (qfr h)
   unfold prdErr;rw [if_neg (fun h=>this h.2.1)]
  have hP:prdS A B=sysNo:=by unfold prdS;rw [if_neg (by rw [hE];decide)]
  rw [hE,hP]
  rw [Bool.not_eq_true] at vB
  rw [vB]
  repeat (first|refine qac ?_|(refine qaa ?_;clear hw;intro p w hw)|(refine qae ?_;clear hw;intro w hw)|(refine qab ?_;clear hw;intro s w hw))
  refine qap (parts:=[]) (vs:=[]) rfl rfl rfl ?_
  repeat (first|refine qac ?_|(refine qaa ?_;clear hw;intro p w hw)|(refine qae ?_;clear hw;intro w hw)|(refine qab ?_;clear hw;intro s w hw))
  exact qar (p:=pr) (vs:=[.int .i64 0,.int .i64 0,.slice none 0 0,.slice none 0 0,.slice none 0 0]) rfl rfl (v':=errV 2) (by rw [qan (by decide)];rfl) rfl (fun j v hv=>qau (i:=0) hw rfl hv) ⟨_,_,_,rfl,qaO hw⟩
 rw [vB]
 repeat (first|refine qac ?_|(refine qaa ?_;clear hw;intro p w hw)|(refine qad ?_;clear hw;intro w hw)|(refine qab ?_;clear hw;intro s w hw))
 refine qah rfl (qbS (hA.costs.at hw) (hB.costs.at hw)) ?_
 rintro _ w' ⟨⟨eq,rfl,heq⟩,hk'⟩;replace hw:=hw.call0 hk';clear hk';refine⟨_,rfl,?_⟩
 cases eq with
 | false =>
  have hE:prdErr A B=2:=by
   unfold prdErr;rw [if_neg (fun h=>by have:=heq.2 h.2.2;cases this)]
  have hP:prdS A B=sysNo:=by unfold prdS;rw [if_neg (by rw [hE];decide)]
  rw [hE,hP]
  repeat (first|refine qac ?_|(refine qaa ?_;clear hw;intro p w hw)|(refine qae ?_;clear hw;intro w hw)|(refine qab ?_;clear hw;intro s w hw))
  refine qap (parts:=[]) (vs:=[]) rfl rfl rfl ?_
  repeat (first|refine qac ?_|(refine qaa ?_;clear hw;intro p w hw)|(refine qae ?_;clear hw;intro w hw)|(refine qab ?_;clear hw;intro s w hw))
  exact qar (p:=pr) (vs:=[.int .i64 0,.int .i64 0,.slice none 0 0,.slice none 0 0,.slice none 0 0]) rfl rfl (v':=errV 2) (by rw [qan (by decide)];rfl) rfl (fun j v hv=>qau (i:=0) hw rfl hv) ⟨_,_,_,rfl,qaO hw⟩
 | true =>
 have hce:=heq.1 rfl
 have hvA:ValS A:=Classical.byContradiction fun h=>by rw [qb5 h] at vA;cases vA
 have hvB:ValS B:=Classical.byContradiction fun h=>by rw [qb5 h] at vB;cases vB
 have hE0:prdErr A B=if 4096<A.st*B.st then 5 else if 65536<prdM A B then 5 else 0:=by unfold prdErr;rw [if_pos ⟨hvA,hvB,hce⟩]
 obtain⟨a1,a2,a3,a4,a5,a6,a7,aco,aed,_⟩:=hvA
 obtain⟨b1,b2,b3,b4,b5,b6,b7,bco,bed,_⟩:=hvB
 have m1:=qeQ (a:=A.st) (b:=B.st) (M:=4096) (N:=4096) (by omega) a2 (by omega) b2
 have m2:=qeQ (a:=A.ini) (b:=B.st) (M:=4096) (N:=4096) a3 (by omega) (by omega) b2
 obtain⟨m3,m4⟩:=m1
 have a7':A.edges.length≤65536:=by omega
 have b7':B.edges.length≤65536:=by omega
 obtain⟨m5,m6⟩:=m2
 have m7 : -9223372036854775808≤A.st*B.st:=by omega
 have m8:A.st*B.st≤9223372036854775807:=by omega
 have m9 : -9223372036854775808≤A.ini*B.st:=by omega
 have m10:A.ini*B.st≤9223372036854775807:=by omega
 repeat (first|refine qac ?_|(refine qaa ?_;clear hw;intro p w hw)|(refine qad ?_;clear hw;intro w hw)|(refine qab ?_;clear hw;intro s w hw))
 refine go_if (fun h1 => ?_) (fun h1 => ?_)
 ·have hE:prdErr A B=5:=by rw [hE0,if_pos h1]
  have hP:prdS A B=sysNo:=by unfold prdS;rw [if_neg (by rw [hE];decide)]
  rw [hE,hP]
  repeat (first|refine qac ?_|(refine qaa ?_;clear hw;intro p w hw)|(refine qae ?_;clear hw;intro w hw)|(refine qab ?_;clear hw;intro s w hw))
  refine qap (parts:=[]) (vs:=[]) rfl rfl rfl ?_
  repeat (first|refine qac ?_|(refine qaa ?_;clear hw;intro p w hw)|(refine qae ?_;clear hw;intro w hw)|(refine qab ?_;clear hw;intro s w hw))
  exact qar (p:=pr) (vs:=[.int .i64 0,.int .i64 0,.slice none 0 0,.slice none 0 0,.slice none 0 0]) rfl rfl (v':=errV 5) (by rw [qan (by decide)];rfl) rfl (fun j v hv=>qau (i:=0) hw rfl hv) ⟨_,_,_,rfl,qaO hw⟩
 rw [if_neg (by omega)] at hE0
 repeat (first|refine qac ?_|(refine qaa ?_;clear hw;intro p w hw)|(refine qad ?_;clear hw;intro w hw)|(refine qab ?_;clear hw;intro s w hw))
 refine qdh [6,44,45,46,47,48,49,50,51,52,53,54,55,56,57,58,59,60] (G:=Addr × Value) (fun x=>[(6,.pointer (some x.1))]) (fun x w=>Sat w0 w [Box x.1 96 [.int .i64 (A.st*B.st),.int .i64 (A.ini*B.st+B.ini),x.2,.slice none 0 0,.slice none 0 0],OS tInt 3 x.2 A.costs,Box pr 96 [.int .i64 0,.int .i64 0,.slice none 0 0,.slice none 0 0,.slice none 0 0],Box pb 96 [.int .i64 B.st,.int .i64 B.ini,bc,be,bg],Box pa 96 [.int .i64 A.st,.int .i64 A.ini,ac,ae,ag]]) (fun _=>rfl) ?_ ?_
 ·refine qeK (.step 0 [.op 0] (.step 2 [.op 2] (.step 5 [.op 5] (.step 7 [.op 7] (.step 10 [.op 10] (.step 13 [.op 13] (.step 1 [.op 1] (.step 3 [.op 3] (.step 4 [.op 4] (.step 6 [.op 6] (.step 8 [.op 8] (.step 9 [.op 9] (.step 11 [.op 11] (.step 12 [.op 12] (.step 14 [.op 14] (.alt 15 [.op 15,.chk 1,.chk 3,.chk 6,.chk 8,.chk 11] (.alt 16 [.op 16] (.step 17 [.op 17,.chk 1,.chk 3,.chk 6,.chk 8,.chk 11,.chk 14] (.step 18 [.op 18] (.lin []))) (.alt 17 [.op 17,.chk 1,.chk 3,.chk 6,.chk 8,.chk 11,.chk 14] (.step 16 [.op 16] (.step 18 [.op 18] (.lin []))) (.stop))) (.alt 17 [.op 17,.chk 1,.chk 3,.chk 6,.chk 8,.chk 11,.chk 14] (.step 15 [.op 15,.chk 1,.chk 3,.chk 6,.chk 8,.chk 11] (.step 16 [.op 16] (.step 18 [.op 18] (.lin [])))) (.stop)))))))))))))))))) hw (by kernel_rfl) (by kernel_rfl) ?_;clear hw;intro w hw
  repeat (first|refine qac ?_|(refine qaa ?_;clear hw;intro p w hw)|(refine qad ?_;clear hw;intro w hw)|(refine qab ?_;clear hw;intro s w hw))
  refine qav ?_ (qav ?_ qaG)
  ·repeat (first|refine qac ?_|(refine qaa ?_;clear hw;intro p w hw)|(refine qad ?_;clear hw;intro w hw)|(refine qab ?_;clear hw;intro s w hw))
   refine qah rfl (qaB (hA.costs.at hw) (by omega)) ?_;rintro _ w' ⟨cx,rfl,hk'⟩;replace hw:=hw.call1 hk';clear hk';refine⟨_,rfl,?_⟩
   repeat (first|refine qac ?_|(refine qaa ?_;clear hw;intro p w hw)|(refine qad ?_;clear hw;intro w hw)|(refine qab ?_;clear hw;intro s w hw))
   refine qav ?_ (qav ?_ qaG)
   ·repeat (first|refine qac ?_|(refine qaa ?_;clear hw;intro p w hw)|(refine qad ?_;clear hw;intro w hw)|(refine qab ?_;clear hw;intro s w hw))
    have oc:=(rsO (s:=cx) hw).one;refine qap (parts:=[(0,.tmp 48),(1,.tmp 56),(2,.tmp 59)]) (vs:=[(0,.int .i64 (A.st*B.st)),(1,.int .i64 (A.ini*B.st+B.ini)),(2,cx)]) rfl rfl (by simp only [List.all_cons,List.all_nil,oc];rfl) ?_
    repeat (first|refine qac ?_|(refine qaa ?_;clear hw;intro p w hw)|(refine qad ?_;clear hw;intro w hw)|(refine qab ?_;clear hw;intro s w hw))
    have oc:=(rsO (s:=cx) hw).one;refine qao (n:=5) (p:=p) (vs:=[.int .i64 (A.st*B.st),.int .i64 (A.ini*B.st+B.ini),cx,.slice none 0 0,.slice none 0 0]) rfl rfl hw inferInstance rfl rfl (by simp only [List.all_cons,List.all_nil,oc];rfl) ?_;clear hw;intro w hw
    repeat (first|refine qac ?_|(refine qaa ?_;clear hw;intro p w hw)|(refine qad ?_;clear hw;intro w hw)|(refine qab ?_;clear hw;intro s w hw))
    exact⟨(p,cx),⟨rfl,trivial⟩,agr,hw.sel⟩
   ·repeat (first|refine qac ?_|(refine qaa ?_;clear hw;intro p w hw)|(refine qad ?_;clear hw;intro w hw)|(refine qab ?_;clear hw;intro s w hw))
    have oc:=(rsO (s:=cx) hw).one;refine qap (parts:=[(0,.tmp 48),(1,.tmp 56),(2,.tmp 59)]) (vs:=[(0,.int .i64 (A.st*B.st)),(1,.int .i64 (A.ini*B.st+B.ini)),(2,cx)]) rfl rfl (by simp only [List.all_cons,List.all_nil,oc];rfl) ?_
    repeat (first|refine qac ?_|(refine qaa ?_;clear hw;intro p w hw)|(refine qad ?_;clear hw;intro w hw)|(refine qab ?_;clear hw;intro s w hw))
    have oc:=(rsO (s:=cx) hw).one;refine qao (n:=5) (p:=p) (vs:=[.int .i64 (A.st*B.st),.int .i64 (A.ini*B.st+B.ini),cx,.slice none 0 0,.slice none 0 0]) rfl rfl hw inferInstance rfl rfl (by simp only [List.all_cons,List.all_nil,oc];rfl) ?_;clear hw;intro w hw
    repeat (first|refine qac ?_|(refine qaa ?_;clear hw;intro p w hw)|(refine qad ?_;clear hw;intro w hw)|(refine qab ?_;clear hw;intro s w hw))
    exact⟨(p,cx),⟨rfl,trivial⟩,agr,hw.sel⟩
  ·repeat (first|refine qac ?_|(refine qaa ?_;clear hw;intro p w hw)|(refine qad ?_;clear hw;intro w hw)|(refine qab ?_;clear hw;intro s w hw))
   refine qah rfl (qaB (hA.costs.at hw) (by omega)) ?_;rintro _ w' ⟨cx,rfl,hk'⟩;replace hw:=hw.call1 hk';clear hk';refine⟨_,rfl,?_⟩
   repeat (first|refine qac ?_|(refine qaa ?_;clear hw;intro p w hw)|(refine qad ?_;clear hw;intro w hw)|(refine qab ?_;clear hw;intro s w hw))
   have oc:=(rsO (s:=cx) hw).one;refine qap (parts:=[(0,.tmp 48),(1,.tmp 56),(2,.tmp 59)]) (vs:=[(0,.int .i64 (A.st*B.st)),(1,.int .i64 (A.ini*B.st+B.ini)),(2,cx)]) rfl rfl (by simp only [List.all_cons,List.all_nil,oc];rfl) ?_
   repeat (first|refine qac ?_|(refine qaa ?_;clear hw;intro p w hw)|(refine qad ?_;clear hw;intro w hw)|(refine qab ?_;clear hw;intro s w hw))
   have oc:=(rsO (s:=cx) hw).one;refine qao (n:=5) (p:=p) (vs:=[.int .i64 (A.st*B.st),.int .i64 (A.ini*B.st+B.ini),cx,.slice none 0 0,.slice none 0 0]) rfl rfl hw inferInstance rfl rfl (by simp only [List.all_cons,List.all_nil,oc];rfl) ?_;clear hw;intro w hw
   repeat (first|refine qac ?_|(refine qaa ?_;clear hw;intro p w hw)|(refine qad ?_;clear hw;intro w hw)|(refine qab ?_;clear hw;intro s w hw))
   exact⟨(p,cx),⟨rfl,trivial⟩,agr,hw.sel⟩
 clear hw
 rintro σ ⟨px,cx⟩ w hw
 dsimp only at hw
 repeat (first|refine qac ?_|(refine qaa ?_;clear hw;intro p w hw)|(refine qad ?_;clear hw;intro w hw)|(refine qab ?_;clear hw;intro s w hw))
 have hw:Sat w0 w [Box px 96 [.int .i64 (A.st*B.st),.int .i64 (A.ini*B.st+B.ini),cx,.slice none 0 0,.slice none 0 0],OS tBool 4 (.slice none 0 0) (gAll A B 0),OS tInt 3 cx A.costs,Box pr 96 [.int .i64 0,.int .i64 0,.slice none 0 0,.slice none 0 0,.slice none 0 0],Box pb 96 [.int .i64 B.st,.int .i64 B.ini,bc,be,bg],Box pa 96 [.int .i64 A.st,.int .i64 A.ini,ac,ae,ag]]:=by rw [show gAll A B 0=[] from rfl];exact (hw.nil (T:=tBool) (e:=4)).sel
 refine qaq [7,8,63,64,65,66,67,68,69,70,71,72,73,74,75,76,77,78,79,80,81,82,83,84,85,86,87,88,89] (G:=Nat) (H:=Value) (fun i gv=>[(63,.int .i64 i)]) (fun i gv w=>(i:Int)≤A.st∧Sat w0 w [Box px 96 [.int .i64 (A.st*B.st),.int .i64 (A.ini*B.st+B.ini),cx,.slice none 0 0,gv],OS tBool 4 gv (gAll A B i),OS tInt 3 cx A.costs,Box pr 96 [.int .i64 0,.int .i64 0,.slice none 0 0,.slice none 0 0,.slice none 0 0],Box pb 96 [.int .i64 B.st,.int .i64 B.ini,bc,be,bg],Box pa 96 [.int .i64 A.st,.int .i64 A.ini,ac,ae,ag]]) (fun i _=>A.st.toNat-i) 0 (.slice none 0 0) (fun _ _=>rfl) ⟨rfl,trivial⟩ ⟨by omega,hw⟩ ?_
 clear hw
 rintro σ i gv w ⟨hi,hw⟩
 repeat (first|refine qac ?_|(refine qaa ?_;clear hw;intro p w hw)|(refine qad ?_;clear hw;intro w hw)|(refine qab ?_;clear hw;intro s w hw))
 refine go_if (fun h2 => ?_) (fun h2 => ?_)
 ·repeat (first|refine qac ?_|(refine qaa ?_;clear hw;intro p w hw)|(refine qad ?_;clear hw;intro w hw)|(refine qab ?_;clear hw;intro s w hw))
  have hw:Sat w0 w [Box px 96 [.int .i64 (A.st*B.st),.int .i64 (A.ini*B.st+B.ini),cx,.slice none 0 0,gv],OS tBool 4 gv (gAll A B i++gRow A B i 0),OS tInt 3 cx A.costs,Box pr 96 [.int .i64 0,.int .i64 0,.slice none 0 0,.slice none 0 0,.slice none 0 0],Box pb 96 [.int .i64 B.st,.int .i64 B.ini,bc,be,bg],Box pa 96 [.int .i64 A.st,.int .i64 A.ini,ac,ae,ag]]:=by
   rw [show gRow A B i 0=[] from rfl,List.append_nil];exact hw
  refine qaq [8,68,69,70,71,72,73,74,75,76,77,78,79,80,81,82,83,84,85,86,87,88] (G:=Nat) (H:=Value) (fun j gv=>[(68,.int .i64 j)]) (fun j gv w=>(j:Int)≤B.st∧Sat w0 w [Box px 96 [.int .i64 (A.st*B.st),.int .i64 (A.ini*B.st+B.ini),cx,.slice none 0 0,gv],OS tBool 4 gv (gAll A B i++gRow A B i j),OS tInt 3 cx A.costs,Box pr 96 [.int .i64 0,.int .i64 0,.slice none 0 0,.slice none 0 0,.slice none 0 0],Box pb 96 [.int .i64 B.st,.int .i64 B.ini,bc,be,bg],Box pa 96 [.int .i64 A.st,.int .i64 A.ini,ac,ae,ag]]) (fun j _=>B.st.toNat-j) 0 gv (fun _ _=>rfl) ⟨rfl,trivial⟩ ⟨by omega,hw⟩ ?_
  clear hw
  rintro σ j gv w ⟨hj,hw⟩
  repeat (first|refine qac ?_|(refine qaa ?_;clear hw;intro p w hw)|(refine qad ?_;clear hw;intro w hw)|(refine qab ?_;clear hw;intro s w hw))
  refine go_if (fun h3 => ?_) (fun h3 => ?_)
  ·have hal:=qjb A B i
   have hrl:=qja A B i j
   have hil:i*B.st.toNat≤4096*4096:=Nat.mul_le_mul (by omega) (by omega)
   have hall:(gAll A B i++gRow A B i j).length≤20000000:=by rw [List.length_append,hal,hrl];omega
   repeat (first|refine qac ?_|(refine qaa ?_;clear hw;intro p w hw)|(refine qad ?_;clear hw;intro w hw)|(refine qab ?_;clear hw;intro s w hw))
   refine qax [.op 0,.op 1,.op 2,.op 3,.op 4,.op 5,.op 6,.op 7,.op 8,.op 9,.op 10,.op 11,.op 12,.op 13,.op 14,.chk 1,.op 15,.op 16,.op 17] hw (by kernel_rfl) ?_;clear hw;intro w hw
   repeat (first|refine qac ?_|(refine qaa ?_;clear hw;intro p w hw)|(refine qae ?_;clear hw;intro w hw)|(refine qcq ?_;clear hw;intro s w hw))
   refine qam tBool (x1:=A.goals.getD i tBool.dflt && B.goals.getD j tBool.dflt) rfl rfl rfl (Nat.le_of_ble_eq_true rfl) (Nat.zero_lt_succ _) hw ?_
   clear hw;intro s2 w hw
   repeat (first|refine qac ?_|(refine qaa ?_;clear hw;intro p w hw)|(refine qad ?_;clear hw;intro w hw)|(refine qab ?_;clear hw;intro s w hw))
   refine⟨j+1,s,⟨rfl,trivial⟩,agr,⟨by omega,?_⟩,by omega⟩
   rw [qly,←List.append_assoc]
   simp only [List.set_cons_succ,List.set_cons_zero] at hw
   exact hw.sel
  have hjn:j=B.st.toNat:=by omega
  subst hjn
  repeat (first|refine qac ?_|(refine qaa ?_;clear hw;intro p w hw)|(refine qad ?_;clear hw;intro w hw)|(refine qab ?_;clear hw;intro s w hw))
  exact⟨i+1,gv,⟨rfl,trivial⟩,agr,⟨by omega,by rw [qhb];exact hw.sel⟩,by omega⟩
 have hin:i=A.st.toNat:=by omega
 subst hin
 have hgG:gAll A B A.st.toNat=prdG A B:=rfl
 rw [hgG] at hw
 repeat (first|refine qac ?_|(refine qaa ?_;clear hw;intro p w hw)|(refine qad ?_;clear hw;intro w hw)|(refine qab ?_;clear hw;intro s w hw))
 refine qax [.op 0,.op 2,.op 1,.chk 2,.op 3,.op 4,.op 5] hw (by kernel_rfl) ?_;clear hw;intro w hw
 repeat (first|refine qac ?_|(refine qaa ?_;clear hw;intro p w hw)|(refine qad ?_;clear hw;intro w hw)|(refine qab ?_;clear hw;intro s w hw))
 refine qah rfl (qhh (S:=A) (hA.at hw) (by omega) (by omega) (fun e he=>(aed e he).2.2)) ?_
 rintro _ w' ⟨lv,ls,rfl,hk'⟩;replace hw:=hw.call2 hk';clear hk';refine⟨_,rfl,?_⟩
 repeat (first|refine qac ?_|(refine qaa ?_;clear hw;intro p w hw)|(refine qad ?_;clear hw;intro w hw)|(refine qab ?_;clear hw;intro s w hw))
 refine qah rfl (qhh (S:=B) (hB.at hw) (by omega) (by omega) (fun e he=>(bed e he).2.2)) ?_
 rintro _ w' ⟨rv,rs,rfl,hk'⟩;replace hw:=hw.call2 hk';clear hk';refine⟨_,rfl,?_⟩
 have hlA:(labS A).length=A.costs.length:=qbW
 have hlB:(labS B).length=B.costs.length:=qbW
 have hw:Sat w0 w' [Box px 96 [.int .i64 (A.st*B.st),.int .i64 (A.ini*B.st+B.ini),cx,.slice none 0 0,gv],OS tEdg 196 (.slice none 0 0) (edL A B 0),RowsAt tEdg 196 ls (labS A),OS tVal 93 lv ls,RowsAt tEdg 196 rs (labS B),OS tVal 93 rv rs,OS tBool 4 gv (prdG A B),OS tInt 3 cx A.costs,Box pr 96 [.int .i64 0,.int .i64 0,.slice none 0 0,.slice none 0 0,.slice none 0 0],Box pb 96 [.int .i64 B.st,.int .i64 B.ini,bc,be,bg]]:=by rw [show edL A B 0=[] from rfl];exact (hw.nil (T:=tEdg) (e:=196)).sel
 have hll:=(hw.focus 2 rfl).rowsLen
 have hrl:=(hw.focus 4 rfl).rowsLen
 have hcl:B.costs.length=A.costs.length:=by rw [hce]
 obtain⟨w,hw'⟩:∃ x,x=w':=⟨w',rfl⟩
 subst hw'
 repeat (first|refine qac ?_|(refine qaa ?_;clear hw;intro p w hw)|(refine qad ?_;clear hw;intro w hw)|(refine qab ?_;clear hw;intro s w hw))
 refine qak [11,12,96,97,98,99,100,101,102,103,104,105,106,107,108,109,110,111,112] (G:=Nat) (fun k=>[(96,.int .i64 k),(11,.int .i64 (manyK A B k))]) (fun k w=>k≤A.costs.length∧Sat w0 w [Box px 96 [.int .i64 (A.st*B.st),.int .i64 (A.ini*B.st+B.ini),cx,.slice none 0 0,gv],OS tEdg 196 (.slice none 0 0) (edL A B 0),RowsAt tEdg 196 ls (labS A),OS tVal 93 lv ls,RowsAt tEdg 196 rs (labS B),OS tVal 93 rv rs,OS tBool 4 gv (prdG A B),OS tInt 3 cx A.costs,Box pr 96 [.int .i64 0,.int .i64 0,.slice none 0 0,.slice none 0 0,.slice none 0 0],Box pb 96 [.int .i64 B.st,.int .i64 B.ini,bc,be,bg]]) (fun k=>A.costs.length-k) 0 (fun _=>rfl) ⟨rfl,rfl,trivial⟩ ⟨Nat.zero_le _,hw⟩ ?_
 clear hw
 rintro σ k w ⟨hk,hw⟩
 repeat (first|refine qac ?_|(refine qaa ?_;clear hw;intro p w hw)|(refine qad ?_;clear hw;intro w hw)|(refine qab ?_;clear hw;intro s w hw))
 refine go_if (fun h4 => ?_) (fun h4 => ?_)
 ·have hkl:k<A.costs.length:=by omega
  have hM:=qea a7' b7' k
  have hM1:=qea a7' b7' (k+1)
  have hMs:=qcx A B k
  have g1:((labS A).getD k []).length≤65536:=Nat.le_trans qcz a7'
  have g2:((labS B).getD k []).length≤65536:=Nat.le_trans qcz b7'
  have g3:=qeQ (a:=(((labS A).getD k []).length:Int)) (b:=(((labS B).getD k []).length:Int)) (M:=65536) (N:=65536) (by omega) (by omega) (by omega) (by omega)
  obtain⟨g4,g5⟩:=g3
  have g6 : -9223372036854775808≤(((labS A).getD k []).length:Int)*(((labS B).getD k []).length:Int):=by omega
  have g7:(((labS A).getD k []).length:Int)*(((labS B).getD k []).length:Int)≤9223372036854775807:=by omega
  repeat (first|refine qac ?_|(refine qaa ?_;clear hw;intro p w hw)|(refine qad ?_;clear hw;intro w hw)|(refine qab ?_;clear hw;intro s w hw))
  refine qbA ?_;clear hw;intro w hw
  have hrow:=(hw.focus 2 rfl).row (i:=k) (by omega)
  have hrow2:=(hw.focus 4 rfl).row (i:=k) (by omega)
  repeat (first|refine qac ?_|(refine qaa ?_;clear hw;intro p w hw)|(refine qad ?_;clear hw;intro w hw)|(refine qab ?_;clear hw;intro s w hw))
  exact⟨k+1,⟨rfl,by show Value.int .i64 _=Value.int .i64 _;rw [hMs,Int.natCast_add,Int.natCast_mul],trivial⟩,agr,⟨by omega,hw.sel⟩,by omega⟩
 have hkn:k=A.costs.length:=by omega
 subst hkn
 have hMM:=qea a7' b7' A.costs.length
 have hPM:prdM A B=manyK A B A.costs.length:=rfl
 rw [hPM] at hE0
 repeat (first|refine qac ?_|(refine qaa ?_;clear hw;intro p w hw)|(refine qad ?_;clear hw;intro w hw)|(refine qab ?_;clear hw;intro s w hw))
 refine go_if (fun h5 => ?_) (fun h5 => ?_)
 ·have hE:prdErr A B=5:=by rw [hE0,if_pos (by omega)]
  have hP:prdS A B=sysNo:=by unfold prdS;rw [if_neg (by rw [hE];decide)]
  rw [hE,hP]
  repeat (first|refine qac ?_|(refine qaa ?_;clear hw;intro p w hw)|(refine qae ?_;clear hw;intro w hw)|(refine qab ?_;clear hw;intro s w hw))
  refine qap (parts:=[]) (vs:=[]) rfl rfl rfl ?_
  repeat (first|refine qac ?_|(refine qaa ?_;clear hw;intro p w hw)|(refine qae ?_;clear hw;intro w hw)|(refine qab ?_;clear hw;intro s w hw))
  exact qar (p:=pr) (vs:=[.int .i64 0,.int .i64 0,.slice none 0 0,.slice none 0 0,.slice none 0 0]) rfl rfl (v':=errV 5) (by rw [qan (by decide)];rfl) rfl (fun j v hv=>qau (i:=8) hw rfl hv) ⟨_,_,_,rfl,qaO hw⟩
 rw [if_neg (by omega)] at hE0
 have hP:prdS A B=⟨A.st*B.st,A.ini*B.st+B.ini,A.costs,srtL cmpE (prdE A B),prdG A B⟩:=by unfold prdS;rw [if_pos hE0]
 repeat (first|refine qac ?_|(refine qaa ?_;clear hw;intro p w hw)|(refine qad ?_;clear hw;intro w hw)|(refine qab ?_;clear hw;intro s w hw))
 refine qaq [13,15,17,119,120,121,122,123,124,125,126,127,128,129,130,131,132,133,134,135,136,137,138,139,140,141,142,143,144,145,146,147,148,149,150,151,152,153,154,155,156,157,158,159,160,161,162,163,164,165] (G:=Nat) (H:=Value) (fun l ev=>[(119,.int .i64 l)]) (fun l ev w=>l≤A.costs.length∧Sat w0 w [Box px 96 [.int .i64 (A.st*B.st),.int .i64 (A.ini*B.st+B.ini),cx,ev,gv],OS tEdg 196 ev (edL A B l),RowsAt tEdg 196 ls (labS A),OS tVal 93 lv ls,RowsAt tEdg 196 rs (labS B),OS tVal 93 rv rs,OS tBool 4 gv (prdG A B),OS tInt 3 cx A.costs,Box pr 96 [.int .i64 0,.int .i64 0,.slice none 0 0,.slice none 0 0,.slice none 0 0],Box pb 96 [.int .i64 B.st,.int .i64 B.ini,bc,be,bg]]) (fun l _=>A.costs.length-l) 0 (.slice none 0 0) (fun _ _=>rfl) ⟨rfl,trivial⟩ ⟨Nat.zero_le _,hw⟩ ?_
 clear hw
 rintro σ l ev w ⟨hl,hw⟩
 repeat (first|refine qac ?_|(refine qaa ?_;clear hw;intro p w hw)|(refine qad ?_;clear hw;intro w hw)|(refine qab ?_;clear hw;intro s w hw))
 refine go_if (fun h6 => ?_) (fun h6 => ?_)
 ·have hll2:l<A.costs.length:=by omega
  have hrow:=(hw.focus 2 rfl).row (i:=l) (by omega)
  obtain⟨LA,hLA⟩:∃ LA,LA=(labS A).getD l []:=⟨_,rfl⟩
  have hLAm:∀ e∈LA,e∈A.edges:=fun e he=>((qem (g:=fun e:Edg=>e.lab) (l:=A.edges) hll2).1 (by rw [hLA] at he;exact he)).1
  have hLAl:LA.length≤65536:=by rw [hLA];exact Nat.le_trans qcz a7'
  rw [←hLA] at hrow
  repeat (first|refine qac ?_|(refine qaa ?_;clear hw;intro p w hw)|(refine qad ?_;clear hw;intro w hw)|(refine qab ?_;clear hw;intro s w hw))
  have hw:Sat w0 w [Box px 96 [.int .i64 (A.st*B.st),.int .i64 (A.ini*B.st+B.ini),cx,ev,gv],OS tEdg 196 ev (edL A B l++edA A B l 0),RowsAt tEdg 196 ls (labS A),OS tVal 93 lv ls,RowsAt tEdg 196 rs (labS B),OS tVal 93 rv rs,OS tBool 4 gv (prdG A B),OS tInt 3 cx A.costs,Box pr 96 [.int .i64 0,.int .i64 0,.slice none 0 0,.slice none 0 0,.slice none 0 0],Box pb 96 [.int .i64 B.st,.int .i64 B.ini,bc,be,bg]]:=by rw [show edA A B l 0=[] from rfl,List.append_nil];exact hw
  refine qaq [15,17,127,128,129,130,131,132,133,134,135,136,137,138,139,140,141,142,143,144,145,146,147,148,149,150,151,152,153,154,155,156,157,158,159,160,161,162,163,164] (G:=Nat) (H:=Value) (fun j ev=>[(127,.int .i64 j)]) (fun j ev w=>j≤LA.length∧Sat w0 w [Box px 96 [.int .i64 (A.st*B.st),.int .i64 (A.ini*B.st+B.ini),cx,ev,gv],OS tEdg 196 ev (edL A B l++edA A B l j),RowsAt tEdg 196 ls (labS A),OS tVal 93 lv ls,RowsAt tEdg 196 rs (labS B),OS tVal 93 rv rs,OS tBool 4 gv (prdG A B),OS tInt 3 cx A.costs,Box pr 96 [.int .i64 0,.int .i64 0,.slice none 0 0,.slice none 0 0,.slice none 0 0],Box pb 96 [.int .i64 B.st,.int .i64 B.ini,bc,be,bg]]) (fun j _=>LA.length-j) 0 ev (fun _ _=>rfl) ⟨rfl,trivial⟩ ⟨Nat.zero_le _,hw⟩ ?_
  clear hw hrow
  rintro σ j ev w ⟨hj,hw⟩
  have hrow:=(hw.focus 2 rfl).row (i:=l) (by omega)
  rw [←hLA] at hrow
  repeat (first|refine qac ?_|(refine qaa ?_;clear hw;intro p w hw)|(refine qad ?_;clear hw;intro w hw)|(refine qab ?_;clear hw;intro s w hw))
  refine go_if (fun h7 => ?_) (fun h7 => ?_)
  ·have hjl:j<LA.length:=by omega
   obtain⟨e,he⟩:∃ e,e=LA.getD j tEdg.dflt:=⟨_,rfl⟩
   have hem:=hLAm _ (qal tEdg.dflt hjl)
   rw [←he] at hem
   obtain⟨⟨e1,e2⟩,⟨e3,e4⟩,_⟩:=aed e hem
   repeat (first|refine qac ?_|(refine qaa ?_;clear hw;intro p w hw)|(refine qad ?_;clear hw;intro w hw)|(refine qab ?_;clear hw;intro s w hw))
   obtain⟨pe,hpe⟩:∃ q,q=p:=⟨p,rfl⟩
   subst hpe
   have hw:Sat w0 w [Box pe 196 [.int .i64 e.src,.int .i64 e.lab,.int .i64 e.dst],Box px 96 [.int .i64 (A.st*B.st),.int .i64 (A.ini*B.st+B.ini),cx,ev,gv],OS tEdg 196 ev (edL A B l++edA A B l j++edB B l e 0),RowsAt tEdg 196 ls (labS A),OS tVal 93 lv ls,RowsAt tEdg 196 rs (labS B),OS tVal 93 rv rs,OS tBool 4 gv (prdG A B),OS tInt 3 cx A.costs,Box pr 96 [.int .i64 0,.int .i64 0,.slice none 0 0,.slice none 0 0,.slice none 0 0],Box pb 96 [.int .i64 B.st,.int .i64 B.ini,bc,be,bg]]:=by rw [he,show edB B l (LA.getD j tEdg.dflt) 0=[] from rfl,List.append_nil];exact hw
   have hrow2:=(hw.focus 5 rfl).row (i:=l) (by omega)
   obtain⟨LB,hLB⟩:∃ LB,LB=(labS B).getD l []:=⟨_,rfl⟩
   have hLBm:∀ e∈LB,e∈B.edges:=fun e he=>((qem (g:=fun e:Edg=>e.lab) (l:=B.edges) (x:=l) (n:=B.costs.length) (by omega)).1 (by rw [hLB] at he;exact he)).1
   have hLBl:LB.length≤65536:=by rw [hLB];exact Nat.le_trans qcz b7'
   rw [←hLB] at hrow2
   repeat (first|refine qac ?_|(refine qaa ?_;clear hw;intro p w hw)|(refine qad ?_;clear hw;intro w hw)|(refine qab ?_;clear hw;intro s w hw))
   refine qaq [17,136,137,138,139,140,141,142,143,144,145,146,147,148,149,150,151,152,153,154,155,156,157,158,159,160,161,162,163] (G:=Nat) (H:=Value) (fun k ev=>[(136,.int .i64 k)]) (fun k ev w=>k≤LB.length∧Sat w0 w [Box pe 196 [.int .i64 e.src,.int .i64 e.lab,.int .i64 e.dst],Box px 96 [.int .i64 (A.st*B.st),.int .i64 (A.ini*B.st+B.ini),cx,ev,gv],OS tEdg 196 ev (edL A B l++edA A B l j++edB B l e k),RowsAt tEdg 196 ls (labS A),OS tVal 93 lv ls,RowsAt tEdg 196 rs (labS B),OS tVal 93 rv rs,OS tBool 4 gv (prdG A B),OS tInt 3 cx A.costs,Box pr 96 [.int .i64 0,.int .i64 0,.slice none 0 0,.slice none 0 0,.slice none 0 0],Box pb 96 [.int .i64 B.st,.int .i64 B.ini,bc,be,bg]]) (fun k _=>LB.length-k) 0 ev (fun _ _=>rfl) ⟨rfl,trivial⟩ ⟨Nat.zero_le _,hw⟩ ?_
   clear hw hrow hrow2
   rintro σ k ev w ⟨hk,hw⟩
   have hrow2:=(hw.focus 5 rfl).row (i:=l) (by omega)
   rw [←hLB] at hrow2
   repeat (first|refine qac ?_|(refine qaa ?_;clear hw;intro p w hw)|(refine qad ?_;clear hw;intro w hw)|(refine qab ?_;clear hw;intro s w hw))
   refine go_if (fun h8 => ?_) (fun h8 => ?_)
   ·have hkl:k<LB.length:=by omega
    obtain⟨f,hf⟩:∃ f,f=LB.getD k tEdg.dflt:=⟨_,rfl⟩
    have hfm:=hLBm _ (qal tEdg.dflt hkl)
    rw [←hf] at hfm
    obtain⟨⟨f1,f2⟩,⟨f3,f4⟩,_⟩:=bed f hfm
    repeat (first|refine qac ?_|(refine qaa ?_;clear hw;intro p w hw)|(refine qad ?_;clear hw;intro w hw)|(refine qab ?_;clear hw;intro s w hw))
    have hw:Sat w0 w [Box p 196 [.int .i64 f.src,.int .i64 f.lab,.int .i64 f.dst],Box pe 196 [.int .i64 e.src,.int .i64 e.lab,.int .i64 e.dst],Box px 96 [.int .i64 (A.st*B.st),.int .i64 (A.ini*B.st+B.ini),cx,ev,gv],OS tEdg 196 ev (edL A B l++edA A B l j++edB B l e k),RowsAt tEdg 196 ls (labS A),OS tVal 93 lv ls,RowsAt tEdg 196 rs (labS B),OS tVal 93 rv rs,OS tBool 4 gv (prdG A B),OS tInt 3 cx A.costs,Box pr 96 [.int .i64 0,.int .i64 0,.slice none 0 0,.slice none 0 0,.slice none 0 0],Box pb 96 [.int .i64 B.st,.int .i64 B.ini,bc,be,bg]]:=by rw [hf];exact hw
    have n1:=qeQ (a:=e.src) (b:=B.st) (M:=4096) (N:=4096) e1 (by omega) (by omega) b2
    have n2:=qeQ (a:=e.dst) (b:=B.st) (M:=4096) (N:=4096) e3 (by omega) (by omega) b2
    obtain⟨n3,n4⟩:=n1
    obtain⟨n5,n6⟩:=n2
    have n7 : -9223372036854775808≤e.src*B.st:=by omega
    have n8:e.src*B.st≤9223372036854775807:=by omega
    have n9 : -9223372036854775808≤e.dst*B.st:=by omega
    have n10:e.dst*B.st≤9223372036854775807:=by omega
    repeat (first|refine qac ?_|(refine qaa ?_;clear hw;intro p w hw)|(refine qae ?_;clear hw;intro w hw)|(refine qcq ?_;clear hw;intro s w hw))
    have q1:=qhY A B l
    have q2:=qjU A B hl
    have q3:(edA A B l j).length≤65536*65536:=by
     rw [qhX (by rw [←hLA];omega),←hLB]
     exact Nat.mul_le_mul (by omega) hLBl
    have q4:(edB B l e k).length=k:=qlz (by rw [←hLB];exact hk)
    have q5:(edL A B l++edA A B l j++edB B l e k).length≤5000000000:=by rw [List.length_append,List.length_append,q1,q4];omega
    refine qam tEdg (x1:=⟨e.src*B.st+f.src,(l:Int),e.dst*B.st+f.dst⟩) rfl rfl rfl (Nat.le_of_ble_eq_true rfl) (Nat.zero_lt_succ _) hw ?_
    clear hw hrow2;intro s2 w hw
    repeat (first|refine qac ?_|(refine qaa ?_;clear hw;intro p w hw)|(refine qad ?_;clear hw;intro w hw)|(refine qab ?_;clear hw;intro s w hw))
    simp only [List.set_cons_succ,List.set_cons_zero] at hw
    refine⟨k+1,s,⟨rfl,trivial⟩,agr,⟨by omega,?_⟩,by omega⟩
    rw [qm2 (by rw [←hLB];exact hkl),←List.append_assoc,←hLB,←hf]
    unfold prdR
    exact hw.sel
   have hkn:k=LB.length:=by omega
   subst hkn
   repeat (first|refine qac ?_|(refine qaa ?_;clear hw;intro p w hw)|(refine qad ?_;clear hw;intro w hw)|(refine qab ?_;clear hw;intro s w hw))
   refine⟨j+1,ev,⟨rfl,trivial⟩,agr,⟨by omega,?_⟩,by omega⟩
   rw [qjd (by rw [←hLA];exact hjl),←List.append_assoc,←hLA,←he,←hLB]
   exact hw.sel
  have hjn:j=LA.length:=by omega
  subst hjn
  repeat (first|refine qac ?_|(refine qaa ?_;clear hw;intro p w hw)|(refine qad ?_;clear hw;intro w hw)|(refine qab ?_;clear hw;intro s w hw))
  refine⟨l+1,ev,⟨rfl,trivial⟩,agr,⟨by omega,?_⟩,by omega⟩
  rw [qjc,←hLA]
  exact hw.sel
 have hln:l=A.costs.length:=by omega
 subst hln
 rw [qnA] at hw
 have hlen:(prdE A B).length≤65536:=by rw [←qnA,qhY];omega
 repeat (first|refine qac ?_|(refine qaa ?_;clear hw;intro p w hw)|(refine qad ?_;clear hw;intro w hw)|(refine qab ?_;clear hw;intro s w hw))
 have hw:Sat w0 w [OS tEdg 196 ev (prdE A B),Box px 96 [.int .i64 (A.st*B.st),.int .i64 (A.ini*B.st+B.ini),cx,ev,gv],OS tBool 4 gv (prdG A B),OS tInt 3 cx A.costs,Box pr 96 [.int .i64 0,.int .i64 0,.slice none 0 0,.slice none 0 0,.slice none 0 0]]:=hw.sel
 refine qah rfl (qlO (s:=ev) (xs:=prdE A B) hw (by omega)) ?_
 rintro _ w' ⟨rfl,hw'⟩;clear hw;have hw:=hw';clear hw';refine⟨_,rfl,?_⟩
 rw [hE0,hP]
 have o1:=(rsO (s:=ev) hw).one
 have o2:=(rsO (s:=gv) hw).one
 have o3:=(rsO (s:=cx) hw).one
 repeat (first|refine qac ?_|(refine qaa ?_;clear hw;intro p w hw)|(refine qad ?_;clear hw;intro w hw)|(refine qab ?_;clear hw;intro s w hw))
 refine qao (n:=5) (p:=pr) (vs:=[.int .i64 (A.st*B.st),.int .i64 (A.ini*B.st+B.ini),cx,ev,gv]) rfl rfl hw inferInstance rfl rfl (by simp only [List.all_cons,List.all_nil,o1,o2,o3];rfl) ?_
 clear hw;intro w hw
 repeat (first|refine qac ?_|(refine qaa ?_;clear hw;intro p w hw)|(refine qad ?_;clear hw;intro w hw)|(refine qab ?_;clear hw;intro s w hw))
 refine qar (p:=pr) (vs:=[.int .i64 (A.st*B.st),.int .i64 (A.ini*B.st+B.ini),cx,ev,gv]) rfl rfl (v':=errV 0) (by rw [qas rfl];rfl) rfl (fun j v hv=>qau (i:=4) hw rfl hv) ⟨cx,ev,gv,rfl,?_⟩
 exact hw.sel
end Go.Proofs.YtjdlohdcdmhigaaGreatDoor
