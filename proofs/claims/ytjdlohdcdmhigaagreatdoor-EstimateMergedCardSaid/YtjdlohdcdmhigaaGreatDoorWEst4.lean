/-
  Contract of 'estimate.Best' and of the methods of estimates: the greatest of several.
-/
import Derived.Test.YtjdlohdcdmhigaaGreatDoorMW10
import Derived.Test.YtjdlohdcdmhigaaGreatDoorMSlB
set_option linter.unusedSimpArgs false
set_option linter.unusedVariables false
namespace Go.Proofs.YtjdlohdcdmhigaaGreatDoor
open Go.Sl Go
attribute [local irreducible] vc opsW opsD opV opW PureV ReadV Thn Blk
theorem qd8 (ps:List (Option Addr)) {i:Nat}(h:i<ps.length):vget (ps.map Value.pointer) i=.pointer (ps.getD i none):=by
 rw [qaR];simp [List.getD,h]
theorem qf7 (ps:List (Option Addr)):(ps.map Value.pointer).length=ps.length:=List.length_map ..
set_option maxRecDepth 8000 in
theorem qgg {w0:World}{lv:Value}{ps:List (Option Addr)}(hl:RS tVal w0 lv (ps.map Value.pointer)) :
  Calls Tryz.prog 67 #[lv,.pointer none] w0 fun e w'=>(∃ r:Int,e=.returned (.int .i64 r)∧(0≤r↔none∈ps))∧Sat w0 w' []:=by
 have hla:=hl.big
 have hpl:=qf7 ps
 have hw:=Sat.start w0
 refine qaf (args:=[lv,.pointer none]) mixed Tryz.func67 rfl (by kernel_rfl) (Nat.le_of_ble_eq_true rfl) ?_
 repeat (first|refine qac ?_|(refine qaa ?_;clear hw;intro p w hw)|(refine qae ?_;clear hw;intro w hw)|(refine qab ?_;clear hw;intro s w hw))
 refine qak [4,5,8,9,10,11,12,13,14,15,16,17,18] (G:=Nat) (fun k=>[(8,.int .i64 k)]) (fun k w=>k≤ps.length∧(∀ i,i<k→ps.getD i none≠none)∧Sat w0 w []) (fun k=>ps.length-k) 0 (fun _=>rfl) ⟨rfl,trivial⟩ ⟨Nat.zero_le _,fun i hi=>absurd hi (Nat.not_lt_zero _),hw⟩ ?_
 clear hw
 rintro σ k w ⟨hk,hpre,hw⟩
 repeat (first|refine qac ?_|(refine qaa ?_;clear hw;intro p w hw)|(refine qae ?_;clear hw;intro w hw)|(refine qab ?_;clear hw;intro s w hw))
 refine go_if (fun h1 => ?_) (fun h1 => ?_)
 ·have hkl:k<ps.length:=by omega
  repeat (first|refine qac ?_|(refine qaa ?_;clear hw;intro p w hw)|(refine qad ?_;clear hw;intro w hw)|(refine qab ?_;clear hw;intro s w hw))
  rw [qd8 ps hkl]
  refine qaw rfl (qjr (a:=ps.getD k none) rfl rfl) ?_
  cases hp:ps.getD k none with
  | none =>
   repeat (first|refine qac ?_|(refine qaa ?_;clear hw;intro p w hw)|(refine qae ?_;clear hw;intro w hw)|(refine qab ?_;clear hw;intro s w hw))
   exact qai (v:=.int .i64 k) rfl rfl ⟨⟨k,rfl,⟨fun _=>by rw [←hp];exact qal none hkl,fun _=>by omega⟩⟩,hw⟩
  | some q =>
   repeat (first|refine qac ?_|(refine qaa ?_;clear hw;intro p w hw)|(refine qae ?_;clear hw;intro w hw)|(refine qab ?_;clear hw;intro s w hw))
   refine⟨k+1,⟨rfl,trivial⟩,agr,⟨by omega,fun i hi => ?_,hw⟩,by omega⟩
   by_cases e:i=k
   ·rw [e,hp];simp
   ·exact hpre i (by omega)
 ·repeat (first|refine qac ?_|(refine qaa ?_;clear hw;intro p w hw)|(refine qae ?_;clear hw;intro w hw)|(refine qab ?_;clear hw;intro s w hw))
  refine qai (v:=.int .i64 (-1)) rfl rfl ⟨⟨-1,rfl,⟨fun h=>by omega,fun hx => ?_⟩⟩,hw⟩
  obtain⟨i,hi,he⟩:=List.mem_iff_getElem.1 hx
  exact absurd (by rw [getD_at hi];exact he) (hpre i (by omega))
set_option maxRecDepth 8000 in
theorem qdP {w0:World}{lv:Value}{ps:List (Option Addr)}(hl:RS tVal w0 lv (ps.map Value.pointer)) :
  Calls Tryz.prog 39 #[lv,.pointer none] w0 fun e w'=>(∃ r,e=.returned (.bool r)∧(r=true↔none∈ps))∧Sat w0 w' []:=by
 have hw:=Sat.start w0
 refine qaf (args:=[lv,.pointer none]) mixed Tryz.func39 rfl (by kernel_rfl) (Nat.le_of_ble_eq_true rfl) ?_
 repeat (first|refine qac ?_|(refine qaa ?_;clear hw;intro p w hw)|(refine qae ?_;clear hw;intro w hw)|(refine qab ?_;clear hw;intro s w hw))
 refine qah rfl (qgg hl) ?_
 rintro _ w' ⟨⟨r,rfl,hr⟩,hk'⟩
 replace hw:=hw.call0 hk'
 clear hk'
 refine⟨_,rfl,?_⟩
 repeat (first|refine qac ?_|(refine qaa ?_;clear hw;intro p w hw)|(refine qae ?_;clear hw;intro w hw)|(refine qab ?_;clear hw;intro s w hw))
 exact qai (v:=.bool (decide (0≤r))) rfl rfl ⟨⟨_,rfl,by rw [decide_eq_true_eq];exact hr⟩,hw⟩
set_option maxRecDepth 8000 in
theorem qgh {w0:World}{lv:Value}{ps:List (Option Addr)}(hl:RS tVal w0 lv (ps.map Value.pointer)) (hn:ps.length≤1048576) :
  Calls Tryz.prog 42 #[lv] w0 fun e w'=>∃ s,e=.returned s∧Sat w0 w' [OS tVal 36 s (ps.map Value.pointer)]:=by
 have hpl:=qf7 ps
 have hw:=Sat.start w0
 obtain⟨ad,cap,hs⟩:=hl.shape
 subst hs
 refine qaf (args:=[.slice ad (ps.map Value.pointer).length cap]) mixed Tryz.func42 rfl (by kernel_rfl) (Nat.le_of_ble_eq_true rfl) ?_
 repeat (first|refine qac ?_|(refine qaa ?_;clear hw;intro p w hw)|(refine qae ?_;clear hw;intro w hw)|(refine qab ?_;clear hw;intro s w hw))
 refine qaw rfl (qcm (a:=ad) (n:=(ps.map Value.pointer).length) (c:=cap) rfl) ?_
 cases ad with
 | none =>
  have h0:ps=[]:=by
   rcases Nat.eq_zero_or_pos ps.length with h|h
   ·exact List.eq_nil_of_length_eq_zero h
   ·obtain⟨p,c2,he,_⟩:=hl.some (by decide) (by rw [hpl];exact h)
    cases he
  subst h0
  repeat (first|refine qac ?_|(refine qaa ?_;clear hw;intro p w hw)|(refine qae ?_;clear hw;intro w hw)|(refine qab ?_;clear hw;intro s w hw))
  exact qai (v:=.slice none 0 0) rfl rfl ⟨_,rfl,hw.nil⟩
 | some p =>
  repeat (first|refine qac ?_|(refine qaa ?_;clear hw;intro p w hw)|(refine qae ?_;clear hw;intro w hw)|(refine qab ?_;clear hw;intro s w hw))
  refine qaJ tVal hw ?_
  clear hw
  intro s1 w hw
  have hr2:=hl.at hw
  repeat (first|refine qac ?_|(refine qaa ?_;clear hw;intro p w hw)|(refine qae ?_;clear hw;intro w hw)|(refine qab ?_;clear hw;intro s w hw))
  refine qbe (s:=s1) (s2:=.slice (some p) (ps.map Value.pointer).length cap) inferInstance rfl rfl hr2 rfl rfl (fun x hx v hv=>by
   obtain⟨q,_,rfl⟩:=List.mem_map.1 hx
   rw [List.mem_singleton.1 hv];rfl) (by simp only [List.length_nil];omega) (by unfold big;simp only [List.length_nil];omega) hw ?_
  clear hw
  intro s2 w hw
  repeat (first|refine qac ?_|(refine qaa ?_;clear hw;intro p w hw)|(refine qae ?_;clear hw;intro w hw)|(refine qab ?_;clear hw;intro s w hw))
  rw [List.nil_append] at hw
  exact qai (v:=s2) rfl rfl ⟨_,rfl,hw⟩
def REsts (w:World) (ps:List (Option Addr)) (t:TTask) (Hs:List (List Int→Int)):Prop:=∀ i,i<ps.length→∃ p,ps.getD i none=some p∧REst w p t (Hs.getD i fun _=>0)
theorem REsts.at {w0 w:World}{Γ:List HP}{ps:List (Option Addr)}{t:TTask}{Hs:List (List Int→Int)}(h:REsts w0 ps t Hs) (hw:Sat w0 w Γ):REsts w ps t Hs:=fun i hi=>by
 obtain⟨p,h1,h2⟩:=h i hi
 exact⟨p,h1,h2.at hw⟩
noncomputable def bestH (t:TTask) (Hs:List (List Int→Int)) (s:List Int):Int:=Hs.foldl (fun m H=>max m (estV t H s)) 0
theorem qjG (t:TTask) (Hs:List (List Int→Int)) (H:List Int→Int) (s:List Int):bestH t (Hs++[H]) s=max (bestH t Hs s) (estV t H s):=by simp [bestH]
instance bestMeth:MethS Tryz.prog 79 "Value" 259 := ⟨by kernel_rfl⟩
set_option maxRecDepth 8000 in
set_option maxHeartbeats 2000000 in
theorem qkc {w0:World}{lv sv:Value}{ps:List (Option Addr)}{t:TTask}{Hs:List (List Int→Int)}{z:List Int}(hl:RS tVal w0 lv (ps.map Value.pointer)) (he:REsts w0 ps t Hs) (hHs:Hs.length=ps.length) (hs:RS tInt w0 sv z) :
  Calls Tryz.prog 259 #[lv,sv] w0 fun e w'=>e=.returned (.int .i64 (bestH t Hs z))∧Sat w0 w' []:=by
 have hpl:=qf7 ps
 have hla:=hl.big
 have hw:=Sat.start w0
 refine qaf (args:=[lv,sv]) mixed Tryz.func259 rfl (by kernel_rfl) (Nat.le_of_ble_eq_true rfl) ?_
 repeat (first|refine qac ?_|(refine qaa ?_;clear hw;intro p w hw)|(refine qae ?_;clear hw;intro w hw)|(refine qab ?_;clear hw;intro s w hw))
 refine qak [5,7,10,11,12,13,14,15,16,17,18,19] (G:=Nat) (fun k=>[(10,.int .i64 k),(5,.int .i64 (bestH t (Hs.take k) z))]) (fun k w=>k≤ps.length∧Sat w0 w []) (fun k=>ps.length-k) 0 (fun _=>rfl) ⟨rfl,rfl,trivial⟩ ⟨Nat.zero_le _,hw⟩ ?_
 clear hw
 rintro σ k w ⟨hk,hw⟩
 repeat (first|refine qac ?_|(refine qaa ?_;clear hw;intro p w hw)|(refine qae ?_;clear hw;intro w hw)|(refine qab ?_;clear hw;intro s w hw))
 refine go_if (fun h1 => ?_) (fun h1 => ?_)
 ·have hkl:k<ps.length:=by omega
  obtain⟨p,hp,hE⟩:=he k hkl
  repeat (first|refine qac ?_|(refine qaa ?_;clear hw;intro p w hw)|(refine qad ?_;clear hw;intro w hw)|(refine qab ?_;clear hw;intro s w hw))
  rw [qd8 ps hkl,hp]
  repeat (first|refine qac ?_|(refine qaa ?_;clear hw;intro p w hw)|(refine qad ?_;clear hw;intro w hw)|(refine qab ?_;clear hw;intro s w hw))
  refine qah rfl (qba (hE.at hw) (hs.at hw)) ?_
  rintro _ w' ⟨rfl,hk'⟩
  replace hw:=hw.call0 hk'
  clear hk'
  refine⟨_,rfl,?_⟩
  have e:(if estV t (Hs.getD k fun _=>0) z>bestH t (Hs.take k) z then estV t (Hs.getD k fun _=>0) z else bestH t (Hs.take k) z)=bestH t (Hs.take (k+1)) z:=by
   rw [qaj (fun _=>0) (by omega),qjG];split <;> omega
  repeat (first|refine qac ?_|(refine qaa ?_;clear hw;intro p w hw)|(refine qad ?_;clear hw;intro w hw)|(refine qab ?_;clear hw;intro s w hw))
  exact⟨k+1,⟨rfl,by rw [←e];rfl,trivial⟩,agr,⟨by omega,hw⟩,by omega⟩
 have hke:k=ps.length:=by omega
 rw [hke,←hHs,List.take_length]
 repeat (first|refine qac ?_|(refine qaa ?_;clear hw;intro p w hw)|(refine qae ?_;clear hw;intro w hw)|(refine qab ?_;clear hw;intro s w hw))
 exact qai (v:=.int .i64 (bestH t Hs z)) rfl rfl ⟨rfl,hw⟩
theorem qln {w:World}{lv:Value}{ps:List (Option Addr)}{t:TTask}{Hs:List (List Int→Int)}(hl:RS tVal w lv (ps.map Value.pointer)) (he:REsts w ps t Hs) (hHs:Hs.length=ps.length):HVal w (.iface 79 lv) t (bestH t Hs) :=
 ⟨_,_,_,_,rfl,qfU _,inferInstance,fun _ _ _ _ hs hsv _=>qkc (hl.at hs) (he.at hs) hHs hsv⟩
def dT:TTask:=⟨[],[],[],[]⟩
open Classical in
noncomputable def bstE (ps:List (Option Addr)) (us:List TTask):Int:=if ps=[]∨none∈ps then 3 else if ∃ i,i<ps.length∧us.getD i dT≠us.getD 0 dT then 2 else 0
theorem qoy {α:Type}{xs:List α}{k:Nat}{d:α}:(cut xs 1 xs.length).getD k d=xs.getD (k+1) d:=by
 unfold cut
 rw [List.take_length]
 simp [List.getD,Nat.add_comm]
set_option maxRecDepth 8000 in
set_option maxHeartbeats 4000000 in
theorem qjH {w0:World}{lv:Value}{ps:List (Option Addr)}{us:List TTask}{Hs:List (List Int→Int)}(hl:RS tVal w0 lv (ps.map Value.pointer)) (hn:ps.length≤1048576) (hHs:Hs.length=ps.length) (he:∀ i,i<ps.length→∀ p,ps.getD i none=some p→REst w0 p (us.getD i dT) (Hs.getD i fun _=>0)) (hg:GoodT (us.getD 0 dT)) :
  Calls Tryz.prog 15 #[lv] w0 fun e w' =>
   (bstE ps us≠0∧e=.returned (.tuple #[.pointer none,errV (bstE ps us)])∧Sat w0 w' []) ∨
   (bstE ps us=0∧∃ p,e=.returned (.tuple #[.pointer (some p),.nilIface])∧Sat w0 w' [RdH fun w=>REsts w ps (us.getD 0 dT) Hs→REst w p (us.getD 0 dT) (bestH (us.getD 0 dT) Hs)]):=by
 have hpl:=qf7 ps
 have hla:=hl.big
 have hw:=Sat.start w0
 refine qaf (args:=[lv]) mixed Tryz.func15 rfl (by kernel_rfl) (Nat.le_of_ble_eq_true rfl) ?_
 by_cases h0:ps=[]
 ·have hb:bstE ps us=3:=by unfold bstE;rw [if_pos (.inl h0)]
  have hd0:decide (((ps.map Value.pointer).length:Int)=0)=true:=decide_eq_true (by rw [hpl,h0];rfl)
  repeat (first|refine qac ?_|(refine qaa ?_;clear hw;intro p w hw)|(refine qad ?_;clear hw;intro w hw)|(refine qab ?_;clear hw;intro s w hw))
  simp only [hd0,beq_self_eq_true,qaX,qaY,Bool.false_and,Bool.true_and,Bool.false_or,Bool.true_or,Bool.not_true,Bool.not_false,Bool.cond_true,Bool.cond_false,gv_fI,gv_tI]
  repeat (first|refine qac ?_|(refine qaa ?_;clear hw;intro p w hw)|(refine qad ?_;clear hw;intro w hw)|(refine qab ?_;clear hw;intro s w hw))
  exact qay (v:=.pointer none) (v':=.iface 63 (.int .i64 3)) rfl rfl rfl (.inl ⟨by rw [hb];decide,by rw [hb,qan (by decide)],hw.sel⟩)
 have hp0:0<ps.length:=List.length_pos_iff.2 h0
 have hd0:decide (((ps.map Value.pointer).length:Int)=0)=false:=decide_eq_false (by omega)
 repeat (first|refine qac ?_|(refine qaa ?_;clear hw;intro p w hw)|(refine qad ?_;clear hw;intro w hw)|(refine qab ?_;clear hw;intro s w hw))
 simp only [hd0,beq_self_eq_true,qaX,qaY,Bool.false_and,Bool.true_and,Bool.false_or,Bool.true_or,Bool.not_true,Bool.not_false,Bool.cond_true,Bool.cond_false,gv_fI,gv_tI]
 repeat (first|refine qac ?_|(refine qaa ?_;clear hw;intro p w hw)|(refine qad ?_;clear hw;intro w hw)|(refine qab ?_;clear hw;intro s w hw))
 refine qah rfl (qdP (hl.at hw)) ?_
 rintro _ w' ⟨⟨r,rfl,hr⟩,hk'⟩
 replace hw:=hw.call0 hk'
 clear hk'
 refine⟨_,rfl,?_⟩
 cases r
 rotate_left
 ·have hb:bstE ps us=3:=by unfold bstE;rw [if_pos (.inr (hr.1 rfl))]
  repeat (first|refine qac ?_|(refine qaa ?_;clear hw;intro p w hw)|(refine qad ?_;clear hw;intro w hw)|(refine qab ?_;clear hw;intro s w hw))
  exact qay (v:=.pointer none) (v':=.iface 63 (.int .i64 3)) rfl rfl rfl (.inl ⟨by rw [hb];decide,by rw [hb,qan (by decide)],hw.sel⟩)
 have hnn:none∉ps:=fun h=>by cases hr.2 h
 have hsome:∀ i,i<ps.length→∃ p,ps.getD i none=some p:=fun i hi=>by
  cases hx:ps.getD i none with
  | none=>exact absurd (by rw [←hx];exact qal none hi) hnn
  | some p=>exact⟨p,rfl⟩
 obtain⟨q0,hq0⟩:=hsome 0 hp0
 have hE0:=he 0 hp0 q0 hq0
 obtain⟨a0,b0,c0,d0,hv0,vs0,hb0,ht0,_⟩:=hE0
 have hcl:=qcb (xs:=ps.map Value.pointer) (lo:=1) (hi:=(ps.map Value.pointer).length) (Nat.le_refl _)
 have hrc:=qbR (T:=tVal) (lo:=1) (hi:=(ps.map Value.pointer).length) hl (by omega) (Nat.le_refl _)
 have hv0:vget (ps.map Value.pointer) (Int.toNat 0)=.pointer (some q0):=by rw [show Int.toNat 0=0 from rfl,qd8 ps hp0,hq0]
 repeat (first|refine qac ?_|(refine qaa ?_;clear hw;intro p w hw)|(refine qad ?_;clear hw;intro w hw)|(refine qab ?_;clear hw;intro s w hw))
 refine qak [2,3,5,17,18,19,20,21,22,23,24,25,26,27,28,29,30,31,32,33,34] (G:=Nat) (fun k=>[(17,.int .i64 k)]) (fun k w=>k+1≤ps.length∧(∀ i,i≤k→us.getD i dT=us.getD 0 dT)∧Sat w0 w []) (fun k=>ps.length-k) 0 (fun _=>rfl) ⟨rfl,trivial⟩ ⟨by omega,fun i hi=>by rw [show i=0 by omega],hw⟩ ?_
 clear hw
 rintro σ k w ⟨hk,hsm,hw⟩
 repeat (first|refine qac ?_|(refine qaa ?_;clear hw;intro p w hw)|(refine qae ?_;clear hw;intro w hw)|(refine qab ?_;clear hw;intro s w hw))
 refine go_if (fun h1 => ?_) (fun h1 => ?_)
 ·have hkl:k+1<ps.length:=by omega
  obtain⟨q,hq⟩:=hsome (k+1) hkl
  obtain⟨a1,b1,c1,d1,hv1,vs1,hb1,ht1,_⟩:=he (k+1) hkl q hq
  have hvk:vget (cut (ps.map Value.pointer) 1 (ps.map Value.pointer).length) k=.pointer (some q):=by
   rw [qaR,qoy,←qaR,qd8 ps hkl,hq]
  repeat (first|refine qac ?_|(refine qaa ?_;clear hw;intro p w hw)|(refine qad ?_;clear hw;intro w hw)|(refine qab ?_;clear hw;intro s w hw))
  rw [hvk]
  refine qax [.op 0,.op 1,.op 2,.op 3,.op 4,.op 5,.op 6,.op 7,.op 8,.op 9,.op 10,.op 11] hw (by kernel_rfl) ?_;clear hw;intro w hw
  repeat (first|refine qac ?_|(refine qaa ?_;clear hw;intro p w hw)|(refine qad ?_;clear hw;intro w hw)|(refine qab ?_;clear hw;intro s w hw))
  refine qaE rfl (qbI (k:=0) (n:=4) (vs:=[a1,b1,c1,d1]) rfl (hb1.at hw) rfl rfl) ?_
  repeat (first|refine qac ?_|(refine qaa ?_;clear hw;intro p w hw)|(refine qad ?_;clear hw;intro w hw)|(refine qab ?_;clear hw;intro s w hw))
  rw [hv0]
  repeat (first|refine qac ?_|(refine qaa ?_;clear hw;intro p w hw)|(refine qad ?_;clear hw;intro w hw)|(refine qab ?_;clear hw;intro s w hw))
  refine qaE rfl (qbI (k:=0) (n:=4) (vs:=[a0,b0,c0,d0]) rfl (hb0.at hw) rfl rfl) ?_
  repeat (first|refine qac ?_|(refine qaa ?_;clear hw;intro p w hw)|(refine qad ?_;clear hw;intro w hw)|(refine qab ?_;clear hw;intro s w hw))
  refine qah rfl (qhk (ht1.at hw) (ht0.at hw)) ?_
  rintro _ w' ⟨⟨r,rfl,hr⟩,hk'⟩
  replace hw:=hw.call0 hk'
  clear hk'
  refine⟨_,rfl,?_⟩
  cases r
  ·have hne:us.getD (k+1) dT≠us.getD 0 dT:=fun h=>by cases hr.2 h
   have hb:bstE ps us=2:=by unfold bstE;rw [if_neg (fun h=>h.elim h0 hnn),if_pos ⟨k+1,hkl,hne⟩]
   repeat (first|refine qac ?_|(refine qaa ?_;clear hw;intro p w hw)|(refine qad ?_;clear hw;intro w hw)|(refine qab ?_;clear hw;intro s w hw))
   exact qay (v:=.pointer none) (v':=.iface 63 (.int .i64 2)) rfl rfl rfl (.inl ⟨by rw [hb];decide,by rw [hb,qan (by decide)],hw.sel⟩)
  ·have heq:=hr.1 rfl
   repeat (first|refine qac ?_|(refine qaa ?_;clear hw;intro p w hw)|(refine qad ?_;clear hw;intro w hw)|(refine qab ?_;clear hw;intro s w hw))
   refine⟨k+1,⟨rfl,trivial⟩,agr,⟨by omega,fun i hi => ?_,hw⟩,by omega⟩
   by_cases e:i=k+1
   ·rw [e];exact heq
   ·exact hsm i (by omega)
 have hke:k+1=ps.length:=by omega
 have hb:bstE ps us=0:=by unfold bstE;rw [if_neg (fun h=>h.elim h0 hnn),if_neg (by rintro⟨i,hi,hne⟩;exact hne (hsm i (by omega)))]
 repeat (first|refine qac ?_|(refine qaa ?_;clear hw;intro p w hw)|(refine qad ?_;clear hw;intro w hw)|(refine qab ?_;clear hw;intro s w hw))
 refine qax [.op 0,.op 1,.op 2,.op 3,.op 4,.op 5,.op 6,.op 7,.chk 2,.chk 5,.op 8,.op 9,.op 10,.op 11,.op 12,.op 13] hw (by kernel_rfl) ?_;clear hw;intro w hw
 repeat (first|refine qac ?_|(refine qaa ?_;clear hw;intro p w hw)|(refine qad ?_;clear hw;intro w hw)|(refine qab ?_;clear hw;intro s w hw))
 rw [hv0]
 repeat (first|refine qac ?_|(refine qaa ?_;clear hw;intro p w hw)|(refine qad ?_;clear hw;intro w hw)|(refine qab ?_;clear hw;intro s w hw))
 refine qaE rfl (qbI (k:=0) (n:=4) (vs:=[a0,b0,c0,d0]) rfl (hb0.at hw) rfl rfl) ?_
 repeat (first|refine qac ?_|(refine qaa ?_;clear hw;intro p w hw)|(refine qad ?_;clear hw;intro w hw)|(refine qab ?_;clear hw;intro s w hw))
 refine qah rfl (qgh (hl.at hw) hn) ?_
 rintro _ w' ⟨lv2,rfl,hk'⟩
 replace hw:=hw.call1 hk'
 clear hk'
 refine⟨_,rfl,?_⟩
 refine qcI ?_
 refine qf2 rfl (qcy (i:=Int.toNat 0) rfl (hl.at hw) (by rw [hpl];exact hp0)) hv0.symm ?_
 refine qf2 rfl (qbI (k:=0) (n:=4) (vs:=[a0,b0,c0,d0]) rfl (hb0.at hw) rfl rfl) rfl ?_
 repeat (first|refine qac ?_|(refine qaa ?_;clear hw;intro p w hw)|(refine qad ?_;clear hw;intro w hw)|(refine qab ?_;clear hw;intro s w hw))
 refine qah rfl (qcg (h:=.iface 79 lv2) (H:=bestH (us.getD 0 dT) Hs) (ht0.at hw) hg ⟨_,_,rfl⟩) ?_
 rintro _ w' ⟨pe,rfl,hk'⟩
 replace hw:=hw.call1 hk'
 clear hk'
 refine⟨_,rfl,?_⟩
 repeat (first|refine qac ?_|(refine qaa ?_;clear hw;intro p w hw)|(refine qad ?_;clear hw;intro w hw)|(refine qab ?_;clear hw;intro s w hw))
 have hw2:Sat w0 w' [RdH fun w=>HVal w (.iface 79 lv2) (us.getD 0 dT) (bestH (us.getD 0 dT) Hs)→REst w pe (us.getD 0 dT) (bestH (us.getD 0 dT) Hs),OS tVal 36 lv2 (ps.map Value.pointer)]:=hw
 have hw3:=Sat.rd (Δ:=[RdH fun w=>HVal w (.iface 79 lv2) (us.getD 0 dT) (bestH (us.getD 0 dT) Hs)→REst w pe (us.getD 0 dT) (bestH (us.getD 0 dT) Hs),OS tVal 36 lv2 (ps.map Value.pointer)]) (φ:=fun w=>REsts w ps (us.getD 0 dT) Hs→REst w pe (us.getD 0 dT) (bestH (us.getD 0 dT) Hs)) (fun _ w h hR=>(h.rdE 0 rfl) (qln (h.rs 1 rfl) hR hHs)) (Γ:=[]) hw2
 exact qay (v:=.pointer (some pe)) (v':=.nilIface) rfl rfl rfl (.inr ⟨hb,pe,rfl,hw3⟩)
end Go.Proofs.YtjdlohdcdmhigaaGreatDoor
