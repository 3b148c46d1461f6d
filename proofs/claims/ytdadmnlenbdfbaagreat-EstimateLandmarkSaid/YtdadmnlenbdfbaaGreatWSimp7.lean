/-
  Contract of simplex's begin.
-/
import Derived.Test.YtdadmnlenbdfbaaGreatWSimp6
set_option linter.unusedSimpArgs false
set_option linter.unusedVariables false
namespace Go.Proofs.YtdadmnlenbdfbaaGreat
open Go.Sl Go
attribute [local irreducible] vc opsW opsD opV opW PureV ReadV Thn Blk
def begR (a:List (List Frc)) (i:Nat):List (List Frc):=(List.range i).map fun i=>a.getD i []++unitR a.length i
def begB (n i:Nat):List Int:=(List.range i).map fun (i:Nat)=>((n+i:Nat):Int)
def unitK (i k:Nat):List Frc:=(List.range k).map fun k=>if k=i then f1F else f0F
theorem qiR (a:List (List Frc)) (i:Nat):begR a (i+1)=begR a i++[a.getD i []++unitR a.length i]:=by unfold begR;rw [List.range_succ,List.map_append];rfl
theorem qiS (n i:Nat):begB n (i+1)=begB n i++[((n+i:Nat):Int)]:=by unfold begB;rw [List.range_succ,List.map_append];rfl
theorem qhY (i k:Nat):unitK i (k+1)=unitK i k++[if k=i then f1F else f0F]:=by unfold unitK;rw [List.range_succ,List.map_append];rfl
set_option maxRecDepth 8000 in
set_option maxHeartbeats 8000000 in
theorem qgX {w0:World}{cv av bv0:Value}{sa:List Value}{c b:List Frc}{a:List (List Frc)}(hc:RS tFrc w0 cv c) (ha:RMat w0 av sa a) (hb:RS tFrc w0 bv0 b) (hcl:c.length≤4096) (hal:a.length≤4096) (hab:a.length=b.length) (hac:∀ r∈a,r.length=c.length) :
  Calls Tryz.prog 88 #[cv,av,bv0] w0 fun e w'=>∃ pt rv bv bs gv ss,e=.returned (.pointer (some pt))∧Sat w0 w' (TabP pt c.length a.length rv bv bs gv ss (begS c a b)):=by
 have hw:=Sat.start w0
 obtain⟨har,hsl,hrow⟩:=ha
 have hlr:∀ i,i<a.length→(a.getD i []).length=c.length:=fun i hi=>hac _ (qan [] hi)
 refine qaf (args:=[cv,av,bv0]) mixed Tryz.func88 rfl (by kernel_rfl) (Nat.le_of_ble_eq_true rfl) ?_
 repeat (first|refine qac ?_|(refine qaa ?_;clear hw;intro p w hw)|(refine qad ?_;clear hw;intro w hw)|(refine qab ?_;clear hw;intro s w hw))
 refine qag rfl (qb7 (hb.at hw) (by omega)) ?_
 rintro _ w' ⟨bv,rfl,hk'⟩
 replace hw:=hw.call1 hk'
 clear hk'
 refine⟨_,rfl,?_⟩
 have hob:=(rsO (s:=bv) hw).one
 repeat (first|refine qac ?_|(refine qaa ?_;clear hw;intro p w hw)|(refine qad ?_;clear hw;intro w hw)|(refine qab ?_;clear hw;intro s w hw))
 refine qag rfl (qb7 (hc.at hw) (by omega)) ?_
 rintro _ w' ⟨gv,rfl,hk'⟩
 replace hw:=hw.call1 hk'
 clear hk'
 refine⟨_,rfl,?_⟩
 have hog:=(rsO (s:=gv) hw).one
 repeat (first|refine qac ?_|(refine qaa ?_;clear hw;intro p w hw)|(refine qad ?_;clear hw;intro w hw)|(refine qab ?_;clear hw;intro s w hw))
 refine qag rfl qbE ?_
 rintro _ w' ⟨rfl,hk'⟩;replace hw:=hw.call0 hk';clear hk';refine⟨_,rfl,?_⟩
 repeat (first|refine qac ?_|(refine qaa ?_;clear hw;intro p w hw)|(refine qad ?_;clear hw;intro w hw)|(refine qab ?_;clear hw;intro s w hw))
 rw [hsl]
 refine qau (vs:=[(0,.int .i64 c.length),(1,.int .i64 a.length),(3,bv),(5,gv),(6,.agg #[.int .i64 0,.int .i64 1])]) (ls:=[(0,[.int .i64 c.length]),(1,[.int .i64 a.length]),(3,[bv]),(5,[gv]),(6,[.int .i64 0,.int .i64 1])]) rfl (by simp only [List.map_cons,List.map_nil,qaL hob,qaL hog];rfl) rfl ?_
 refine qbr (vs:=[.int .i64 c.length,.int .i64 a.length,.slice none 0 0,bv,.slice none 0 0,gv,.int .i64 0,.int .i64 1]) rfl hw ?_
 clear hw
 intro pt w hw
 replace hw:Sat w0 w [Box pt 177 [.int .i64 c.length,.int .i64 a.length,(.slice none 0 0),bv,(.slice none 0 0),gv,.int .i64 0,.int .i64 1],OS tFrc 146 gv (c++List.replicate 0 f0F),OS tFrc 146 bv b]:=by simpa using hw
 repeat (first|refine qac ?_|(refine qaa ?_;clear hw;intro p w hw)|(refine qad ?_;clear hw;intro w hw)|(refine qab ?_;clear hw;intro s w hw))
 refine qat [26,27,28,29,30,31,32,33,34,35,36,37,38] (G:=Nat) (H:=Value) (fun k _=>[(26,.int .i64 k)]) (fun k gv w=>k≤a.length∧Sat w0 w [Box pt 177 [.int .i64 c.length,.int .i64 a.length,(.slice none 0 0),bv,(.slice none 0 0),gv,.int .i64 0,.int .i64 1],OS tFrc 146 gv (c++List.replicate k f0F),OS tFrc 146 bv b]) (fun k _=>a.length-k) 0 gv (fun _ _=>rfl) ⟨rfl,trivial⟩ ⟨Nat.zero_le _,hw⟩ ?_
 clear hw
 rintro σ k gv2 w ⟨hk,hw⟩
 have hgl:(c++List.replicate k f0F).length=c.length+k:=by simp
 repeat (first|refine qac ?_|(refine qaa ?_;clear hw;intro p w hw)|(refine qad ?_;clear hw;intro w hw)|(refine qab ?_;clear hw;intro s w hw))
 refine go_if (fun g1 => ?_) (fun g1 => ?_)
 ·have hka:k<a.length:=by omega
  repeat (first|refine qac ?_|(refine qaa ?_;clear hw;intro p w hw)|(refine qae ?_;clear hw;intro w hw)|(refine qab ?_;clear hw;intro s w hw))
  refine qay [.op 0,.op 1,.op 2,.op 3,.op 4,.op 5,.chk 4,.op 6,.chk 4,.op 7,.op 8,.op 9,.op 10] hw (by kernel_rfl) ?_;clear hw;intro w hw
  repeat (first|refine qac ?_|(refine qaa ?_;clear hw;intro p w hw)|(refine qae ?_;clear hw;intro w hw)|(refine qab ?_;clear hw;intro s w hw))
  refine qag rfl qbE ?_
  rintro _ w' ⟨rfl,hk'⟩;replace hw:=hw.call0 hk';clear hk';refine⟨_,rfl,?_⟩
  repeat (first|refine qac ?_|(refine qaa ?_;clear hw;intro p w hw)|(refine qae ?_;clear hw;intro w hw)|(refine qab ?_;clear hw;intro s w hw))
  refine qal tFrc (x1:=f0F) rfl rfl rfl (Nat.le_of_ble_eq_true rfl) (Nat.zero_lt_succ _) hw ?_
  clear hw
  intro sl w hw
  repeat (first|refine qac ?_|(refine qaa ?_;clear hw;intro p w hw)|(refine qae ?_;clear hw;intro w hw)|(refine qab ?_;clear hw;intro s w hw))
  simp only [List.set_cons_succ,List.set_cons_zero] at hw
  rw [List.append_assoc,←List.replicate_succ' (n:=k)] at hw
  exact⟨k+1,_,⟨rfl,trivial⟩,agr,⟨by omega,hw.tail⟩,by omega⟩
 have hke:k=a.length:=by omega
 subst hke
 replace hw:=(hw.nil (T:=tVal) (e:=110)).rows0 (T:=tFrc) (e:=146)
 replace hw:=hw.nil (T:=tInt) (e:=3)
 replace hw:Sat w0 w [Box pt 177 [.int .i64 c.length,.int .i64 a.length,(.slice none 0 0),bv,(.slice none 0 0),gv2,.int .i64 0,.int .i64 1],OS tVal 110 (.slice none 0 0) [],RowsAt tFrc 146 [] [],OS tInt 3 (.slice none 0 0) [],OS tFrc 146 gv2 (c++List.replicate a.length f0F),OS tFrc 146 bv b]:=hw.sel
 repeat (first|refine qac ?_|(refine qaa ?_;clear hw;intro p w hw)|(refine qad ?_;clear hw;intro w hw)|(refine qab ?_;clear hw;intro s w hw))
 refine qbn [8,9,10,11,12,41,42,43,44,45,46,47,48,49,50,51,52,53,54,55,56,57,58,59,60,61,62,63,64,65,66,67,68,69,70,71,72,73,74,75,76,77,78,79,80,81,82,83,84,85,86,87,88] (G:=Nat) (H:=Value) (I:=Value) (M:=List Value) (fun i _ _ _=>[(41,.int .i64 i)]) (fun i rv bs ss w=>i≤a.length∧Sat w0 w [Box pt 177 [.int .i64 c.length,.int .i64 a.length,rv,bv,bs,gv2,.int .i64 0,.int .i64 1],OS tVal 110 rv ss,RowsAt tFrc 146 ss (begR a i),OS tInt 3 bs (begB c.length i),OS tFrc 146 gv2 (c++List.replicate a.length f0F),OS tFrc 146 bv b]) (fun i _ _ _=>a.length-i) 0 (.slice none 0 0) (.slice none 0 0) [] (fun _ _ _ _=>rfl) ⟨rfl,trivial⟩ ⟨Nat.zero_le _,hw⟩ ?_
 clear hw
 rintro σ1 i rv bs ss w ⟨hi,hw⟩
 repeat (first|refine qac ?_|(refine qaa ?_;clear hw;intro p w hw)|(refine qad ?_;clear hw;intro w hw)|(refine qab ?_;clear hw;intro s w hw))
 refine go_if (fun g2 => ?_) (fun g2 => ?_)
 ·have hia:i<a.length:=by omega
  have hri:=hrow i hia
  have hrl:=hlr i hia
  repeat (first|refine qac ?_|(refine qaa ?_;clear hw;intro p w hw)|(refine qad ?_;clear hw;intro w hw)|(refine qab ?_;clear hw;intro s w hw))
  refine qag rfl (qb7 (hri.at hw) (by omega)) ?_
  rintro _ w' ⟨r,rfl,hk'⟩
  replace hw:=hw.call1 hk'
  clear hk'
  refine⟨_,rfl,?_⟩
  repeat (first|refine qac ?_|(refine qaa ?_;clear hw;intro p w hw)|(refine qad ?_;clear hw;intro w hw)|(refine qab ?_;clear hw;intro s w hw))
  refine qat [10,11,12,50,51,52,53,54,55,56,57,58,59,60,61,62] (G:=Nat) (H:=Value) (fun k r=>[(50,.int .i64 k),(10,r)]) (fun k r w=>k≤a.length∧Sat w0 w [OS tFrc 146 r (a.getD i []++unitK i k),Box pt 177 [.int .i64 c.length,.int .i64 a.length,rv,bv,bs,gv2,.int .i64 0,.int .i64 1],OS tVal 110 rv ss,RowsAt tFrc 146 ss (begR a i),OS tInt 3 bs (begB c.length i),OS tFrc 146 gv2 (c++List.replicate a.length f0F),OS tFrc 146 bv b]) (fun k _=>a.length-k) 0 r (fun _ _=>rfl) ⟨rfl,rfl,trivial⟩ ⟨Nat.zero_le _,by simpa [unitK] using hw⟩ ?_
  clear hw
  rintro σ2 k r2 w ⟨hk,hw⟩
  have hul:(a.getD i []++unitK i k).length=c.length+k:=by rw [List.length_append,hrl];simp [unitK]
  have hus:=qhY i k
  repeat (first|refine qac ?_|(refine qaa ?_;clear hw;intro p w hw)|(refine qad ?_;clear hw;intro w hw)|(refine qab ?_;clear hw;intro s w hw))
  refine go_if (fun g3 => ?_) (fun g3 => ?_)
  ·have hka:k<a.length:=by omega
   repeat (first|refine qac ?_|(refine qaa ?_;clear hw;intro p w hw)|(refine qad ?_;clear hw;intro w hw)|(refine qab ?_;clear hw;intro s w hw))
   refine qag rfl qbE ?_
   rintro _ w' ⟨rfl,hk'⟩;replace hw:=hw.call0 hk';clear hk';refine⟨_,rfl,?_⟩
   repeat (first|refine qac ?_|(refine qaa ?_;clear hw;intro p w hw)|(refine qad ?_;clear hw;intro w hw)|(refine qab ?_;clear hw;intro s w hw))
   obtain⟨p12,rfl⟩:∃ x,x=p:=⟨_,rfl⟩
   refine go_if (fun g4 => ?_) (fun g4 => ?_)
   ·rw [if_pos (show k=i by omega)] at hus
    repeat (first|refine qac ?_|(refine qaa ?_;clear hw;intro p w hw)|(refine qad ?_;clear hw;intro w hw)|(refine qab ?_;clear hw;intro s w hw))
    simp only [List.set_cons_succ,List.set_cons_zero] at hw
    refine qal tFrc (x1:=f1F) rfl rfl rfl (Nat.le_of_ble_eq_true rfl) (Nat.zero_lt_succ _) hw ?_
    clear hw
    intro sl w hw
    repeat (first|refine qac ?_|(refine qaa ?_;clear hw;intro p w hw)|(refine qad ?_;clear hw;intro w hw)|(refine qab ?_;clear hw;intro s w hw))
    rw [List.append_assoc,←hus] at hw
    exact⟨k+1,_,⟨rfl,rfl,trivial⟩,agr,⟨by omega,hw.tail.tail⟩,by omega⟩
   ·rw [if_neg (show ¬k=i by omega)] at hus
    repeat (first|refine qac ?_|(refine qaa ?_;clear hw;intro p w hw)|(refine qad ?_;clear hw;intro w hw)|(refine qab ?_;clear hw;intro s w hw))
    refine qal tFrc (x1:=f0F) rfl rfl rfl (Nat.le_of_ble_eq_true rfl) (Nat.zero_lt_succ _) hw ?_
    clear hw
    intro sl w hw
    repeat (first|refine qac ?_|(refine qaa ?_;clear hw;intro p w hw)|(refine qad ?_;clear hw;intro w hw)|(refine qab ?_;clear hw;intro s w hw))
    rw [List.append_assoc,←hus] at hw
    exact⟨k+1,_,⟨rfl,rfl,trivial⟩,agr,⟨by omega,hw.tail.tail⟩,by omega⟩
  have hke:k=a.length:=by omega
  subst hke
  have hor:=(rsO (s:=r2) hw).one
  have hssl:=(hw.focus 3 rfl).rowsLen
  have hbl:(begR a i).length=i:=by simp [begR]
  have hbbl:(begB c.length i).length=i:=by simp [begB]
  repeat (first|refine qac ?_|(refine qaa ?_;clear hw;intro p w hw)|(refine qad ?_;clear hw;intro w hw)|(refine qab ?_;clear hw;intro s w hw))
  simp only [List.set_cons_succ,List.set_cons_zero] at hw
  obtain⟨rv2,rfl⟩:∃ x,x=s:=⟨_,rfl⟩
  replace hw:Sat w0 w [OS tFrc 146 r2 (a.getD i []++unitR a.length i),RowsAt tFrc 146 ss (begR a i),Box pt 177 [.int .i64 c.length,.int .i64 a.length,rv2,bv,bs,gv2,.int .i64 0,.int .i64 1],OS tVal 110 rv2 (ss++[r2]),OS tInt 3 bs (begB c.length i),OS tFrc 146 gv2 (c++List.replicate a.length f0F),OS tFrc 146 bv b]:=hw.sel (Δ:=[OS tFrc 146 r2 (a.getD i []++unitK i a.length),RowsAt tFrc 146 ss (begR a i),Box pt 177 [.int .i64 c.length,.int .i64 a.length,rv2,bv,bs,gv2,.int .i64 0,.int .i64 1],OS tVal 110 rv2 (ss++[r2]),OS tInt 3 bs (begB c.length i),OS tFrc 146 gv2 (c++List.replicate a.length f0F),OS tFrc 146 bv b])
  replace hw:=hw.rowPush
  rw [←qiR] at hw
  repeat (first|refine qac ?_|(refine qaa ?_;clear hw;intro p w hw)|(refine qae ?_;clear hw;intro w hw)|(refine qab ?_;clear hw;intro s w hw))
  refine qay [.op 0,.op 1,.op 2,.op 3,.op 4,.op 5,.op 6,.op 7,.op 8,.op 9,.op 10,.op 11,.chk 4,.op 12,.op 13,.op 14,.op 15] hw (by kernel_rfl) ?_;clear hw;intro w hw
  repeat (first|refine qac ?_|(refine qaa ?_;clear hw;intro p w hw)|(refine qae ?_;clear hw;intro w hw)|(refine qab ?_;clear hw;intro s w hw))
  simp only [List.set_cons_succ,List.set_cons_zero] at hw
  obtain⟨bs2,rfl⟩:∃ x,x=s:=⟨_,rfl⟩
  have hbs:=qiS c.length i
  rw [show ((c.length+i:Nat):Int)=(c.length:Int)+(i:Int) by omega] at hbs
  rw [←hbs] at hw
  replace hw:Sat w0 w [Box pt 177 [.int .i64 c.length,.int .i64 a.length,rv2,bv,bs2,gv2,.int .i64 0,.int .i64 1],OS tVal 110 rv2 (ss++[r2]),RowsAt tFrc 146 (ss++[r2]) (begR a (i+1)),OS tInt 3 bs2 (begB c.length (i+1)),OS tFrc 146 gv2 (c++List.replicate a.length f0F),OS tFrc 146 bv b]:=hw.sel
  exact⟨i+1,rv2,bs2,ss++[r2],⟨rfl,trivial⟩,agr,⟨by omega,hw⟩,by omega⟩
 have hie:i=a.length:=by omega
 subst hie
 repeat (first|refine qac ?_|(refine qaa ?_;clear hw;intro p w hw)|(refine qad ?_;clear hw;intro w hw)|(refine qab ?_;clear hw;intro s w hw))
 exact qai (v:=.pointer (some pt)) rfl rfl ⟨pt,rv,bv,bs,gv2,ss,rfl,hw.sel (Δ:=[Box pt 177 [.int .i64 c.length,.int .i64 a.length,rv,bv,bs,gv2,.int .i64 0,.int .i64 1],OS tVal 110 rv ss,RowsAt tFrc 146 ss (begR a a.length),OS tFrc 146 bv b,OS tInt 3 bs (begB c.length a.length),OS tFrc 146 gv2 (c++List.replicate a.length f0F)])⟩
end Go.Proofs.YtdadmnlenbdfbaaGreat
