/-
  Contract of simplex.Solve.
-/
import Derived.Test.YtdadmnlenbdfbaaGreatWSimp8
set_option linter.unusedSimpArgs false
set_option linter.unusedVariables false
namespace Go.Proofs.YtdadmnlenbdfbaaGreat
open Go.Sl Go
attribute [local irreducible] vc opsW opsD opV opW PureV ReadV Thn Blk
theorem qkU {m n:Nat}{S:SimS}{X:Int × SimS}(hk:colS S<0) (h:runS m n S=some X):X=(0,S):=by
 cases n with
 | zero=>exact absurd h (by simp [runS])
 | succ n =>
  unfold runS at h
  rw [if_pos hk] at h
  exact (Option.some.inj h).symm
theorem qjH {α:Type}{x y:α}{k m:Nat}:(List.replicate k x++List.replicate (m+1) y).set k x=List.replicate (k+1) x++List.replicate m y:=by
 rw [List.set_append_right _ _ (by simp),List.length_replicate,Nat.sub_self,List.replicate_succ (n:=m),List.set_cons_zero,List.replicate_succ' (n:=k),List.append_assoc];rfl
theorem qjI {n:Nat}{k:Int}{B:List Int}{f:Frc}{R x:List Frc}:solS n (k::B) (f::R) x=solS n B R (if k<(n:Int) then x.set k.toNat f else x):=by
 conv=>lhs;unfold solS
theorem qkV {m n:Nat}{S:SimS}{X:Int × SimS}{k:Nat}{L:Int × Int}{Q:Int × SimS}(hk:colS S=(k:Int)) (hL:L=leavS S k m) (hQ:0≤L.2→Q=pivS S L.2.toNat k) (h:runS m n S=some X):∃ n',n=n'+1∧((L.1≠0∧X=(L.1,S))∨(L.1=0∧L.2<0∧X=(3,S))∨(L.1=0∧0≤L.2∧Q.1≠0∧X=(Q.1,S))∨(L.1=0∧0≤L.2∧Q.1=0∧runS m n' Q.2=some X)):=by
 cases n with
 | zero=>exact absurd h (by simp [runS])
 | succ n =>
  refine⟨n,rfl,?_⟩
  have e1:(colS S).toNat=k:=by rw [hk];rfl
  unfold runS nextS at h
  rw [if_neg (by omega),e1,←hL] at h
  split at h
  ·rename_i h1
   exact .inl ⟨h1,(Option.some.inj h).symm⟩
  rename_i h1
  have h1:=Decidable.not_not.1 h1
  split at h
  ·rename_i h2
   exact .inr (.inl ⟨h1,h2,(Option.some.inj h).symm⟩)
  rename_i h2
  have h2:0≤L.2:=by omega
  rw [←hQ h2] at h
  split at h
  ·rename_i h3
   exact .inr (.inr (.inl ⟨h1,h2,h3,(Option.some.inj h).symm⟩))
  rename_i h3
  exact .inr (.inr (.inr ⟨h1,h2,Decidable.not_not.1 h3,h⟩))
set_option maxRecDepth 8000 in
set_option maxHeartbeats 8000000 in
theorem qg8 {w0:World}{cv av bv0:Value}{sa:List Value}{c b:List Frc}{a:List (List Frc)}(h:SimPre c a b) (hc:RS tFrc w0 cv c) (ha:RMat w0 av sa a) (hb:RS tFrc w0 bv0 b) (hcl:c.length≤24) :
  Calls Tryz.prog 73 #[cv,av,bv0] w0 fun e w'=>∃ f x y,e=.returned (.tuple #[frcV f,x,y,errV (solV c a b).1])∧Sat w0 w' [OS tFrc 146 x (solV c a b).2]:=by
 have hw:=Sat.start w0
 have hab:=h.ab
 refine qaf (args:=[cv,av,bv0]) mixed Tryz.func73 rfl (by kernel_rfl) (Nat.le_of_ble_eq_true rfl) ?_
 repeat (first|refine qac ?_|(refine qaa ?_;clear hw;intro p w hw)|(refine qad ?_;clear hw;intro w hw)|(refine qab ?_;clear hw;intro s w hw))
 obtain⟨p6,rfl⟩:∃ x,x=p:=⟨_,rfl⟩
 refine qag rfl (qhc h (hc.at hw) (ha.at hw) (hb.at hw) hcl) ?_
 rintro _ w' ⟨rfl,hk'⟩;replace hw:=hw.call0 hk';clear hk';refine⟨_,rfl,?_⟩
 by_cases h5:24<a.length
 ·have e1:(solV c a b).1=5:=by unfold solV;rw [if_pos h5]
  have e2:(solV c a b).2=[]:=by unfold solV;rw [if_pos h5]
  rw [e1,e2,if_pos h5,qaj (by decide)]
  repeat (first|refine qac ?_|(refine qaa ?_;clear hw;intro p w hw)|(refine qad ?_;clear hw;intro w hw)|(refine qab ?_;clear hw;intro s w hw))
  refine qau (vs:=[]) (ls:=[]) rfl rfl rfl ?_
  repeat (first|refine qac ?_|(refine qaa ?_;clear hw;intro p w hw)|(refine qad ?_;clear hw;intro w hw)|(refine qab ?_;clear hw;intro s w hw))
  exact qcK (vs:=[.int .i64 0,.int .i64 0]) (v2:=.slice none 0 0) (v3:=.slice none 0 0) (v4:=.iface 35 (.int .i64 5)) rfl rfl rfl rfl rfl rfl (hw.boxR 0 rfl) ⟨⟨0,0⟩,.slice none 0 0,.slice none 0 0,rfl,(hw.nil (T:=tFrc) (e:=146)).only⟩
 rw [if_neg h5,qam rfl]
 repeat (first|refine qac ?_|(refine qaa ?_;clear hw;intro p w hw)|(refine qad ?_;clear hw;intro w hw)|(refine qab ?_;clear hw;intro s w hw))
 refine qag rfl (qgX (hc.at hw) (ha.at hw) (hb.at hw) (by omega) (by omega) hab h.ac) ?_
 rintro _ w' ⟨pt,rv,bv,bs,gv,ss,rfl,hk'⟩
 replace hw:=hw.call hk'
 clear hk'
 refine⟨_,rfl,?_⟩
 obtain⟨X,hX⟩:=qk7 (qlm h) (qlZ h)
 have hV:solV c a b=if X.1=0 then (0,solS c.length X.2.basic X.2.right (List.replicate c.length f0F)) else (X.1,[]):=by
  unfold solV;rw [if_neg h5,hX]
 replace hw:Sat w0 w' (Box pt 177 [.int .i64 c.length,.int .i64 a.length,rv,bv,bs,gv,.int .i64 (begS c a b).value.num,.int .i64 (begS c a b).value.den]::OS tVal 110 rv ss::RowsAt tFrc 146 ss (begS c a b).rows::OS tFrc 146 bv (begS c a b).right::OS tInt 3 bs (begS c a b).basic::OS tFrc 146 gv (begS c a b).goal::[Box p6 146 [.int .i64 0,.int .i64 0]]):=hw
 repeat (first|refine qac ?_|(refine qaa ?_;clear hw;intro p w hw)|(refine qad ?_;clear hw;intro w hw)|(refine qab ?_;clear hw;intro s w hw))
 refine qat [7,8,9,12,13,14,15,33,34,35,36,37,38,39,40,41,42,43,44,45,46,47,48,49,50,51,52,53,54,55,56,57,58,59,60,61] (G:=Nat) (H:=SimS) (fun _ _=>[]) (fun n S w=>SimOk (c.length+a.length) a.length S∧runS a.length n S=some X∧Sat w0 w (Box pt 177 [.int .i64 c.length,.int .i64 a.length,rv,bv,bs,gv,.int .i64 S.value.num,.int .i64 S.value.den]::OS tVal 110 rv ss::RowsAt tFrc 146 ss S.rows::OS tFrc 146 bv S.right::OS tInt 3 bs S.basic::OS tFrc 146 gv S.goal::[Box p6 146 [.int .i64 0,.int .i64 0]])) (fun n _=>n) ((c.length+a.length) ^ a.length) (begS c a b) (fun _ _=>rfl) trivial ⟨qlm h,hX,hw⟩ ?_
 clear hw hX
 rintro σ n S w ⟨hS,hX,hw⟩
 repeat (first|refine qac ?_|(refine qaa ?_;clear hw;intro p w hw)|(refine qad ?_;clear hw;intro w hw)|(refine qab ?_;clear hw;intro s w hw))
 refine qag rfl (qkf (rsO (s:=gv) hw)) ?_
 rintro _ w' ⟨rfl,hk'⟩;replace hw:=hw.call0 hk';clear hk';refine⟨_,rfl,?_⟩
 have hcs:fstP 0 S.goal=colS S:=rfl
 rw [hcs]
 repeat (first|refine qac ?_|(refine qaa ?_;clear hw;intro p w hw)|(refine qad ?_;clear hw;intro w hw)|(refine qab ?_;clear hw;intro s w hw))
 refine go_if (fun hk => ?_) (fun hk => ?_)
 ·have hX0:=qkU hk hX
  have e1:(solV c a b).1=0:=by rw [hV,hX0,if_pos rfl]
  have e2:(solV c a b).2=solS c.length S.basic S.right (List.replicate c.length f0F):=by rw [hV,hX0,if_pos rfl]
  obtain⟨W,hW⟩:∃ W,W=solS c.length S.basic S.right (List.replicate c.length f0F):=⟨_,rfl⟩
  rw [e1,e2,qam rfl,←hW]
  have hbl:=hS.bl
  have hal2:=hS.al
  have hgl:=hS.gl
  have hgp:=hS.gp
  have han:=hS.an
  repeat (first|refine qac ?_|(refine qaa ?_;clear hw;intro p w hw)|(refine qae ?_;clear hw;intro w hw)|(refine qab ?_;clear hw;intro s w hw))
  refine qby [7,8,62,63,64,65,66,67,68,69,70,71] (G:=Value × Value) (fun x=>[(7,x.1),(8,x.2)]) (fun x w=>Sat w0 w (OS tFrc 146 x.1 (List.replicate c.length dF)::OS tFrc 146 x.2 (List.replicate a.length dF)::Box pt 177 [.int .i64 c.length,.int .i64 a.length,rv,bv,bs,gv,.int .i64 S.value.num,.int .i64 S.value.den]::OS tVal 110 rv ss::RowsAt tFrc 146 ss S.rows::OS tFrc 146 bv S.right::OS tInt 3 bs S.basic::OS tFrc 146 gv S.goal::[Box p6 146 [.int .i64 0,.int .i64 0]])) (fun _=>rfl) ?_ ?_
  ·refine qbf (.step 0 [.op 0] (.step 1 [.op 1] (.step 2 [.op 2] (.step 5 [.op 5] (.step 6 [.op 6] (.step 7 [.op 7] (.step 3 [.op 3] (.step 8 [.op 8] (.alt 4 [.op 4,.chk 8] (.step 10 [.op 10] (.step 9 [.op 9,.chk 3] (.step 11 [.op 11] (.lin [])))) (.alt 9 [.op 9,.chk 3] (.step 4 [.op 4,.chk 8] (.step 10 [.op 10] (.step 11 [.op 11] (.lin [])))) (.stop))))))))))) hw (by kernel_rfl) (by kernel_rfl) ?_;clear hw;intro w hw
   repeat' (first|refine qac ?_|(refine qfd tFrc ⟨0,0⟩ rfl rfl rfl rfl (by omega) (by omega) (by omega) hw ?_;clear hw;intro s w hw)|refine qax ?_ ?_|exact qaG)
   all_goals exact⟨(_,_),⟨rfl,rfl,trivial⟩,agr,by first|exact hw|exact hw.swap⟩
  clear hw
  rintro σ1 ⟨xv,yv⟩ w hw
  simp only at hw
  have hq1:(List.replicate c.length dF).length=c.length:=List.length_replicate
  have hq2:(List.replicate a.length dF).length=a.length:=List.length_replicate
  repeat (first|refine qac ?_|(refine qaa ?_;clear hw;intro p w hw)|(refine qad ?_;clear hw;intro w hw)|(refine qab ?_;clear hw;intro s w hw))
  refine qao [16,74,75,76,77,78,79,80,81] (G:=Nat) (fun i=>[(74,.int .i64 i)]) (fun i w=>i≤c.length∧Sat w0 w (OS tFrc 146 xv (List.replicate i f0F++List.replicate (c.length-i) dF)::OS tFrc 146 yv (List.replicate a.length dF)::Box pt 177 [.int .i64 c.length,.int .i64 a.length,rv,bv,bs,gv,.int .i64 S.value.num,.int .i64 S.value.den]::OS tVal 110 rv ss::RowsAt tFrc 146 ss S.rows::OS tFrc 146 bv S.right::OS tInt 3 bs S.basic::OS tFrc 146 gv S.goal::[Box p6 146 [.int .i64 0,.int .i64 0]])) (fun i=>c.length-i) 0 (fun _=>rfl) ⟨rfl,trivial⟩ ⟨Nat.zero_le _,hw⟩ ?_
  clear hw
  rintro σ2 i w ⟨hi,hw⟩
  have hil:(List.replicate i f0F++List.replicate (c.length-i) dF).length=c.length:=by simp;omega
  repeat (first|refine qac ?_|(refine qaa ?_;clear hw;intro p w hw)|(refine qad ?_;clear hw;intro w hw)|(refine qab ?_;clear hw;intro s w hw))
  refine go_if (fun g1 => ?_) (fun g1 => ?_)
  ·have hic:i<c.length:=by omega
   repeat (first|refine qac ?_|(refine qaa ?_;clear hw;intro p w hw)|(refine qad ?_;clear hw;intro w hw)|(refine qab ?_;clear hw;intro s w hw))
   refine qag rfl qbE ?_
   rintro _ w' ⟨rfl,hk'⟩;replace hw:=hw.call0 hk';clear hk';refine⟨_,rfl,?_⟩
   repeat (first|refine qac ?_|(refine qaa ?_;clear hw;intro p w hw)|(refine qad ?_;clear hw;intro w hw)|(refine qab ?_;clear hw;intro s w hw))
   refine qaP (T:=tFrc) (s:=xv) (xs:=List.replicate i f0F++List.replicate (c.length-i) dF) (j:=i) (x':=f0F) rfl rfl rfl rfl hw inferInstance (by omega) ?_
   clear hw
   intro w hw
   rw [show c.length-i=(c.length-(i+1))+1 by omega,qjH] at hw
   repeat (first|refine qac ?_|(refine qaa ?_;clear hw;intro p w hw)|(refine qad ?_;clear hw;intro w hw)|(refine qab ?_;clear hw;intro s w hw))
   exact⟨i+1,⟨rfl,trivial⟩,agr,⟨by omega,hw⟩,by omega⟩
  have hie:i=c.length:=by omega
  rw [hie,Nat.sub_self,List.replicate_zero,List.append_nil] at hw
  clear hil hie hi g1
  have hq3:(List.replicate c.length f0F).length=c.length:=List.length_replicate
  repeat (first|refine qac ?_|(refine qaa ?_;clear hw;intro p w hw)|(refine qad ?_;clear hw;intro w hw)|(refine qab ?_;clear hw;intro s w hw))
  refine qat [17,18,87,88,89,90,91,92,93,94,95,96,97,98,99,100,101,102,103,104,105,106,107,108] (G:=Nat) (H:=List Frc) (fun i _=>[(87,.int .i64 i)]) (fun i x w=>i≤a.length∧x.length=c.length∧W=solS c.length (S.basic.drop i) (S.right.drop i) x∧Sat w0 w (OS tFrc 146 xv x::OS tFrc 146 yv (List.replicate a.length dF)::Box pt 177 [.int .i64 c.length,.int .i64 a.length,rv,bv,bs,gv,.int .i64 S.value.num,.int .i64 S.value.den]::OS tVal 110 rv ss::RowsAt tFrc 146 ss S.rows::OS tFrc 146 bv S.right::OS tInt 3 bs S.basic::OS tFrc 146 gv S.goal::[Box p6 146 [.int .i64 0,.int .i64 0]])) (fun i _=>a.length-i) 0 _ (fun _ _=>rfl) ⟨rfl,trivial⟩ ⟨Nat.zero_le _,List.length_replicate,hW,hw⟩ ?_
  clear hw hW
  rintro σ3 i x w ⟨hi,hxl,hW,hw⟩
  repeat (first|refine qac ?_|(refine qaa ?_;clear hw;intro p w hw)|(refine qad ?_;clear hw;intro w hw)|(refine qab ?_;clear hw;intro s w hw))
  refine go_if (fun g2 => ?_) (fun g2 => ?_)
  ·have hia:i<a.length:=by omega
   rw [qaR tInt.dflt (show i<S.basic.length by omega),qaR tFrc.dflt (show i<S.right.length by omega),qjI] at hW
   have hk0:0≤S.basic.getD i tInt.dflt:=han i hia
   repeat (first|refine qac ?_|(refine qaa ?_;clear hw;intro p w hw)|(refine qad ?_;clear hw;intro w hw)|(refine qab ?_;clear hw;intro s w hw))
   refine go_if (fun g3 => ?_) (fun g3 => ?_)
   ·rw [if_pos g3] at hW
    repeat (first|refine qac ?_|(refine qaa ?_;clear hw;intro p w hw)|(refine qad ?_;clear hw;intro w hw)|(refine qab ?_;clear hw;intro s w hw))
    refine qaP (T:=tFrc) (s:=xv) (xs:=x) (j:=(S.basic.getD i tInt.dflt).toNat) (x':=S.right.getD i tFrc.dflt) rfl rfl rfl rfl hw inferInstance (by omega) ?_
    clear hw
    intro w hw
    repeat (first|refine qac ?_|(refine qaa ?_;clear hw;intro p w hw)|(refine qad ?_;clear hw;intro w hw)|(refine qab ?_;clear hw;intro s w hw))
    exact⟨i+1,_,⟨rfl,trivial⟩,agr,⟨by omega,by rw [List.length_set];exact hxl,hW,hw⟩,by omega⟩
   ·rw [if_neg (by omega)] at hW
    repeat (first|refine qac ?_|(refine qaa ?_;clear hw;intro p w hw)|(refine qad ?_;clear hw;intro w hw)|(refine qab ?_;clear hw;intro s w hw))
    exact⟨i+1,_,⟨rfl,trivial⟩,agr,⟨by omega,hxl,hW,hw⟩,by omega⟩
  have hie:i=a.length:=by omega
  have hWx:W=x:=by
   rw [hW,List.drop_eq_nil_of_le (show S.basic.length≤i by omega)];simp [solS]
  rw [←hWx] at hw
  clear hW hWx hie hi g2 hxl
  repeat (first|refine qac ?_|(refine qaa ?_;clear hw;intro p w hw)|(refine qad ?_;clear hw;intro w hw)|(refine qab ?_;clear hw;intro s w hw))
  refine qat [19,20,111,112,113,114,115,116,117,118,119,120,121,122,123,124,125,126,127,128,129,130,131,132,133,134,135] (G:=Nat) (H:=List Frc) (fun i _=>[(111,.int .i64 i)]) (fun i y w=>i≤a.length∧y.length=a.length∧Sat w0 w (OS tFrc 146 xv W::OS tFrc 146 yv y::Box pt 177 [.int .i64 c.length,.int .i64 a.length,rv,bv,bs,gv,.int .i64 S.value.num,.int .i64 S.value.den]::OS tVal 110 rv ss::RowsAt tFrc 146 ss S.rows::OS tFrc 146 bv S.right::OS tInt 3 bs S.basic::OS tFrc 146 gv S.goal::[Box p6 146 [.int .i64 0,.int .i64 0]])) (fun i _=>a.length-i) 0 _ (fun _ _=>rfl) ⟨rfl,trivial⟩ ⟨Nat.zero_le _,List.length_replicate,hw⟩ ?_
  clear hw
  rintro σ4 i y w ⟨hi,hyl,hw⟩
  repeat (first|refine qac ?_|(refine qaa ?_;clear hw;intro p w hw)|(refine qad ?_;clear hw;intro w hw)|(refine qab ?_;clear hw;intro s w hw))
  refine go_if (fun g4 => ?_) (fun g4 => ?_)
  ·have hia:i<a.length:=by omega
   have hfp:PrpF (S.goal.getD (c.length+i) tFrc.dflt):=hgp (c.length+i) (by omega)
   obtain⟨f1,f2,f3,f4,f5⟩:=hfp
   repeat (first|refine qac ?_|(refine qaa ?_;clear hw;intro p w hw)|(refine qae ?_;clear hw;intro w hw)|(refine qab ?_;clear hw;intro s w hw))
   refine qay [.op 0,.op 1,.op 2,.op 3,.op 4,.op 5,.op 6,.op 7,.op 8,.op 9,.op 10,.op 11,.op 12,.chk 3,.chk 7,.chk 11,.op 13] hw (by kernel_rfl) ?_;clear hw;intro w hw
   repeat (first|refine qac ?_|(refine qaa ?_;clear hw;intro p w hw)|(refine qae ?_;clear hw;intro w hw)|(refine qab ?_;clear hw;intro s w hw))
   refine qaP (T:=tFrc) (s:=yv) (xs:=y) (j:=i) (x':=⟨0-(S.goal.getD (c.length+i) tFrc.dflt).num,(S.goal.getD (c.length+i) tFrc.dflt).den⟩) rfl rfl rfl rfl hw inferInstance (by omega) ?_
   clear hw
   intro w hw
   repeat (first|refine qac ?_|(refine qaa ?_;clear hw;intro p w hw)|(refine qad ?_;clear hw;intro w hw)|(refine qab ?_;clear hw;intro s w hw))
   exact⟨i+1,_,⟨rfl,trivial⟩,agr,⟨by omega,by rw [List.length_set];exact hyl,hw.tail⟩,by omega⟩
  repeat (first|refine qac ?_|(refine qaa ?_;clear hw;intro p w hw)|(refine qad ?_;clear hw;intro w hw)|(refine qab ?_;clear hw;intro s w hw))
  refine qaN rfl (qaQ (k:=6) (n:=2) (vs:=[.int .i64 S.value.num,.int .i64 S.value.den]) rfl (hw.boxR 2 rfl) rfl rfl) ?_
  repeat (first|refine qac ?_|(refine qaa ?_;clear hw;intro p w hw)|(refine qad ?_;clear hw;intro w hw)|(refine qab ?_;clear hw;intro s w hw))
  exact qcK (vs:=[.int .i64 S.value.num,.int .i64 S.value.den]) (v2:=xv) (v3:=yv) (v4:=.nilIface) rfl rfl rfl rfl rfl rfl (hw.boxR 8 rfl) ⟨S.value,xv,yv,rfl,hw.only⟩
 have hcr:=qlK hS (by omega)
 obtain⟨kk,hkk⟩:∃ kk:Nat,colS S=(kk:Int):=⟨(colS S).toNat,by omega⟩
 have hkN:kk<c.length+a.length:=by have:=hcr.1;omega
 obtain⟨L,hL⟩:∃ L,L=leavS S kk a.length:=⟨_,rfl⟩
 obtain⟨Q,hQ⟩:∃ Q,Q=pivS S L.2.toNat kk:=⟨_,rfl⟩
 obtain⟨n',rfl,hcase⟩:=qkV hkk hL (fun _=>hQ) hX
 rw [hkk]
 have hro:=hw.focus 2 rfl
 have hsl:=hro.rowsLen
 have hrl:=hS.rl
 repeat (first|refine qac ?_|(refine qaa ?_;clear hw;intro p w hw)|(refine qad ?_;clear hw;intro w hw)|(refine qab ?_;clear hw;intro s w hw))
 refine qag rfl (qiz hS hkN (by omega) (by omega) (by omega) (hw.boxR 0 rfl) (hw.rs 1 rfl) (fun i hi=>hro.row (by omega)) (hw.rs 3 rfl) (hw.rs 4 rfl)) ?_
 rintro _ w' ⟨rfl,hk'⟩;replace hw:=hw.call0 hk';clear hk';refine⟨_,rfl,?_⟩
 rw [←hL]
 clear hro
 rcases hcase with ⟨he,hXe⟩|⟨he,hr,hXe⟩|hcase
 ·have e1:(solV c a b).1=L.1:=by rw [hV,hXe,if_neg he]
  have e2:(solV c a b).2=[]:=by rw [hV,hXe,if_neg he]
  rw [e1,e2,qaj he]
  repeat (first|refine qac ?_|(refine qaa ?_;clear hw;intro p w hw)|(refine qad ?_;clear hw;intro w hw)|(refine qab ?_;clear hw;intro s w hw))
  refine qau (vs:=[]) (ls:=[]) rfl rfl rfl ?_
  repeat (first|refine qac ?_|(refine qaa ?_;clear hw;intro p w hw)|(refine qad ?_;clear hw;intro w hw)|(refine qab ?_;clear hw;intro s w hw))
  exact qcK (vs:=[.int .i64 0,.int .i64 0]) (v2:=.slice none 0 0) (v3:=.slice none 0 0) (v4:=.iface 35 (.int .i64 L.1)) rfl rfl rfl rfl rfl rfl (hw.boxR 6 rfl) ⟨⟨0,0⟩,.slice none 0 0,.slice none 0 0,rfl,(hw.nil (T:=tFrc) (e:=146)).only⟩
 ·have e1:(solV c a b).1=3:=by rw [hV,hXe,if_neg (show ¬(3:Int)=0 by decide)]
  have e2:(solV c a b).2=[]:=by rw [hV,hXe,if_neg (show ¬(3:Int)=0 by decide)]
  rw [e1,e2,qam he,qaj (by decide)]
  repeat (first|refine qac ?_|(refine qaa ?_;clear hw;intro p w hw)|(refine qad ?_;clear hw;intro w hw)|(refine qab ?_;clear hw;intro s w hw))
  refine go_if (fun q1 => ?_) (fun q1 => ?_)
  ·repeat (first|refine qac ?_|(refine qaa ?_;clear hw;intro p w hw)|(refine qad ?_;clear hw;intro w hw)|(refine qab ?_;clear hw;intro s w hw))
   refine qau (vs:=[]) (ls:=[]) rfl rfl rfl ?_
   repeat (first|refine qac ?_|(refine qaa ?_;clear hw;intro p w hw)|(refine qad ?_;clear hw;intro w hw)|(refine qab ?_;clear hw;intro s w hw))
   exact qcK (vs:=[.int .i64 0,.int .i64 0]) (v2:=.slice none 0 0) (v3:=.slice none 0 0) (v4:=.iface 35 (.int .i64 3)) rfl rfl rfl rfl rfl rfl (hw.boxR 6 rfl) ⟨⟨0,0⟩,.slice none 0 0,.slice none 0 0,rfl,(hw.nil (T:=tFrc) (e:=146)).only⟩
  exact absurd hr (by omega)
 have he:L.1=0:=by rcases hcase with h|h <;> exact h.1
 have hr:0≤L.2:=by rcases hcase with h|h <;> exact h.2.1
 obtain⟨r,hrr⟩:∃ r:Nat,L.2=(r:Int):=⟨L.2.toNat,by omega⟩
 have hlo:=qjG (r:=L.2) hS hkN (by rw [←hL];exact Prod.ext he rfl) hr
 have hrM:r<a.length:=by have:=hlo.1;omega
 rw [hrr,Int.toNat_natCast] at hQ
 rw [hrr,qam he]
 repeat (first|refine qac ?_|(refine qaa ?_;clear hw;intro p w hw)|(refine qad ?_;clear hw;intro w hw)|(refine qab ?_;clear hw;intro s w hw))
 refine qag rfl (qg0 (Γ:=[Box p6 146 [.int .i64 0,.int .i64 0]]) hS hrM hkN (by omega) (by omega) hw) ?_
 clear hw
 rintro _ w ⟨rfl,hw1,hw2⟩
 refine⟨_,rfl,?_⟩
 rw [←hQ] at hw1 hw2 ⊢
 rcases hcase with ⟨_,_,hq,hXe⟩|⟨_,_,hq,hX'⟩
 ·have hw:=hw1 hq
  have e1:(solV c a b).1=Q.1:=by rw [hV,hXe,if_neg hq]
  have e2:(solV c a b).2=[]:=by rw [hV,hXe,if_neg hq]
  rw [e1,e2,qaj hq]
  repeat (first|refine qac ?_|(refine qaa ?_;clear hw;intro p w hw)|(refine qad ?_;clear hw;intro w hw)|(refine qab ?_;clear hw;intro s w hw))
  refine qau (vs:=[]) (ls:=[]) rfl rfl rfl ?_
  repeat (first|refine qac ?_|(refine qaa ?_;clear hw;intro p w hw)|(refine qad ?_;clear hw;intro w hw)|(refine qab ?_;clear hw;intro s w hw))
  exact qcK (vs:=[.int .i64 0,.int .i64 0]) (v2:=.slice none 0 0) (v3:=.slice none 0 0) (v4:=.iface 35 (.int .i64 Q.1)) rfl rfl rfl rfl rfl rfl (hw.boxR 0 rfl) ⟨⟨0,0⟩,.slice none 0 0,.slice none 0 0,rfl,(hw.nil (T:=tFrc) (e:=146)).only⟩
 ·have hw:Sat w0 w (Box pt 177 [.int .i64 c.length,.int .i64 a.length,rv,bv,bs,gv,.int .i64 Q.2.value.num,.int .i64 Q.2.value.den]::OS tVal 110 rv ss::RowsAt tFrc 146 ss Q.2.rows::OS tFrc 146 bv Q.2.right::OS tInt 3 bs Q.2.basic::OS tFrc 146 gv Q.2.goal::[Box p6 146 [.int .i64 0,.int .i64 0]]):=hw2 hq
  have hS':=(qlt (S':=Q.2) hS hrM hkN (by rw [←hQ];exact Prod.ext hq rfl)).1
  rw [qam hq]
  repeat (first|refine qac ?_|(refine qaa ?_;clear hw;intro p w hw)|(refine qad ?_;clear hw;intro w hw)|(refine qab ?_;clear hw;intro s w hw))
  exact⟨n',Q.2,trivial,agr,⟨hS',hX',hw⟩,Nat.lt_succ_self n'⟩
end Go.Proofs.YtdadmnlenbdfbaaGreat
