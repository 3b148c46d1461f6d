/-
  Contract of mergeshrink.Build.
-/
import Derived.Test.YtjdlohdcdmhigaaGreatDoorWCon
import Derived.Test.YtjdlohdcdmhigaaGreatDoorWVlu
import Derived.Test.YtjdlohdcdmhigaaGreatDoorWSrd
import Derived.Test.YtjdlohdcdmhigaaGreatDoorMW3
set_option linter.unusedSimpArgs false
set_option linter.unusedVariables false
namespace Go.Proofs.YtjdlohdcdmhigaaGreatDoor
open Go.Sl Go
attribute [local irreducible] vc opsW opsD opV opW PureV ReadV Thn Blk
theorem qn6 {S:SysV}(hv:ValS S):((dstL S).length:Int)=S.st:=by
 have h:=(qoq (qlb hv) (fr:=gIdxK S.goals S.goals.length) (qhP _) (fun i hi=>by have:=qhO.1 hi;have h3:=hv.2.2.2.2.1;omega)).1.ol
 have h1:=hv.1
 unfold dstL spL gIdx
 omega
def AbsOk (t:TTask) (L:List StgV) (D:List Int):Prop:=(∀ k,k<L.length→∃ n,Ch t.vars L n)∧∀ s,StateOk t.vars s→0≤atL s L∧atL s L<D.length
set_option maxRecDepth 8000 in
set_option maxHeartbeats 8000000 in
theorem qcS {w0:World}{a b c d ov:Value}{vs:List OpV}{t:TTask}{M:Int}(hT:TabI w0) (hg:GoodT t) (ht:RTask w0 a b c d vs t) (ho:RS tInt w0 ov (sameL t.vars.length)) :
  Calls Tryz.prog 22 #[.agg #[a,b,c,d],ov,.int .i64 M] w0 fun e w'=>(bldErr t M≠0∧e=.returned (.tuple #[.pointer none,errV (bldErr t M)])∧Sat w0 w' [])∨(bldErr t M=0∧AbsOk t (bldS t M) (bldD t M)∧∃ p,e=.returned (.tuple #[.pointer (some p),.nilIface])∧Sat w0 w' [RdH fun w=>RAbs w p t (bldS t M) (bldD t M)]):=by
 have hc0:=(qcW t).2 hg
 have hnv:=hg.vars
 have hsl:(sameL t.vars.length).length=t.vars.length:=qbk _
 have hvl:=ht.1.big
 have hw:=Sat.start w0
 refine qaf (args:=[.agg #[a,b,c,d],ov,.int .i64 M]) mixed Tryz.func22 rfl (by kernel_rfl) (Nat.le_of_ble_eq_true rfl) ?_
 repeat (first|refine qac ?_|(refine qaa ?_;clear hw;intro p w hw)|(refine qad ?_;clear hw;intro w hw)|(refine qab ?_;clear hw;intro s w hw))
 obtain⟨pt,hpt⟩:∃ q,q=p:=⟨p,rfl⟩
 subst hpt
 have hw:Sat w0 w [Box pt 26 [a,b,c,d]]:=hw
 refine qah rfl (qbK (ht.at hw)) ?_
 rintro _ w' ⟨rfl,hk'⟩;replace hw:=hw.call0 hk';clear hk';refine⟨_,rfl,?_⟩
 rw [hc0,qas rfl]
 repeat (first|refine qac ?_|(refine qaa ?_;clear hw;intro p w hw)|(refine qad ?_;clear hw;intro w hw)|(refine qab ?_;clear hw;intro s w hw))
 refine qah rfl (qh8 (a:=ov)) ?_
 rintro _ w' ⟨pb,rfl,hk'⟩;replace hw:=hw.call1 hk';clear hk';refine⟨_,rfl,?_⟩
 rw [ho.cells1] at hw
 repeat (first|refine qac ?_|(refine qaa ?_;clear hw;intro p w hw)|(refine qad ?_;clear hw;intro w hw)|(refine qab ?_;clear hw;intro s w hw))
 refine qah rfl (qig (qbE (i:=0) hw rfl rfl) (ho.at hw) (by omega)) ?_
 rintro _ w' ⟨sv,rfl,hk'⟩;replace hw:=hw.call1 hk';clear hk';refine⟨_,rfl,?_⟩
 rw [qjF] at hw
 have hvs:=ht.1
 repeat (first|refine qac ?_|(refine qaa ?_;clear hw;intro p w hw)|(refine qad ?_;clear hw;intro w hw)|(refine qab ?_;clear hw;intro s w hw))
 refine qah rfl (qfw (n:=t.vars.length) (by omega)) ?_
 rintro _ w' ⟨ev,rfl,hk'⟩;replace hw:=hw.call1 hk';clear hk';refine⟨_,rfl,?_⟩
 repeat (first|refine qac ?_|(refine qaa ?_;clear hw;intro p w hw)|(refine qad ?_;clear hw;intro w hw)|(refine qab ?_;clear hw;intro s w hw))
 refine qah rfl (qbS (rsO (s:=sv) hw) (rsO (s:=ev) hw)) ?_
 rintro _ w' ⟨⟨eq,rfl,heq⟩,hk'⟩;replace hw:=hw.call0 hk';clear hk';refine⟨_,rfl,?_⟩
 have heq:=heq.2 rfl
 subst heq
 repeat (first|refine qac ?_|(refine qaa ?_;clear hw;intro p w hw)|(refine qad ?_;clear hw;intro w hw)|(refine qab ?_;clear hw;intro s w hw))
 refine qah rfl (qaB (hvs.at hw) (by omega)) ?_
 rintro _ w' ⟨vv,rfl,hk'⟩;replace hw:=hw.call1 hk';clear hk';refine⟨_,rfl,?_⟩
 have ov1:=(rsO (s:=vv) hw).one
 repeat (first|refine qac ?_|(refine qaa ?_;clear hw;intro p w hw)|(refine qad ?_;clear hw;intro w hw)|(refine qab ?_;clear hw;intro s w hw))
 refine qap (parts:=[(0,.tmp 31),(3,.const (.bool true))]) (vs:=[(0,vv),(3,.bool true)]) rfl rfl (by simp only [List.all_cons,List.all_nil,ov1];rfl) ?_
 obtain⟨K,hK⟩:∃ K:Nat,(K:Int)=bldM M:=⟨(bldM M).toNat,by unfold bldM;omega⟩
 have hK1:1≤K∧K≤4096:=by unfold bldM at hK;omega
 have hMv:(if (if 4096<M then 4096 else M)>1 then (if 4096<M then 4096 else M) else 1)=(K:Int):=by rw [hK];unfold bldM;split <;> split <;> omega
 repeat (first|refine qac ?_|(refine qaa ?_;clear hw;intro p w hw)|(refine qad ?_;clear hw;intro w hw)|(refine qab ?_;clear hw;intro s w hw))
 rw [hMv]
 obtain⟨pa,hpa⟩:∃ q,q=p:=⟨p,rfl⟩
 subst hpa
 have hw:Sat w0 w [Box pa 92 [vv,.slice none 0 0,.slice none 0 0,.bool true],OS tInt 3 vv t.vars,OS tInt 3 ev (sameL t.vars.length),OS tInt 3 sv (sameL t.vars.length),Box pb 22 [ov],Box pt 26 [a,b,c,d]]:=hw
 have hw2:Sat w0 w (Box pa 92 [vv,.slice none 0 0,.slice none 0 0,.bool true]::OS tInt 3 vv t.vars::[Box pt 26 [a,b,c,d]]):=hw.sel
 refine qah rfl (qlM (M:=K) hw2 hT hg ht ho hK1.1 hK1.2) ?_
 clear hw hw2
 rintro _ w ⟨cv,ce,cg,sv,ms,ex,rfl,hC,hw⟩;refine⟨_,rfl,?_⟩
 rw [hK] at hC hw ⊢
 obtain⟨X,hX⟩:∃ X,X=cnK t (bldM M) t.vars.length:=⟨_,rfl⟩
 have hS:bldS t M=X.sts:=by unfold bldS;rw [←hX]
 have hD:bldD t M=dstL X.cur:=by unfold bldD;rw [←hX]
 rw [←hX] at hC hw ⊢
 have oX:=(hw.rdE 3 rfl).ones
 unfold sysV
 by_cases he:X.err=0
 rotate_left
 ·have hE:bldErr t M=X.err:=by unfold bldErr;rw [←hX,if_pos he]
  rw [qan he]
  repeat (first|refine qac ?_|(refine qaa ?_;clear hw;intro p w hw)|(refine qad ?_;clear hw;intro w hw)|(refine qab ?_;clear hw;intro s w hw))
  exact qay (v:=.pointer none) (v':=errV X.err) rfl (by rfl) (by rw [qan he];rfl) (.inl ⟨by rw [hE];exact he,by rw [hE],hw.sel⟩)
 rw [qas he]
 repeat (first|refine qac ?_|(refine qaa ?_;clear hw;intro p w hw)|(refine qad ?_;clear hw;intro w hw)|(refine qab ?_;clear hw;intro s w hw))
 refine qah rfl (qlU (S:=X.cur) (hw.rdE 4 rfl)) ?_
 rintro _ w' ⟨dv,rfl,hk'⟩;replace hw:=hw.call1 hk';clear hk';refine⟨_,rfl,?_⟩
 have od:=(rsO (s:=dv) hw).one
 by_cases hv:valB X.cur=true
 rotate_left
 ·have hvs2:¬ValS X.cur:=fun h=>hv (qfr h)
  have hE:bldErr t M=2:=by unfold bldErr;rw [←hX,if_neg (fun h=>h he),if_neg hvs2]
  have hdE:dstE X.cur=2:=by unfold dstE;rw [if_neg hv]
  rw [hdE,qan (show (2:Int)≠0 by decide)]
  repeat (first|refine qac ?_|(refine qaa ?_;clear hw;intro p w hw)|(refine qad ?_;clear hw;intro w hw)|(refine qab ?_;clear hw;intro s w hw))
  exact qay (v:=.pointer none) (v':=errV 2) rfl (by rfl) (by rw [qan (show (2:Int)≠0 by decide)];rfl) (.inl ⟨by rw [hE];decide,by rw [hE],hw.sel⟩)
 have hvs2:ValS X.cur:=Classical.byContradiction fun h=>by rw [qb5 h] at hv;cases hv
 have hE:bldErr t M=0:=by unfold bldErr;rw [←hX,if_neg (fun h=>h he),if_pos hvs2]
 have hdE:dstE X.cur=0:=by unfold dstE;rw [if_pos hv]
 have hdR:dstR X.cur=dstL X.cur:=by unfold dstR;rw [if_pos hv]
 rw [hdE,qas rfl]
 rw [hdR] at hw
 repeat (first|refine qac ?_|(refine qaa ?_;clear hw;intro p w hw)|(refine qad ?_;clear hw;intro w hw)|(refine qab ?_;clear hw;intro s w hw))
 simp only [List.set_cons_succ,List.set_cons_zero] at hw
 refine qay (v:=.pointer (some pa)) (v':=.nilIface) rfl rfl rfl (.inr ⟨hE,?_,pa,rfl,?_⟩)
 ·rw [hS,hD]
  have hdl:=qn6 hvs2
  have hv1:=hvs2.1
  by_cases h0:t.vars.length=0
  ·have hXs:X.sts=[]:=by rw [hX,h0];rfl
   rw [hXs]
   exact⟨fun k hk=>absurd hk (by simp),fun s _=>⟨Int.le_refl _,by show (0:Int)<_;omega⟩⟩
  ·have hI:=hC he (by omega)
   exact⟨fun _ _=>⟨_,hI.ch⟩,fun s hs=>by have:=hI.ch.at hs;omega⟩
 rw [hS,hD]
 have h1:Sat w0 w (Box pa 92 [vv,sv,dv,.bool ex]::OS tInt 3 vv t.vars::OS tStg 103 sv ms::RdH (StR ms X.sts)::OS tInt 3 dv (dstL X.cur)::[]):=hw.sel
 exact Sat.rd (Δ:=[_,_,_,_,_]) (fun _ _ h=>⟨vv,sv,dv,_,ms,fun j v hv=>qau (i:=0) h rfl hv,h.rs 1 rfl,h.rs 2 rfl,h.rdE 3 rfl,h.rs 4 rfl⟩) h1
end Go.Proofs.YtjdlohdcdmhigaaGreatDoor
