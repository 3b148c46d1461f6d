/-
  Contract of law 47's 'some'.
-/
import Derived.Test.YtggdgcmjcahbbaaGreatDoorMW2
import Derived.Test.YtggdgcmjcahbbaaGreatDoorMSlB
set_option linter.unusedSimpArgs false
set_option linter.unusedVariables false
namespace Go.Proofs.YtggdgcmjcahbbaaGreatDoor
open Go.Sl Go
attribute [local irreducible] vc opsW opsD opV opW PureV ReadV Thn Blk
def SomeOk (b:Value) (t:TTask) (ss os:List Value) (Zs:List (List Int)):Prop:=os.length=Zs.length∧∀ i,i<Zs.length→(vget os i=b∧Zs.getD i []=t.init)∨∃ r,r<(statesL t.vars).length∧vget os i=vget ss r∧Zs.getD i []=(statesL t.vars).getD r []
theorem SomeOk.ok {b:Value}{t:TTask}{ss os:List Value}{Zs:List (List Int)}(h:SomeOk b t ss os Zs) (hg:GoodT t) {i:Nat}(hi:i<Zs.length):StateOk t.vars (Zs.getD i []):=by
 rcases h.2 i hi with ⟨_,e⟩|⟨r,hr,_,e⟩
 ·rw [e];exact hg.init
 ·rw [e];exact (qkH hg.pos hr).1
theorem SomeOk.rs {w0 w:World}{Γ:List HP}{b:Value}{t:TTask}{ss os:List Value}{Zs:List (List Int)}(h:SomeOk b t ss os Zs) (hb:RS tInt w0 b t.init) (hw:Sat w0 w (RowsAt tInt 3 ss (statesL t.vars)::Γ)) {i:Nat}(hi:i<Zs.length):RS tInt w (vget os i) (Zs.getD i []):=by
 rcases h.2 i hi with ⟨e1,e⟩|⟨r,hr,e1,e⟩
 ·rw [e,e1];exact hb.at hw
 ·rw [e,e1];exact hw.row hr
theorem SomeOk.one {b:Value}{t:TTask}{ss:List Value}:SomeOk b t ss [b] [t.init]:=⟨rfl,fun i hi=>.inl (by
 have:i=0:=by simpa using hi
 subst this
 exact⟨by rw [qay];rfl,rfl⟩)⟩
theorem qnq {os:List Value}{v:Value}{i:Nat}(h:i<os.length):vget (os++[v]) i=vget os i:=by
 rw [qay,qay,List.getD,List.getD,List.getElem?_append_left h]
theorem qlE {os:List Value}{v:Value}:vget (os++[v]) os.length=v:=by
 rw [qay,List.getD,List.getElem?_append_right (Nat.le_refl _)];simp
theorem SomeOk.snoc {b:Value}{t:TTask}{ss os:List Value}{Zs:List (List Int)}(h:SomeOk b t ss os Zs) {r:Nat}(hr:r<(statesL t.vars).length):SomeOk b t ss (os++[vget ss r]) (Zs++[(statesL t.vars).getD r []]):=by
 refine⟨by simp [h.1],fun i hi => ?_⟩
 by_cases e:i<Zs.length
 ·have e1:(Zs++[(statesL t.vars).getD r []]).getD i []=Zs.getD i []:=by simp only [List.getD,List.getElem?_append_left e]
  rw [qnq (by rw [h.1];exact e),e1]
  exact h.2 i e
 ·have e2:i=Zs.length:=by
   simp only [List.length_append,List.length_cons,List.length_nil] at hi;omega
  subst e2
  refine .inr ⟨r,hr,?_,?_⟩
  ·rw [←h.1];exact qlE
  ·rw [List.getD,List.getElem?_append_right (Nat.le_refl _)];simp
set_option maxRecDepth 8000 in
set_option maxHeartbeats 4000000 in
theorem qfk {w0:World}{a b c d:Value}{vs:List OpV}{t:TTask}(ht:RTask w0 a b c d vs t) (hs:SmallT t) :
  Calls Tryz.prog 12 #[.agg #[a,b,c,d]] w0 fun e w'=>∃ ov os ss Zs,e=.returned ov∧SomeOk b t ss os Zs∧Zs.length≤1024∧0<Zs.length∧Sat w0 w' [RowsAt tInt 3 ss (statesL t.vars),OS tVal 22 ov os]:=by
 have hg:=hs.good
 have hvl:=hg.vars
 have hB:=hs.many
 have hsl:(statesL t.vars).length=(prodL t.vars).toNat:=qaZ hg.pos
 have hbi:=ht.init
 have hw:=Sat.start w0
 refine qab (args:=[.agg #[a,b,c,d]]) mixed Tryz.func12 rfl (by kernel_rfl) (Nat.le_of_ble_eq_true rfl) ?_
 repeat (first|refine qaa ?_|(refine qaf ?_;clear hw;intro p w hw)|(refine qap ?_;clear hw;intro s w hw))
 obtain⟨pt,hpt⟩:∃ pt,pt=p:=⟨p,rfl⟩
 subst hpt
 obtain⟨so,hso⟩:∃ so,so=s:=⟨s,rfl⟩
 subst hso
 refine qad rfl (qi3 (ht.vars.at hw) hg.pos hvl (by omega)) ?_
 rintro _ w' ⟨av,ss,rfl,hk'⟩
 replace hw:=hw.call2 hk'
 clear hk'
 refine⟨_,rfl,?_⟩
 replace hw:Sat w0 w' [RowsAt tInt 3 ss (statesL t.vars),OS tVal 22 av ss,OS tVal 22 so [b],Box pt 26 [a,b,c,d]]:=hw
 have hssl:ss.length=(statesL t.vars).length:=hw.rowsLen
 repeat refine qaa ?_
 refine qd8 [3,5,12,13,14,15,16,17,18,19,20,21,22,23,24,25,26,27,28] (G:=Nat) (H:=Value) (I:=List Value) (M:=List (List Int)) (fun i ov _ _=>[(5,.int .i64 i),(3,ov)]) (fun i ov os Zs w=>i≤2048∧SomeOk b t ss os Zs∧Zs.length≤min i 512+1∧0<Zs.length∧Sat w0 w [RowsAt tInt 3 ss (statesL t.vars),OS tVal 22 av ss,OS tVal 22 ov os,Box pt 26 [a,b,c,d]]) (fun i _ _ _=>4096-i) 0 so [b] [t.init] (fun _ _ _ _=>rfl) ⟨rfl,rfl,trivial⟩ ⟨Nat.zero_le _,.one,by simp,by simp,hw⟩ ?_
 clear hw
 rintro σ i ov os Zs w ⟨hi,hZ,hZl,hZ0,hw⟩
 have hosl:=hZ.1
 repeat refine qaa ?_
 refine go_if (fun h1 => ?_) (fun h1 => ?_)
 ·have hil:i<(statesL t.vars).length:=by omega
  have hrow:=hw.row hil
  have hq:((ss.length:Int)).tdiv 10=((ss.length / 10:Nat):Int):=by rw [Int.tdiv_eq_ediv_of_nonneg (by omega)];omega
  repeat (first|refine qaa ?_|(refine qap ?_;clear hw;intro s w hw))
  obtain⟨ov2,hov2⟩:∃ ov2,ov2=s:=⟨s,rfl⟩
  subst hov2
  exact⟨i+(1+ss.length / 10),ov2,os++[vget ss i],Zs++[(statesL t.vars).getD i []],⟨by show Value.int .i64 ((i:Int)+(1+((ss.length:Int)).tdiv 10))=_;rw [hq];congr 1,rfl,trivial⟩,agr,⟨by omega,hZ.snoc hil,by rw [List.length_append];simp only [List.length_singleton];omega,by rw [List.length_append];omega,hw.tail⟩,by omega⟩
 repeat refine qaa ?_
 exact qae (v:=ov) rfl rfl ⟨ov,os,ss,Zs,rfl,hZ,by omega,hZ0,hw.sel⟩
end Go.Proofs.YtggdgcmjcahbbaaGreatDoor
