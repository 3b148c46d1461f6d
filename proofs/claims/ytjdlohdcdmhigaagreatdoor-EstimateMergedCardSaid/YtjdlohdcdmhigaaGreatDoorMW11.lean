/-
  Several texts as one: WSucG, WVis, WRun, WI50.
-/
import Derived.Test.YtjdlohdcdmhigaaGreatDoorMW10
import Derived.Test.YtjdlohdcdmhigaaGreatDoorMTA
import Derived.Test.YtjdlohdcdmhigaaGreatDoorMSlB
import Derived.Test.YtjdlohdcdmhigaaGreatDoorMW7
set_option linter.unusedSimpArgs false
set_option linter.unusedVariables false
/-
  Contracts of 'succgen.New', 'collect', 'find', 'Applicable', 'Successors'.
-/
namespace Go.Proofs.YtjdlohdcdmhigaaGreatDoor
open Go.Sl Go
attribute [local irreducible] vc opsW opsD opV opW PureV ReadV Thn Blk
end Go.Proofs.YtjdlohdcdmhigaaGreatDoor
/-
  Contract of 'idastar.visit': a visit, as the plain recursion.
-/
namespace Go.Proofs.YtjdlohdcdmhigaaGreatDoor
open Go.Sl Go
attribute [local irreducible] vc opsW opsD opV opW PureV ReadV Thn Blk
end Go.Proofs.YtjdlohdcdmhigaaGreatDoor
/-
  Contract of 'idastar.run': all rounds.
-/
namespace Go.Proofs.YtjdlohdcdmhigaaGreatDoor
open Go.Sl Go
attribute [local irreducible] vc opsW opsD opV opW PureV ReadV Thn Blk
end Go.Proofs.YtjdlohdcdmhigaaGreatDoor
/-
  The example with which each statement of layer 50 begins.
-/
namespace Go.Proofs.YtjdlohdcdmhigaaGreatDoor
open Go.Sl Go
attribute [local irreducible] vc opsW opsD opV opW PureV ReadV Thn Blk
def exOpI (k:Int):TOp:=⟨ByteArray.empty,2,[⟨0,k⟩],[⟨[],0,k+1⟩]⟩
def exIT:TTask:=⟨[4],[0],[⟨0,3⟩],[exOpI 0,exOpI 1,exOpI 2]⟩
def OpsI (vs:List OpV) (os:List TOp) (w:World):Prop:=vs.length=os.length∧∀ i,i<os.length→ROp w (eget tOp vs i) (os.getD i dOp)
theorem OpsI.snoc {vs:List OpV}{os:List TOp}{v:OpV}{o:TOp}{w:World}(h:OpsI vs os w) (hv:ROp w v o):OpsI (vs++[v]) (os++[o]) w:=by
 refine⟨by simp [h.1],fun i hi => ?_⟩
 have hl:=h.1
 rw [qaN]
 by_cases hk:i<os.length
 ·have h1:(vs++[v]).getD i tOp.dflt=vs.getD i tOp.dflt:=by simp [List.getD_eq_getElem?_getD,List.getElem?_append_left (show i<vs.length by omega)]
  have h2:(os++[o]).getD i dOp=os.getD i dOp:=by simp [List.getD_eq_getElem?_getD,List.getElem?_append_left hk]
  rw [h1,h2,←qaN]
  exact h.2 i hk
 ·have hi':i=os.length:=by simp at hi;omega
  subst hi'
  have h1:(vs++[v]).getD os.length tOp.dflt=v:=by rw [←hl];simp [List.getD_eq_getElem?_getD]
  have h2:(os++[o]).getD os.length dOp=o:=by simp [List.getD_eq_getElem?_getD]
  rw [h1,h2]
  exact hv
theorem irop {w0 w:World}{pv ev:Value}{cost x k:Int}(hw:Sat w0 w [OS tEff 67 ev [⟨.slice none 0 0,0,k⟩],OS tFact 69 pv [⟨0,x⟩]]):ROp w ⟨ByteArray.empty,cost,pv,ev⟩ ⟨ByteArray.empty,cost,[⟨0,x⟩],[⟨[],0,k⟩]⟩:=by
 refine⟨rfl,Nat.le_of_ble_eq_true rfl,rfl,hw.rs 1 rfl,[⟨.slice none 0 0,0,k⟩],hw.rs 0 rfl,rfl,fun j hj => ?_⟩
 have h0:j=0:=by simp at hj;exact hj
 subst h0
 rw [qaN]
 exact⟨rfl,rfl,RS.nil⟩
end Go.Proofs.YtjdlohdcdmhigaaGreatDoor
