/-
  The iterator of 'slices.Values' over ints: its contract for whatever loop's body.
-/
import Derived.Test.YtjdlohdcdmhigaaGreatDoorMW2
import Derived.Test.YtjdlohdcdmhigaaGreatDoorMSlB
set_option linter.unusedSimpArgs false
set_option linter.unusedVariables false
namespace Go.Proofs.YtjdlohdcdmhigaaGreatDoor
open Go.Sl Go
attribute [local irreducible] vc opsW opsD opV opW PureV ReadV Thn Blk
def KpV (pb:Addr) (a:Value) (L:List Int) (W W':World):Prop:=(W.cell? pb=some a→W'.cell? pb=some a)∧(RS tInt W a L→RS tInt W' a L)
def encV (x:Int):Array Value:=#[.int .i64 x]
set_option maxRecDepth 8000 in
set_option maxHeartbeats 2000000 in
theorem qgr {n:Nat}{w0:World}{pb:Addr}{a:Value}{L:List Int}(hc:w0.cell? pb=some a) (ha:RS tInt w0 a L) :
  SeqStopsK (α:=Int) Fence.wide n Tryz.prog 80 #[.pointer (some pb)] encV (KpV pb a L) (fun xs=>xs=L) (fun _=>True) L.length w0:=by
 intro l J Jx W hb hJ hJx hY h0
 refine (callsIn_wide (n:=n)).2 ?_
 have hc1:W.cell? pb=some a:=by
  have hlt:pb.block<w0.heap.size:=by
   rcases Nat.lt_or_ge pb.block w0.heap.size with h|h
   ·exact h
   ·simp [World.cell?,Array.getElem?_eq_none h] at hc
  rw [hb.cell hlt];exact hc
 have ha1:RS tInt W a L:=⟨ha.1.below hb,ha.2⟩
 have hla:=ha.big
 refine qaf (args:=[.func (.yield l) #[] #[],.pointer (some pb)]) mixed Tryz.func80 rfl (by kernel_rfl) (Nat.le_of_ble_eq_true rfl) ?_
 repeat (first|refine qac ?_|(refine qaa ?_;clear hw;intro p w hw)|(refine qae ?_;clear hw;intro w hw)|(refine qab ?_;clear hw;intro s w hw))
 refine qaE rfl (qbz rfl hc1) ?_
 repeat (first|refine qac ?_|(refine qaa ?_;clear hw;intro p w hw)|(refine qae ?_;clear hw;intro w hw)|(refine qab ?_;clear hw;intro s w hw))
 refine qak [4,7,8,9,10,11,12,13,14,15] (G:=Nat) (fun k=>[(7,.int .i64 k)]) (fun k w=>k≤L.length∧J (L.take k) w∧w.cell? pb=some a∧RS tInt w a L) (fun k=>L.length-k) 0 (fun _=>rfl) ⟨rfl,trivial⟩ ⟨Nat.zero_le _,h0,hc1,ha1⟩ ?_
 clear hc1 ha1 h0
 rintro σ k w ⟨hk,hj,hc1,ha1⟩
 repeat (first|refine qac ?_|(refine qaa ?_;clear hw;intro p w hw)|(refine qae ?_;clear hw;intro w hw)|(refine qab ?_;clear hw;intro s w hw))
 refine go_if (fun h1 => ?_) (fun h1 => ?_)
 ·have hkl:k<L.length:=by omega
  have hy:=hY (L.take k) (L.getD k tInt.dflt) w hj (by rw [List.length_take];omega)
  have hsn:L.take k++[L.getD k tInt.dflt]=L.take (k+1):=by rw [List.take_add_one,List.getElem?_eq_getElem hkl,getD_at hkl];rfl
  rw [hsn] at hy
  repeat (first|refine qac ?_|(refine qaa ?_;clear hw;intro p w hw)|(refine qae ?_;clear hw;intro w hw)|(refine qab ?_;clear hw;intro s w hw))
  refine qim (l:=l) rfl rfl hy ?_
  rintro _ W' (⟨rfl,hj',hk1,hk2⟩|⟨rfl,hjx⟩)
  ·refine⟨_,rfl,?_⟩
   repeat (first|refine qac ?_|(refine qaa ?_;clear hw;intro p w hw)|(refine qae ?_;clear hw;intro w hw)|(refine qab ?_;clear hw;intro s w hw))
   exact⟨k+1,⟨rfl,trivial⟩,agr,⟨by omega,hj',hk1 hc1,hk2 ha1⟩,by omega⟩
  ·refine⟨_,rfl,?_⟩
   repeat (first|refine qac ?_|(refine qaa ?_;clear hw;intro p w hw)|(refine qae ?_;clear hw;intro w hw)|(refine qab ?_;clear hw;intro s w hw))
   exact qf6 rfl ⟨⟨_,rfl⟩,.inr ⟨_,trivial,hjx⟩⟩
 ·have hke:k=L.length:=by omega
  subst hke
  repeat (first|refine qac ?_|(refine qaa ?_;clear hw;intro p w hw)|(refine qae ?_;clear hw;intro w hw)|(refine qab ?_;clear hw;intro s w hw))
  rw [List.take_length] at hj
  exact qaL rfl ⟨⟨_,rfl⟩,.inl ⟨L,rfl,hj⟩⟩
theorem qh8 {w0:World}{a:Value} :
  Calls Tryz.prog 48 #[a] w0 fun e w'=>∃ pb,e=.returned (.func (.func 80) #[] #[.pointer (some pb)])∧Sat w0 w' [Box pb 22 a.cells.toList]:=by
 have hw:=Sat.start w0
 refine qaf (args:=[a]) mixed Tryz.func48 rfl (by kernel_rfl) (Nat.le_of_ble_eq_true rfl) ?_
 repeat (first|refine qac ?_|(refine qaa ?_;clear hw;intro p w hw)|(refine qae ?_;clear hw;intro w hw)|(refine qab ?_;clear hw;intro s w hw))
 exact qai (v:=.func (.func 80) #[] #[.pointer (some p)]) rfl rfl ⟨p,rfl,hw⟩
end Go.Proofs.YtjdlohdcdmhigaaGreatDoor
