/-
  Contract of transys.labelled.
-/
import Derived.Test.YtjdlohdcdmhigaaGreatDoorWMs2
import Derived.Test.YtjdlohdcdmhigaaGreatDoorMTA
set_option linter.unusedSimpArgs false
set_option linter.unusedVariables false
namespace Go.Proofs.YtjdlohdcdmhigaaGreatDoor
open Go.Sl Go
attribute [local irreducible] vc opsW opsD opV opW PureV ReadV Thn Blk
theorem qcz {α:Type}{g:α→Int}{n:Nat}{l:List α}{x:Nat}:((grpL g n l).getD x []).length≤l.length:=by
 by_cases h:x<n
 ·rw [qfN h];exact List.length_filter_le _ _
 ·rw [List.getD_eq_getElem?_getD,List.getElem?_eq_none (by rw [qbW];omega)];exact Nat.zero_le _
set_option maxRecDepth 8000 in
set_option maxHeartbeats 4000000 in
theorem qhh {w0:World}{cv ev gv:Value}{S:SysV}(hS:RSys w0 cv ev gv S) (hc:S.costs.length≤4096) (he:S.edges.length≤65536) (hl:∀ e∈S.edges,0≤e.lab∧e.lab<S.costs.length) :
  Calls Tryz.prog 121 #[sysV S cv ev gv] w0 fun e w'=>∃ v ss,e=.returned v∧Sat w0 w' [RowsAt tEdg 196 ss (labS S),OS tVal 93 v ss]:=by
 have hcv:=hS.costs
 have hev:=hS.edges
 have hgv:=hS.goals
 have hw:=Sat.start w0
 refine qaf (args:=[sysV S cv ev gv]) mixed Tryz.func121 rfl (by kernel_rfl) (Nat.le_of_ble_eq_true rfl) ?_
 unfold sysV
 repeat (first|refine qac ?_|(refine qaa ?_;clear hw;intro p w hw)|(refine qae ?_;clear hw;intro w hw)|(refine qab ?_;clear hw;intro s w hw))
 have hw:=hw.rowsNil (T:=tEdg) (e:=196) S.costs.length
 rw [←qfO (g:=fun e:Edg=>e.lab),show ((S.costs.length:Int)).toNat=S.costs.length from by omega] at hw
 refine qaq [5,13,14,15,16,17,18,19,20,21,22,23,24,25,26,27,28,29] (G:=Nat) (H:=List Value) (fun k ss=>[(13,.int .i64 k)]) (fun k ss w=>k≤S.edges.length∧ss.length=S.costs.length∧Sat w0 w [RowsAt tEdg 196 ss (grpL (fun e:Edg=>e.lab) S.costs.length (S.edges.take k)),OS tVal 93 s ss]) (fun k ss=>S.edges.length-k) 0 (List.replicate S.costs.length (.slice none 0 0)) (fun _ _=>rfl) ⟨rfl,trivial⟩ ⟨Nat.zero_le _,by simp,by rw [List.take_zero];exact hw.sel⟩ ?_
 clear hw
 rintro σ k ss w ⟨hk,hss,hw⟩
 repeat (first|refine qac ?_|(refine qaa ?_;clear hw;intro p w hw)|(refine qae ?_;clear hw;intro w hw)|(refine qab ?_;clear hw;intro s w hw))
 refine go_if (fun h2 => ?_) (fun h2 => ?_)
 ·have hkl:k<S.edges.length:=by omega
  have hm:=hl _ (qal tEdg.dflt hkl)
  have hgs:=qfP (g:=fun e:Edg=>e.lab) (n:=S.costs.length) (dflt:=tEdg.dflt) hkl hm.1 hm.2
  have hgl:=qbW (g:=fun e:Edg=>e.lab) (n:=S.costs.length) (l:=S.edges.take k)
  have hrl:=qcz (g:=fun e:Edg=>e.lab) (n:=S.costs.length) (l:=S.edges.take k) (x:=(S.edges.getD k tEdg.dflt).lab.toNat)
  rw [List.length_take] at hrl
  obtain⟨a,ha⟩:∃ a,a=S.edges.getD k tEdg.dflt:=⟨_,rfl⟩
  rw [←ha] at hm hgs hrl
  repeat (first|refine qac ?_|(refine qaa ?_;clear hw;intro p w hw)|(refine qae ?_;clear hw;intro w hw)|(refine qab ?_;clear hw;intro s w hw))
  rw [←ha] at hw
  have hi:a.lab.toNat<(grpL (fun e:Edg=>e.lab) S.costs.length (S.edges.take k)).length:=by omega
  replace hw:=hw.swap.rowOut hi
  refine qax [.op 0,.op 1,.op 2,.op 3,.op 4,.op 5,.op 6,.op 7,.op 8,.op 9,.chk 2,.chk 5,.chk 7,.op 10,.chk 2,.op 11,.op 12] hw (by kernel_rfl) ?_;clear hw;intro w hw
  repeat (first|refine qac ?_|(refine qaa ?_;clear hw;intro p w hw)|(refine qae ?_;clear hw;intro w hw)|(refine qab ?_;clear hw;intro s w hw))
  refine qam tEdg (x1:=a) rfl rfl rfl (Nat.le_of_ble_eq_true rfl) (Nat.zero_lt_succ _) hw ?_
  clear hw;intro s2 w hw
  repeat (first|refine qac ?_|(refine qaa ?_;clear hw;intro p w hw)|(refine qae ?_;clear hw;intro w hw)|(refine qab ?_;clear hw;intro s w hw))
  replace hw:=Sat.rowIn hi (by omega) hw.tail
  replace hw:=hw.swap.tail
  rw [←hgs] at hw
  exact⟨k+1,ss.set a.lab.toNat s,⟨rfl,trivial⟩,agr,⟨by omega,by rw [List.length_set];exact hss,hw⟩,by omega⟩
 ·rw [List.take_of_length_le (by omega)] at hw
  repeat (first|refine qac ?_|(refine qaa ?_;clear hw;intro p w hw)|(refine qae ?_;clear hw;intro w hw)|(refine qab ?_;clear hw;intro s w hw))
  exact qai (v:=s) rfl rfl ⟨s,ss,rfl,hw⟩
end Go.Proofs.YtjdlohdcdmhigaaGreatDoor
