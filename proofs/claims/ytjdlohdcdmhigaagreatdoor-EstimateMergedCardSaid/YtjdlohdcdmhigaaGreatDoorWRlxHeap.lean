/-
  Contracts of the relaxation's heap and of the package 'container/heap' over it.
-/
import Derived.Test.YtjdlohdcdmhigaaGreatDoorMTA
import Derived.Test.YtjdlohdcdmhigaaGreatDoorMSlB
import Derived.Test.YtjdlohdcdmhigaaGreatDoorMW1
set_option linter.unusedSimpArgs false
set_option linter.unusedVariables false
namespace Go.Proofs.YtjdlohdcdmhigaaGreatDoor
open Go.Sl
attribute [local irreducible] vc opsW opsD opV opW PureV ReadV Thn Blk
set_option maxRecDepth 8000 in
theorem qbp {w0:World}{h:Value}{xs:List Item}{i j:Nat}{ii jj:Int}(hx:RS tItem w0 h xs) (ei:ii=i) (ej:jj=j) (hi:i<xs.length) (hj:j<xs.length) :
  Calls Tryz.prog 341 #[h,.int .i64 ii,.int .i64 jj] w0 fun e w'=>e=.returned (.bool (ilt (hg tItem.dflt xs i) (hg tItem.dflt xs j)))∧Sat w0 w' []:=by
 subst ei ej
 have hw:=Sat.start w0
 refine qaf (args:=[h,.int .i64 i,.int .i64 j]) mixed Tryz.func341 rfl (by kernel_rfl) (Nat.le_of_ble_eq_true rfl) ?_
 repeat (first|refine qac ?_|(refine qaa ?_;clear hw;intro p w hw)|(refine qae ?_;clear hw;intro w hw)|(refine qab ?_;clear hw;intro s w hw))
 exact qai (v:=.bool (ilt (hg tItem.dflt xs i) (hg tItem.dflt xs j))) rfl rfl ⟨rfl,hw⟩
set_option maxRecDepth 8000 in
theorem qbq {w0 w:World}{Γ:List HP}{h:Value}{xs:List Item}{i j:Nat}{ii jj:Int}(ei:ii=i) (ej:jj=j) (hi:i<xs.length) (hj:j<xs.length) (hw:Sat w0 w (OS tItem 356 h xs::Γ)) :
  Calls Tryz.prog 342 #[h,.int .i64 ii,.int .i64 jj] w fun e w'=>e=.returned (.tuple #[])∧Sat w0 w' (OS tItem 356 h (sw tItem.dflt xs i j)::Γ):=by
 subst ei ej
 refine qaf (args:=[h,.int .i64 i,.int .i64 j]) mixed Tryz.func342 rfl (by kernel_rfl) (Nat.le_of_ble_eq_true rfl) ?_
 repeat (first|refine qac ?_|(refine qaa ?_;clear hw;intro p w hw)|(refine qae ?_;clear hw;intro w hw)|(refine qab ?_;clear hw;intro s w hw))
 refine qcl (s:=h) (j:=i) (x':=hg tItem.dflt xs j) rfl rfl rfl rfl hw inferInstance (by omega) ?_
 clear hw
 intro w hw
 have hl:(xs.set i (hg tItem.dflt xs j)).length=xs.length:=by simp
 repeat (first|refine qac ?_|(refine qaa ?_;clear hw;intro p w hw)|(refine qae ?_;clear hw;intro w hw)|(refine qab ?_;clear hw;intro s w hw))
 refine qcl (s:=h) (j:=j) (x':=hg tItem.dflt xs i) rfl rfl rfl rfl hw inferInstance (by omega) ?_
 clear hw
 intro w hw
 repeat (first|refine qac ?_|(refine qaa ?_;clear hw;intro p w hw)|(refine qae ?_;clear hw;intro w hw)|(refine qab ?_;clear hw;intro s w hw))
 exact qaL rfl ⟨rfl,hw⟩
set_option maxRecDepth 8000 in
theorem qh6 {w0 w:World}{Γ:List HP}{q:Addr}{h:Value}{xs:List Item}{v:Item}(hl:xs.length<1099511627776) (hw:Sat w0 w (OS tItem 356 h xs::Box q 353 [h]::Γ)) :
  Calls Tryz.prog 344 #[.pointer (some q),.iface 356 (.agg #[.int .i64 v.dist,.int .i64 v.state])] w fun e w'=>e=.returned (.tuple #[])∧∃ h',Sat w0 w' (OS tItem 356 h' (xs++[v])::Box q 353 [h']::Γ):=by
 refine qaf (args:=[.pointer (some q),.iface 356 (.agg #[.int .i64 v.dist,.int .i64 v.state])]) mixed Tryz.func344 rfl (by kernel_rfl) (Nat.le_of_ble_eq_true rfl) ?_
 repeat (first|refine qac ?_|(refine qaa ?_;clear hw;intro p w hw)|(refine qad ?_;clear hw;intro w hw)|(refine qab ?_;clear hw;intro s w hw))
 refine qax [.op 0,.op 1,.op 2,.op 3,.op 4,.op 5,.chk 3,.op 6,.op 7,.op 8] hw (by kernel_rfl) ?_;clear hw;intro w hw
 repeat (first|refine qac ?_|(refine qaa ?_;clear hw;intro p w hw)|(refine qad ?_;clear hw;intro w hw)|(refine qab ?_;clear hw;intro s w hw))
 refine qam tItem (x1:=v) rfl rfl rfl (Nat.le_of_ble_eq_true rfl) (Nat.zero_lt_succ _) hw ?_
 clear hw
 intro s w hw
 repeat (first|refine qac ?_|(refine qaa ?_;clear hw;intro p w hw)|(refine qad ?_;clear hw;intro w hw)|(refine qab ?_;clear hw;intro s w hw))
 exact qaL rfl ⟨rfl,_,hw.tail.tail⟩
set_option maxRecDepth 8000 in
theorem qj2 {w0 w:World}{Γ:List HP}{q:Addr}{h:Value}{xs:List Item}(hl:0<xs.length) (hb:xs.length≤1099511627776) (hw:Sat w0 w (OS tItem 356 h xs::Box q 353 [h]::Γ)) :
  Calls Tryz.prog 343 #[.pointer (some q)] w fun e w'=>e=.returned (.iface 356 ((.agg #[.int .i64 (hg tItem.dflt xs (xs.length-1)).dist,.int .i64 (hg tItem.dflt xs (xs.length-1)).state])))∧∃ h',Sat w0 w' (OS tItem 356 h' (xs.take (xs.length-1))::Box q 353 [h']::Γ):=by
 refine qaf (args:=[.pointer (some q)]) mixed Tryz.func343 rfl (by kernel_rfl) (Nat.le_of_ble_eq_true rfl) ?_
 repeat (first|refine qac ?_|(refine qaa ?_;clear hw;intro p w hw)|(refine qae ?_;clear hw;intro w hw)|(refine qab ?_;clear hw;intro s w hw))
 have hk:(((xs.length:Nat):Int)-1).toNat=xs.length-1:=by omega
 replace hw:=Sat.sub (s:=h) (xs:=xs) hw inferInstance 0 (((xs.length:Nat):Int)-1).toNat (by omega) (by omega)
 repeat (first|refine qac ?_|(refine qaa ?_;clear hw;intro p w hw)|(refine qae ?_;clear hw;intro w hw)|(refine qab ?_;clear hw;intro s w hw))
 refine qai (v:=.iface 356 ((.agg #[.int .i64 (hg tItem.dflt xs (((xs.length:Nat):Int)-1).toNat).dist,.int .i64 (hg tItem.dflt xs (((xs.length:Nat):Int)-1).toNat).state]))) rfl rfl ⟨by rw [hk],ssub h tItem.sz 0 (((xs.length:Nat):Int)-1).toNat,?_⟩
 have hc:cut xs 0 (((xs.length:Nat):Int)-1).toNat=xs.take (xs.length-1):=by rw [hk];simp [cut]
 rw [hc] at hw
 exact hw.tail
set_option maxRecDepth 8000 in
theorem qdB {w0:World}{h:Value}{xs:List Item}(hx:RS tItem w0 h xs) :
  Calls Tryz.prog 268 #[h] w0 fun e w'=>e=.returned (.int .i64 xs.length)∧Sat w0 w' []:=by
 have hw:=Sat.start w0
 refine qaf (args:=[h]) mixed Tryz.func268 rfl (by kernel_rfl) (Nat.le_of_ble_eq_true rfl) ?_
 repeat (first|refine qac ?_|(refine qaa ?_;clear hw;intro p w hw)|(refine qae ?_;clear hw;intro w hw)|(refine qab ?_;clear hw;intro s w hw))
 exact qai (v:=.int .i64 xs.length) rfl rfl ⟨rfl,hw⟩
set_option maxHeartbeats 1000000 in
set_option maxRecDepth 8000 in
theorem qlF {w0 w:World}{Γ:List HP}{q:Addr}{h:Value}{xs:List Item}{j:Nat}{jj:Int}(ej:jj=j) (U:UpI tItem.dflt ilt xs j) (hb:xs.length≤1099511627776) (hw:Sat w0 w (OS tItem 356 h xs::Box q 353 [h]::Γ)) :
  Calls Tryz.prog 195 #[.iface 354 (.pointer (some q)),.int .i64 jj] w fun e w'=>e=.returned (.tuple #[])∧∃ ys,IsHeap tItem.dflt ilt ys∧ys.Perm xs∧Sat w0 w' (OS tItem 356 h ys::Box q 353 [h]::Γ):=by
 subst ej
 refine qaf (args:=[.iface 354 (.pointer (some q)),.int .i64 j]) mixed Tryz.func195 rfl (by kernel_rfl) (Nat.le_of_ble_eq_true rfl) ?_
 repeat (first|refine qac ?_|(refine qaa ?_;clear hw;intro p w hw)|(refine qae ?_;clear hw;intro w hw)|(refine qab ?_;clear hw;intro s w hw))
 refine qaq [1,4,5,6,7,8,9,10,11,12,13,14,15,16,17,18,19,20,21,22] (G:=Nat) (H:=List Item) (fun j ys=>[(1,.int .i64 j)]) (fun j ys w=>UpI tItem.dflt ilt ys j∧ys.Perm xs∧Sat w0 w (OS tItem 356 h ys::Box q 353 [h]::Γ)) (fun j ys=>j) j xs (fun _ _=>rfl) ⟨rfl,trivial⟩ ⟨U,.refl _,hw⟩ ?_
 clear hw U
 rintro σ j ys w ⟨U,hp,hw⟩
 have hlt:=U.inb
 have hyl:=hp.length_eq
 repeat (first|refine qac ?_|(refine qaa ?_;clear hw;intro p w hw)|(refine qae ?_;clear hw;intro w hw)|(refine qab ?_;clear hw;intro s w hw))
 simp only [qkw]
 by_cases hij:(j-1) / 2=j
 ·have hdec:decide ((((j-1) / 2:Nat):Int)=(j:Int))=true:=decide_eq_true (by omega)
  simp only [hdec]
  repeat (first|refine qac ?_|(refine qaa ?_;clear hw;intro p w hw)|(refine qae ?_;clear hw;intro w hw)|(refine qab ?_;clear hw;intro s w hw))
  exact qaL rfl ⟨rfl,ys,U.done (.inl hij),hp,hw⟩
 ·have hdec:decide ((((j-1) / 2:Nat):Int)=(j:Int))=false:=decide_eq_false (by omega)
  simp only [hdec,gvff]
  repeat (first|refine qac ?_|(refine qaa ?_;clear hw;intro p w hw)|(refine qae ?_;clear hw;intro w hw)|(refine qab ?_;clear hw;intro s w hw))
  refine qaD (u:=h) rfl rfl (hw.box0 inferInstance rfl) (qbp (rsO hw) rfl rfl hlt (show (j-1) / 2<ys.length by omega)) ?_
  rintro _ w' ⟨rfl,hk⟩
  replace hw:=hw.call0 hk
  clear hk
  cases hL:ilt (hg tItem.dflt ys j) (hg tItem.dflt ys ((j-1) / 2)) with
  | false =>
   refine⟨_,rfl,?_⟩
   repeat (first|refine qac ?_|(refine qaa ?_;clear hw;intro p w hw)|(refine qae ?_;clear hw;intro w hw)|(refine qab ?_;clear hw;intro s w hw))
   exact qaL rfl ⟨rfl,ys,U.done (.inr hL),hp,hw⟩
  | true =>
   refine⟨_,rfl,?_⟩
   repeat (first|refine qac ?_|(refine qaa ?_;clear hw;intro p w hw)|(refine qae ?_;clear hw;intro w hw)|(refine qab ?_;clear hw;intro s w hw))
   refine qaD (u:=h) rfl rfl (hw.box0 inferInstance rfl) (qbq rfl rfl (show (j-1) / 2<ys.length by omega) hlt hw) ?_
   clear hw
   rintro _ w ⟨rfl,hw⟩
   refine⟨_,rfl,?_⟩
   repeat (first|refine qac ?_|(refine qaa ?_;clear hw;intro p w hw)|(refine qae ?_;clear hw;intro w hw)|(refine qab ?_;clear hw;intro s w hw))
   exact⟨(j-1) / 2,_,⟨rfl,trivial⟩,agr,⟨U.step hij hL,(qeh (by omega) hlt).trans hp,hw⟩,by omega⟩
set_option maxHeartbeats 2000000 in
set_option maxRecDepth 8000 in
theorem qh7 {w0 w:World}{Γ:List HP}{q:Addr}{h:Value}{xs:List Item}{n:Nat}{nn:Int}(en:nn=n) (D:DnI tItem.dflt ilt xs n 0) (hb:xs.length≤1099511627776) (hw:Sat w0 w (OS tItem 356 h xs::Box q 353 [h]::Γ)) :
  Calls Tryz.prog 196 #[.iface 354 (.pointer (some q)),.int .i64 0,.int .i64 nn] w fun e w'=>∃ b ys,e=.returned (.bool b)∧HeapN tItem.dflt ilt ys n∧ys.Perm xs∧(∀ k,n≤k→hg tItem.dflt ys k=hg tItem.dflt xs k)∧Sat w0 w' (OS tItem 356 h ys::Box q 353 [h]::Γ):=by
 subst en
 refine qaf (args:=[.iface 354 (.pointer (some q)),.int .i64 0,.int .i64 n]) mixed Tryz.func196 rfl (by kernel_rfl) (Nat.le_of_ble_eq_true rfl) ?_
 repeat (first|refine qac ?_|(refine qaa ?_;clear hw;intro p w hw)|(refine qae ?_;clear hw;intro w hw)|(refine qab ?_;clear hw;intro s w hw))
 refine qaq [7,8,9,10,12,13,14,15,16,17,18,19,20,21,22,23,24,25,26,27,28,29,30,31,32,33,34,35,36,37,38,39,40,41,42,43,44] (G:=Nat) (H:=List Item) (fun i ys=>[(7,.int .i64 i)]) (fun i ys w=>DnI tItem.dflt ilt ys n i∧i≤n∧ys.Perm xs∧(∀ k,n≤k→hg tItem.dflt ys k=hg tItem.dflt xs k)∧Sat w0 w (OS tItem 356 h ys::Box q 353 [h]::Γ)) (fun i ys=>n-i) 0 xs (fun _ _=>rfl) ⟨rfl,trivial⟩ ⟨D,Nat.zero_le _,.refl _,fun _ _=>rfl,hw⟩ ?_
 clear hw D
 rintro σ i ys w ⟨D,hin,hp,hkeep,hw⟩
 have hle1:=D.le
 have hyl:=hp.length_eq
 repeat (first|refine qac ?_|(refine qaa ?_;clear hw;intro p w hw)|(refine qae ?_;clear hw;intro w hw)|(refine qab ?_;clear hw;intro s w hw))
 refine go_if (fun h1 => ?_) (fun h1 => ?_)
 ·repeat (first|refine qac ?_|(refine qaa ?_;clear hw;intro p w hw)|(refine qae ?_;clear hw;intro w hw)|(refine qab ?_;clear hw;intro s w hw))
  exact qai (v:=.bool _) rfl rfl ⟨_,ys,rfl,D.leaf (by omega),hp,hkeep,hw⟩
 ·have hin':2*i+1<n:=by omega
  repeat (first|refine qac ?_|(refine qaa ?_;clear hw;intro p w hw)|(refine qae ?_;clear hw;intro w hw)|(refine qab ?_;clear hw;intro s w hw))
  by_cases h2:2*i+2<n
  ·have hdec:decide (2*(i:Int)+1+1<(n:Int))=true:=decide_eq_true (by omega)
   simp only [hdec,gvtt]
   repeat (first|refine qac ?_|(refine qaa ?_;clear hw;intro p w hw)|(refine qae ?_;clear hw;intro w hw)|(refine qab ?_;clear hw;intro s w hw))
   refine qaD (u:=h) rfl rfl (hw.box0 inferInstance rfl) (qbp (i:=2*i+2) (j:=2*i+1) (rsO hw) (by omega) (by omega) (by omega) (by omega)) ?_
   rintro _ w' ⟨rfl,hk⟩
   replace hw:=hw.call0 hk
   clear hk
   cases hL:ilt (hg tItem.dflt ys (2*i+2)) (hg tItem.dflt ys (2*i+1)) with
   | true =>
    refine⟨_,rfl,?_⟩
    repeat (first|refine qeI ?_|(refine qaa ?_;clear hw;intro p w hw)|(refine qae ?_;clear hw;intro w hw)|(refine qab ?_;clear hw;intro s w hw))
    refine qdh [9,34] (G:=Nat) (fun j=>[(9,.int .i64 j)]) (fun j w=>(j=2*i+1∨j=2*i+2)∧j<n∧(∀ c,0<c→c<n→(c-1) / 2=i→hle ilt (hg tItem.dflt ys j) (hg tItem.dflt ys c))∧Sat w0 w (OS tItem 356 h ys::Box q 353 [h]::Γ)) (fun _=>rfl) ?_ ?_
    ·repeat (first|refine qac ?_|(refine qaa ?_;clear hw;intro p w hw)|(refine qae ?_;clear hw;intro w hw)|(refine qab ?_;clear hw;intro s w hw))
     refine⟨2*i+2,⟨?_,trivial⟩,agr,.inr rfl,h2,fun c h0 h1 hc => ?_,hw⟩
     ·show Value.int .i64 (2*(i:Int)+1+1)=_
      congr 1
     ·have:c=2*i+1∨c=2*i+2:=by omega
      rcases this with rfl|rfl
      ·exact qkv hL
      ·exact qdS _
    ·clear hw
     rintro σ1 j w ⟨hj,hjn,hmin,hw⟩
     repeat (first|refine qac ?_|(refine qaa ?_;clear hw;intro p w hw)|(refine qae ?_;clear hw;intro w hw)|(refine qab ?_;clear hw;intro s w hw))
     refine qaD (u:=h) rfl rfl (hw.box0 inferInstance rfl) (qbp (rsO hw) rfl rfl (show j<ys.length by omega) (show i<ys.length by omega)) ?_
     rintro _ w' ⟨rfl,hk⟩
     replace hw:=hw.call0 hk
     clear hk
     cases hL:ilt (hg tItem.dflt ys j) (hg tItem.dflt ys i) with
     | false =>
      refine⟨_,rfl,?_⟩
      repeat (first|refine qac ?_|(refine qaa ?_;clear hw;intro p w hw)|(refine qae ?_;clear hw;intro w hw)|(refine qab ?_;clear hw;intro s w hw))
      exact qai (v:=.bool _) rfl rfl ⟨_,ys,rfl,D.done hmin hL,hp,hkeep,hw⟩
     | true =>
      refine⟨_,rfl,?_⟩
      repeat (first|refine qac ?_|(refine qaa ?_;clear hw;intro p w hw)|(refine qae ?_;clear hw;intro w hw)|(refine qab ?_;clear hw;intro s w hw))
      refine qaD (u:=h) rfl rfl (hw.box0 inferInstance rfl) (qbq rfl rfl (show i<ys.length by omega) (show j<ys.length by omega) hw) ?_
      clear hw
      rintro _ w ⟨rfl,hw⟩
      refine⟨_,rfl,?_⟩
      repeat (first|refine qac ?_|(refine qaa ?_;clear hw;intro p w hw)|(refine qae ?_;clear hw;intro w hw)|(refine qab ?_;clear hw;intro s w hw))
      refine⟨j,_,⟨rfl,trivial⟩,agr,⟨D.step hj hjn hmin hL,by omega,(qeh (by omega) (by omega)).trans hp,fun k hk => ?_,hw⟩,by omega⟩
      rw [qbs (by omega) (by omega),if_neg (by omega),if_neg (by omega)]
      exact hkeep k hk
   | false =>
    refine⟨_,rfl,?_⟩
    repeat (first|refine qeI ?_|(refine qaa ?_;clear hw;intro p w hw)|(refine qae ?_;clear hw;intro w hw)|(refine qab ?_;clear hw;intro s w hw))
    refine qdh [9,34] (G:=Nat) (fun j=>[(9,.int .i64 j)]) (fun j w=>(j=2*i+1∨j=2*i+2)∧j<n∧(∀ c,0<c→c<n→(c-1) / 2=i→hle ilt (hg tItem.dflt ys j) (hg tItem.dflt ys c))∧Sat w0 w (OS tItem 356 h ys::Box q 353 [h]::Γ)) (fun _=>rfl) ?_ ?_
    ·repeat (first|refine qac ?_|(refine qaa ?_;clear hw;intro p w hw)|(refine qae ?_;clear hw;intro w hw)|(refine qab ?_;clear hw;intro s w hw))
     refine⟨2*i+1,⟨?_,trivial⟩,agr,.inl rfl,hin',fun c h0 h1 hc => ?_,hw⟩
     ·show Value.int .i64 (2*(i:Int)+1)=_
      congr 1
     ·have:c=2*i+1∨c=2*i+2:=by omega
      rcases this with rfl|rfl
      ·exact qdS _
      ·exact hL
    ·clear hw
     rintro σ1 j w ⟨hj,hjn,hmin,hw⟩
     repeat (first|refine qac ?_|(refine qaa ?_;clear hw;intro p w hw)|(refine qae ?_;clear hw;intro w hw)|(refine qab ?_;clear hw;intro s w hw))
     refine qaD (u:=h) rfl rfl (hw.box0 inferInstance rfl) (qbp (rsO hw) rfl rfl (show j<ys.length by omega) (show i<ys.length by omega)) ?_
     rintro _ w' ⟨rfl,hk⟩
     replace hw:=hw.call0 hk
     clear hk
     cases hL:ilt (hg tItem.dflt ys j) (hg tItem.dflt ys i) with
     | false =>
      refine⟨_,rfl,?_⟩
      repeat (first|refine qac ?_|(refine qaa ?_;clear hw;intro p w hw)|(refine qae ?_;clear hw;intro w hw)|(refine qab ?_;clear hw;intro s w hw))
      exact qai (v:=.bool _) rfl rfl ⟨_,ys,rfl,D.done hmin hL,hp,hkeep,hw⟩
     | true =>
      refine⟨_,rfl,?_⟩
      repeat (first|refine qac ?_|(refine qaa ?_;clear hw;intro p w hw)|(refine qae ?_;clear hw;intro w hw)|(refine qab ?_;clear hw;intro s w hw))
      refine qaD (u:=h) rfl rfl (hw.box0 inferInstance rfl) (qbq rfl rfl (show i<ys.length by omega) (show j<ys.length by omega) hw) ?_
      clear hw
      rintro _ w ⟨rfl,hw⟩
      refine⟨_,rfl,?_⟩
      repeat (first|refine qac ?_|(refine qaa ?_;clear hw;intro p w hw)|(refine qae ?_;clear hw;intro w hw)|(refine qab ?_;clear hw;intro s w hw))
      refine⟨j,_,⟨rfl,trivial⟩,agr,⟨D.step hj hjn hmin hL,by omega,(qeh (by omega) (by omega)).trans hp,fun k hk => ?_,hw⟩,by omega⟩
      rw [qbs (by omega) (by omega),if_neg (by omega),if_neg (by omega)]
      exact hkeep k hk
  ·have hdec:decide (2*(i:Int)+1+1<(n:Int))=false:=decide_eq_false (by omega)
   simp only [hdec]
   repeat (first|refine qeI ?_|(refine qaa ?_;clear hw;intro p w hw)|(refine qae ?_;clear hw;intro w hw)|(refine qab ?_;clear hw;intro s w hw))
   refine qdh [9,34] (G:=Nat) (fun j=>[(9,.int .i64 j)]) (fun j w=>(j=2*i+1∨j=2*i+2)∧j<n∧(∀ c,0<c→c<n→(c-1) / 2=i→hle ilt (hg tItem.dflt ys j) (hg tItem.dflt ys c))∧Sat w0 w (OS tItem 356 h ys::Box q 353 [h]::Γ)) (fun _=>rfl) ?_ ?_
   ·repeat (first|refine qac ?_|(refine qaa ?_;clear hw;intro p w hw)|(refine qae ?_;clear hw;intro w hw)|(refine qab ?_;clear hw;intro s w hw))
    refine⟨2*i+1,⟨?_,trivial⟩,agr,.inl rfl,hin',fun c h0 h1 hc => ?_,hw⟩
    ·show Value.int .i64 (2*(i:Int)+1)=_
     congr 1
    ·have:c=2*i+1:=by omega
     subst this;exact qdS _
   ·clear hw
    rintro σ1 j w ⟨hj,hjn,hmin,hw⟩
    repeat (first|refine qac ?_|(refine qaa ?_;clear hw;intro p w hw)|(refine qae ?_;clear hw;intro w hw)|(refine qab ?_;clear hw;intro s w hw))
    refine qaD (u:=h) rfl rfl (hw.box0 inferInstance rfl) (qbp (rsO hw) rfl rfl (show j<ys.length by omega) (show i<ys.length by omega)) ?_
    rintro _ w' ⟨rfl,hk⟩
    replace hw:=hw.call0 hk
    clear hk
    cases hL:ilt (hg tItem.dflt ys j) (hg tItem.dflt ys i) with
    | false =>
     refine⟨_,rfl,?_⟩
     repeat (first|refine qac ?_|(refine qaa ?_;clear hw;intro p w hw)|(refine qae ?_;clear hw;intro w hw)|(refine qab ?_;clear hw;intro s w hw))
     exact qai (v:=.bool _) rfl rfl ⟨_,ys,rfl,D.done hmin hL,hp,hkeep,hw⟩
    | true =>
     refine⟨_,rfl,?_⟩
     repeat (first|refine qac ?_|(refine qaa ?_;clear hw;intro p w hw)|(refine qae ?_;clear hw;intro w hw)|(refine qab ?_;clear hw;intro s w hw))
     refine qaD (u:=h) rfl rfl (hw.box0 inferInstance rfl) (qbq rfl rfl (show i<ys.length by omega) (show j<ys.length by omega) hw) ?_
     clear hw
     rintro _ w ⟨rfl,hw⟩
     refine⟨_,rfl,?_⟩
     repeat (first|refine qac ?_|(refine qaa ?_;clear hw;intro p w hw)|(refine qae ?_;clear hw;intro w hw)|(refine qab ?_;clear hw;intro s w hw))
     refine⟨j,_,⟨rfl,trivial⟩,agr,⟨D.step hj hjn hmin hL,by omega,(qeh (by omega) (by omega)).trans hp,fun k hk => ?_,hw⟩,by omega⟩
     rw [qbs (by omega) (by omega),if_neg (by omega),if_neg (by omega)]
     exact hkeep k hk
set_option maxRecDepth 8000 in
theorem qeS {w0 w:World}{Γ:List HP}{q:Addr}{h:Value}{xs:List Item}{v:Item}(H:IsHeap tItem.dflt ilt xs) (hb:xs.length<1099511627776) (hw:Sat w0 w (OS tItem 356 h xs::Box q 353 [h]::Γ)) :
  Calls Tryz.prog 163 #[.iface 354 (.pointer (some q)),.iface 356 (.agg #[.int .i64 v.dist,.int .i64 v.state])] w fun e w'=>e=.returned (.tuple #[])∧∃ h' ys,IsHeap tItem.dflt ilt ys∧ys.Perm (v::xs)∧Sat w0 w' (OS tItem 356 h' ys::Box q 353 [h']::Γ):=by
 refine qaf (args:=[.iface 354 (.pointer (some q)),.iface 356 (.agg #[.int .i64 v.dist,.int .i64 v.state])]) mixed Tryz.func163 rfl (by kernel_rfl) (Nat.le_of_ble_eq_true rfl) ?_
 repeat (first|refine qac ?_|(refine qaa ?_;clear hw;intro p w hw)|(refine qae ?_;clear hw;intro w hw)|(refine qab ?_;clear hw;intro s w hw))
 refine qfc rfl rfl (qh6 (v:=v) (by omega) hw) ?_
 clear hw
 rintro _ w ⟨rfl,h',hw⟩
 refine⟨_,rfl,?_⟩
 repeat (first|refine qac ?_|(refine qaa ?_;clear hw;intro p w hw)|(refine qae ?_;clear hw;intro w hw)|(refine qab ?_;clear hw;intro s w hw))
 refine qaD (u:=h') rfl rfl (hw.box0 inferInstance rfl) (qdB (rsO hw)) ?_
 rintro _ w' ⟨rfl,hk⟩
 replace hw:=hw.call0 hk
 clear hk
 refine⟨_,rfl,?_⟩
 have hl:(xs++[v]).length=xs.length+1:=by simp
 repeat (first|refine qac ?_|(refine qaa ?_;clear hw;intro p w hw)|(refine qae ?_;clear hw;intro w hw)|(refine qab ?_;clear hw;intro s w hw))
 refine qah rfl (qlF (j:=xs.length) (by rw [hl];omega) (qmf H) (by omega) hw) ?_
 clear hw
 rintro _ w ⟨rfl,ys,h1,h2,hw⟩
 refine⟨_,rfl,?_⟩
 repeat (first|refine qac ?_|(refine qaa ?_;clear hw;intro p w hw)|(refine qae ?_;clear hw;intro w hw)|(refine qab ?_;clear hw;intro s w hw))
 exact qaL rfl ⟨rfl,h',ys,h1,h2.trans (List.perm_append_comm (l₁:=xs) (l₂:=[v])),hw⟩
set_option maxRecDepth 8000 in
theorem qe8 {w0 w:World}{Γ:List HP}{q:Addr}{h:Value}{xs:List Item}(H:IsHeap tItem.dflt ilt xs) (hl:0<xs.length) (hb:xs.length≤1099511627776) (hw:Sat w0 w (OS tItem 356 h xs::Box q 353 [h]::Γ)) :
  Calls Tryz.prog 165 #[.iface 354 (.pointer (some q))] w fun e w'=>∃ v h' ys,e=.returned (.iface 356 (.agg #[.int .i64 v.dist,.int .i64 v.state]))∧IsHeap tItem.dflt ilt ys∧xs.Perm (v::ys)∧(∀ x∈xs,hle ilt v x)∧Sat w0 w' (OS tItem 356 h' ys::Box q 353 [h']::Γ):=by
 refine qaf (args:=[.iface 354 (.pointer (some q))]) mixed Tryz.func165 rfl (by kernel_rfl) (Nat.le_of_ble_eq_true rfl) ?_
 repeat (first|refine qac ?_|(refine qaa ?_;clear hw;intro p w hw)|(refine qae ?_;clear hw;intro w hw)|(refine qab ?_;clear hw;intro s w hw))
 refine qaD (u:=h) rfl rfl (hw.box0 inferInstance rfl) (qdB (rsO hw)) ?_
 rintro _ w' ⟨rfl,hk⟩
 replace hw:=hw.call0 hk
 clear hk
 refine⟨_,rfl,?_⟩
 repeat (first|refine qac ?_|(refine qaa ?_;clear hw;intro p w hw)|(refine qae ?_;clear hw;intro w hw)|(refine qab ?_;clear hw;intro s w hw))
 refine qaD (u:=h) rfl rfl (hw.box0 inferInstance rfl) (qbq (i:=0) (j:=xs.length-1) rfl (by omega) hl (by omega) hw) ?_
 clear hw
 rintro _ w ⟨rfl,hw⟩
 refine⟨_,rfl,?_⟩
 repeat (first|refine qac ?_|(refine qaa ?_;clear hw;intro p w hw)|(refine qae ?_;clear hw;intro w hw)|(refine qab ?_;clear hw;intro s w hw))
 refine qah rfl (qh7 (n:=xs.length-1) (by omega) (qnO H hl) (by rw [qfd];exact hb) hw) ?_
 clear hw
 rintro _ w ⟨b,ys,rfl,h1,h2,h3,hw⟩
 have hp:=h2.trans (qeh hl (show xs.length-1<xs.length by omega))
 have hyl:=hp.length_eq
 refine⟨_,rfl,?_⟩
 repeat (first|refine qac ?_|(refine qaa ?_;clear hw;intro p w hw)|(refine qae ?_;clear hw;intro w hw)|(refine qab ?_;clear hw;intro s w hw))
 refine qfc rfl rfl (qj2 (by omega) (by omega) hw) ?_
 clear hw
 rintro _ w ⟨rfl,h',hw⟩
 refine⟨_,rfl,?_⟩
 repeat (first|refine qac ?_|(refine qaa ?_;clear hw;intro p w hw)|(refine qae ?_;clear hw;intro w hw)|(refine qab ?_;clear hw;intro s w hw))
 have hlast:hg tItem.dflt ys (xs.length-1)=hg tItem.dflt xs 0:=by
  rw [h3 _ (Nat.le_refl _),qbs hl (by omega),if_pos rfl]
 obtain⟨hh,hpp⟩:=qmi hl hp h1 hlast
 rw [hyl] at hw
 refine qai (v:=.iface 356 ((.agg #[.int .i64 (hg tItem.dflt ys (ys.length-1)).dist,.int .i64 (hg tItem.dflt ys (ys.length-1)).state]))) rfl rfl ⟨hg tItem.dflt xs 0,h',_,by rw [hyl,hlast],hh,hpp,fun x hx=>qmh H hx,hw⟩
end Go.Proofs.YtjdlohdcdmhigaaGreatDoor
