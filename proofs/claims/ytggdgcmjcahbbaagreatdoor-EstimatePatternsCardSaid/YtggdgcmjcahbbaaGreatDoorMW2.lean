/-
  Several texts as one: WPdbHeap, WTCheck, WTState, WTStates.
-/
import Derived.Test.YtggdgcmjcahbbaaGreatDoorMTA
import Derived.Test.YtggdgcmjcahbbaaGreatDoorMSlB
import Derived.Test.YtggdgcmjcahbbaaGreatDoorMW1
set_option linter.unusedSimpArgs false
set_option linter.unusedVariables false
/-
  Contracts of the heap of items and of the package 'container/heap' over it.
-/
namespace Go.Proofs.YtggdgcmjcahbbaaGreatDoor
open Go.Sl
attribute [local irreducible] vc opsW opsD opV opW PureV ReadV Thn Blk
set_option maxRecDepth 8000 in
theorem qbU {w0:World}{h:Value}{xs:List Item}{i j:Nat}{ii jj:Int}(hx:RS tItem w0 h xs) (ei:ii=i) (ej:jj=j) (hi:i<xs.length) (hj:j<xs.length) :
  Calls Tryz.prog 164 #[h,.int .i64 ii,.int .i64 jj] w0 fun e w'=>e=.returned (.bool (ilt (hg tItem.dflt xs i) (hg tItem.dflt xs j)))∧Sat w0 w' []:=by
 subst ei ej
 have hw:=Sat.start w0
 refine qab (args:=[h,.int .i64 i,.int .i64 j]) mixed Tryz.func164 rfl (by kernel_rfl) (Nat.le_of_ble_eq_true rfl) ?_
 repeat (first|refine qaa ?_|(refine qag ?_;clear hw;intro w hw))
 exact qae (v:=.bool (ilt (hg tItem.dflt xs i) (hg tItem.dflt xs j))) rfl rfl ⟨rfl,hw⟩
set_option maxRecDepth 8000 in
theorem qbV {w0 w:World}{Γ:List HP}{h:Value}{xs:List Item}{i j:Nat}{ii jj:Int}(ei:ii=i) (ej:jj=j) (hi:i<xs.length) (hj:j<xs.length) (hw:Sat w0 w (OS tItem 167 h xs::Γ)) :
  Calls Tryz.prog 167 #[h,.int .i64 ii,.int .i64 jj] w fun e w'=>e=.returned (.tuple #[])∧Sat w0 w' (OS tItem 167 h (sw tItem.dflt xs i j)::Γ):=by
 subst ei ej
 refine qab (args:=[h,.int .i64 i,.int .i64 j]) mixed Tryz.func167 rfl (by kernel_rfl) (Nat.le_of_ble_eq_true rfl) ?_
 repeat (first|refine qaa ?_|(refine qag ?_;clear hw;intro w hw))
 refine qcC (s:=h) (j:=i) (x':=hg tItem.dflt xs j) rfl rfl rfl rfl hw inferInstance (by omega) ?_
 clear hw
 intro w hw
 have hl:(xs.set i (hg tItem.dflt xs j)).length=xs.length:=by simp
 repeat refine qaa ?_
 refine qcC (s:=h) (j:=j) (x':=hg tItem.dflt xs i) rfl rfl rfl rfl hw inferInstance (by omega) ?_
 clear hw
 intro w hw
 repeat refine qaa ?_
 exact qaA rfl ⟨rfl,hw⟩
set_option maxRecDepth 8000 in
theorem qkS {w0 w:World}{Γ:List HP}{q:Addr}{h:Value}{xs:List Item}{v:Item}(hl:xs.length<1048576) (hw:Sat w0 w (OS tItem 167 h xs::Box q 164 [h]::Γ)) :
  Calls Tryz.prog 166 #[.pointer (some q),.iface 167 (.agg #[.int .i64 v.dist,.int .i64 v.state])] w fun e w'=>e=.returned (.tuple #[])∧∃ h',Sat w0 w' (OS tItem 167 h' (xs++[v])::Box q 164 [h']::Γ):=by
 refine qab (args:=[.pointer (some q),.iface 167 (.agg #[.int .i64 v.dist,.int .i64 v.state])]) mixed Tryz.func166 rfl (by kernel_rfl) (Nat.le_of_ble_eq_true rfl) ?_
 repeat (first|refine qaa ?_|(refine qaf ?_;clear hw;intro p w hw)|(refine qas ?_;clear hw;intro w hw))
 refine qaD [.op 0,.op 1,.op 2,.op 3,.op 4,.op 5,.chk 3,.op 6,.op 7,.op 8] hw (by kernel_rfl) ?_;clear hw;intro w hw
 repeat refine qaa ?_
 refine qam tItem (x1:=v) rfl rfl rfl (Nat.le_of_ble_eq_true rfl) (Nat.zero_lt_succ _) hw ?_
 clear hw
 intro s w hw
 repeat (first|refine qaa ?_|(refine qas ?_;clear hw;intro w hw)|(refine qap ?_;clear hw;intro s w hw))
 exact qaA rfl ⟨rfl,_,hw.tail.tail⟩
set_option maxRecDepth 8000 in
theorem qmR {w0 w:World}{Γ:List HP}{q:Addr}{h:Value}{xs:List Item}(hl:0<xs.length) (hb:xs.length≤1048576) (hw:Sat w0 w (OS tItem 167 h xs::Box q 164 [h]::Γ)) :
  Calls Tryz.prog 165 #[.pointer (some q)] w fun e w'=>e=.returned (.iface 167 ((.agg #[.int .i64 (hg tItem.dflt xs (xs.length-1)).dist,.int .i64 (hg tItem.dflt xs (xs.length-1)).state])))∧∃ h',Sat w0 w' (OS tItem 167 h' (xs.take (xs.length-1))::Box q 164 [h']::Γ):=by
 refine qab (args:=[.pointer (some q)]) mixed Tryz.func165 rfl (by kernel_rfl) (Nat.le_of_ble_eq_true rfl) ?_
 repeat (first|refine qaa ?_|(refine qaf ?_;clear hw;intro p w hw)|(refine qag ?_;clear hw;intro w hw))
 have hk:(((xs.length:Nat):Int)-1).toNat=xs.length-1:=by omega
 replace hw:=Sat.sub (s:=h) (xs:=xs) hw inferInstance 0 (((xs.length:Nat):Int)-1).toNat (by omega) (by omega)
 repeat (first|refine qaa ?_|(refine qag ?_;clear hw;intro w hw))
 refine qae (v:=.iface 167 ((.agg #[.int .i64 (hg tItem.dflt xs (((xs.length:Nat):Int)-1).toNat).dist,.int .i64 (hg tItem.dflt xs (((xs.length:Nat):Int)-1).toNat).state]))) rfl rfl ⟨by rw [hk],ssub h tItem.sz 0 (((xs.length:Nat):Int)-1).toNat,?_⟩
 have hc:cut xs 0 (((xs.length:Nat):Int)-1).toNat=xs.take (xs.length-1):=by rw [hk];simp [cut]
 rw [hc] at hw
 exact hw.tail
set_option maxRecDepth 8000 in
theorem qfl {w0:World}{h:Value}{xs:List Item}(hx:RS tItem w0 h xs) :
  Calls Tryz.prog 88 #[h] w0 fun e w'=>e=.returned (.int .i64 xs.length)∧Sat w0 w' []:=by
 have hw:=Sat.start w0
 refine qab (args:=[h]) mixed Tryz.func88 rfl (by kernel_rfl) (Nat.le_of_ble_eq_true rfl) ?_
 repeat refine qaa ?_
 exact qae (v:=.int .i64 xs.length) rfl rfl ⟨rfl,hw⟩
set_option maxHeartbeats 1000000 in
set_option maxRecDepth 8000 in
theorem qoo {w0 w:World}{Γ:List HP}{q:Addr}{h:Value}{xs:List Item}{j:Nat}{jj:Int}(ej:jj=j) (U:UpI tItem.dflt ilt xs j) (hb:xs.length≤1048576) (hw:Sat w0 w (OS tItem 167 h xs::Box q 164 [h]::Γ)) :
  Calls Tryz.prog 103 #[.iface 162 (.pointer (some q)),.int .i64 jj] w fun e w'=>e=.returned (.tuple #[])∧∃ ys,IsHeap tItem.dflt ilt ys∧ys.Perm xs∧Sat w0 w' (OS tItem 167 h ys::Box q 164 [h]::Γ):=by
 subst ej
 refine qab (args:=[.iface 162 (.pointer (some q)),.int .i64 j]) mixed Tryz.func103 rfl (by kernel_rfl) (Nat.le_of_ble_eq_true rfl) ?_
 repeat refine qaa ?_
 refine qao [1,4,5,6,7,8,9,10,11,12,13,14,15,16,17,18,19,20,21,22] (G:=Nat) (H:=List Item) (fun j ys=>[(1,.int .i64 j)]) (fun j ys w=>UpI tItem.dflt ilt ys j∧ys.Perm xs∧Sat w0 w (OS tItem 167 h ys::Box q 164 [h]::Γ)) (fun j ys=>j) j xs (fun _ _=>rfl) ⟨rfl,trivial⟩ ⟨U,.refl _,hw⟩ ?_
 clear hw U
 rintro σ j ys w ⟨U,hp,hw⟩
 have hlt:=U.inb
 have hyl:=hp.length_eq
 repeat refine qaa ?_
 simp only [qhM]
 by_cases hij:(j-1) / 2=j
 ·have hdec:decide ((((j-1) / 2:Nat):Int)=(j:Int))=true:=decide_eq_true (by omega)
  simp only [hdec]
  repeat refine qaa ?_
  exact qaA rfl ⟨rfl,ys,U.done (.inl hij),hp,hw⟩
 ·have hdec:decide ((((j-1) / 2:Nat):Int)=(j:Int))=false:=decide_eq_false (by omega)
  simp only [hdec,gvff]
  repeat refine qaa ?_
  refine qar (u:=h) rfl rfl (hw.box0 inferInstance rfl) (qbU (rsO hw) rfl rfl hlt (show (j-1) / 2<ys.length by omega)) ?_
  rintro _ w' ⟨rfl,hk⟩
  replace hw:=hw.call0 hk
  clear hk
  cases hL:ilt (hg tItem.dflt ys j) (hg tItem.dflt ys ((j-1) / 2)) with
  | false =>
   refine⟨_,rfl,?_⟩
   repeat refine qaa ?_
   exact qaA rfl ⟨rfl,ys,U.done (.inr hL),hp,hw⟩
  | true =>
   refine⟨_,rfl,?_⟩
   repeat refine qaa ?_
   refine qar (u:=h) rfl rfl (hw.box0 inferInstance rfl) (qbV rfl rfl (show (j-1) / 2<ys.length by omega) hlt hw) ?_
   clear hw
   rintro _ w ⟨rfl,hw⟩
   refine⟨_,rfl,?_⟩
   repeat refine qaa ?_
   exact⟨(j-1) / 2,_,⟨rfl,trivial⟩,agr,⟨U.step hij hL,(qbL (by omega) hlt).trans hp,hw⟩,by omega⟩
set_option maxHeartbeats 2000000 in
set_option maxRecDepth 8000 in
theorem qkT {w0 w:World}{Γ:List HP}{q:Addr}{h:Value}{xs:List Item}{n:Nat}{nn:Int}(en:nn=n) (D:DnI tItem.dflt ilt xs n 0) (hb:xs.length≤1048576) (hw:Sat w0 w (OS tItem 167 h xs::Box q 164 [h]::Γ)) :
  Calls Tryz.prog 104 #[.iface 162 (.pointer (some q)),.int .i64 0,.int .i64 nn] w fun e w'=>∃ b ys,e=.returned (.bool b)∧HeapN tItem.dflt ilt ys n∧ys.Perm xs∧(∀ k,n≤k→hg tItem.dflt ys k=hg tItem.dflt xs k)∧Sat w0 w' (OS tItem 167 h ys::Box q 164 [h]::Γ):=by
 subst en
 refine qab (args:=[.iface 162 (.pointer (some q)),.int .i64 0,.int .i64 n]) mixed Tryz.func104 rfl (by kernel_rfl) (Nat.le_of_ble_eq_true rfl) ?_
 repeat refine qaa ?_
 refine qao [7,8,9,10,12,13,14,15,16,17,18,19,20,21,22,23,24,25,26,27,28,29,30,31,32,33,34,35,36,37,38,39,40,41,42,43,44] (G:=Nat) (H:=List Item) (fun i ys=>[(7,.int .i64 i)]) (fun i ys w=>DnI tItem.dflt ilt ys n i∧i≤n∧ys.Perm xs∧(∀ k,n≤k→hg tItem.dflt ys k=hg tItem.dflt xs k)∧Sat w0 w (OS tItem 167 h ys::Box q 164 [h]::Γ)) (fun i ys=>n-i) 0 xs (fun _ _=>rfl) ⟨rfl,trivial⟩ ⟨D,Nat.zero_le _,.refl _,fun _ _=>rfl,hw⟩ ?_
 clear hw D
 rintro σ i ys w ⟨D,hin,hp,hkeep,hw⟩
 have hle1:=D.le
 have hyl:=hp.length_eq
 repeat refine qaa ?_
 refine go_if (fun h1 => ?_) (fun h1 => ?_)
 ·repeat refine qaa ?_
  exact qae (v:=.bool _) rfl rfl ⟨_,ys,rfl,D.leaf (by omega),hp,hkeep,hw⟩
 ·have hin':2*i+1<n:=by omega
  repeat refine qaa ?_
  by_cases h2:2*i+2<n
  ·have hdec:decide (2*(i:Int)+1+1<(n:Int))=true:=decide_eq_true (by omega)
   simp only [hdec,gvtt]
   repeat refine qaa ?_
   refine qar (u:=h) rfl rfl (hw.box0 inferInstance rfl) (qbU (i:=2*i+2) (j:=2*i+1) (rsO hw) (by omega) (by omega) (by omega) (by omega)) ?_
   rintro _ w' ⟨rfl,hk⟩
   replace hw:=hw.call0 hk
   clear hk
   cases hL:ilt (hg tItem.dflt ys (2*i+2)) (hg tItem.dflt ys (2*i+1)) with
   | true =>
    refine⟨_,rfl,?_⟩
    repeat refine qaC ?_
    refine qc6 [9,34] (G:=Nat) (fun j=>[(9,.int .i64 j)]) (fun j w=>(j=2*i+1∨j=2*i+2)∧j<n∧(∀ c,0<c→c<n→(c-1) / 2=i→hle ilt (hg tItem.dflt ys j) (hg tItem.dflt ys c))∧Sat w0 w (OS tItem 167 h ys::Box q 164 [h]::Γ)) (fun _=>rfl) ?_ ?_
    ·repeat refine qaa ?_
     refine⟨2*i+2,⟨?_,trivial⟩,agr,.inr rfl,h2,fun c h0 h1 hc => ?_,hw⟩
     ·show Value.int .i64 (2*(i:Int)+1+1)=_
      congr 1
     ·have:c=2*i+1∨c=2*i+2:=by omega
      rcases this with rfl|rfl
      ·exact qjI hL
      ·exact qb1 _
    ·clear hw
     rintro σ1 j w ⟨hj,hjn,hmin,hw⟩
     repeat refine qaa ?_
     refine qar (u:=h) rfl rfl (hw.box0 inferInstance rfl) (qbU (rsO hw) rfl rfl (show j<ys.length by omega) (show i<ys.length by omega)) ?_
     rintro _ w' ⟨rfl,hk⟩
     replace hw:=hw.call0 hk
     clear hk
     cases hL:ilt (hg tItem.dflt ys j) (hg tItem.dflt ys i) with
     | false =>
      refine⟨_,rfl,?_⟩
      repeat refine qaa ?_
      exact qae (v:=.bool _) rfl rfl ⟨_,ys,rfl,D.done hmin hL,hp,hkeep,hw⟩
     | true =>
      refine⟨_,rfl,?_⟩
      repeat refine qaa ?_
      refine qar (u:=h) rfl rfl (hw.box0 inferInstance rfl) (qbV rfl rfl (show i<ys.length by omega) (show j<ys.length by omega) hw) ?_
      clear hw
      rintro _ w ⟨rfl,hw⟩
      refine⟨_,rfl,?_⟩
      repeat refine qaa ?_
      refine⟨j,_,⟨rfl,trivial⟩,agr,⟨D.step hj hjn hmin hL,by omega,(qbL (by omega) (by omega)).trans hp,fun k hk => ?_,hw⟩,by omega⟩
      rw [qbb (by omega) (by omega),if_neg (by omega),if_neg (by omega)]
      exact hkeep k hk
   | false =>
    refine⟨_,rfl,?_⟩
    repeat refine qaC ?_
    refine qc6 [9,34] (G:=Nat) (fun j=>[(9,.int .i64 j)]) (fun j w=>(j=2*i+1∨j=2*i+2)∧j<n∧(∀ c,0<c→c<n→(c-1) / 2=i→hle ilt (hg tItem.dflt ys j) (hg tItem.dflt ys c))∧Sat w0 w (OS tItem 167 h ys::Box q 164 [h]::Γ)) (fun _=>rfl) ?_ ?_
    ·repeat refine qaa ?_
     refine⟨2*i+1,⟨?_,trivial⟩,agr,.inl rfl,hin',fun c h0 h1 hc => ?_,hw⟩
     ·show Value.int .i64 (2*(i:Int)+1)=_
      congr 1
     ·have:c=2*i+1∨c=2*i+2:=by omega
      rcases this with rfl|rfl
      ·exact qb1 _
      ·exact hL
    ·clear hw
     rintro σ1 j w ⟨hj,hjn,hmin,hw⟩
     repeat refine qaa ?_
     refine qar (u:=h) rfl rfl (hw.box0 inferInstance rfl) (qbU (rsO hw) rfl rfl (show j<ys.length by omega) (show i<ys.length by omega)) ?_
     rintro _ w' ⟨rfl,hk⟩
     replace hw:=hw.call0 hk
     clear hk
     cases hL:ilt (hg tItem.dflt ys j) (hg tItem.dflt ys i) with
     | false =>
      refine⟨_,rfl,?_⟩
      repeat refine qaa ?_
      exact qae (v:=.bool _) rfl rfl ⟨_,ys,rfl,D.done hmin hL,hp,hkeep,hw⟩
     | true =>
      refine⟨_,rfl,?_⟩
      repeat refine qaa ?_
      refine qar (u:=h) rfl rfl (hw.box0 inferInstance rfl) (qbV rfl rfl (show i<ys.length by omega) (show j<ys.length by omega) hw) ?_
      clear hw
      rintro _ w ⟨rfl,hw⟩
      refine⟨_,rfl,?_⟩
      repeat refine qaa ?_
      refine⟨j,_,⟨rfl,trivial⟩,agr,⟨D.step hj hjn hmin hL,by omega,(qbL (by omega) (by omega)).trans hp,fun k hk => ?_,hw⟩,by omega⟩
      rw [qbb (by omega) (by omega),if_neg (by omega),if_neg (by omega)]
      exact hkeep k hk
  ·have hdec:decide (2*(i:Int)+1+1<(n:Int))=false:=decide_eq_false (by omega)
   simp only [hdec]
   repeat refine qaC ?_
   refine qc6 [9,34] (G:=Nat) (fun j=>[(9,.int .i64 j)]) (fun j w=>(j=2*i+1∨j=2*i+2)∧j<n∧(∀ c,0<c→c<n→(c-1) / 2=i→hle ilt (hg tItem.dflt ys j) (hg tItem.dflt ys c))∧Sat w0 w (OS tItem 167 h ys::Box q 164 [h]::Γ)) (fun _=>rfl) ?_ ?_
   ·repeat refine qaa ?_
    refine⟨2*i+1,⟨?_,trivial⟩,agr,.inl rfl,hin',fun c h0 h1 hc => ?_,hw⟩
    ·show Value.int .i64 (2*(i:Int)+1)=_
     congr 1
    ·have:c=2*i+1:=by omega
     subst this;exact qb1 _
   ·clear hw
    rintro σ1 j w ⟨hj,hjn,hmin,hw⟩
    repeat refine qaa ?_
    refine qar (u:=h) rfl rfl (hw.box0 inferInstance rfl) (qbU (rsO hw) rfl rfl (show j<ys.length by omega) (show i<ys.length by omega)) ?_
    rintro _ w' ⟨rfl,hk⟩
    replace hw:=hw.call0 hk
    clear hk
    cases hL:ilt (hg tItem.dflt ys j) (hg tItem.dflt ys i) with
    | false =>
     refine⟨_,rfl,?_⟩
     repeat refine qaa ?_
     exact qae (v:=.bool _) rfl rfl ⟨_,ys,rfl,D.done hmin hL,hp,hkeep,hw⟩
    | true =>
     refine⟨_,rfl,?_⟩
     repeat refine qaa ?_
     refine qar (u:=h) rfl rfl (hw.box0 inferInstance rfl) (qbV rfl rfl (show i<ys.length by omega) (show j<ys.length by omega) hw) ?_
     clear hw
     rintro _ w ⟨rfl,hw⟩
     refine⟨_,rfl,?_⟩
     repeat refine qaa ?_
     refine⟨j,_,⟨rfl,trivial⟩,agr,⟨D.step hj hjn hmin hL,by omega,(qbL (by omega) (by omega)).trans hp,fun k hk => ?_,hw⟩,by omega⟩
     rw [qbb (by omega) (by omega),if_neg (by omega),if_neg (by omega)]
     exact hkeep k hk
set_option maxRecDepth 8000 in
theorem qcM {w0 w:World}{Γ:List HP}{q:Addr}{h:Value}{xs:List Item}{v:Item}(H:IsHeap tItem.dflt ilt xs) (hb:xs.length<1048576) (hw:Sat w0 w (OS tItem 167 h xs::Box q 164 [h]::Γ)) :
  Calls Tryz.prog 87 #[.iface 162 (.pointer (some q)),.iface 167 (.agg #[.int .i64 v.dist,.int .i64 v.state])] w fun e w'=>e=.returned (.tuple #[])∧∃ h' ys,IsHeap tItem.dflt ilt ys∧ys.Perm (v::xs)∧Sat w0 w' (OS tItem 167 h' ys::Box q 164 [h']::Γ):=by
 refine qab (args:=[.iface 162 (.pointer (some q)),.iface 167 (.agg #[.int .i64 v.dist,.int .i64 v.state])]) mixed Tryz.func87 rfl (by kernel_rfl) (Nat.le_of_ble_eq_true rfl) ?_
 repeat refine qaa ?_
 refine qcw rfl rfl (qkS (v:=v) (by omega) hw) ?_
 clear hw
 rintro _ w ⟨rfl,h',hw⟩
 refine⟨_,rfl,?_⟩
 repeat refine qaa ?_
 refine qar (u:=h') rfl rfl (hw.box0 inferInstance rfl) (qfl (rsO hw)) ?_
 rintro _ w' ⟨rfl,hk⟩
 replace hw:=hw.call0 hk
 clear hk
 refine⟨_,rfl,?_⟩
 have hl:(xs++[v]).length=xs.length+1:=by simp
 repeat refine qaa ?_
 refine qad rfl (qoo (j:=xs.length) (by rw [hl];omega) (qjJ H) (by omega) hw) ?_
 clear hw
 rintro _ w ⟨rfl,ys,h1,h2,hw⟩
 refine⟨_,rfl,?_⟩
 repeat refine qaa ?_
 exact qaA rfl ⟨rfl,h',ys,h1,h2.trans (List.perm_append_comm (l₁:=xs) (l₂:=[v])),hw⟩
set_option maxRecDepth 8000 in
theorem qg0 {w0 w:World}{Γ:List HP}{q:Addr}{h:Value}{xs:List Item}(H:IsHeap tItem.dflt ilt xs) (hl:0<xs.length) (hb:xs.length≤1048576) (hw:Sat w0 w (OS tItem 167 h xs::Box q 164 [h]::Γ)) :
  Calls Tryz.prog 89 #[.iface 162 (.pointer (some q))] w fun e w'=>∃ v h' ys,e=.returned (.iface 167 (.agg #[.int .i64 v.dist,.int .i64 v.state]))∧IsHeap tItem.dflt ilt ys∧xs.Perm (v::ys)∧(∀ x∈xs,hle ilt v x)∧Sat w0 w' (OS tItem 167 h' ys::Box q 164 [h']::Γ):=by
 refine qab (args:=[.iface 162 (.pointer (some q))]) mixed Tryz.func89 rfl (by kernel_rfl) (Nat.le_of_ble_eq_true rfl) ?_
 repeat refine qaa ?_
 refine qar (u:=h) rfl rfl (hw.box0 inferInstance rfl) (qfl (rsO hw)) ?_
 rintro _ w' ⟨rfl,hk⟩
 replace hw:=hw.call0 hk
 clear hk
 refine⟨_,rfl,?_⟩
 repeat refine qaa ?_
 refine qar (u:=h) rfl rfl (hw.box0 inferInstance rfl) (qbV (i:=0) (j:=xs.length-1) rfl (by omega) hl (by omega) hw) ?_
 clear hw
 rintro _ w ⟨rfl,hw⟩
 refine⟨_,rfl,?_⟩
 repeat refine qaa ?_
 refine qad rfl (qkT (n:=xs.length-1) (by omega) (qmh H hl) (by rw [qe7];exact hb) hw) ?_
 clear hw
 rintro _ w ⟨b,ys,rfl,h1,h2,h3,hw⟩
 have hp:=h2.trans (qbL hl (show xs.length-1<xs.length by omega))
 have hyl:=hp.length_eq
 refine⟨_,rfl,?_⟩
 repeat refine qaa ?_
 refine qcw rfl rfl (qmR (by omega) (by omega) hw) ?_
 clear hw
 rintro _ w ⟨rfl,h',hw⟩
 refine⟨_,rfl,?_⟩
 repeat refine qaa ?_
 have hlast:hg tItem.dflt ys (xs.length-1)=hg tItem.dflt xs 0:=by
  rw [h3 _ (Nat.le_refl _),qbb hl (by omega),if_pos rfl]
 obtain⟨hh,hpp⟩:=qjL hl hp h1 hlast
 rw [hyl] at hw
 refine qae (v:=.iface 167 ((.agg #[.int .i64 (hg tItem.dflt ys (ys.length-1)).dist,.int .i64 (hg tItem.dflt ys (ys.length-1)).state]))) rfl rfl ⟨hg tItem.dflt xs 0,h',_,by rw [hyl,hlast],hh,hpp,fun x hx=>qjK H hx,hw⟩
end Go.Proofs.YtggdgcmjcahbbaaGreatDoor
/-
  Contracts of the package 'task': 'Proper', 'Facts', 'Holds', 'named', 'conditions', 'large', 'Check'.
-/
namespace Go.Proofs.YtggdgcmjcahbbaaGreatDoor
open Go.Sl
attribute [local irreducible] vc opsW opsD opV opW PureV ReadV Thn Blk
set_option maxRecDepth 8000 in
theorem qa4 {w0:World}{a b:Value}{vars s:List Int}(ha:RS tInt w0 a vars) (hb:RS tInt w0 b s) :
  Calls Tryz.prog 36 #[a,b] w0 fun e w'=>(∃ r,e=.returned (.bool r)∧(r=true↔StateOk vars s))∧Sat w0 w' []:=by
 have hla:=ha.big
 have hlb:=hb.big
 have hw:=Sat.start w0
 refine qab (args:=[a,b]) mixed Tryz.func36 rfl (by kernel_rfl) (Nat.le_of_ble_eq_true rfl) ?_
 repeat refine qaa ?_
 refine go_if (fun h0 => ?_) (fun h0 => ?_)
 ·repeat refine qaa ?_
  refine qae (v:=.bool false) rfl rfl ⟨⟨false,rfl,iffF fun h => ?_⟩,hw⟩
  exact absurd (by have:=h.1;omega) h0
 ·repeat refine qaa ?_
  refine qaj [4,5,6,14,15,16,17,18,19,20,21,22,23,24,25,26,27,28,29] (G:=Nat) (fun k=>[(14,.int .i64 k)]) (fun k w=>k≤s.length∧(∀ i,i<k→0≤s.getD i tInt.dflt∧s.getD i tInt.dflt<vars.getD i tInt.dflt)∧Sat w0 w []) (fun k=>s.length-k) 0 (fun _=>rfl) ⟨rfl,trivial⟩ ⟨Nat.zero_le _,fun i hi=>absurd hi (Nat.not_lt_zero _),hw⟩ ?_
  clear hw
  rintro σ k w ⟨hk,hpre,hw⟩
  repeat refine qaa ?_
  refine go_if (fun h1 => ?_) (fun h1 => ?_)
  ·repeat refine qaa ?_
   refine go_if (fun h2 => ?_) (fun h2 => ?_)
   ·repeat refine qaa ?_
    refine qae (v:=.bool false) rfl rfl ⟨⟨false,rfl,iffF fun h => ?_⟩,hw⟩
    have:=h.2 k (by omega)
    omega
   ·repeat refine qaa ?_
    refine⟨k+1,⟨rfl,trivial⟩,agr,⟨by omega,fun i hi => ?_,hw⟩,by omega⟩
    by_cases h:i=k
    ·subst h;omega
    ·exact hpre i (by omega)
  ·repeat refine qaa ?_
   exact qae (v:=.bool true) rfl rfl ⟨⟨true,rfl,iffT ⟨by omega,fun i hi=>hpre i (by omega)⟩⟩,hw⟩
set_option maxRecDepth 8000 in
set_option maxHeartbeats 1000000 in
theorem qfg {w0:World}{a b:Value}{vars:List Int}{f:List Fact}(ha:RS tInt w0 a vars) (hb:RS tFact w0 b f) :
  Calls Tryz.prog 63 #[a,b] w0 fun e w'=>(∃ r,e=.returned (.bool r)∧(r=true↔FactsOk vars f))∧Sat w0 w' []:=by
 have hla:=ha.big
 have hlb:=hb.big
 have hw:=Sat.start w0
 refine qab (args:=[a,b]) mixed Tryz.func63 rfl (by kernel_rfl) (Nat.le_of_ble_eq_true rfl) ?_
 repeat refine qaa ?_
 refine qao [4,5,7,10,11,12,13,14,15,16,17,18,19,20,21,22,23,24,25,26,27,28,29,30,31,32,33,34,35,36,37,38,39,40,41,42] (G:=Nat) (H:=Int) (fun k l=>[(10,.int .i64 k),(5,.int .i64 l)]) (fun k l w=>k≤f.length ∧ -1≤l∧(l=if k=0 then -1 else (f.getD (k-1) tFact.dflt).var)∧(∀ i,i<k→FactOk vars (f.getD i tFact.dflt)∧(0<i→(f.getD (i-1) tFact.dflt).var<(f.getD i tFact.dflt).var))∧Sat w0 w []) (fun k l=>f.length-k) 0 (-1) (fun _ _=>rfl) ⟨rfl,rfl,trivial⟩ ⟨Nat.zero_le _,by omega,rfl,fun i hi=>absurd hi (Nat.not_lt_zero _),hw⟩ ?_
 clear hw
 rintro σ k l w ⟨hk,hl1,hl2,hpre,hw⟩
 repeat refine qaa ?_
 refine go_if (fun h1 => ?_) (fun h1 => ?_)
 ·repeat (first|refine qaa ?_|(refine qaf ?_;clear hw;intro p w hw)|(refine qag ?_;clear hw;intro w hw))
  refine go_if (fun h2 => ?_) (fun h2 => ?_)
  ·repeat refine qaa ?_
   refine qae (v:=.bool false) rfl rfl ⟨⟨false,rfl,iffF fun h => ?_⟩,hw.tail⟩
   have:=h k (by omega)
   unfold FactOk at this
   split at hl2 <;> omega
  ·repeat refine qaa ?_
   refine⟨k+1,_,⟨rfl,rfl,trivial⟩,agr,⟨by omega,by omega,by simp,fun i hi => ?_,hw.tail⟩,by omega⟩
   by_cases h:i=k
   ·subst h
    unfold FactOk
    split at hl2 <;> omega
   ·exact hpre i (by omega)
 ·repeat refine qaa ?_
  exact qae (v:=.bool true) rfl rfl ⟨⟨true,rfl,iffT fun i hi=>hpre i (by omega)⟩,hw⟩
set_option maxRecDepth 8000 in
set_option maxHeartbeats 1000000 in
theorem qfh {w0:World}{a b:Value}{f:List Fact}{s:List Int}(ha:RS tFact w0 a f) (hb:RS tInt w0 b s) :
  Calls Tryz.prog 79 #[a,b] w0 fun e w'=>(∃ r,e=.returned (.bool r)∧(r=true↔HoldFs s f))∧Sat w0 w' []:=by
 have hla:=ha.big
 have hlb:=hb.big
 have hw:=Sat.start w0
 refine qab (args:=[a,b]) mixed Tryz.func79 rfl (by kernel_rfl) (Nat.le_of_ble_eq_true rfl) ?_
 repeat refine qaa ?_
 refine qaj [4,6,9,10,11,12,13,14,15,16,17,18,19,20,21,22,23,24,25,26,27,28,29,30,31,32,33] (G:=Nat) (fun k=>[(9,.int .i64 k)]) (fun k w=>k≤f.length∧(∀ i,i<k→HoldF s (f.getD i tFact.dflt))∧Sat w0 w []) (fun k=>f.length-k) 0 (fun _=>rfl) ⟨rfl,trivial⟩ ⟨Nat.zero_le _,fun i hi=>absurd hi (Nat.not_lt_zero _),hw⟩ ?_
 clear hw
 rintro σ k w ⟨hk,hpre,hw⟩
 repeat refine qaa ?_
 refine go_if (fun h1 => ?_) (fun h1 => ?_)
 ·repeat (first|refine qaa ?_|(refine qaf ?_;clear hw;intro p w hw)|(refine qag ?_;clear hw;intro w hw))
  refine go_if (fun h2 => ?_) (fun h2 => ?_)
  ·repeat refine qaa ?_
   refine qae (v:=.bool false) rfl rfl ⟨⟨false,rfl,iffF fun h => ?_⟩,hw.tail⟩
   have:=h k (by omega)
   unfold HoldF at this
   omega
  ·repeat refine qaa ?_
   refine⟨k+1,⟨rfl,trivial⟩,agr,⟨by omega,fun i hi => ?_,hw.tail⟩,by omega⟩
   by_cases h:i=k
   ·subst h;unfold HoldF;omega
   ·exact hpre i (by omega)
 ·repeat refine qaa ?_
  exact qae (v:=.bool true) rfl rfl ⟨⟨true,rfl,iffT fun i hi=>hpre i (by omega)⟩,hw⟩
set_option maxRecDepth 8000 in
theorem qkL {w0:World}{b:ByteArray}(hb:b.size≤9223372036854775807) :
  Calls Tryz.prog 64 #[.string b] w0 fun e w'=>(∃ r,e=.returned (.bool r)∧(r=true↔NameOk b))∧Sat w0 w' []:=by
 have hw:=Sat.start w0
 refine qab (args:=[.string b]) mixed Tryz.func64 rfl (by kernel_rfl) (Nat.le_of_ble_eq_true rfl) ?_
 repeat refine qaa ?_
 refine qaj [2,3,6,7,8,9,10,11,12,13,14,15,16,17,18,19] (G:=Nat) (fun k=>[(6,.int .i64 k)]) (fun k w=>k≤b.size∧(∀ i,i<k→32≤bat b i∧bat b i≤126)∧Sat w0 w []) (fun k=>b.size-k) 0 (fun _=>rfl) ⟨rfl,trivial⟩ ⟨Nat.zero_le _,fun i hi=>absurd hi (Nat.not_lt_zero _),hw⟩ ?_
 clear hw
 rintro σ k w ⟨hk,hpre,hw⟩
 repeat refine qaa ?_
 refine go_if (fun h1 => ?_) (fun h1 => ?_)
 ·repeat refine qaa ?_
  refine go_if (fun h2 => ?_) (fun h2 => ?_)
  ·repeat refine qaa ?_
   refine qae (v:=.bool false) rfl rfl ⟨⟨false,rfl,iffF fun h => ?_⟩,hw⟩
   have:=h.2 k (by omega)
   omega
  ·repeat refine qaa ?_
   refine⟨k+1,⟨rfl,trivial⟩,agr,⟨by omega,fun i hi => ?_,hw⟩,by omega⟩
   by_cases h:i=k
   ·subst h;omega
   ·exact hpre i (by omega)
 ·repeat refine qaa ?_
  refine qae (v:=.bool (decide ((b.size:Int)≤256))) rfl rfl ⟨⟨_,rfl,?_⟩,hw⟩
  rw [decide_eq_true_eq]
  exact⟨fun h=>⟨by omega,fun i hi=>hpre i (by omega)⟩,fun h=>by have:=h.1;omega⟩
end Go.Proofs.YtggdgcmjcahbbaaGreatDoor
/-
  Contracts of the helpers 'Ints', 'Is', 'Many', 'Small', 'Apply', 'Rank'.
-/
namespace Go.Proofs.YtggdgcmjcahbbaaGreatDoor
open Go.Sl
attribute [local irreducible] vc opsW opsD opV opW PureV ReadV Thn Blk
theorem qlH {n k m:Int}(hn:1≤n) (hk:1≤k) (hm:n≤m) (h0:m≤65536):let x:=n*(if m+1<(if 0>k then 0 else k) then m+1 else (if 0>k then 0 else k))
  0≤x∧x≤4295098368∧(x≤m→x=n*k)∧(m<x→m<n*k):=by
 intro x
 have e:x=n*min k (m+1):=by
  show n*(if m+1<(if 0>k then 0 else k) then m+1 else (if 0>k then 0 else k))=_
  have hk0:(if 0>k then 0 else k)=k:=if_neg (by omega)
  rw [hk0]
  congr 1
  split <;> omega
 have h2:n*min k (m+1)≤65536*65537:=Int.mul_le_mul (by omega) (by omega) (by omega) (by omega)
 have h3:0≤n*min k (m+1):=Int.mul_nonneg (by omega) (by omega)
 refine⟨by omega,by omega,fun h => ?_,fun h => ?_⟩
 ·rw [e] at h ⊢
  by_cases hh:k≤m+1
  ·rw [Int.min_eq_left hh]
  ·rw [Int.min_eq_right (by omega)] at h
   have:1*(m+1)≤n*(m+1):=Int.mul_le_mul_of_nonneg_right hn (by omega)
   omega
 ·rw [e] at h
  have:n*min k (m+1)≤n*k:=Int.mul_le_mul_of_nonneg_left (by omega) (by omega)
  omega
def manyL (vars:List Int) (m:Int):Int:=if prodL vars≤m then prodL vars else m+1
set_option maxRecDepth 8000 in
theorem qmP {w0:World}{a:Value}{vars:List Int}{m:Int}(ha:RS tInt w0 a vars) (hp:∀ x∈vars,1≤x) (hm1:1≤m) (hm2:m≤65536) :
  Calls Tryz.prog 17 #[a,.int .i64 m] w0 fun e w'=>e=.returned (.int .i64 (manyL vars m))∧Sat w0 w' []:=by
 have hla:=ha.big
 have hw:=Sat.start w0
 refine qab (args:=[a,.int .i64 m]) mixed Tryz.func17 rfl (by kernel_rfl) (Nat.le_of_ble_eq_true rfl) ?_
 repeat refine qaa ?_
 refine qao [4,5,7,10,11,12,13,14,15,16,17,18,19,20,21,22,23,24,25,26] (G:=Nat) (H:=Int) (fun k n=>[(10,.int .i64 k),(5,.int .i64 n)]) (fun k n w=>k≤vars.length∧n=prodL (vars.take k)∧n≤m∧Sat w0 w []) (fun k _=>vars.length-k) 0 1 (fun _ _=>rfl) ⟨rfl,rfl,trivial⟩ ⟨Nat.zero_le _,rfl,hm1,hw⟩ ?_
 clear hw
 rintro σ k n w ⟨hk,hn,hnm,hw⟩
 repeat refine qaa ?_
 refine go_if (fun h1 => ?_) (fun h1 => ?_)
 ·have hkl:k<vars.length:=by omega
  have hx:=hp _ (qah tInt.dflt hkl)
  have hpos:1≤n:=by rw [hn];exact qbB fun x hx=>hp x (List.mem_of_mem_take hx)
  obtain⟨b0,b1,b2,b3⟩:=qlH hpos hx hnm hm2
  have hs:prodL (vars.take (k+1))=n*vars.getD k tInt.dflt:=by rw [qal tInt.dflt hkl,qa3,hn]
  repeat refine qaa ?_
  refine go_if (fun h2 => ?_) (fun h2 => ?_)
  ·repeat refine qaa ?_
   refine qae (v:=.int .i64 (m+1)) rfl rfl ⟨?_,hw⟩
   have h3:=b3 (by omega)
   have h4:prodL (vars.take (k+1))≤prodL vars:=by
    have:=qfP (l:=vars.take (k+1)) (m:=vars.drop (k+1)) (fun x hx=>hp x (List.mem_of_mem_drop hx)) (fun x hx=>hp x (List.mem_of_mem_take hx))
    rwa [List.take_append_drop] at this
   rw [manyL,if_neg (by omega)]
  ·repeat refine qaa ?_
   refine⟨k+1,_,⟨rfl,rfl,trivial⟩,agr,⟨by omega,?_,by omega,hw⟩,by omega⟩
   rw [hs];exact b2 (by omega)
 ·repeat refine qaa ?_
  refine qae (v:=.int .i64 n) rfl rfl ⟨?_,hw⟩
  rw [List.take_of_length_le (by omega)] at hn
  rw [manyL,←hn,if_pos hnm]
set_option maxRecDepth 8000 in
set_option maxHeartbeats 2000000 in
theorem qkN {w0:World}{a b c d:Value}{vs:List OpV}{t:TTask}(ht:RTask w0 a b c d vs t) :
  Calls Tryz.prog 4 #[.agg #[a,b,c,d]] w0 fun e w'=>(∃ r,e=.returned (.bool r)∧(r=true↔SmallT t))∧Sat w0 w' []:=by
 have ht':=ht
 obtain⟨ha,hb,hc,hd⟩:=ht
 have hrs:=hd.rs
 have hdl:=hd.len
 have hla:=ha.big
 have hll:=hrs.big
 have hw:=Sat.start w0
 refine qab (args:=[.agg #[a,b,c,d]]) mixed Tryz.func4 rfl (by kernel_rfl) (Nat.le_of_ble_eq_true rfl) ?_
 repeat (first|refine qaa ?_|(refine qaf ?_;clear hw;intro p w hw))
 refine go_if (fun h1 => ?_) (fun h1 => ?_)
 ·repeat refine qaa ?_
  refine qae (v:=.bool false) rfl rfl ⟨⟨false,rfl,iffF fun h => ?_⟩,hw.tail⟩
  have:=h.vars
  have:=h.ops
  omega
 ·repeat refine qaa ?_
  obtain⟨pt,hpt⟩:∃ pt,pt=p:=⟨p,rfl⟩
  subst hpt
  refine qaj [2,4,18,19,20,21,22,23,24,25,26] (G:=Nat) (fun k=>[(18,.int .i64 k)]) (fun k w=>k≤t.ops.length∧(∀ i,i<k→(t.ops.getD i dOp).effs.length≤8)∧Sat w0 w [Box pt 26 [a,b,c,d]]) (fun k=>t.ops.length-k) 0 (fun _=>rfl) ⟨rfl,trivial⟩ ⟨Nat.zero_le _,fun i hi=>absurd hi (Nat.not_lt_zero _),hw⟩ ?_
  clear hw
  rintro σ k w ⟨hk,hef,hw⟩
  repeat refine qaa ?_
  refine go_if (fun h2 => ?_) (fun h2 => ?_)
  ·have hop:=hd.at_ k (by omega)
   have hone:=hop.one
   obtain⟨es,hes⟩:=hop.effs
   have hers:=hes.rs
   have hel:=hes.len
   have heb:=hers.big
   repeat (first|refine qaa ?_|(refine qaf ?_;clear hw;intro p w hw)|(refine qag ?_;clear hw;intro w hw))
   refine go_if (fun h3 => ?_) (fun h3 => ?_)
   ·repeat refine qaa ?_
    refine qae (v:=.bool false) rfl rfl ⟨⟨false,rfl,iffF fun h => ?_⟩,hw.tail.tail⟩
    have:=h.effs k (by omega)
    omega
   ·repeat refine qaa ?_
    refine⟨k+1,⟨rfl,trivial⟩,agr,⟨by omega,fun i hi => ?_,hw.tail⟩,by omega⟩
    by_cases h:i=k
    ·subst h;omega
    ·exact hef i (by omega)
  ·repeat refine qaa ?_
   refine qad rfl (qmY (ht'.at hw)) ?_
   rintro _ w' ⟨⟨r,rfl,hr⟩,hk'⟩
   replace hw:=hw.call0 hk'
   clear hk'
   refine⟨_,rfl,?_⟩
   cases r with
   | false =>
    repeat refine qaa ?_
    refine qae (v:=.bool false) rfl rfl ⟨⟨false,rfl,iffF fun h => ?_⟩,hw.tail⟩
    have:=hr.2 h.good
    cases this
   | true =>
    have hg:=hr.1 rfl
    repeat refine qaa ?_
    refine qad rfl (qmP (m:=512) (ha.at hw) hg.pos (by decide) (by decide)) ?_
    rintro _ w' ⟨rfl,hk'⟩
    replace hw:=hw.call0 hk'
    clear hk'
    refine⟨_,rfl,?_⟩
    repeat refine qaa ?_
    refine qae (v:=.bool (decide (manyL t.vars 512≤512))) rfl rfl ⟨⟨_,rfl,?_⟩,hw.tail⟩
    rw [decide_eq_true_eq,manyL]
    constructor
    ·intro h
     exact⟨hg,by omega,by omega,fun i hi=>hef i (by omega),by split at h <;> omega⟩
    ·intro h
     rw [if_pos h.many];exact h.many
theorem qcx {l:List Int}(h:∀ x∈l,1≤x) (k:Nat):prodL (l.take k)≤prodL l:=by
 have:=qfP (l:=l.take k) (m:=l.drop k) (fun x hx=>h x (List.mem_of_mem_drop hx)) (fun x hx=>h x (List.mem_of_mem_take hx))
 rwa [List.take_append_drop] at this
end Go.Proofs.YtggdgcmjcahbbaaGreatDoor
/-
  Contracts of the helpers 'States' and 'Edges'.
-/
namespace Go.Proofs.YtggdgcmjcahbbaaGreatDoor
open Go.Sl
attribute [local irreducible] vc opsW opsD opV opW PureV ReadV Thn Blk
def statesI (l:List (List Int)) (k:Int) (i:Nat):List (List Int):=statesS (l.take i) k
def rowsX (s:List Int) (x:Nat):List (List Int):=(List.range x).map fun (x:Nat)=>s++[(x:Int)]
theorem qhR {l:List (List Int)}{k:Int}{i:Nat}(hi:i<l.length):statesI l k (i+1)=statesI l k i++rowsX (l.getD i []) k.toNat:=by
 unfold statesI statesS rowsX
 rw [qal [] hi];simp
theorem qiK (l:List (List Int)) (k:Int):statesI l k l.length=statesS l k:=by unfold statesI;rw [List.take_length]
theorem qkB (s:List Int) (x:Nat):rowsX s (x+1)=rowsX s x++[s++[(x:Int)]]:=by simp [rowsX,List.range_succ]
theorem qiL {vars:List Int}{i:Nat}(hi:i<(statesL vars).length):((statesL vars).getD i []).length=vars.length:=(qb3.1 (qah [] hi)).1
theorem qmr {n k i:Nat}{p:Int}(h:i<n) (hp:((n:Int)*k)≤p):(i:Int)*k+k≤p:=by
 have h1:(i+1)*k≤n*k:=Nat.mul_le_mul_right k h
 rw [Nat.succ_mul] at h1
 have h2:((i*k+k:Nat):Int)≤((n*k:Nat):Int):=by exact_mod_cast h1
 simp only [Int.natCast_add,Int.natCast_mul] at h2
 omega
set_option maxRecDepth 8000 in
set_option maxHeartbeats 4000000 in
theorem qi3 {w0:World}{a:Value}{vars:List Int}(ha:RS tInt w0 a vars) (hp:∀ x∈vars,1≤x) (hn:vars.length≤64) (hB:prodL vars≤65536) :
  Calls Tryz.prog 35 #[a] w0 fun e w'=>∃ s ss,e=.returned s∧Sat w0 w' [RowsAt tInt 3 ss (statesL vars),OS tVal 22 s ss]:=by
 have hla:=ha.big
 have hw:=Sat.start w0
 refine qab (args:=[a]) mixed Tryz.func35 rfl (by kernel_rfl) (Nat.le_of_ble_eq_true rfl) ?_
 repeat refine qaa ?_
 refine qaH tInt hw ?_
 clear hw
 intro s w hw
 repeat (first|refine qaa ?_|(refine qap ?_;clear hw;intro s w hw))
 replace hw:=(hw.swap.rows0 (T:=tInt) (e:=3)).swap.rowPush
 refine qaJ [3,5,6,8,9,14,15,16,17,18,19,20,21,22,23,24,25,26,27,28,29,30,31,32,33,34,35,36,37,38,39,40] (G:=Nat) (H:=Value) (I:=List Value) (fun k s _=>[(14,.int .i64 k),(3,s)]) (fun k s ss w=>k≤vars.length∧Sat w0 w [RowsAt tInt 3 ss (statesL (vars.take k)),OS tVal 22 s ss]) (fun k _ _=>vars.length-k) 0 _ _ (fun _ _ _=>rfl) ⟨rfl,rfl,trivial⟩ ⟨Nat.zero_le _,hw⟩ ?_
 clear hw
 rintro σ k s ss w ⟨hk,hw⟩
 repeat refine qaa ?_
 refine go_if (fun h1 => ?_) (fun h1 => ?_)
 ·have hkl:k<vars.length:=by omega
  have hpk:∀ x∈vars.take k,1≤x:=fun x hx=>hp x (List.mem_of_mem_take hx)
  have hvk:=hp _ (qah tInt.dflt hkl)
  have hS:statesL (vars.take (k+1))=statesS (statesL (vars.take k)) (vars.getD k tInt.dflt):=by rw [qal tInt.dflt hkl,qck]
  have hN:((statesL (vars.take k)).length:Int)*(vars.getD k tInt.dflt).toNat≤65536:=by
   have h2:=qcx hp (k+1)
   rw [qal tInt.dflt hkl,qa3] at h2
   have h3:=qbB hpk
   rw [qaZ hpk,Int.toNat_of_nonneg (by omega),Int.toNat_of_nonneg (by omega)]
   omega
  have hN2:((statesL (vars.take k)).length:Int)≤65536:=by
   have h2:=qcx hp k
   rw [qaZ hpk]
   omega
  have hV:vars.getD k tInt.dflt≤65536:=by
   have h2:=qcx hp (k+1)
   rw [qal tInt.dflt hkl,qa3] at h2
   have h3:=qbB hpk
   have h4:1*vars.getD k tInt.dflt≤prodL (vars.take k)*vars.getD k tInt.dflt:=Int.mul_le_mul_of_nonneg_right h3 (by omega)
   omega
  obtain⟨V,hVe⟩:∃ V,V=vars.getD k tInt.dflt:=⟨_,rfl⟩
  obtain⟨L,hLe⟩:∃ L,L=statesL (vars.take k):=⟨_,rfl⟩
  have hrow:∀ i,i<L.length→(L.getD i []).length≤64:=fun i hi=>by
   subst hLe
   rw [qiL hi,List.length_take];omega
  have hss:ss.length=(statesL (vars.take k)).length:=hw.rowsLen
  rw [←hLe] at hS hN hN2 hw hss
  rw [←hVe] at hS hN hV hvk
  repeat refine qaa ?_
  have hb:=hw
  have hout:RS tVal w s ss:=rsO hb
  have ha1:=ha.at hw
  obtain⟨w1,hw1⟩:∃ w1,w1=w:=⟨_,rfl⟩
  rw [←hw1] at hb hout ha1
  replace hw:=Sat.start w
  rw [←hw1] at hw
  rw [←hVe]
  refine qaJ [6,8,9,20,21,22,23,24,25,26,27,28,29,30,31,32,33,34,35,36,37,38] (G:=Nat) (H:=Value) (I:=List Value) (fun i s _=>[(20,.int .i64 i),(6,s)]) (fun i s' ss' w=>i≤L.length∧ss'.length=i*V.toNat∧Sat w1 w [RowsAt tInt 3 ss' (statesI L V i),OS tVal 22 s' ss']) (fun i _ _=>L.length-i) 0 _ [] (fun _ _ _=>rfl) ⟨rfl,rfl,trivial⟩ ⟨Nat.zero_le _,(by simp),hw1 ▸ hw.nil.rows0⟩ ?_
  clear hw hw1
  rintro σ1 i s' ss' w ⟨hi,hsl',hw⟩
  repeat refine qaa ?_
  refine go_if (fun h2 => ?_) (fun h2 => ?_)
  ·have hil:i<L.length:=by omega
   have hr:=hb.row hil
   have hrl:=hrow i hil
   have hmul:=qmr hil hN
   have hsl'':(ss'.length:Int)=(i:Int)*V.toNat:=by rw [hsl'];simp
   repeat refine qaa ?_
   refine qaJ [6,9,25,26,27,28,29,30,31,32,33,34,35,36,37] (G:=Nat) (H:=Value) (I:=List Value) (fun x s _=>[(25,.int .i64 x),(6,s)]) (fun x s' ss' w=>x≤V.toNat∧ss'.length=i*V.toNat+x∧Sat w1 w [RowsAt tInt 3 ss' (statesI L V i++rowsX (L.getD i []) x),OS tVal 22 s' ss']) (fun x _ _=>V.toNat-x) 0 s' ss' (fun _ _ _=>rfl) ⟨rfl,rfl,trivial⟩ ⟨Nat.zero_le _,hsl',by simpa [rowsX] using hw⟩ ?_
   clear hw hsl' hsl''
   rintro σ2 x s2 ss2 w ⟨hx,hs2,hw⟩
   have hs3:(ss2.length:Int)=(i:Int)*V.toNat+x:=by rw [hs2];simp
   repeat refine qaa ?_
   refine go_if (fun h3 => ?_) (fun h3 => ?_)
   ·repeat refine qaa ?_
    refine qaH tInt hw ?_
    clear hw
    intro e1 w hw
    repeat (first|refine qaa ?_|(refine qap ?_;clear hw;intro s w hw))
    replace hw:=hw.tail.tail.rowPush
    rw [List.nil_append,List.append_assoc,←qkB] at hw
    exact⟨x+1,_,_,⟨rfl,rfl,trivial⟩,agr,⟨by omega,by simp;omega,hw⟩,by omega⟩
   ·have hxe:x=V.toNat:=by omega
    subst hxe
    rw [←qhR hil] at hw
    repeat refine qaa ?_
    exact⟨i+1,_,ss2,⟨rfl,rfl,trivial⟩,agr,⟨by omega,by rw [Nat.succ_mul];omega,hw⟩,by omega⟩
  ·have hie:i=L.length:=by omega
   subst hie
   rw [qiK,←hS] at hw
   repeat refine qaa ?_
   exact⟨k+1,_,ss',⟨rfl,rfl,trivial⟩,agr,⟨by omega,(hb.call hw).comm.tail.tail⟩,by omega⟩
 ·rw [List.take_of_length_le (by omega)] at hw
  repeat refine qaa ?_
  exact qae (v:=s) rfl rfl ⟨s,ss,rfl,hw⟩
end Go.Proofs.YtggdgcmjcahbbaaGreatDoor
