/-
  Several texts as one: WRlxHeap, WRlxV, WRlxM, WA49.
-/
import Derived.Test.YtkmbenhffledpaaGreatMTA
import Derived.Test.YtkmbenhffledpaaGreatMSlB
import Derived.Test.YtkmbenhffledpaaGreatMW1
import Derived.Test.YtkmbenhffledpaaGreatMW15
import Derived.Test.YtkmbenhffledpaaGreatMW12
import Derived.Test.YtkmbenhffledpaaGreatMW14
set_option linter.unusedSimpArgs false
set_option linter.unusedVariables false
/-
  Contracts of the relaxation's heap and of the package 'container/heap' over it.
-/
namespace Go.Proofs.YtkmbenhffledpaaGreat
open Go.Sl
attribute [local irreducible] vc opsW opsD opV opW PureV ReadV Thn Blk
set_option maxRecDepth 8000 in
theorem qcj {w0:World}{h:Value}{xs:List Item}{i j:Nat}{ii jj:Int}(hx:RS tItem w0 h xs) (ei:ii=i) (ej:jj=j) (hi:i<xs.length) (hj:j<xs.length) :
  Calls Tryz.prog 225 #[h,.int .i64 ii,.int .i64 jj] w0 fun e w'=>e=.returned (.bool (ilt (hg tItem.dflt xs i) (hg tItem.dflt xs j)))∧Sat w0 w' []:=by
 subst ei ej
 have hw:=Sat.start w0
 refine qab (args:=[h,.int .i64 i,.int .i64 j]) mixed Tryz.func225 rfl (by kernel_rfl) (Nat.le_of_ble_eq_true rfl) ?_
 repeat (first|refine qaa ?_|(refine qag ?_;clear hw;intro w hw))
 exact qae (v:=.bool (ilt (hg tItem.dflt xs i) (hg tItem.dflt xs j))) rfl rfl ⟨rfl,hw⟩
set_option maxRecDepth 8000 in
theorem qck {w0 w:World}{Γ:List HP}{h:Value}{xs:List Item}{i j:Nat}{ii jj:Int}(ei:ii=i) (ej:jj=j) (hi:i<xs.length) (hj:j<xs.length) (hw:Sat w0 w (OS tItem 327 h xs::Γ)) :
  Calls Tryz.prog 226 #[h,.int .i64 ii,.int .i64 jj] w fun e w'=>e=.returned (.tuple #[])∧Sat w0 w' (OS tItem 327 h (sw tItem.dflt xs i j)::Γ):=by
 subst ei ej
 refine qab (args:=[h,.int .i64 i,.int .i64 j]) mixed Tryz.func226 rfl (by kernel_rfl) (Nat.le_of_ble_eq_true rfl) ?_
 repeat (first|refine qaa ?_|(refine qag ?_;clear hw;intro w hw))
 refine qb5 (s:=h) (j:=i) (x':=hg tItem.dflt xs j) rfl rfl rfl rfl hw inferInstance (by omega) ?_
 clear hw
 intro w hw
 have hl:(xs.set i (hg tItem.dflt xs j)).length=xs.length:=by simp
 repeat refine qaa ?_
 refine qb5 (s:=h) (j:=j) (x':=hg tItem.dflt xs i) rfl rfl rfl rfl hw inferInstance (by omega) ?_
 clear hw
 intro w hw
 repeat refine qaa ?_
 exact qaz rfl ⟨rfl,hw⟩
set_option maxRecDepth 8000 in
theorem qlm {w0 w:World}{Γ:List HP}{q:Addr}{h:Value}{xs:List Item}{v:Item}(hl:xs.length<1099511627776) (hw:Sat w0 w (OS tItem 327 h xs::Box q 324 [h]::Γ)) :
  Calls Tryz.prog 228 #[.pointer (some q),.iface 327 (.agg #[.int .i64 v.dist,.int .i64 v.state])] w fun e w'=>e=.returned (.tuple #[])∧∃ h',Sat w0 w' (OS tItem 327 h' (xs++[v])::Box q 324 [h']::Γ):=by
 refine qab (args:=[.pointer (some q),.iface 327 (.agg #[.int .i64 v.dist,.int .i64 v.state])]) mixed Tryz.func228 rfl (by kernel_rfl) (Nat.le_of_ble_eq_true rfl) ?_
 repeat (first|refine qaa ?_|(refine qaf ?_;clear hw;intro p w hw)|(refine qai ?_;clear hw;intro w hw))
 refine qas [.op 0,.op 1,.op 2,.op 3,.op 4,.op 5,.chk 3,.op 6,.op 7,.op 8] hw (by kernel_rfl) ?_;clear hw;intro w hw
 repeat refine qaa ?_
 refine qah tItem (x1:=v) rfl rfl rfl (Nat.le_of_ble_eq_true rfl) (Nat.zero_lt_succ _) hw ?_
 clear hw
 intro s w hw
 repeat (first|refine qaa ?_|(refine qai ?_;clear hw;intro w hw)|(refine qaq ?_;clear hw;intro s w hw))
 exact qaz rfl ⟨rfl,_,hw.tail.tail⟩
set_option maxRecDepth 8000 in
theorem qnA {w0 w:World}{Γ:List HP}{q:Addr}{h:Value}{xs:List Item}(hl:0<xs.length) (hb:xs.length≤1099511627776) (hw:Sat w0 w (OS tItem 327 h xs::Box q 324 [h]::Γ)) :
  Calls Tryz.prog 227 #[.pointer (some q)] w fun e w'=>e=.returned (.iface 327 ((.agg #[.int .i64 (hg tItem.dflt xs (xs.length-1)).dist,.int .i64 (hg tItem.dflt xs (xs.length-1)).state])))∧∃ h',Sat w0 w' (OS tItem 327 h' (xs.take (xs.length-1))::Box q 324 [h']::Γ):=by
 refine qab (args:=[.pointer (some q)]) mixed Tryz.func227 rfl (by kernel_rfl) (Nat.le_of_ble_eq_true rfl) ?_
 repeat (first|refine qaa ?_|(refine qaf ?_;clear hw;intro p w hw)|(refine qag ?_;clear hw;intro w hw))
 have hk:(((xs.length:Nat):Int)-1).toNat=xs.length-1:=by omega
 replace hw:=Sat.sub (s:=h) (xs:=xs) hw inferInstance 0 (((xs.length:Nat):Int)-1).toNat (by omega) (by omega)
 repeat (first|refine qaa ?_|(refine qag ?_;clear hw;intro w hw))
 refine qae (v:=.iface 327 ((.agg #[.int .i64 (hg tItem.dflt xs (((xs.length:Nat):Int)-1).toNat).dist,.int .i64 (hg tItem.dflt xs (((xs.length:Nat):Int)-1).toNat).state]))) rfl rfl ⟨by rw [hk],ssub h tItem.sz 0 (((xs.length:Nat):Int)-1).toNat,?_⟩
 have hc:cut xs 0 (((xs.length:Nat):Int)-1).toNat=xs.take (xs.length-1):=by rw [hk];simp [cut]
 rw [hc] at hw
 exact hw.tail
set_option maxRecDepth 8000 in
theorem qeY {w0:World}{h:Value}{xs:List Item}(hx:RS tItem w0 h xs) :
  Calls Tryz.prog 195 #[h] w0 fun e w'=>e=.returned (.int .i64 xs.length)∧Sat w0 w' []:=by
 have hw:=Sat.start w0
 refine qab (args:=[h]) mixed Tryz.func195 rfl (by kernel_rfl) (Nat.le_of_ble_eq_true rfl) ?_
 repeat refine qaa ?_
 exact qae (v:=.int .i64 xs.length) rfl rfl ⟨rfl,hw⟩
set_option maxHeartbeats 1000000 in
set_option maxRecDepth 8000 in
theorem qp6 {w0 w:World}{Γ:List HP}{q:Addr}{h:Value}{xs:List Item}{j:Nat}{jj:Int}(ej:jj=j) (U:UpI tItem.dflt ilt xs j) (hb:xs.length≤1099511627776) (hw:Sat w0 w (OS tItem 327 h xs::Box q 324 [h]::Γ)) :
  Calls Tryz.prog 154 #[.iface 325 (.pointer (some q)),.int .i64 jj] w fun e w'=>e=.returned (.tuple #[])∧∃ ys,IsHeap tItem.dflt ilt ys∧ys.Perm xs∧Sat w0 w' (OS tItem 327 h ys::Box q 324 [h]::Γ):=by
 subst ej
 refine qab (args:=[.iface 325 (.pointer (some q)),.int .i64 j]) mixed Tryz.func154 rfl (by kernel_rfl) (Nat.le_of_ble_eq_true rfl) ?_
 repeat refine qaa ?_
 refine qao [1,4,5,6,7,8,9,10,11,12,13,14,15,16,17,18,19,20,21,22] (G:=Nat) (H:=List Item) (fun j ys=>[(1,.int .i64 j)]) (fun j ys w=>UpI tItem.dflt ilt ys j∧ys.Perm xs∧Sat w0 w (OS tItem 327 h ys::Box q 324 [h]::Γ)) (fun j ys=>j) j xs (fun _ _=>rfl) ⟨rfl,trivial⟩ ⟨U,.refl _,hw⟩ ?_
 clear hw U
 rintro σ j ys w ⟨U,hp,hw⟩
 have hlt:=U.inb
 have hyl:=hp.length_eq
 repeat refine qaa ?_
 simp only [qfV]
 by_cases hij:(j-1) / 2=j
 ·have hdec:decide ((((j-1) / 2:Nat):Int)=(j:Int))=true:=decide_eq_true (by omega)
  simp only [hdec]
  repeat refine qaa ?_
  exact qaz rfl ⟨rfl,ys,U.done (.inl hij),hp,hw⟩
 ·have hdec:decide ((((j-1) / 2:Nat):Int)=(j:Int))=false:=decide_eq_false (by omega)
  simp only [hdec,gvff]
  repeat refine qaa ?_
  refine qar (u:=h) rfl rfl (hw.box0 inferInstance rfl) (qcj (rsO hw) rfl rfl hlt (show (j-1) / 2<ys.length by omega)) ?_
  rintro _ w' ⟨rfl,hk⟩
  replace hw:=hw.call0 hk
  clear hk
  cases hL:ilt (hg tItem.dflt ys j) (hg tItem.dflt ys ((j-1) / 2)) with
  | false =>
   refine⟨_,rfl,?_⟩
   repeat refine qaa ?_
   exact qaz rfl ⟨rfl,ys,U.done (.inr hL),hp,hw⟩
  | true =>
   refine⟨_,rfl,?_⟩
   repeat refine qaa ?_
   refine qar (u:=h) rfl rfl (hw.box0 inferInstance rfl) (qck rfl rfl (show (j-1) / 2<ys.length by omega) hlt hw) ?_
   clear hw
   rintro _ w ⟨rfl,hw⟩
   refine⟨_,rfl,?_⟩
   repeat refine qaa ?_
   exact⟨(j-1) / 2,_,⟨rfl,trivial⟩,agr,⟨U.step hij hL,(qbm (by omega) hlt).trans hp,hw⟩,by omega⟩
set_option maxHeartbeats 2000000 in
set_option maxRecDepth 8000 in
theorem qln {w0 w:World}{Γ:List HP}{q:Addr}{h:Value}{xs:List Item}{n:Nat}{nn:Int}(en:nn=n) (D:DnI tItem.dflt ilt xs n 0) (hb:xs.length≤1099511627776) (hw:Sat w0 w (OS tItem 327 h xs::Box q 324 [h]::Γ)) :
  Calls Tryz.prog 155 #[.iface 325 (.pointer (some q)),.int .i64 0,.int .i64 nn] w fun e w'=>∃ b ys,e=.returned (.bool b)∧HeapN tItem.dflt ilt ys n∧ys.Perm xs∧(∀ k,n≤k→hg tItem.dflt ys k=hg tItem.dflt xs k)∧Sat w0 w' (OS tItem 327 h ys::Box q 324 [h]::Γ):=by
 subst en
 refine qab (args:=[.iface 325 (.pointer (some q)),.int .i64 0,.int .i64 n]) mixed Tryz.func155 rfl (by kernel_rfl) (Nat.le_of_ble_eq_true rfl) ?_
 repeat refine qaa ?_
 refine qao [7,8,9,10,12,13,14,15,16,17,18,19,20,21,22,23,24,25,26,27,28,29,30,31,32,33,34,35,36,37,38,39,40,41,42,43,44] (G:=Nat) (H:=List Item) (fun i ys=>[(7,.int .i64 i)]) (fun i ys w=>DnI tItem.dflt ilt ys n i∧i≤n∧ys.Perm xs∧(∀ k,n≤k→hg tItem.dflt ys k=hg tItem.dflt xs k)∧Sat w0 w (OS tItem 327 h ys::Box q 324 [h]::Γ)) (fun i ys=>n-i) 0 xs (fun _ _=>rfl) ⟨rfl,trivial⟩ ⟨D,Nat.zero_le _,.refl _,fun _ _=>rfl,hw⟩ ?_
 clear hw D
 rintro σ i ys w ⟨D,hin,hp,hkeep,hw⟩
 have hle1:=D.le
 have hyl:=hp.length_eq
 repeat refine qaa ?_
 refine go_if (fun h1 => ?_) (fun h1 => ?_)
 ·repeat refine qaa ?_
  exact qae (v:=.bool _) rfl rfl ⟨_,ys,rfl,D.leaf (by omega),hp,hkeep,hw⟩
 ·have hin':2*i+1<n:=by omega
  repeat refine qaa ?_
  by_cases h2:2*i+2<n
  ·have hdec:decide (2*(i:Int)+1+1<(n:Int))=true:=decide_eq_true (by omega)
   simp only [hdec,gvtt]
   repeat refine qaa ?_
   refine qar (u:=h) rfl rfl (hw.box0 inferInstance rfl) (qcj (i:=2*i+2) (j:=2*i+1) (rsO hw) (by omega) (by omega) (by omega) (by omega)) ?_
   rintro _ w' ⟨rfl,hk⟩
   replace hw:=hw.call0 hk
   clear hk
   cases hL:ilt (hg tItem.dflt ys (2*i+2)) (hg tItem.dflt ys (2*i+1)) with
   | true =>
    refine⟨_,rfl,?_⟩
    repeat refine qaY ?_
    refine qb0 [9,34] (G:=Nat) (fun j=>[(9,.int .i64 j)]) (fun j w=>(j=2*i+1∨j=2*i+2)∧j<n∧(∀ c,0<c→c<n→(c-1) / 2=i→hle ilt (hg tItem.dflt ys j) (hg tItem.dflt ys c))∧Sat w0 w (OS tItem 327 h ys::Box q 324 [h]::Γ)) (fun _=>rfl) ?_ ?_
    ·repeat refine qaa ?_
     refine⟨2*i+2,⟨?_,trivial⟩,agr,.inr rfl,h2,fun c h0 h1 hc => ?_,hw⟩
     ·show Value.int .i64 (2*(i:Int)+1+1)=_
      congr 1
     ·have:c=2*i+1∨c=2*i+2:=by omega
      rcases this with rfl|rfl
      ·exact qjr hL
      ·exact qbK _
    ·clear hw
     rintro σ1 j w ⟨hj,hjn,hmin,hw⟩
     repeat refine qaa ?_
     refine qar (u:=h) rfl rfl (hw.box0 inferInstance rfl) (qcj (rsO hw) rfl rfl (show j<ys.length by omega) (show i<ys.length by omega)) ?_
     rintro _ w' ⟨rfl,hk⟩
     replace hw:=hw.call0 hk
     clear hk
     cases hL:ilt (hg tItem.dflt ys j) (hg tItem.dflt ys i) with
     | false =>
      refine⟨_,rfl,?_⟩
      repeat refine qaa ?_
      exact qae (v:=.bool _) rfl rfl ⟨_,ys,rfl,D.done hmin hL,hp,hkeep,hw⟩
     | true =>
      refine⟨_,rfl,?_⟩
      repeat refine qaa ?_
      refine qar (u:=h) rfl rfl (hw.box0 inferInstance rfl) (qck rfl rfl (show i<ys.length by omega) (show j<ys.length by omega) hw) ?_
      clear hw
      rintro _ w ⟨rfl,hw⟩
      refine⟨_,rfl,?_⟩
      repeat refine qaa ?_
      refine⟨j,_,⟨rfl,trivial⟩,agr,⟨D.step hj hjn hmin hL,by omega,(qbm (by omega) (by omega)).trans hp,fun k hk => ?_,hw⟩,by omega⟩
      rw [qbh (by omega) (by omega),if_neg (by omega),if_neg (by omega)]
      exact hkeep k hk
   | false =>
    refine⟨_,rfl,?_⟩
    repeat refine qaY ?_
    refine qb0 [9,34] (G:=Nat) (fun j=>[(9,.int .i64 j)]) (fun j w=>(j=2*i+1∨j=2*i+2)∧j<n∧(∀ c,0<c→c<n→(c-1) / 2=i→hle ilt (hg tItem.dflt ys j) (hg tItem.dflt ys c))∧Sat w0 w (OS tItem 327 h ys::Box q 324 [h]::Γ)) (fun _=>rfl) ?_ ?_
    ·repeat refine qaa ?_
     refine⟨2*i+1,⟨?_,trivial⟩,agr,.inl rfl,hin',fun c h0 h1 hc => ?_,hw⟩
     ·show Value.int .i64 (2*(i:Int)+1)=_
      congr 1
     ·have:c=2*i+1∨c=2*i+2:=by omega
      rcases this with rfl|rfl
      ·exact qbK _
      ·exact hL
    ·clear hw
     rintro σ1 j w ⟨hj,hjn,hmin,hw⟩
     repeat refine qaa ?_
     refine qar (u:=h) rfl rfl (hw.box0 inferInstance rfl) (qcj (rsO hw) rfl rfl (show j<ys.length by omega) (show i<ys.length by omega)) ?_
     rintro _ w' ⟨rfl,hk⟩
     replace hw:=hw.call0 hk
     clear hk
     cases hL:ilt (hg tItem.dflt ys j) (hg tItem.dflt ys i) with
     | false =>
      refine⟨_,rfl,?_⟩
      repeat refine qaa ?_
      exact qae (v:=.bool _) rfl rfl ⟨_,ys,rfl,D.done hmin hL,hp,hkeep,hw⟩
     | true =>
      refine⟨_,rfl,?_⟩
      repeat refine qaa ?_
      refine qar (u:=h) rfl rfl (hw.box0 inferInstance rfl) (qck rfl rfl (show i<ys.length by omega) (show j<ys.length by omega) hw) ?_
      clear hw
      rintro _ w ⟨rfl,hw⟩
      refine⟨_,rfl,?_⟩
      repeat refine qaa ?_
      refine⟨j,_,⟨rfl,trivial⟩,agr,⟨D.step hj hjn hmin hL,by omega,(qbm (by omega) (by omega)).trans hp,fun k hk => ?_,hw⟩,by omega⟩
      rw [qbh (by omega) (by omega),if_neg (by omega),if_neg (by omega)]
      exact hkeep k hk
  ·have hdec:decide (2*(i:Int)+1+1<(n:Int))=false:=decide_eq_false (by omega)
   simp only [hdec]
   repeat refine qaY ?_
   refine qb0 [9,34] (G:=Nat) (fun j=>[(9,.int .i64 j)]) (fun j w=>(j=2*i+1∨j=2*i+2)∧j<n∧(∀ c,0<c→c<n→(c-1) / 2=i→hle ilt (hg tItem.dflt ys j) (hg tItem.dflt ys c))∧Sat w0 w (OS tItem 327 h ys::Box q 324 [h]::Γ)) (fun _=>rfl) ?_ ?_
   ·repeat refine qaa ?_
    refine⟨2*i+1,⟨?_,trivial⟩,agr,.inl rfl,hin',fun c h0 h1 hc => ?_,hw⟩
    ·show Value.int .i64 (2*(i:Int)+1)=_
     congr 1
    ·have:c=2*i+1:=by omega
     subst this;exact qbK _
   ·clear hw
    rintro σ1 j w ⟨hj,hjn,hmin,hw⟩
    repeat refine qaa ?_
    refine qar (u:=h) rfl rfl (hw.box0 inferInstance rfl) (qcj (rsO hw) rfl rfl (show j<ys.length by omega) (show i<ys.length by omega)) ?_
    rintro _ w' ⟨rfl,hk⟩
    replace hw:=hw.call0 hk
    clear hk
    cases hL:ilt (hg tItem.dflt ys j) (hg tItem.dflt ys i) with
    | false =>
     refine⟨_,rfl,?_⟩
     repeat refine qaa ?_
     exact qae (v:=.bool _) rfl rfl ⟨_,ys,rfl,D.done hmin hL,hp,hkeep,hw⟩
    | true =>
     refine⟨_,rfl,?_⟩
     repeat refine qaa ?_
     refine qar (u:=h) rfl rfl (hw.box0 inferInstance rfl) (qck rfl rfl (show i<ys.length by omega) (show j<ys.length by omega) hw) ?_
     clear hw
     rintro _ w ⟨rfl,hw⟩
     refine⟨_,rfl,?_⟩
     repeat refine qaa ?_
     refine⟨j,_,⟨rfl,trivial⟩,agr,⟨D.step hj hjn hmin hL,by omega,(qbm (by omega) (by omega)).trans hp,fun k hk => ?_,hw⟩,by omega⟩
     rw [qbh (by omega) (by omega),if_neg (by omega),if_neg (by omega)]
     exact hkeep k hk
set_option maxRecDepth 8000 in
theorem qgT {w0 w:World}{Γ:List HP}{q:Addr}{h:Value}{xs:List Item}{v:Item}(H:IsHeap tItem.dflt ilt xs) (hb:xs.length<1099511627776) (hw:Sat w0 w (OS tItem 327 h xs::Box q 324 [h]::Γ)) :
  Calls Tryz.prog 125 #[.iface 325 (.pointer (some q)),.iface 327 (.agg #[.int .i64 v.dist,.int .i64 v.state])] w fun e w'=>e=.returned (.tuple #[])∧∃ h' ys,IsHeap tItem.dflt ilt ys∧ys.Perm (v::xs)∧Sat w0 w' (OS tItem 327 h' ys::Box q 324 [h']::Γ):=by
 refine qab (args:=[.iface 325 (.pointer (some q)),.iface 327 (.agg #[.int .i64 v.dist,.int .i64 v.state])]) mixed Tryz.func125 rfl (by kernel_rfl) (Nat.le_of_ble_eq_true rfl) ?_
 repeat refine qaa ?_
 refine qb4 rfl rfl (qlm (v:=v) (by omega) hw) ?_
 clear hw
 rintro _ w ⟨rfl,h',hw⟩
 refine⟨_,rfl,?_⟩
 repeat refine qaa ?_
 refine qar (u:=h') rfl rfl (hw.box0 inferInstance rfl) (qeY (rsO hw)) ?_
 rintro _ w' ⟨rfl,hk⟩
 replace hw:=hw.call0 hk
 clear hk
 refine⟨_,rfl,?_⟩
 have hl:(xs++[v]).length=xs.length+1:=by simp
 repeat refine qaa ?_
 refine qac rfl (qp6 (j:=xs.length) (by rw [hl];omega) (qig H) (by omega) hw) ?_
 clear hw
 rintro _ w ⟨rfl,ys,h1,h2,hw⟩
 refine⟨_,rfl,?_⟩
 repeat refine qaa ?_
 exact qaz rfl ⟨rfl,h',ys,h1,h2.trans (List.perm_append_comm (l₁:=xs) (l₂:=[v])),hw⟩
set_option maxRecDepth 8000 in
theorem qg5 {w0 w:World}{Γ:List HP}{q:Addr}{h:Value}{xs:List Item}(H:IsHeap tItem.dflt ilt xs) (hl:0<xs.length) (hb:xs.length≤1099511627776) (hw:Sat w0 w (OS tItem 327 h xs::Box q 324 [h]::Γ)) :
  Calls Tryz.prog 126 #[.iface 325 (.pointer (some q))] w fun e w'=>∃ v h' ys,e=.returned (.iface 327 (.agg #[.int .i64 v.dist,.int .i64 v.state]))∧IsHeap tItem.dflt ilt ys∧xs.Perm (v::ys)∧(∀ x∈xs,hle ilt v x)∧Sat w0 w' (OS tItem 327 h' ys::Box q 324 [h']::Γ):=by
 refine qab (args:=[.iface 325 (.pointer (some q))]) mixed Tryz.func126 rfl (by kernel_rfl) (Nat.le_of_ble_eq_true rfl) ?_
 repeat refine qaa ?_
 refine qar (u:=h) rfl rfl (hw.box0 inferInstance rfl) (qeY (rsO hw)) ?_
 rintro _ w' ⟨rfl,hk⟩
 replace hw:=hw.call0 hk
 clear hk
 refine⟨_,rfl,?_⟩
 repeat refine qaa ?_
 refine qar (u:=h) rfl rfl (hw.box0 inferInstance rfl) (qck (i:=0) (j:=xs.length-1) rfl (by omega) hl (by omega) hw) ?_
 clear hw
 rintro _ w ⟨rfl,hw⟩
 refine⟨_,rfl,?_⟩
 repeat refine qaa ?_
 refine qac rfl (qln (n:=xs.length-1) (by omega) (qky H hl) (by rw [qe3];exact hb) hw) ?_
 clear hw
 rintro _ w ⟨b,ys,rfl,h1,h2,h3,hw⟩
 have hp:=h2.trans (qbm hl (show xs.length-1<xs.length by omega))
 have hyl:=hp.length_eq
 refine⟨_,rfl,?_⟩
 repeat refine qaa ?_
 refine qb4 rfl rfl (qnA (by omega) (by omega) hw) ?_
 clear hw
 rintro _ w ⟨rfl,h',hw⟩
 refine⟨_,rfl,?_⟩
 repeat refine qaa ?_
 have hlast:hg tItem.dflt ys (xs.length-1)=hg tItem.dflt xs 0:=by
  rw [h3 _ (Nat.le_refl _),qbh hl (by omega),if_pos rfl]
 obtain⟨hh,hpp⟩:=qii hl hp h1 hlast
 rw [hyl] at hw
 refine qae (v:=.iface 327 ((.agg #[.int .i64 (hg tItem.dflt ys (ys.length-1)).dist,.int .i64 (hg tItem.dflt ys (ys.length-1)).state]))) rfl rfl ⟨hg tItem.dflt xs 0,h',_,by rw [hyl,hlast],hh,hpp,fun x hx=>qih H hx,hw⟩
end Go.Proofs.YtkmbenhffledpaaGreat
/-
  Contract of the relaxation's 'values': the least values of all facts.
-/
namespace Go.Proofs.YtkmbenhffledpaaGreat
open Go.Sl Go
attribute [local irreducible] vc opsW opsD opV opW PureV ReadV Thn Blk
set_option maxRecDepth 8000 in
set_option maxHeartbeats 2000000 in
theorem qdW {w0 w:World}{Γ:List HP}{po pq:Addr}{ov qv:Value}{D:List Int}{Q:List Item}{N:Nat}{g v:Int}(hl:D.length=N) (hg:0≤g∧g<N) (hQ:IsHeap tItem.dflt ilt Q) (hql:Q.length<1099511627776)
  (hw:Sat w0 w (OS tItem 327 qv Q::Box pq 324 [qv]::OS tInt 3 ov D::Box po 22 [ov]::Γ)) :
  Calls Tryz.prog 194 #[.int .i64 g,.int .i64 v,.pointer (some po),.pointer (some pq)] w fun e w'=>e=.returned (.tuple #[])∧∃ qv' Q',IsHeap tItem.dflt ilt Q'∧Q'.Perm (rchQ D Q g v) ∧
   Sat w0 w' (OS tItem 327 qv' Q'::Box pq 324 [qv']::OS tInt 3 ov (rchD D g v)::Box po 22 [ov]::Γ):=by
 refine qab (args:=[.int .i64 g,.int .i64 v,.pointer (some po),.pointer (some pq)]) mixed Tryz.func194 rfl (by kernel_rfl) (Nat.le_of_ble_eq_true rfl) ?_
 repeat refine qaa ?_
 refine go_if (fun h1 => ?_) (fun h1 => ?_)
 ·have e1:rchD D g v=D.set g.toNat v:=if_pos h1
  have e2:rchQ D Q g v=⟨v,g⟩::Q:=if_pos h1
  rw [e1,e2]
  repeat (first|refine qaa ?_|(refine qag ?_;clear hw;intro w hw))
  refine qac rfl (qgT (v:=⟨v,g⟩) hQ hql hw) ?_
  clear hw
  rintro _ w ⟨rfl,qv',Q',h2,h3,hw⟩
  refine⟨_,rfl,?_⟩
  repeat refine qaa ?_
  exact qaz rfl ⟨rfl,qv',Q',h2,h3,hw⟩
 ·have e1:rchD D g v=D:=if_neg (Int.not_lt.2 h1)
  have e2:rchQ D Q g v=Q:=if_neg (Int.not_lt.2 h1)
  rw [e1,e2]
  repeat refine qaa ?_
  exact qaz rfl ⟨rfl,qv,Q,hQ,.refl _,hw⟩
theorem qqS (n:Nat) (v:Int):fillL n (fun _=>v) n=List.replicate n v:=by
 apply List.ext_getElem (by simp [fillL])
 intro i h1 h2
 simp only [fillL,List.getElem_map,List.getElem_range,List.getElem_replicate]
 rw [if_pos (by simpa [fillL] using h1)]
theorem qtm (dn l:List Int):lft dn l≤l.length:=List.length_filter_le _ _
theorem qqT {w:World}{v:UnV}{u:Un}(h:RUn w v u):(tUn.enc v).all Value.oneCell'=true:=by
 have h1:=h.needs.one
 show ((Value.int .i64 v.op).oneCell' && ((Value.int .i64 v.eff).oneCell' && ((Value.int .i64 v.cost).oneCell' && ((Value.int .i64 v.makes).oneCell' && (v.needs.oneCell' && true)))))=true
 rw [h1];rfl
instance rlxMapT:MapT Tryz.prog 322 3 4:=⟨by kernel_rfl⟩
instance rlxZeroB:ZeroV Tryz.prog 4 (.bool false):=⟨by kernel_rfl⟩
set_option maxRecDepth 8000 in
set_option maxHeartbeats 16000000 in
theorem qkf {w0:World}{pr:Addr}{sv:Value}{t:TTask}{z:List Int}(hr:RRlx w0 pr t) (hg:GoodT t) (hs:RS tInt w0 sv z) (hok:StateOk t.vars z) :
  Calls Tryz.prog 193 #[.pointer (some pr),sv,.map none] w0 fun e w'=>∃ ov out,e=.returned ov∧IsHM t z out∧Sat w0 w' [OS tInt 3 ov out]:=by
 obtain⟨a,c,fv,uv,nv,frv,us,ss,hbx,ha,hc,hf,huv,hul,hU,hnv,hssl,hnd,hfr⟩:=hr.ex
 obtain⟨U,hUe⟩:∃ U,U=unT t:=⟨_,rfl⟩
 rw [←hUe] at hul hU hnd hfr
 have hUok:UnOk U (factN t):=by rw [hUe];exact qbR hg
 have hUl:U.length≤262144:=by
  have h1:=qdS hg (k:=t.ops.length) (Nat.le_refl _)
  have h2:=hg.ops
  rw [hUe];unfold unT;omega
 have hN:=qcm hg
 have hvl:=hg.vars
 have hsl:=hok.1
 obtain⟨N,hNe⟩:∃ N,N=factN t:=⟨_,rfl⟩
 rw [←hNe] at hbx hssl hnd hUok hN
 have hfN:(N:Int)=firstV t.vars t.vars.length:=by rw [hNe];exact qaX hg
 have hr0:(List.replicate ((N:Nat):Int).toNat (0:Int)).length=N:=by simp
 have hr1:(List.replicate ((us.length:Nat):Int).toNat (0:Int)).length=U.length:=by simp [hul]
 have hw:=Sat.start w0
 refine qab (args:=[.pointer (some pr),sv,.map none]) mixed Tryz.func193 rfl (by kernel_rfl) (Nat.le_of_ble_eq_true rfl) ?_
 repeat (first|refine qaa ?_|(refine qaf ?_;clear hw;intro p w hw)|(refine qai ?_;clear hw;intro w hw)|(refine qaq ?_;clear hw;intro s w hw))
 obtain⟨p7,hp7⟩:∃ p7,p7=p:=⟨p,rfl⟩
 subst hp7
 obtain⟨ov,hov⟩:∃ ov,ov=s:=⟨s,rfl⟩
 subst hov
 have hw1:Sat w0 w [OS tInt 3 ov (fillL N (fun _=>inf) 0),Box p7 22 [ov]]:=by
  rw [Int.toNat_natCast,←qeF N (fun _=>inf)] at hw
  exact hw.swap
 clear hw
 have hw:=hw1
 clear hw1
 refine qap [8,30,31,32,33,34,35,36] (G:=Nat) (fun k=>[(30,.int .i64 k)]) (fun k w=>k≤N∧Sat w0 w [OS tInt 3 ov (fillL N (fun _=>inf) k),Box p7 22 [ov]]) (fun k=>N-k) 0 (fun _=>rfl) ⟨rfl,trivial⟩ ⟨Nat.zero_le _,hw⟩ ?_
 clear hw
 rintro σ k w ⟨hk,hw⟩
 have hml:=qbt N (fun _=>inf) k
 repeat refine qaa ?_
 refine go_if (fun h1 => ?_) (fun h1 => ?_)
 ·have hkl:k<N:=by omega
  repeat (first|refine qaa ?_|(refine qag ?_;clear hw;intro w hw))
  rw [show (1125899906842624:Int)=(fun _:Nat=>inf) k from rfl,qfM] at hw
  exact⟨k+1,⟨rfl,trivial⟩,agr,⟨by omega,hw⟩,by omega⟩
 have hke:k=N:=by omega
 subst hke
 clear hml h1
 rw [qqS] at hw
 repeat (first|refine qaa ?_|(refine qaq ?_;clear hw;intro s w hw))
 obtain⟨lv,hlv⟩:∃ lv,lv=s:=⟨s,rfl⟩
 subst hlv
 have hlfl:=qbt U.length (fun i=>((un U (i:Int)).needs.length:Int)) 0
 have hw1:Sat w0 w [OS tInt 3 lv (fillL U.length (fun i=>((un U (i:Int)).needs.length:Int)) 0),OS tInt 3 ov (List.replicate k inf),Box p7 22 [ov]]:=by
  rw [Int.toNat_natCast,hul,←qeF U.length (fun i=>((un U (i:Int)).needs.length:Int))] at hw
  exact hw
 clear hw
 have hw:=hw1
 clear hw1
 refine qap [10,11,48,49,50,51,52,53,54,55,56,57,58,59] (G:=Nat) (fun j=>[(48,.int .i64 j)]) (fun j w=>j≤U.length∧Sat w0 w [OS tInt 3 lv (fillL U.length (fun i=>((un U (i:Int)).needs.length:Int)) j),OS tInt 3 ov (List.replicate k inf),Box p7 22 [ov]]) (fun j=>U.length-j) 0 (fun _=>rfl) ⟨rfl,trivial⟩ ⟨Nat.zero_le _,hw⟩ ?_
 clear hw hlfl
 rintro σ1 j w ⟨hj,hw⟩
 have hml:=qbt U.length (fun i=>((un U (i:Int)).needs.length:Int)) j
 repeat refine qaa ?_
 refine go_if (fun h1 => ?_) (fun h1 => ?_)
 ·have hjl:j<U.length:=by omega
  have hu:=hU j hjl
  have huo:=qqT hu
  have hun:=hu.needs
  repeat (first|refine qaa ?_|(refine qaf ?_;clear hw;intro p w hw)|(refine qag ?_;clear hw;intro w hw))
  rw [show (((un U (j:Int)).needs.length:Nat):Int)=(fun i:Nat=>((un U (i:Int)).needs.length:Int)) j from rfl,qfM] at hw
  exact⟨j+1,⟨rfl,trivial⟩,agr,⟨by omega,hw.tail⟩,by omega⟩
 have hje:j=U.length:=by omega
 subst hje
 clear hml h1
 repeat (first|refine qaa ?_|(refine qaf ?_;clear hw;intro p w hw))
 obtain⟨p12,hp12⟩:∃ p12,p12=p:=⟨p,rfl⟩
 subst hp12
 obtain⟨lf,hlf⟩:∃ lf,lf=fillL U.length (fun i=>((un U (i:Int)).needs.length:Int)) U.length:=⟨_,rfl⟩
 have hlfl:lf.length=U.length:=by rw [hlf,qbt]
 have hlfa:∀ i:Nat,i<U.length→dg lf i=(un U i).needs.length:=fun i hi=>by
  rw [hlf];unfold dg;rw [Int.toNat_natCast,qh7 hi hi]
 have hw1:Sat w0 w (OS tItem 327 (.slice none 0 0) ([]:List Item)::Box p12 324 [(.slice none 0 0)]::OS tInt 3 ov (List.replicate k inf)::Box p7 22 [ov]::[OS tInt 3 lv lf]):=by
  have g1:Sat w0 w [Box p12 324 [.slice none 0 0],OS tInt 3 lv lf,OS tInt 3 ov (List.replicate k inf),Box p7 22 [ov]]:=by rw [hlf];exact hw
  exact (g1.nil (T:=tItem) (e:=327)).selG
 clear hw
 have hw:=hw1
 clear hw1
 obtain⟨S,hS⟩:∃ S,S=StF t.vars z:=⟨_,rfl⟩
 refine qap [14,15,63,64,65,66,67,68,69,70,71,72,73,74,75,76,77,78,79] (G:=Nat) (fun j=>[(63,.int .i64 j)]) (fun j w=>j≤z.length∧∃ qv Q D,RI0 U S k D Q∧IsHeap tItem.dflt ilt Q∧Q.length≤j∧(∀ v:Nat,v<j→dg D (firstV t.vars v+z.getD v tInt.dflt)≤0)∧Sat w0 w (OS tItem 327 qv Q::Box p12 324 [qv]::OS tInt 3 ov D::Box p7 22 [ov]::[OS tInt 3 lv lf])) (fun j=>z.length-j) 0 (fun _=>rfl) ⟨rfl,trivial⟩ ⟨Nat.zero_le _,_,_,_,RI0.init U S k,fun i h0 h1=>absurd h1 (Nat.not_lt_zero _),Nat.le_refl _,fun v hv=>absurd hv (Nat.not_lt_zero _),hw⟩ ?_
 clear hw
 rintro σ2 j w ⟨hj,qv,Q,D,hI,hQ,hQl,hst,hw⟩
 repeat refine qaa ?_
 refine go_if (fun h1 => ?_) (fun h1 => ?_)
 ·have hjl:j<z.length:=by omega
  have hjv:j<t.vars.length:=by omega
  obtain⟨g0,g1,g2⟩:=qhc hg.pos (fun i hi=>(hg.dom i hi).2) hvl hjv
  have hz:=hok.2 j hjl
  have hdm:=hg.dom j hjv
  have hbd:=qgd hg.pos hjv hz.1 hz.2
  have hfl:=qcq t.vars t.vars.length
  repeat refine qaa ?_
  refine qbM (cs:=[.pointer (some p7),.pointer (some p12)]) rfl rfl (qdW hI.dl (by rw [g0,hfN];exact hbd) hQ (by omega) hw) ?_
  clear hw
  rintro _ w ⟨rfl,qv2,Q2,hQ2,hp2,hw⟩
  refine⟨_,rfl,?_⟩
  rw [g0] at hp2 hw
  have hbd2:0≤firstV t.vars j+z.getD j tInt.dflt∧firstV t.vars j+z.getD j tInt.dflt<(k:Int):=by rw [hfN];exact hbd
  have hI2:=(hI.rch hbd2 (Int.le_refl 0) (.start (by rw [hS];exact⟨j,hjv,rfl⟩))).perm hp2
  have hl2:=qiP D Q (firstV t.vars j+z.getD j tInt.dflt) 0
  have hl3:=hp2.length_eq
  repeat refine qaa ?_
  refine⟨j+1,⟨rfl,trivial⟩,agr,⟨by omega,qv2,Q2,_,hI2,hQ2,by omega,fun v hv => ?_,hw⟩,by omega⟩
  by_cases e:v=j
  ·rw [e];exact qpp hI.dl hbd2
  ·have hvv:v<t.vars.length:=by omega
   have h5:=hok.2 v (by omega)
   have h6:=qgd hg.pos hvv h5.1 h5.2
   exact Int.le_trans (qmm hI.dl hbd2 h6.1) (hst v (by omega))
 have hje:j=z.length:=by omega
 rw [hje] at hst hQl
 clear hje h1 hj
 have hfrl:=qmj U
 have hst':∀ g,S g→0≤g∧g<(k:Int)∧dg D g≤0:=fun g hg'=>by
  rw [hS] at hg'
  obtain⟨v,hv,rfl⟩:=hg'
  have h5:=hok.2 v (by omega)
  have h6:=qgd hg.pos hv h5.1 h5.2
  rw [←hfN] at h6
  exact⟨h6.1,h6.2,hst v (by omega)⟩
 clear hst
 repeat refine qaa ?_
 refine qap [17,85,86,87,88,89,90,91,92,93,94,95,96,97,98,99,100,101,102,103,104,105,106,107,108,109,110,111,112,113,114,115,116,117,118] (G:=Nat) (fun j=>[(85,.int .i64 j)]) (fun j w=>j≤(freL U).length∧∃ qv Q D,RI0 U S k D Q∧IsHeap tItem.dflt ilt Q∧Q.length≤z.length+j∧(∀ g,S g→0≤g∧g<(k:Int)∧dg D g≤0)∧(∀ i:Nat,i<U.length→(i:Int)∈(freL U).take j→dg D (un U i).makes≤(un U i).cost)∧Sat w0 w (OS tItem 327 qv Q::Box p12 324 [qv]::OS tInt 3 ov D::Box p7 22 [ov]::[OS tInt 3 lv lf])) (fun j=>(freL U).length-j) 0 (fun _=>rfl) ⟨rfl,trivial⟩ ⟨Nat.zero_le _,qv,Q,D,hI,hQ,hQl,hst',fun i _ h=>by simp at h,hw⟩ ?_
 clear hw hI hQ hQl hst'
 clear qv Q D
 rintro σ3 j w ⟨hj,qv,Q,D,hI,hQ,hQl,hst,hfre,hw⟩
 repeat refine qaa ?_
 refine go_if (fun h1 => ?_) (fun h1 => ?_)
 ·have hjl:j<(freL U).length:=by omega
  obtain⟨i,hie,hil,hin⟩:=qmi.1 (qak tInt.dflt hjl)
  have hu:=hU i hil
  have huop:=hu.op
  have huco:=hu.cost
  have humk:=hu.makes
  have hib:((freL U).getD j tInt.dflt).toNat=i:=by rw [hie];rfl
  have hb0:0≤(freL U).getD j tInt.dflt∧(freL U).getD j tInt.dflt<(us.length:Int):=by rw [hie,hul];omega
  repeat refine qaa ?_
  refine qa2 rfl (qfc (κ:=kInt) (q:=(eget tUn us ((freL U).getD j tInt.dflt).toNat).op) rfl rfl) ?_
  repeat refine qaa ?_
  refine qas [.op 0,.op 1,.op 2,.op 3,.op 4,.op 5,.op 6,.op 7,.op 8,.op 9,.op 10,.op 11,.op 12,.op 13,.op 14,.op 15,.op 16,.op 17] hw (by kernel_rfl) ?_;clear hw;intro w hw
  repeat refine qaa ?_
  have hmr:=hUok.makes i hil
  have hcr:=hUok.cost i hil
  refine qbM (cs:=[.pointer (some p7),.pointer (some p12)]) rfl rfl (qdW hI.dl (by rw [hib,humk];exact hmr) hQ (by omega) hw) ?_
  clear hw
  rintro _ w ⟨rfl,qv2,Q2,hQ2,hp2,hw⟩
  refine⟨_,rfl,?_⟩
  rw [hib,humk,huco] at hp2 hw
  have hder:Der U S (un U i).makes (un U i).cost:=by
   have h5:=Der.fire (U:=U) (S:=S) (v:=fun _=>0) (m:=0) hil (Int.le_refl 0) (fun n hn=>by rw [hin] at hn;simp at hn) (fun n hn=>by rw [hin] at hn;simp at hn)
   rwa [Int.add_zero] at h5
  have hI2:=(hI.rch hmr hcr.1 hder).perm hp2
  have hl2:=qiP D Q (un U i).makes (un U i).cost
  have hl3:=hp2.length_eq
  repeat refine qaa ?_
  refine⟨j+1,⟨rfl,trivial⟩,agr,⟨by omega,qv2,Q2,_,hI2,hQ2,by omega,fun g hg' => ?_,fun i' hi' hm => ?_,hw⟩,by omega⟩
  ·obtain⟨b1,b2,b3⟩:=hst g hg'
   exact⟨b1,b2,Int.le_trans (qmm hI.dl hmr b1) b3⟩
  ·rw [qan tInt.dflt hjl,hie] at hm
   rcases List.mem_append.1 hm with hm|hm
   ·exact Int.le_trans (qmm hI.dl hmr (hUok.makes i' hi').1) (hfre i' hi' hm)
   ·have e:i'=i:=by have:=List.mem_singleton.1 hm;omega
    rw [e];exact qpp hI.dl hmr
 have hje:j=(freL U).length:=by omega
 rw [hje] at hQl hfre
 clear hje h1 hj
 rw [List.take_length] at hfre
 repeat (first|refine qaa ?_|(refine qaq ?_;clear hw;intro s w hw))
 obtain⟨dv,hdv⟩:∃ dv,dv=s:=⟨s,rfl⟩
 subst hdv
 have hR0:=hI.start hlfl hlfa (fun i hi=>(hUok.cost i hi).1) (fun i hi hn=>hfre i hi (qmi.2 ⟨i,rfl,hi,hn⟩))
 have hw1:Sat w0 w (OS tItem 327 qv Q::Box p12 324 [qv]::OS tInt 3 ov D::Box p7 22 [ov]::[OS tInt 3 lv lf,OS tBool 4 dv (dnL [] k)]):=by
  rw [Int.toNat_natCast,←qs7] at hw
  exact hw.selG
 clear hw
 have hw:=hw1
 clear hw1
 refine qao [19,20,22,124,125,126,127,128,129,130,131,132,133,134,135,136,137,138,139,140,141,142,143,144,145,146,147,148,149,150,151,152,153,154,155,156,157,158,159,160,161,162,163,164,165,166,167,168,169,170,171,172,173,174,175,176,177,178,179,180,181,182,183,184,185,186,187,188,189,190,191,192,193,194,195,196,197,198,199,200,201,202,203,204] (G:=List Int) (H:=List Item) (fun _ _=>[]) (fun dn Q w=>∃ qv D lf m f,RI U S k D lf dn Q m f (fun _=>True)∧IsHeap tItem.dflt ilt Q∧dn.Nodup∧Q.length≤z.length+U.length+dn.length*U.length∧(∀ g,S g→0≤g∧g<(k:Int)∧dg D g≤0)∧Sat w0 w (OS tItem 327 qv Q::Box p12 324 [qv]::OS tInt 3 ov D::Box p7 22 [ov]::[OS tInt 3 lv lf,OS tBool 4 dv (dnL dn k)])) (fun dn Q=>(k-dn.length)*(U.length+1)+Q.length) [] Q (fun _ _=>rfl) trivial ⟨qv,D,lf,0,0,hR0,hQ,List.nodup_nil,by simp;omega,hst,hw⟩ ?_
 clear hw hI hR0 hQ hQl hst hfre hlfa hlfl hlf
 clear qv Q D lf
 rintro σ4 dn Q w ⟨qv,D,lf,m,f,hI,hQ,hdn,hQl,hst,hw⟩
 have hdl:=qcS hdn fun g hg'=>(hI.set g hg').1
 have hmul:=Nat.mul_le_mul (show dn.length≤4096 by omega) hUl
 repeat refine qaa ?_
 refine qac rfl (qeY (rsO (s:=qv) hw)) ?_
 rintro _ w' ⟨rfl,hk'⟩
 replace hw:=hw.call0 hk'
 clear hk'
 refine⟨_,rfl,?_⟩
 repeat refine qaa ?_
 refine go_if (fun h1 => ?_) (fun h1 => ?_)
 ·have hql:0<Q.length:=by omega
  repeat refine qaa ?_
  refine qac rfl (qg5 hQ hql (by omega) hw) ?_
  clear hw
  rintro _ w ⟨x,qv2,ys,rfl,hys,hp,hmin,hw⟩
  refine⟨_,rfl,?_⟩
  have hpl:=hp.length_eq
  rw [List.length_cons] at hpl
  have hI1:=hI.perm hp.symm
  obtain⟨⟨x0,x1⟩,x2,x3,x4⟩:=hI1.ent x List.mem_cons_self
  have hdl2:=qs6 dn k
  have hm0:=hI.m0
  have e3:inf=1125899906842624:=rfl
  repeat (first|refine qaa ?_|(refine qaf ?_;clear hw;intro p w hw)|(refine qai ?_;clear hw;intro w hw))
  obtain⟨p19,hp19⟩:∃ p19,p19=p:=⟨p,rfl⟩
  subst hp19
  rw [qtv x0 x1]
  by_cases hx:x.state∈dn
  ·have hd:decide (x.state∈dn)=true:=decide_eq_true hx
   simp only [hd]
   repeat refine qaa ?_
   exact⟨dn,ys,trivial,agr,⟨qv2,D,lf,m,f,hI1.skip hx,hys,hdn,by omega,hst,hw.tail⟩,by omega⟩
  have hd:decide (x.state∈dn)=false:=decide_eq_false hx
  simp only [hd]
  obtain⟨hT,hTd,_,hT0,hT1⟩:=hI1.take hUok hx (fun y hy=>by
   have h5:ilt y x=false:=hmin y (hp.mem_iff.2 (List.mem_cons_of_mem _ hy))
   exact Int.not_lt.1 (of_decide_eq_false h5))
  have hdn2:(x.state::dn).Nodup:=List.nodup_cons.2 ⟨hx,hdn⟩
  have hdl3:=qcS hdn2 fun g hg'=>(hT.set g hg').1
  rw [List.length_cons] at hdl3
  have hnl:=qmh U x.state
  have hrow:RS tInt w0 (vget ss x.state.toNat) (nedL U x.state):=by
   have h5:=hnd x.state.toNat (by omega)
   rwa [Int.toNat_of_nonneg x0] at h5
  repeat (first|refine qaa ?_|(refine qai ?_;clear hw;intro w hw))
  refine qbu ?_
  clear hw
  intro w hw
  rw [qs8 x0 x1] at hw
  repeat refine qaa ?_
  have hw1:Sat w0 w (OS tItem 327 qv2 ys::Box p12 324 [qv2]::OS tInt 3 ov D::Box p7 22 [ov]::[OS tInt 3 lv lf,OS tBool 4 dv (dnL (x.state::dn) k),Box p19 327 [.int .i64 x.dist,.int .i64 x.state]]):=hw.selG
  clear hw
  have hw:=hw1
  clear hw1
  have hT2:=hT.okc (ok':=fun i=>x.state∉(un U i).needs∨(i:Int)∈(nedL U x.state).take 0) (fun i=>by simp)
  refine qap [22,155,156,157,158,159,160,161,162,163,164,165,166,167,168,169,170,171,172,173,174,175,176,177,178,179,180,181,182,183,184,185,186,187,188,189,190,191,192,193,194,195,196,197,198,199,200,201,202,203,204] (G:=Nat) (fun j=>[(155,.int .i64 j)]) (fun j w=>j≤(nedL U x.state).length∧∃ qv Q D lf,RI U S k D lf (x.state::dn) Q x.dist x.state (fun i=>x.state∉(un U i).needs∨(i:Int)∈(nedL U x.state).take j)∧IsHeap tItem.dflt ilt Q∧Q.length≤ys.length+j∧dg D x.state=x.dist∧(∀ g,S g→0≤g∧g<(k:Int)∧dg D g≤0)∧Sat w0 w (OS tItem 327 qv Q::Box p12 324 [qv]::OS tInt 3 ov D::Box p7 22 [ov]::[OS tInt 3 lv lf,OS tBool 4 dv (dnL (x.state::dn) k),Box p19 327 [.int .i64 x.dist,.int .i64 x.state]])) (fun j=>(nedL U x.state).length-j) 0 (fun _=>rfl) ⟨rfl,trivial⟩ ⟨Nat.zero_le _,qv2,ys,D,lf,hT2,hys,Nat.le_refl _,hTd,hst,hw⟩ ?_
  clear hw hI hI1 hT hT2 hQ hp hmin hTd hst x2 hys
  rintro σ5 j w ⟨hj,qv,Q5,D,lf,hI,hQ,hQ5,hDx,hst,hw⟩
  have hlfl:=hI.ll
  repeat refine qaa ?_
  refine go_if (fun h2 => ?_) (fun h2 => ?_)
  ·have hjl:j<(nedL U x.state).length:=by omega
   obtain⟨i,hie,hil,hin⟩:=qls.1 (qak tInt.dflt hjl)
   have hu:=hU i hil
   have huop:=hu.op
   have huco:=hu.cost
   have humk:=hu.makes
   have hib:((nedL U x.state).getD j tInt.dflt).toNat=i:=by rw [hie];rfl
   have hb0:0≤(nedL U x.state).getD j tInt.dflt∧(nedL U x.state).getD j tInt.dflt<(us.length:Int):=by rw [hie,hul];omega
   have hb1:(nedL U x.state).getD j tInt.dflt<(lf.length:Int):=by rw [hlfl,←hul];exact hb0.2
   have hnot:¬(x.state∉(un U i).needs∨(i:Int)∈(nedL U x.state).take j):=by
    rintro (h5|h5)
    ·exact h5 hin
    ·obtain⟨i2,hi2,he2⟩:=List.getElem_of_mem h5
     rw [List.getElem_take] at he2
     rw [List.length_take] at hi2
     have h6:=List.pairwise_iff_getElem.1 (qmu U x.state) i2 j (by omega) hjl (by omega)
     rw [qaj hjl] at hie
     exact h6 (by rw [he2,hie])
   obtain⟨hl1,hl2⟩:=hI.lft2 i hil hnot
   have hl3:=qtm dn (un U i).needs
   have hl5:=qnI hx (hUok.nd i hil) hin
   have hl4:=hu.needs.big
   have hlv:lf.getD ((nedL U x.state).getD j tInt.dflt).toNat tInt.dflt=dg lf i:=by rw [hib];rfl
   have hlb:1≤dg lf i∧dg lf i≤9223372036854775807:=by omega
   have hset:(lf.set ((nedL U x.state).getD j tInt.dflt).toNat (lf.getD ((nedL U x.state).getD j tInt.dflt).toNat tInt.dflt-1))=lf.set i (dg lf i-1):=by rw [hib];rfl
   have hsl2:(lf.set ((nedL U x.state).getD j tInt.dflt).toNat (lf.getD ((nedL U x.state).getD j tInt.dflt).toNat tInt.dflt-1)).length=lf.length:=by simp
   have hget:(lf.set ((nedL U x.state).getD j tInt.dflt).toNat (lf.getD ((nedL U x.state).getD j tInt.dflt).toNat tInt.dflt-1)).getD ((nedL U x.state).getD j tInt.dflt).toNat tInt.dflt=dg lf i-1:=by
    rw [hset,hib]
    have:i<lf.length:=by omega
    simp [List.getD,this]
   have hok1:∀ i':Nat,(x.state∉(un U i').needs∨(i':Int)∈(nedL U x.state).take j)∨i'=i↔x.state∉(un U i').needs∨(i':Int)∈(nedL U x.state).take (j+1):=fun i'=>by
    rw [qan tInt.dflt hjl,hie]
    simp only [List.mem_append,List.mem_singleton]
    constructor
    ·rintro ((h|h)|h)
     ·exact .inl h
     ·exact .inr (.inl h)
     ·exact .inr (.inr (by rw [h]))
    ·rintro (h|h|h)
     ·exact .inl (.inl h)
     ·exact .inl (.inr h)
     ·exact .inr (by omega)
   repeat (first|refine qaa ?_|(refine qai ?_;clear hw;intro w hw))
   rw [hget]
   rw [hset] at hw
   by_cases hz0:dg lf i-1=0
   ·have hd0:decide (dg lf i-1=0)=true:=decide_eq_true hz0
    simp only [hd0,beq_self_eq_true,qal,qam,Bool.false_and,Bool.true_and,Bool.not_true,Bool.not_false,Bool.cond_true,Bool.cond_false,gv_fI,gv_tI]
    repeat refine qaa ?_
    refine qa2 rfl (qfc (κ:=kInt) (q:=(eget tUn us ((nedL U x.state).getD j tInt.dflt).toNat).op) rfl rfl) ?_
    repeat refine qaa ?_
    have hmr:=hUok.makes i hil
    have hcr:=hUok.cost i hil
    have hcu:(eget tUn us ((nedL U x.state).getD j tInt.dflt).toNat).cost=(un U i).cost:=by rw [hib];exact huco
    have hmu:(eget tUn us ((nedL U x.state).getD j tInt.dflt).toNat).makes=(un U i).makes:=by rw [hib];exact humk
    refine qas [.op 0,.op 1,.op 2,.op 3,.op 4,.op 5,.op 6,.op 7,.op 8,.op 9,.op 10,.op 11,.op 12,.op 13,.op 14,.op 15,.op 16,.op 17,.op 18,.op 19,.op 20] hw (by kernel_rfl) ?_;clear hw;intro w hw
    repeat refine qaa ?_
    refine qbM (cs:=[.pointer (some p7),.pointer (some p12)]) rfl rfl (qdW hI.dl (by rw [hmu];exact hmr) hQ (by omega) hw) ?_
    clear hw
    rintro _ w ⟨rfl,qv6,Q6,hQ6,hp6,hw⟩
    refine⟨_,rfl,?_⟩
    rw [hmu,hcu] at hp6 hw
    have hfd:=hI.fired hil hnot hz0 (hUok.needs i hil)
    have hI2:=(hI.rch (v:=x.dist+(un U i).cost) hmr (by omega) hfd).perm hp6
    have hat:=qpp (v:=x.dist+(un U i).cost) hI.dl hmr
    have hke2:=qrt (v:=x.dist+(un U i).cost) hI.dl hmr x0 hDx (by omega)
    have hl7:=qiP D Q5 (un U i).makes (x.dist+(un U i).cost)
    have hl8:=hp6.length_eq
    have hI3:=(hI2.count hil hnot (.inr hat) hke2).okc hok1
    repeat refine qaa ?_
    refine⟨j+1,⟨rfl,trivial⟩,agr,⟨by omega,qv6,Q6,_,_,hI3,hQ6,by omega,hke2,fun g hg' => ?_,hw⟩,by omega⟩
    obtain⟨b1,b2,b3⟩:=hst g hg'
    exact⟨b1,b2,Int.le_trans (qmm hI.dl hmr b1) b3⟩
   ·have hd0:decide (dg lf i-1=0)=false:=decide_eq_false hz0
    simp only [hd0,beq_self_eq_true,qal,qam,Bool.false_and,Bool.true_and,Bool.not_true,Bool.not_false,Bool.cond_true,Bool.cond_false,gv_fI,gv_tI]
    repeat refine qaa ?_
    have hI3:=(hI.count hil hnot (.inl hz0) hDx).okc hok1
    exact⟨j+1,⟨rfl,trivial⟩,agr,⟨by omega,qv,Q5,D,_,hI3,hQ,by omega,hDx,hst,hw⟩,by omega⟩
  have hje:j=(nedL U x.state).length:=by omega
  rw [hje] at hI hQ5
  rw [List.take_length] at hI
  have hI2:=hI.okc (ok':=fun _=>True) (fun i=>⟨fun _=>trivial,fun _=>by
   by_cases h5:x.state∈(un U i).needs
   ·by_cases h6:i<U.length
    ·exact .inr (qls.2 ⟨i,rfl,h6,h5⟩)
    ·have h7:un U i=dUn:=by unfold un;simp [List.getD,Nat.le_of_not_lt h6]
     rw [h7] at h5;simp [dUn] at h5
   ·exact .inl h5⟩)
  repeat refine qaa ?_
  have hmm:=Nat.succ_mul (k-(dn.length+1)) (U.length+1)
  rw [show (k-(dn.length+1)).succ=k-dn.length by omega] at hmm
  refine⟨x.state::dn,Q5,trivial,agr,⟨qv,D,lf,x.dist,x.state,hI2,hQ,hdn2,?_,hst,hw.selG⟩,?_⟩
  ·rw [List.length_cons,Nat.succ_mul];omega
  ·rw [List.length_cons];omega
 have hQ0:Q=[]:=List.eq_nil_of_length_eq_zero (by omega)
 rw [hQ0] at hI
 repeat refine qaa ?_
 refine qae (v:=ov) rfl rfl ⟨ov,D,rfl,⟨by rw [hI.dl,hNe],by rw [←hNe];exact hI.rng,?_,?_⟩,hw.sel⟩
 ·rw [←hNe,←hUe,←hS];exact hI.der
 ·rw [←hNe,←hUe,←hS]
  exact hI.fin hUok hst
end Go.Proofs.YtkmbenhffledpaaGreat
/-
  Contracts of the relaxation's 'Max' and of 'estimate.HMax'.
-/
namespace Go.Proofs.YtkmbenhffledpaaGreat
open Go.Sl Go
attribute [local irreducible] vc opsW opsD opV opW PureV ReadV Thn Blk
theorem RRlx.at {w0 w:World}{Γ:List HP}{pr:Addr}{t:TTask}(h:RRlx w0 pr t) (hw:Sat w0 w Γ):RRlx w pr t:=by
 obtain⟨a,c,fv,uv,nv,frv,us,ss,hbx,ha,hc,hf,huv,hul,hU,hnv,hssl,hnd,hfr⟩:=h.ex
 exact⟨a,c,fv,uv,nv,frv,us,ss,hbx.at hw,ha.at hw,hc.at hw,hf.at hw,huv.at hw,hul,fun i hi=>⟨(hU i hi).op,(hU i hi).eff,(hU i hi).cost,(hU i hi).makes,(hU i hi).needs.at hw⟩,hnv.at hw,hssl,fun f hf=>(hnd f hf).at hw,hfr.at hw⟩
set_option maxRecDepth 8000 in
set_option maxHeartbeats 4000000 in
theorem qp8 {w0:World}{pr:Addr}{sv:Value}{t:TTask}{z:List Int}(hr:RRlx w0 pr t) (hg:GoodT t) (hs:RS tInt w0 sv z) (hok:StateOk t.vars z) :
  Calls Tryz.prog 191 #[.pointer (some pr),sv] w0 fun e w'=>e=.returned (.int .i64 (hmaxH t z))∧Sat w0 w' []:=by
 have hr':=hr
 obtain⟨a,c,fv,uv,nv,frv,us,ss,hbx,ha,hc,hf,huv,hul,hU,hnv,hssl,hnd,hfr⟩:=hr.ex
 have hgl:=qaI hg.goal
 have hvl:=hg.vars
 have hw:=Sat.start w0
 refine qab (args:=[.pointer (some pr),sv]) mixed Tryz.func191 rfl (by kernel_rfl) (Nat.le_of_ble_eq_true rfl) ?_
 repeat refine qaa ?_
 refine qac rfl (qbd (ha.at hw) (hs.at hw)) ?_
 rintro _ w' ⟨⟨r,rfl,hr1⟩,hk'⟩
 replace hw:=hw.call0 hk'
 clear hk'
 refine⟨_,rfl,?_⟩
 have hrt:r=true:=hr1.2 hok
 subst hrt
 repeat refine qaa ?_
 refine qac rfl (qkf (hr'.at hw) hg (hs.at hw) hok) ?_
 rintro _ w' ⟨ov,out,rfl,hHM,hk'⟩
 replace hw:=hw.call1 hk'
 clear hk'
 refine⟨_,rfl,?_⟩
 have hol:=hHM.len
 repeat refine qaa ?_
 refine qap [6,8,28,29,30,31,32,33,34,35,36,37,38,39,40] (G:=Nat) (fun k=>[(28,.int .i64 k),(6,.int .i64 (maxG t.vars (t.goal.take k) out))]) (fun k w=>k≤t.goal.length∧Sat w0 w [OS tInt 3 ov out]) (fun k=>t.goal.length-k) 0 (fun _=>rfl) ⟨rfl,rfl,trivial⟩ ⟨Nat.zero_le _,hw⟩ ?_
 clear hw
 rintro σ k w ⟨hk,hw⟩
 repeat refine qaa ?_
 refine go_if (fun h1 => ?_) (fun h1 => ?_)
 ·have hkl:k<t.goal.length:=by omega
  have hfo:=(hg.goal k hkl).1
  repeat (first|refine qaa ?_|(refine qaf ?_;clear hw;intro p w hw)|(refine qai ?_;clear hw;intro w hw))
  refine qac rfl (qdg (f:=t.goal.getD k tFact.dflt) (hbx.at hw) (hf.at hw) hg.pos (fun i hi=>(hg.dom i hi).2) hvl hfo) ?_
  rintro _ w' ⟨rfl,hk'⟩
  replace hw:=hw.call0 hk'
  clear hk'
  refine⟨_,rfl,?_⟩
  have hnr:=qbf hg.pos hfo
  rw [←qaX hg,←hol] at hnr
  have e:(if out.getD (numF t.vars (t.goal.getD k tFact.dflt)).toNat tInt.dflt>maxG t.vars (t.goal.take k) out then out.getD (numF t.vars (t.goal.getD k tFact.dflt)).toNat tInt.dflt else maxG t.vars (t.goal.take k) out)=maxG t.vars (t.goal.take (k+1)) out:=by
   rw [qan tFact.dflt hkl,qge];unfold dg;split <;> omega
  repeat refine qaa ?_
  exact⟨k+1,⟨rfl,by rw [←e];rfl,trivial⟩,agr,⟨by omega,hw.tail⟩,by omega⟩
 have hke:k=t.goal.length:=by omega
 rw [hke,List.take_length]
 repeat refine qaa ?_
 exact qae (v:=.int .i64 (maxG t.vars t.goal out)) rfl rfl ⟨by rw [qbZ hok hHM],hw.sel⟩
instance inWRlxM1:MethS Tryz.prog 66 "Value" 192 := ⟨by kernel_rfl⟩
set_option maxRecDepth 8000 in
theorem qnF {w0:World}{pr:Addr}{sv:Value}{t:TTask}{z:List Int}(hr:RRlx w0 pr t) (hg:GoodT t) (hs:RS tInt w0 sv z) (hok:StateOk t.vars z) :
  Calls Tryz.prog 192 #[.agg #[.pointer (some pr)],sv] w0 fun e w'=>e=.returned (.int .i64 (hmaxH t z))∧Sat w0 w' []:=by
 have hw:=Sat.start w0
 refine qab (args:=[.agg #[.pointer (some pr)],sv]) mixed Tryz.func192 rfl (by kernel_rfl) (Nat.le_of_ble_eq_true rfl) ?_
 repeat (first|refine qaa ?_|(refine qaf ?_;clear hw;intro p w hw))
 refine qac rfl (qp8 (hr.at hw) hg (hs.at hw) hok) ?_
 rintro _ w' ⟨rfl,hk'⟩
 replace hw:=hw.call0 hk'
 clear hk'
 refine⟨_,rfl,?_⟩
 repeat refine qaa ?_
 exact qae (v:=.int .i64 (hmaxH t z)) rfl rfl ⟨rfl,hw.sel⟩
theorem qpM {w:World}{t:TTask}{pr:Addr}(h:RRlx w pr t) (hg:GoodT t):HVal w (.iface 66 (.agg #[.pointer (some pr)])) t (hmaxH t) :=
 ⟨_,_,_,_,rfl,qlu _,inferInstance,fun _ _ _ _ hs hsv hok=>qnF (h.at hs) hg hsv hok⟩
set_option maxRecDepth 8000 in
set_option maxHeartbeats 2000000 in
theorem qkn {w0:World}{a b c d:Value}{vs:List OpV}{t:TTask}(ht:RTask w0 a b c d vs t) (hg:GoodT t) :
  Calls Tryz.prog 8 #[.agg #[a,b,c,d]] w0 fun e w'=>∃ p,e=.returned (.tuple #[.pointer (some p),.nilIface])∧Sat w0 w' [RdH fun w=>REst w p t (hmaxH t)]:=by
 have hw:=Sat.start w0
 refine qab (args:=[.agg #[a,b,c,d]]) mixed Tryz.func8 rfl (by kernel_rfl) (Nat.le_of_ble_eq_true rfl) ?_
 repeat (first|refine qaa ?_|(refine qaf ?_;clear hw;intro p w hw))
 obtain⟨pt,hpt⟩:∃ pt,pt=p:=⟨p,rfl⟩
 subst hpt
 refine qac rfl (qpP (ht.at hw) hg) ?_
 rintro _ w' ⟨pr,rfl,hk'⟩
 replace hw:=hw.call1 hk'
 clear hk'
 refine⟨_,rfl,?_⟩
 repeat refine qaa ?_
 refine qac rfl (qdf (h:=.iface 66 (.agg #[.pointer (some pr)])) (H:=hmaxH t) (ht.at hw) hg ⟨_,_,rfl⟩) ?_
 rintro _ w' ⟨pe,rfl,hk'⟩
 replace hw:=hw.call1 hk'
 clear hk'
 refine⟨_,rfl,?_⟩
 repeat refine qaa ?_
 have hw2:Sat w0 w' [RdH fun w=>HVal w (.iface 66 (.agg #[.pointer (some pr)])) t (hmaxH t)→REst w pe t (hmaxH t),RdH fun w=>RRlx w pr t,Box pt 26 [a,b,c,d]]:=hw
 have hw3:=Sat.rd (Δ:=[RdH fun w=>HVal w (.iface 66 (.agg #[.pointer (some pr)])) t (hmaxH t)→REst w pe t (hmaxH t),RdH fun w=>RRlx w pr t]) (φ:=fun w=>REst w pe t (hmaxH t)) (fun _ w h=>(h.rdE 0 rfl) (qpM (h.rdE 1 rfl) hg)) hw2
 exact qav (v:=.pointer (some pe)) (v':=.nilIface) rfl rfl rfl ⟨pe,rfl,hw3.sel⟩
end Go.Proofs.YtkmbenhffledpaaGreat
/-
  The example with which each statement of layer 49 begins; 'fits' and 'below'.
-/
namespace Go.Proofs.YtkmbenhffledpaaGreat
open Go.Sl Go
attribute [local irreducible] vc opsW opsD opV opW PureV ReadV Thn Blk
def exOpA (k:Int):TOp:=⟨ByteArray.empty,1,[⟨0,k⟩],[⟨[],0,k+1⟩]⟩
def exAT:TTask:=⟨[4],[0],[⟨0,3⟩],[exOpA 0,exOpA 1,exOpA 2,⟨ByteArray.empty,5,[⟨0,0⟩],[⟨[],0,3⟩]⟩]⟩
set_option maxRecDepth 8000 in
set_option maxHeartbeats 4000000 in
theorem qi1 {w0:World} :
  Calls Tryz.prog 51 #[] w0 fun e w'=>∃ a b c d vs,e=.returned (.agg #[a,b,c,d])∧Sat w0 w' [RdH fun w=>RTask w a b c d vs exAT]:=by
 have hw:=Sat.start w0
 refine qab (args:=[]) mixed Tryz.func51 rfl (by kernel_rfl) (Nat.le_of_ble_eq_true rfl) ?_
 repeat (first|refine qaa ?_|(refine qaf ?_;clear hw;intro p w hw)|(refine qaq ?_;clear hw;intro s w hw))
 obtain⟨p0,hp0⟩:∃ p0,p0=p:=⟨p,rfl⟩
 subst hp0
 obtain⟨s4,hs4⟩:∃ s4,s4=s:=⟨s,rfl⟩
 subst hs4
 refine qah tFact (x1:=⟨0,3⟩) rfl rfl rfl (Nat.le_of_ble_eq_true rfl) (Nat.zero_lt_succ _) hw ?_
 clear hw
 intro s6 w hw
 obtain⟨s3,hs3⟩:∃ s3,s3=s:=⟨s,rfl⟩
 subst hs3
 have o6:=(hw.rs 0 rfl).one
 have o4:=(hw.rs 1 rfl).one
 have o3:=(hw.rs 2 rfl).one
 refine qaR (v1:=s3) (v2:=s4) (v3:=s6) rfl rfl rfl rfl (by simp only [List.all_cons,List.all_nil,o3,o4,o6];rfl) ?_
 refine qds ?_
 clear hw
 intro p1 w hw
 refine qat (n:=4) (p:=p1) (vs:=[s3,s4,s6,.slice none 0 0]) rfl rfl hw inferInstance rfl rfl (by simp only [List.all_cons,List.all_nil,o3,o4,o6];rfl) ?_
 clear hw
 intro w hw
 repeat refine qaa ?_
 have hw1:=hw.nil (T:=tOp) (e:=56)
 replace hw1:=Sat.rd0 (φ:=OpsI [] []) (fun w=>⟨rfl,fun i hi=>absurd hi (Nat.not_lt_zero _)⟩) hw1
 clear hw
 refine qay [2,8,9,10,11,12,13,14,15,16,17,18,19,20,21,22,23,24] (G:=Nat) (H:=Value) (I:=List OpV) (fun k _ _=>[(8,.int .i64 k)]) (fun k ov vs w=>k≤3∧vs.length=k∧Sat w0 w [OS tOp 56 ov vs,RdH (OpsI vs (exAT.ops.take k)),Box p1 26 [s3,s4,s6,ov],OS tFact 77 s6 [⟨0,3⟩],OS tInt 3 s4 [0],OS tInt 3 s3 [4],Box p0 26 [.slice none 0 0,.slice none 0 0,.slice none 0 0,.slice none 0 0]]) (fun k _ _=>3-k) 0 (.slice none 0 0) [] (fun _ _ _=>rfl) ⟨rfl,trivial⟩ ⟨Nat.zero_le _,rfl,hw1.swap⟩ ?_
 clear hw1
 rintro σ k ov vs w ⟨hk,hvl,hw⟩
 repeat refine qaa ?_
 refine go_if (fun h1 => ?_) (fun h1 => ?_)
 ·repeat refine qaa ?_
  refine qah tFact (x1:=⟨0,k⟩) rfl rfl rfl (Nat.le_of_ble_eq_true rfl) (Nat.zero_lt_succ _) hw ?_
  clear hw
  intro sp w hw
  repeat refine qaa ?_
  refine qah tEff (x1:=⟨.slice none 0 0,0,(k:Int)+1⟩) rfl rfl rfl (Nat.le_of_ble_eq_true rfl) (Nat.zero_lt_succ _) hw ?_
  clear hw
  intro se w hw
  have op:=(hw.rs 1 rfl).one
  have oe:=(hw.rs 0 rfl).one
  refine qaR (v1:=.int .i64 1) (v2:=sp) (v3:=se) rfl rfl rfl rfl (by simp only [List.all_cons,List.all_nil,op,oe];rfl) ?_
  refine qah tOp (x1:=⟨ByteArray.empty,1,sp,se⟩) rfl rfl rfl (Nat.le_of_ble_eq_true rfl) (Nat.zero_lt_succ _) hw ?_
  clear hw
  intro so w hw
  refine qaJ (s:=ov) (s2:=so) inferInstance rfl rfl (rsO hw) rfl rfl (fun x hx v hv => ?_) (by simp only [List.length_cons,List.length_nil];omega) (by unfold big;simp only [List.length_cons,List.length_nil];omega) hw ?_
  ·rw [List.mem_singleton.1 hx] at hv
   simp only [tOp,List.mem_cons,List.not_mem_nil,or_false] at hv
   rcases hv with rfl|rfl|rfl|rfl
   ·rfl
   ·rfl
   ·exact op
   ·exact oe
  clear hw
  intro ov2 w hw
  have o2:=(hw.rs 3 rfl).one
  repeat (first|refine qaa ?_|(refine qag ?_;clear hw;intro w hw))
  have hk3:(exAT.ops.take (k+1))=exAT.ops.take k++[⟨ByteArray.empty,1,[⟨0,k⟩],[⟨[],0,(k:Int)+1⟩]⟩]:=by
   have:k=0∨k=1∨k=2:=by omega
   rcases this with rfl|rfl|rfl <;> rfl
  have hw1:Sat w0 w ([OS tEff 80 se [⟨.slice none 0 0,0,(k:Int)+1⟩],OS tFact 77 sp [⟨0,k⟩],RdH (OpsI vs (exAT.ops.take k)),OS tOp 56 ov2 (vs++[⟨ByteArray.empty,1,sp,se⟩]),Box p1 26 [s3,s4,s6,ov2],OS tFact 77 s6 [⟨0,3⟩],OS tInt 3 s4 [0],OS tInt 3 s3 [4],Box p0 26 [.slice none 0 0,.slice none 0 0,.slice none 0 0,.slice none 0 0]]):=by
   have hw2:Sat w0 w [OS tOp 56 so [⟨ByteArray.empty,1,sp,se⟩],OS tEff 80 se [⟨.slice none 0 0,0,(k:Int)+1⟩],OS tFact 77 sp [⟨0,k⟩],OS tOp 56 ov2 (vs++[⟨ByteArray.empty,1,sp,se⟩]),RdH (OpsI vs (exAT.ops.take k)),Box p1 26 [s3,s4,s6,ov2],OS tFact 77 s6 [⟨0,3⟩],OS tInt 3 s4 [0],OS tInt 3 s3 [4],Box p0 26 [.slice none 0 0,.slice none 0 0,.slice none 0 0,.slice none 0 0]]:=hw
   exact hw2.sel
  clear hw
  have hw3:=Sat.rd2 (χ:=OpsI (vs++[⟨ByteArray.empty,1,sp,se⟩]) (exAT.ops.take (k+1))) (fun w h1 h2=>by rw [hk3];exact h2.snoc h1) (Sat.rd (φ:=fun w=>ROp w ⟨ByteArray.empty,1,sp,se⟩ ⟨ByteArray.empty,1,[⟨0,k⟩],[⟨[],0,(k:Int)+1⟩]⟩) (Δ:=[OS tEff 80 se [⟨.slice none 0 0,0,(k:Int)+1⟩],OS tFact 77 sp [⟨0,k⟩]]) (fun _ _ hw=>irop hw) hw1)
  exact⟨k+1,ov2,vs++[⟨ByteArray.empty,1,sp,se⟩],⟨rfl,trivial⟩,agr,⟨by omega,by rw [List.length_append,hvl];rfl,hw3.sel⟩,by omega⟩
 have hk3:k=3:=by omega
 subst hk3
 repeat refine qaa ?_
 refine qah tFact (x1:=⟨0,0⟩) rfl rfl rfl (Nat.le_of_ble_eq_true rfl) (Nat.zero_lt_succ _) hw ?_
 clear hw
 intro sp w hw
 repeat refine qaa ?_
 refine qah tEff (x1:=⟨.slice none 0 0,0,3⟩) rfl rfl rfl (Nat.le_of_ble_eq_true rfl) (Nat.zero_lt_succ _) hw ?_
 clear hw
 intro se w hw
 have op:=(hw.rs 1 rfl).one
 have oe:=(hw.rs 0 rfl).one
 refine qaR (v1:=.int .i64 5) (v2:=sp) (v3:=se) rfl rfl rfl rfl (by simp only [List.all_cons,List.all_nil,op,oe];rfl) ?_
 refine qah tOp (x1:=⟨ByteArray.empty,5,sp,se⟩) rfl rfl rfl (Nat.le_of_ble_eq_true rfl) (Nat.zero_lt_succ _) hw ?_
 clear hw
 intro so w hw
 refine qaJ (s:=ov) (s2:=so) inferInstance rfl rfl (rsO hw) rfl rfl (fun x hx v hv => ?_) (by simp only [List.length_cons,List.length_nil];omega) (by unfold big;simp only [List.length_cons,List.length_nil];omega) hw ?_
 ·rw [List.mem_singleton.1 hx] at hv
  simp only [tOp,List.mem_cons,List.not_mem_nil,or_false] at hv
  rcases hv with rfl|rfl|rfl|rfl
  ·rfl
  ·rfl
  ·exact op
  ·exact oe
 clear hw
 intro ov2 w hw
 have o2:=(hw.rs 3 rfl).one
 repeat (first|refine qaa ?_|(refine qag ?_;clear hw;intro w hw))
 have hw2:Sat w0 w [OS tOp 56 so [⟨ByteArray.empty,5,sp,se⟩],OS tEff 80 se [⟨.slice none 0 0,0,3⟩],OS tFact 77 sp [⟨0,0⟩],OS tOp 56 ov2 (vs++[⟨ByteArray.empty,5,sp,se⟩]),RdH (OpsI vs (exAT.ops.take 3)),Box p1 26 [s3,s4,s6,ov2],OS tFact 77 s6 [⟨0,3⟩],OS tInt 3 s4 [0],OS tInt 3 s3 [4],Box p0 26 [.slice none 0 0,.slice none 0 0,.slice none 0 0,.slice none 0 0]]:=hw
 have hw1:Sat w0 w ([OS tEff 80 se [⟨.slice none 0 0,0,3⟩],OS tFact 77 sp [⟨0,0⟩],RdH (OpsI vs (exAT.ops.take 3)),OS tOp 56 ov2 (vs++[⟨ByteArray.empty,5,sp,se⟩]),Box p1 26 [s3,s4,s6,ov2],OS tFact 77 s6 [⟨0,3⟩],OS tInt 3 s4 [0],OS tInt 3 s3 [4],Box p0 26 [.slice none 0 0,.slice none 0 0,.slice none 0 0,.slice none 0 0]]):=hw2.sel
 clear hw hw2
 have hw3:=Sat.rd2 (χ:=OpsI (vs++[⟨ByteArray.empty,5,sp,se⟩]) exAT.ops) (fun w h1 h2=>h2.snoc h1) (Sat.rd (φ:=fun w=>ROp w ⟨ByteArray.empty,5,sp,se⟩ ⟨ByteArray.empty,5,[⟨0,0⟩],[⟨[],0,3⟩]⟩) (Δ:=[OS tEff 80 se [⟨.slice none 0 0,0,3⟩],OS tFact 77 sp [⟨0,0⟩]]) (fun _ _ hw=>irop hw) hw1)
 have hw4:Sat w0 w [OS tOp 56 ov2 (vs++[⟨ByteArray.empty,5,sp,se⟩]),RdH (OpsI (vs++[⟨ByteArray.empty,5,sp,se⟩]) exAT.ops),Box p1 26 [s3,s4,s6,ov2],OS tFact 77 s6 [⟨0,3⟩],OS tInt 3 s4 [0],OS tInt 3 s3 [4],Box p0 26 [.slice none 0 0,.slice none 0 0,.slice none 0 0,.slice none 0 0]]:=hw3.sel
 clear hw1 hw3
 have hw:=hw4
 clear hw4
 obtain⟨vs2,hvs2⟩:∃ vs2,vs2=vs++[⟨ByteArray.empty,5,sp,se⟩]:=⟨_,rfl⟩
 rw [←hvs2] at hw
 repeat refine qaa ?_
 refine qat (n:=4) (p:=p0) (vs:=[s3,s4,s6,ov2]) rfl rfl hw inferInstance rfl rfl (by simp only [List.all_cons,List.all_nil,o3,o4,o6,(rsO (s:=ov2) hw).one];rfl) ?_
 clear hw
 intro w hw
 repeat refine qaa ?_
 have hw2:Sat w0 w [OS tOp 56 ov2 vs2,RdH (OpsI vs2 exAT.ops),Box p1 26 [s3,s4,s6,ov2],OS tFact 77 s6 [⟨0,3⟩],OS tInt 3 s4 [0],OS tInt 3 s3 [4],Box p0 26 [s3,s4,s6,ov2]]:=hw
 have hw3:=Sat.rd (Δ:=[OS tOp 56 ov2 vs2,RdH (OpsI vs2 exAT.ops),Box p1 26 [s3,s4,s6,ov2],OS tFact 77 s6 [⟨0,3⟩],OS tInt 3 s4 [0],OS tInt 3 s3 [4]]) (φ:=fun w=>RTask w s3 s4 s6 ov2 vs2 exAT) (fun _ w h=>⟨h.rs 5 rfl,h.rs 4 rfl,h.rs 3 rfl,⟨h.rs 0 rfl,(h.rdE 1 rfl).1,(h.rdE 1 rfl).2⟩⟩) hw2
 exact qip (p:=p0) (vs:=[s3,s4,s6,ov2]) rfl rfl rfl (fun j v hv=>qbv (i:=6) hw rfl hv) ⟨s3,s4,s6,ov2,vs2,rfl,hw3.sel⟩
theorem qbU:GoodT exAT:=by
 refine⟨by decide,by decide,by decide,by decide,by decide,fun i hi => ?_⟩
 have h0:i=0∨i=1∨i=2∨i=3:=by simp [exAT] at hi;omega
 rcases h0 with rfl|rfl|rfl|rfl
 all_goals
  refine⟨by decide,by decide,by decide,⟨Nat.le_of_ble_eq_true rfl,fun i hi=>absurd hi (Nat.not_lt_zero _)⟩,by decide,fun j hj => ?_⟩
  have h1:j=0:=by simp [exAT,exOpA] at hj;omega
  subst h1
  exact⟨by decide,by decide⟩
set_option maxRecDepth 8000 in
set_option maxHeartbeats 4000000 in
theorem qnp {w0:World}{a b c d:Value}{vs:List OpV}{t:TTask}(ht:RTask w0 a b c d vs t) :
  Calls Tryz.prog 22 #[.agg #[a,b,c,d]] w0 fun e w'=>(∃ r,e=.returned (.bool r)∧(r=true↔SmallT t∧manyL t.vars 512≤100))∧Sat w0 w' []:=by
 have hw:=Sat.start w0
 refine qab (args:=[.agg #[a,b,c,d]]) mixed Tryz.func22 rfl (by kernel_rfl) (Nat.le_of_ble_eq_true rfl) ?_
 repeat (first|refine qaa ?_|(refine qaf ?_;clear hw;intro p w hw))
 refine qac rfl (qnt (ht.at hw)) ?_
 rintro _ w' ⟨⟨r,rfl,hr⟩,hk'⟩
 replace hw:=hw.call0 hk'
 clear hk'
 refine⟨_,rfl,?_⟩
 cases r
 ·repeat refine qaa ?_
  exact qae (v:=.bool false) rfl rfl ⟨⟨false,rfl,iffF fun h=>by cases hr.2 h.1⟩,qaG hw⟩
 have hs:=hr.1 rfl
 repeat refine qaa ?_
 refine qac rfl (qkh (ht.vars.at hw) hs.good.pos (by decide) (by decide)) ?_
 rintro _ w' ⟨rfl,hk'⟩
 replace hw:=hw.call0 hk'
 clear hk'
 refine⟨_,rfl,?_⟩
 repeat refine qaa ?_
 exact qae (v:=.bool (decide (manyL t.vars 512≤100))) rfl rfl ⟨⟨_,rfl,by rw [decide_eq_true_eq];exact⟨fun h=>⟨hs,h⟩,fun h=>h.2⟩⟩,qaG hw⟩
end Go.Proofs.YtkmbenhffledpaaGreat
