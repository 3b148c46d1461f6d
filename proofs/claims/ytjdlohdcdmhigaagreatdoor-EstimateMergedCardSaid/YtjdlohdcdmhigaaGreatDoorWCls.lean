/-
  Contracts of shrink.classes, order.
-/
import Derived.Test.YtjdlohdcdmhigaaGreatDoorWCptE
import Derived.Test.YtjdlohdcdmhigaaGreatDoorWVal
import Derived.Test.YtjdlohdcdmhigaaGreatDoorWSrt
set_option linter.unusedSimpArgs false
set_option linter.unusedVariables false
namespace Go.Proofs.YtjdlohdcdmhigaaGreatDoor
open Go.Sl Go
attribute [local irreducible] vc opsW opsD opV opW PureV ReadV Thn Blk
theorem qkU {c:List Int}{n:Int}(h:∀ k,0≤k→¬ClsOk c n k):clsB c n=false:=by
 unfold clsB
 rw [decide_eq_false_iff_not]
 rintro⟨k,hk,h1⟩
 exact h k hk h1
set_option maxRecDepth 8000 in
set_option maxHeartbeats 4000000 in
theorem qlN {w0:World}{v:Value}{c:List Int}{n:Nat}(hc:RS tInt w0 v c) (hn:n≤4096) :
  Calls Tryz.prog 153 #[v,.int .i64 n] w0 fun e w'=>(∃ k,e=.returned (.tuple #[.int .i64 k,.bool (clsB c n)])∧(clsB c n=true→k=clsN c n∧0≤k∧ClsOk c n k))∧Sat w0 w' []:=by
 have hcb:=hc.big
 have hw:=Sat.start w0
 refine qaf (args:=[v,.int .i64 n]) mixed Tryz.func153 rfl (by kernel_rfl) (Nat.le_of_ble_eq_true rfl) ?_
 repeat (first|refine qac ?_|(refine qaa ?_;clear hw;intro p w hw)|(refine qae ?_;clear hw;intro w hw)|(refine qab ?_;clear hw;intro s w hw))
 refine go_if (fun h1 => ?_) (fun h1 => ?_)
 ·have hf:clsB c n=false:=qkU fun k hk h=>h1 h.1
  repeat (first|refine qac ?_|(refine qaa ?_;clear hw;intro p w hw)|(refine qae ?_;clear hw;intro w hw)|(refine qab ?_;clear hw;intro s w hw))
  exact qay (v:=.int .i64 0) (v':=.bool false) rfl rfl rfl ⟨⟨0,by rw [hf],fun h=>by rw [hf] at h;cases h⟩,hw.sel⟩
 have hcl:c.length=n:=by omega
 repeat (first|refine qac ?_|(refine qaa ?_;clear hw;intro p w hw)|(refine qae ?_;clear hw;intro w hw)|(refine qab ?_;clear hw;intro s w hw))
 rw [show ((n:Int)).toNat=n from by omega] at hw
 refine qbf [4,5,7,9,20,21,22,23,24,25,26,27,28,29,30,31,32,33,34,35,36,37,38] (G:=Nat) (H:=Int) (I:=List Bool) (fun k m _=>[(20,.int .i64 k),(7,.int .i64 m),(4,.int .i64 0),(5,.bool false)]) (fun k m se w=>k≤c.length∧(0≤m∧m≤n)∧(∀ x∈c.take k,0≤x∧x<m)∧(m=0∨m-1∈c.take k)∧se.length=n∧(∀ j:Nat,j<n→(se.getD j tBool.dflt=true↔(j:Int)∈c.take k))∧Sat w0 w [OS tBool 4 s se]) (fun k _ _=>c.length-k) 0 0 (List.replicate n false) (fun _ _ _=>rfl) ⟨rfl,rfl,rfl,rfl,trivial⟩ ⟨Nat.zero_le _,⟨Int.le_refl _,by omega⟩,fun x hx=>by simp at hx,.inl rfl,List.length_replicate,fun j hj=>by rw [qc4 hj];simp,hw⟩ ?_
 clear hw
 rintro σ k m se w ⟨hk,⟨hm0,hm1⟩,hx,hmx,hsl,hse,hw⟩
 repeat (first|refine qac ?_|(refine qaa ?_;clear hw;intro p w hw)|(refine qae ?_;clear hw;intro w hw)|(refine qab ?_;clear hw;intro s w hw))
 refine go_if (fun h2 => ?_) (fun h2 => ?_)
 ·have hkl:k<c.length:=by omega
  have hts:c.take (k+1)=c.take k++[c.getD k tInt.dflt]:=qaj tInt.dflt hkl
  have hmem:c.getD k tInt.dflt∈c:=qal tInt.dflt hkl
  repeat (first|refine qac ?_|(refine qaa ?_;clear hw;intro p w hw)|(refine qae ?_;clear hw;intro w hw)|(refine qab ?_;clear hw;intro s w hw))
  refine go_if (fun h3 => ?_) (fun h3 => ?_)
  ·have hf:clsB c n=false:=qkU fun k' hk' h=>by have:=h.2.1 _ hmem;omega
   repeat (first|refine qac ?_|(refine qaa ?_;clear hw;intro p w hw)|(refine qae ?_;clear hw;intro w hw)|(refine qab ?_;clear hw;intro s w hw))
   exact qay (v:=.int .i64 0) (v':=.bool false) rfl rfl rfl ⟨⟨0,by rw [hf],fun h=>by rw [hf] at h;cases h⟩,hw.sel⟩
  obtain⟨h4,h5⟩:=h3
  obtain⟨y,hy⟩:∃ y,y=c.getD k tInt.dflt:=⟨_,rfl⟩
  rw [←hy] at h4 h5 hts hmem
  repeat (first|refine qac ?_|(refine qaa ?_;clear hw;intro p w hw)|(refine qae ?_;clear hw;intro w hw)|(refine qab ?_;clear hw;intro s w hw))
  rw [←hy] at hw
  refine⟨k+1,max m (y+1),se.set y.toNat true,⟨rfl,by rw [hy];show Value.int .i64 _=Value.int .i64 _;congr 1;split <;> omega,rfl,rfl,trivial⟩,agr,⟨by omega,⟨by omega,by omega⟩,fun x hx' => ?_,?_,by rw [List.length_set];exact hsl,fun j hj => ?_,hw⟩,by omega⟩
  ·rw [hts,List.mem_append,List.mem_singleton] at hx'
   rcases hx' with h|h
   ·have:=hx x h;omega
   ·omega
  ·rw [hts,List.mem_append,List.mem_singleton]
   by_cases e:m≤y+1
   ·right;right;omega
   ·rcases hmx with h|h
    ·omega
    ·right;left;rw [show max m (y+1)=m from by omega];exact h
  ·rw [setD,hts,List.mem_append,List.mem_singleton]
   by_cases e:y.toNat=j
   ·rw [if_pos ⟨e,by omega⟩]
    have:(j:Int)=y:=by omega
    simp [this]
   ·rw [if_neg (fun h=>e h.1),hse j hj]
    have:¬(j:Int)=y:=by omega
    simp [this]
 have hkn:k=c.length:=by omega
 rw [hkn,List.take_length] at hx hmx hse
 have hcl2:(cut se 0 m.toNat).length=m.toNat:=by rw [qcb (by omega)];omega
 have hr:=qbR (T:=tBool) (rsO (s:=s) hw) (lo:=0) (hi:=m.toNat) (by omega) (by omega)
 repeat (first|refine qac ?_|(refine qaa ?_;clear hw;intro p w hw)|(refine qae ?_;clear hw;intro w hw)|(refine qab ?_;clear hw;intro s w hw))
 refine qak [4,5,11,43,44,45,46,47,48,49] (G:=Nat) (fun k=>[(43,.int .i64 k),(4,.int .i64 0),(5,.bool false)]) (fun k w=>k≤m.toNat∧(∀ i:Nat,i<k→se.getD i tBool.dflt=true)∧Sat w0 w [OS tBool 4 s se]) (fun k=>m.toNat-k) 0 (fun _=>rfl) ⟨rfl,rfl,rfl,trivial⟩ ⟨Nat.zero_le _,fun i hi=>absurd hi (Nat.not_lt_zero _),hw⟩ ?_
 clear hw hr
 rintro σ k2 w ⟨hk2,hall,hw⟩
 have hr:=qbR (T:=tBool) (rsO (s:=s) hw) (lo:=0) (hi:=m.toNat) (by omega) (by omega)
 repeat (first|refine qac ?_|(refine qaa ?_;clear hw;intro p w hw)|(refine qae ?_;clear hw;intro w hw)|(refine qab ?_;clear hw;intro s w hw))
 refine go_if (fun h4 => ?_) (fun h4 => ?_)
 ·have hkm:k2<m.toNat:=by omega
  have hcg:(cut se 0 m.toNat).getD k2 tBool.dflt=se.getD k2 tBool.dflt:=by simp [cut,List.getD,List.getElem?_take,hkm]
  repeat (first|refine qac ?_|(refine qaa ?_;clear hw;intro p w hw)|(refine qae ?_;clear hw;intro w hw)|(refine qab ?_;clear hw;intro s w hw))
  rw [hcg]
  by_cases hs:se.getD k2 tBool.dflt=true
  ·rw [hs]
   repeat (first|refine qac ?_|(refine qaa ?_;clear hw;intro p w hw)|(refine qae ?_;clear hw;intro w hw)|(refine qab ?_;clear hw;intro s w hw))
   refine⟨k2+1,⟨rfl,rfl,rfl,trivial⟩,agr,⟨by omega,fun i hi => ?_,hw⟩,by omega⟩
   by_cases e:i=k2
   ·subst e;exact hs
   ·exact hall i (by omega)
  ·have hf:clsB c n=false:=qkU fun k' hk' h=>hs ((hse k2 (by omega)).2 (h.2.2.2 _ (by omega) (by
    rcases hmx with h2|h2
    ·omega
    ·have:=h.2.2.1 _ h2;omega)))
   rw [Bool.not_eq_true] at hs
   rw [hs]
   repeat (first|refine qac ?_|(refine qaa ?_;clear hw;intro p w hw)|(refine qae ?_;clear hw;intro w hw)|(refine qab ?_;clear hw;intro s w hw))
   exact qay (v:=.int .i64 0) (v':=.bool false) rfl rfl rfl ⟨⟨0,by rw [hf],fun h=>by rw [hf] at h;cases h⟩,hw.sel⟩
 have hok:ClsOk c n m:=⟨by omega,fun x hx'=>by have:=hx x hx';omega,fun x hx'=>(hx x hx').2,fun x h0 h1=>by
  have h5:=(hse x.toNat (by omega)).1 (hall x.toNat (by omega))
  rwa [show ((x.toNat:Nat):Int)=x from by omega] at h5⟩
 obtain⟨q1,q2⟩:=qnX hm0 hok
 repeat (first|refine qac ?_|(refine qaa ?_;clear hw;intro p w hw)|(refine qae ?_;clear hw;intro w hw)|(refine qab ?_;clear hw;intro s w hw))
 exact qay (v:=.int .i64 m) (v':=.bool true) rfl rfl rfl ⟨⟨m,by rw [q1],fun _=>⟨q2.symm,hm0,hok⟩⟩,hw.sel⟩
set_option maxRecDepth 8000 in
set_option maxHeartbeats 4000000 in
theorem qib {w0 w:World}{Γ:List HP}{s:Value}{xs:List Edg}(hw:Sat w0 w (OS tEdg 196 s xs::Γ)) (hn:xs.length≤65536) :
  Calls Tryz.prog 154 #[s] w fun e w'=>∃ s',e=.returned s'∧Sat w0 w' (OS tEdg 196 s' (cpt (srtL cmpE xs))::Γ):=by
 refine qaf (args:=[s]) mixed Tryz.func154 rfl (by kernel_rfl) (Nat.le_of_ble_eq_true rfl) ?_
 repeat (first|refine qac ?_|(refine qaa ?_;clear hw;intro p w hw)|(refine qae ?_;clear hw;intro w hw)|(refine qab ?_;clear hw;intro s w hw))
 refine qah rfl (qlP (s:=s) (xs:=xs) hw (by omega)) ?_
 rintro _ w' ⟨rfl,hw'⟩;clear hw;have hw:=hw';clear hw';refine⟨_,rfl,?_⟩
 have hl:=qga swoE (l:=xs)
 repeat (first|refine qac ?_|(refine qaa ?_;clear hw;intro p w hw)|(refine qae ?_;clear hw;intro w hw)|(refine qab ?_;clear hw;intro s w hw))
 refine qah rfl (qlY (s:=s) (xs:=srtL cmpE xs) hw (by omega)) ?_
 rintro _ w' ⟨s',rfl,hw'⟩;clear hw;have hw:=hw';clear hw';refine⟨_,rfl,?_⟩
 repeat (first|refine qac ?_|(refine qaa ?_;clear hw;intro p w hw)|(refine qae ?_;clear hw;intro w hw)|(refine qab ?_;clear hw;intro s w hw))
 exact qai (v:=s') rfl rfl ⟨s',rfl,hw⟩
end Go.Proofs.YtjdlohdcdmhigaaGreatDoor
