/-
  Contract of the abstraction's 'Value'.
-/
import Derived.Test.YtjdlohdcdmhigaaGreatDoorWAtm
set_option linter.unusedSimpArgs false
set_option linter.unusedVariables false
namespace Go.Proofs.YtjdlohdcdmhigaaGreatDoor
open Go.Sl Go
attribute [local irreducible] vc opsW opsD opV opW PureV ReadV Thn Blk
theorem Ch.step {vars:List Int}{L:List StgV}{n:Int}(h:Ch vars L n):∀ k,k<L.length→∃ y,y=L.getD k ⟨0,[],[],0⟩∧L.take (k+1)=L.take k++[y]∧y.var=(k:Int)∧((y.cls.length:Int)=vars.getD k tInt.dflt)∧(∀ i:Nat,i<y.cls.length→0≤y.cls.getD i tInt.dflt∧y.cls.getD i tInt.dflt<y.sts)∧k<vars.length∧(0<k→∃ n' m,Ch vars (L.take k) n'∧((y.aft.length:Int)=n')∧(∀ i:Nat,i<y.aft.length→0≤y.aft.getD i tInt.dflt∧y.aft.getD i tInt.dflt<m)∧m*y.sts≤4096):=by
 induction h with
 | one x hv hl hr hp =>
  intro k hk
  have:k=0:=by simp at hk;omega
  subst this
  exact⟨x,rfl,rfl,hv,hl,hr,hp,fun h=>absurd h (by omega)⟩
 | snoc l n m y h hv hl hr hp ha har hm ih =>
  intro k hk
  by_cases hkl:k<l.length
  ·obtain⟨z,h1,h2,h3⟩:=ih k hkl
   refine⟨z,?_,?_,?_⟩
   ·rw [h1,qc8,if_pos hkl]
   ·rw [List.take_append_of_le_length (by omega),List.take_append_of_le_length (by omega)];exact h2
   ·rw [List.take_append_of_le_length (by omega)];exact h3
  ·rw [List.length_append,List.length_singleton] at hk
   have e:k=l.length:=by omega
   subst e
   refine⟨y,?_,?_,hv,hl,hr,hp,fun _=>⟨n,m,?_,ha,har,hm⟩⟩
   ·rw [qc8,if_neg hkl,if_pos rfl]
   ·rw [List.take_append_of_le_length (Nat.le_refl _),List.take_length]
    have:l.length+1=(l++[y]).length:=by rw [List.length_append];rfl
    rw [this,List.take_length]
   ·rw [List.take_append_of_le_length (Nat.le_refl _),List.take_length];exact h
theorem StR.at {w0 w:World}{Γ:List HP}{ms:List StgM}{L:List StgV}(h:StR ms L w0) (hw:Sat w0 w Γ):StR ms L w:=⟨h.len,h.var,h.sts,fun i hi=>(h.cls i hi).at hw,fun i hi=>(h.aft i hi).at hw⟩
def RAbs (w:World) (p:Addr) (t:TTask) (L:List StgV) (D:List Int):Prop:=∃ vv sv dv xb ms,BoxR w p [vv,sv,dv,xb]∧RS tInt w vv t.vars∧RS tStg w sv ms∧StR ms L w∧RS tInt w dv D
theorem RAbs.at {w0 w:World}{Γ:List HP}{p:Addr}{t:TTask}{L:List StgV}{D:List Int}(h:RAbs w0 p t L D) (hw:Sat w0 w Γ):RAbs w p t L D:=by
 obtain⟨vv,sv,dv,xb,ms,h1,h2,h3,h4,h5⟩:=h
 exact⟨vv,sv,dv,xb,ms,h1.at hw,h2.at hw,h3.at hw,h4.at hw,h5.at hw⟩
set_option maxRecDepth 8000 in
set_option maxHeartbeats 8000000 in
theorem qhn {w0:World}{p:Addr}{t:TTask}{L:List StgV}{D:List Int}{sx:Value}{s:List Int}(hr:RAbs w0 p t L D) (hk:∀ k,k<L.length→∃ n,Ch t.vars L n) (hD:0≤atL s L∧atL s L<D.length) (hs:RS tInt w0 sx s) (hok:StateOk t.vars s) :
  Calls Tryz.prog 25 #[.pointer (some p),sx] w0 fun e w'=>e=.returned (.int .i64 (D.getD (atL s L).toNat tInt.dflt))∧Sat w0 w' []:=by
 obtain⟨vv,sv,dv,xb,ms,h1,h2,h3,h4,h5⟩:=hr
 have hml:=h4.len
 have hmb:=h3.big
 have hsl:=hok.1
 have hw:=Sat.start w0
 refine qaf (args:=[.pointer (some p),sx]) mixed Tryz.func25 rfl (by kernel_rfl) (Nat.le_of_ble_eq_true rfl) ?_
 repeat (first|refine qac ?_|(refine qaa ?_;clear hw;intro p w hw)|(refine qae ?_;clear hw;intro w hw)|(refine qab ?_;clear hw;intro s w hw))
 refine qah rfl (qbx h2 (hs.at hw)) ?_
 rintro _ w' ⟨⟨r,rfl,hr⟩,hk'⟩;replace hw:=hw.call0 hk';clear hk';refine⟨_,rfl,?_⟩
 have hrt:r=true:=hr.2 hok
 subst hrt
 repeat (first|refine qac ?_|(refine qaa ?_;clear hw;intro p w hw)|(refine qae ?_;clear hw;intro w hw)|(refine qab ?_;clear hw;intro s w hw))
 refine qak [5,6,7,8,25,26,27,28,29,30,31,32,33,34,35,36,37,38,39,40,41,42,43,44,45,46,47,48,49,50,51,52] (G:=Nat) (fun k=>[(25,.int .i64 k),(5,.int .i64 (atL s (L.take k)))]) (fun k w=>k≤L.length∧Sat w0 w []) (fun k=>L.length-k) 0 (fun _=>rfl) ⟨rfl,rfl,trivial⟩ ⟨Nat.zero_le _,hw⟩ ?_
 clear hw
 rintro σ k w ⟨hkL,hw⟩
 repeat (first|refine qac ?_|(refine qaa ?_;clear hw;intro p w hw)|(refine qae ?_;clear hw;intro w hw)|(refine qab ?_;clear hw;intro s w hw))
 refine go_if (fun g1 => ?_) (fun g1 => ?_)
 rotate_left
 ·have hkl:k=L.length:=by omega
  rw [hkl,List.take_length]
  repeat (first|refine qac ?_|(refine qaa ?_;clear hw;intro p w hw)|(refine qae ?_;clear hw;intro w hw)|(refine qab ?_;clear hw;intro s w hw))
  exact qai (v:=.int .i64 (D.getD (atL s L).toNat tInt.dflt)) rfl rfl ⟨rfl,hw.sel⟩
 have hkl:k<L.length:=by omega
 obtain⟨n,hch⟩:=hk k hkl
 obtain⟨y,hy,hyt,hyv,hyc,hyr,hyl,hya⟩:=hch.step k hkl
 have m1:=h4.var k hkl
 have m2:=h4.sts k hkl
 have m3:=h4.cls k hkl
 have m4:=h4.aft k hkl
 rw [←hy] at m1 m2 m3 m4
 rw [hyv] at m1
 obtain⟨m,hm⟩:∃ m,m=ms.getD k tStg.dflt:=⟨_,rfl⟩
 rw [←hm] at m1 m2 m3 m4
 obtain⟨mv,mc,ma,mt⟩:=m
 have m1:mv=(k:Int):=m1
 have m2:mt=y.sts:=m2
 have m3:RS tInt w0 mc y.cls:=m3
 have m4:RS tInt w0 ma y.aft:=m4
 subst m1 m2
 have o3:=m3.one
 have o4:=m4.one
 repeat (first|refine qac ?_|(refine qaa ?_;clear hw;intro p w hw)|(refine qad ?_;clear hw;intro w hw)|(refine qab ?_;clear hw;intro s w hw))
 rw [←hm]
 refine qao (n:=4) (p:=p) (vs:=[.int .i64 k,mc,ma,.int .i64 y.sts]) rfl rfl hw inferInstance rfl rfl (by simp only [List.all_cons,List.all_nil,o3,o4];rfl) ?_
 clear hw;intro w hw
 have hsk:=hok.2 k (by omega)
 repeat (first|refine qac ?_|(refine qaa ?_;clear hw;intro p w hw)|(refine qad ?_;clear hw;intro w hw)|(refine qab ?_;clear hw;intro s w hw))
 refine qax [.op 0,.op 1,.op 2,.op 3,.op 4,.op 5,.op 6,.op 7,.op 8,.op 9] hw (by kernel_rfl) ?_;clear hw;intro w hw
 repeat (first|refine qac ?_|(refine qaa ?_;clear hw;intro p w hw)|(refine qad ?_;clear hw;intro w hw)|(refine qab ?_;clear hw;intro s w hw))
 refine go_if (fun g2 => ?_) (fun g2 => ?_)
 ·have hk0:k=0:=by omega
  subst hk0
  repeat (first|refine qac ?_|(refine qaa ?_;clear hw;intro p w hw)|(refine qad ?_;clear hw;intro w hw)|(refine qab ?_;clear hw;intro s w hw))
  have hE:atL s (L.take (0+1))=y.cls.getD (s.getD 0 tInt.dflt).toNat tInt.dflt:=by
   rw [hyt]
   show y.cls.getD (s.getD y.var.toNat tInt.dflt).toNat tInt.dflt=_
   rw [hyv];rfl
  exact⟨0+1,⟨rfl,by rw [hE];rfl,trivial⟩,agr,⟨by omega,hw.sel⟩,by omega⟩
 have hkp:0<k:=by omega
 obtain⟨n',M,b1,b2,b3,b4⟩:=hya hkp
 have b5:=b1.at hok
 have b6:=b3 (atL s (L.take k)).toNat (by omega)
 have b7:=hyr (s.getD k tInt.dflt).toNat (by omega)
 have hE:atL s (L.take (k+1))=y.aft.getD (atL s (L.take k)).toNat tInt.dflt*y.sts+y.cls.getD (s.getD k tInt.dflt).toNat tInt.dflt:=by
  rw [hyt,qiG b1.ne,hyv];rfl
 obtain⟨u,hu⟩:∃ u,u=y.aft.getD (atL s (L.take k)).toNat tInt.dflt:=⟨_,rfl⟩
 have b8:0≤u*y.sts:=Int.mul_nonneg (by omega) (by omega)
 have b9:(u+1)*y.sts≤M*y.sts:=Int.mul_le_mul_of_nonneg_right (by omega) (by omega)
 rw [Int.add_mul,Int.one_mul] at b9
 have c1 : -9223372036854775808≤u*y.sts:=by omega
 have c2:u*y.sts≤9223372036854775807:=by omega
 repeat (first|refine qac ?_|(refine qaa ?_;clear hw;intro p w hw)|(refine qad ?_;clear hw;intro w hw)|(refine qab ?_;clear hw;intro s w hw))
 refine qax [.op 0,.op 1,.op 2,.op 3,.op 4,.op 5,.op 6,.op 7,.op 8,.op 9,.op 10] hw (by kernel_rfl) ?_;clear hw;intro w hw
 repeat (first|refine qac ?_|(refine qaa ?_;clear hw;intro p w hw)|(refine qad ?_;clear hw;intro w hw)|(refine qab ?_;clear hw;intro s w hw))
 rw [←hu]
 repeat (first|refine qac ?_|(refine qaa ?_;clear hw;intro p w hw)|(refine qad ?_;clear hw;intro w hw)|(refine qab ?_;clear hw;intro s w hw))
 exact⟨k+1,⟨rfl,by rw [hE,←hu];rfl,trivial⟩,agr,⟨by omega,hw.sel⟩,by omega⟩
end Go.Proofs.YtjdlohdcdmhigaaGreatDoor
