/-
  The chosen patterns of an estimate: contract of 'estimate.chosen'.
-/
import Derived.Test.YtkmbenhffledpaaGreatWSyst2
import Derived.Test.YtkmbenhffledpaaGreatMW9
import Derived.Test.YtkmbenhffledpaaGreatMW10
import Derived.Test.YtkmbenhffledpaaGreatTConnR
import Derived.Test.YtkmbenhffledpaaGreatWSatur
import Derived.Test.YtkmbenhffledpaaGreatMSlB
set_option linter.unusedSimpArgs false
set_option linter.unusedVariables false
namespace Go.Proofs.YtkmbenhffledpaaGreat
open Go.Sl Go
attribute [local irreducible] vc opsW opsD opV opW PureV ReadV Thn Blk
theorem qpA {n:Nat}:∀ {m:Nat}{p:List Int},p∈grL n m→(∀ v∈p,0≤v∧v<(n:Int))∧p.Pairwise (·<·)∧∀ v∈p,v<(frstP p:Int)
 | 0,p,h=>by
  have e:p=[]:=by simpa [grL] using h
  subst e
  exact⟨fun v hv=>absurd hv List.not_mem_nil,List.Pairwise.nil,fun v hv=>absurd hv List.not_mem_nil⟩
 | m+1,p,h=>by
  obtain⟨q,hq,hp⟩:=List.mem_flatMap.1 h
  obtain⟨h1,h2,h3⟩:=qpA hq
  obtain⟨k,k1,k2,hk⟩:=qgD.1 hp
  obtain rfl:=List.mem_singleton.1 hk
  refine⟨fun v hv => ?_,List.pairwise_append.2 ⟨h2,by simp,fun a ha b hb => ?_⟩,fun v hv => ?_⟩
  ·rcases List.mem_append.1 hv with hv|hv
   ·exact h1 v hv
   ·rw [List.mem_singleton.1 hv];omega
  ·rw [List.mem_singleton.1 hb]
   have:=h3 a ha;omega
  ·rw [qdU]
   rcases List.mem_append.1 hv with hv|hv
   ·have:=h3 v hv;omega
   ·rw [List.mem_singleton.1 hv];omega
theorem qmp {t:TTask}{k:Nat}{p:List Int}(h:p∈sysL t k):InV t.vars p:=by
 obtain⟨m,_,_,hm⟩:=qgD.1 h
 have:=qpA (List.mem_filter.1 hm).1
 exact⟨this.1,this.2.1⟩
noncomputable def chsL (t:TTask) (size:Int):List (List Int):=(sysL t (clip3 size)).take 32
theorem qfy (t:TTask) (size:Int):(chsL t size).length≤32:=by unfold chsL;rw [List.length_take];omega
theorem qfz {t:TTask}{size:Int}{i:Nat}(h:i<(chsL t size).length):InV t.vars ((chsL t size).getD i []):=by
 rw [qaj h]
 exact qmp (List.mem_of_mem_take (List.getElem_mem h))
theorem qmq {t:TTask}{size:Int}(hs:SmallT t) {i:Nat}(h:i<(chsL t size).length):pErr t ((chsL t size).getD i [])=0:=(qjt hs (qfz h)).1
theorem qtd {t:TTask}{size:Int}{i:Nat}(h:i<(chsL t size).length):(chsL t size).getD i []=(sysL t (clip3 size)).getD i []:=by
 have h2:i<(sysL t (clip3 size)).length:=by unfold chsL at h;rw [List.length_take] at h;omega
 have h3:i<32:=by have:=qfy t size;omega
 show ((sysL t (clip3 size)).take 32).getD i []=_
 simp only [List.getD]
 rw [List.getElem?_take,if_pos h3]
theorem qpB {os:List Value}{i k:Nat}(h:i<(os.take k).length):vget (os.take k) i=vget os i:=by
 rw [List.length_take] at h
 rw [qa7,qa7]
 simp only [List.getD]
 rw [List.getElem?_take,if_pos (by omega)]
theorem qnb {os:List Value}{k:Nat}(h:k<os.length):os.take (k+1)=os.take k++[vget os k]:=by
 rw [qan undef h,qa7]
theorem qpC {w0 w:World}{t:TTask}{size:Int}{ov:Value}{os:List Value}{Γ:List HP}(hw:Sat w0 w (OS tVal 22 ov (os.take 32)::RowsAt tInt 3 os (sysL t (clip3 size))::Γ)):∃ ss,RLs w ov ss (chsL t size):=by
 have hl:os.length=(sysL t (clip3 size)).length:=hw.swap.rowsLen
 refine⟨os.take 32,hw.rs 0 rfl,by unfold chsL;rw [List.length_take,List.length_take,hl],fun i hi => ?_⟩
 have h2:i<(sysL t (clip3 size)).length:=by unfold chsL at hi;rw [List.length_take] at hi;omega
 rw [qtd hi,qpB (by unfold chsL at hi;rw [List.length_take] at hi ⊢;rw [hl];exact hi)]
 exact hw.swap.row h2
set_option maxRecDepth 8000 in
set_option maxHeartbeats 4000000 in
theorem qkm {w0:World}{a b c d:Value}{vs:List OpV}{t:TTask}{size:Int}(ht:RTask w0 a b c d vs t) (hs:SmallT t) :
  Calls Tryz.prog 53 #[.agg #[a,b,c,d],.int .i64 size] w0 fun e w'=>∃ ov,e=.returned (.tuple #[ov,.nilIface])∧Sat w0 w' [RdH fun w=>∃ ss,RLs w ov ss (chsL t size)]:=by
 have hg:=hs.good
 have hsl:=qlG (t:=t) hs.vars (m:=clip3 size) (by unfold clip3;omega)
 have hw:=Sat.start w0
 refine qab (args:=[.agg #[a,b,c,d],.int .i64 size]) mixed Tryz.func53 rfl (by kernel_rfl) (Nat.le_of_ble_eq_true rfl) ?_
 repeat (first|refine qaa ?_|(refine qaf ?_;clear hw;intro p w hw))
 obtain⟨pt,hpt⟩:∃ pt,pt=p:=⟨p,rfl⟩
 subst hpt
 refine qac rfl (qgJ (ht.at hw) hg hs.vars) ?_
 rintro _ w' ⟨lv,os,rfl,hk'⟩
 replace hw:=hw.call2 hk'
 clear hk'
 refine⟨_,rfl,?_⟩
 have hol:os.length=(sysL t (clip3 size)).length:=hw.rowsLen
 replace hw:=hw.nil (T:=tVal) (e:=22)
 repeat refine qaa ?_
 have hw1:Sat w0 w' [OS tVal 22 (.slice none 0 0) (os.take 0),RowsAt tInt 3 os (sysL t (clip3 size)),OS tVal 22 lv os,Box pt 26 [a,b,c,d]]:=hw
 refine qao [8,10,11,12,24,25,26,27,28,29,30,31,32,33,34,35,36,37,38,39,40,41,42,43] (G:=Nat) (H:=Value) (fun k ov=>[(24,.int .i64 k),(8,ov)]) (fun k ov w=>k≤os.length∧k≤32∧Sat w0 w [OS tVal 22 ov (os.take k),RowsAt tInt 3 os (sysL t (clip3 size)),OS tVal 22 lv os,Box pt 26 [a,b,c,d]]) (fun k _=>os.length-k) 0 (.slice none 0 0) (fun _ _=>rfl) ⟨rfl,rfl,trivial⟩ ⟨Nat.zero_le _,by omega,hw1⟩ ?_
 clear hw hw1
 rintro σ k ov w ⟨hk,hk32,hw⟩
 have htl:(os.take k).length=k:=by rw [List.length_take];omega
 repeat refine qaa ?_
 refine go_if (fun h1 => ?_) (fun h1 => ?_)
 ·have hkl:k<os.length:=by omega
  have hkm:k<(sysL t (clip3 size)).length:=by omega
  have hrow:=hw.swap.row hkm
  repeat refine qaa ?_
  refine go_if (fun h2 => ?_) (fun h2 => ?_)
  ·have hke:k=32:=by omega
   subst hke
   repeat refine qaa ?_
   exact qav (v:=ov) (v':=.nilIface) rfl rfl rfl ⟨ov,rfl,(Sat.rd (Δ:=[OS tVal 22 ov (os.take 32),RowsAt tInt 3 os (sysL t (clip3 size)),OS tVal 22 lv os,Box pt 26 [a,b,c,d]]) (Γ:=[]) (φ:=fun w=>∃ ss,RLs w ov ss (chsL t size)) (fun _ _ h=>qpC h) hw).only⟩
  have he1:pErr t ((sysL t (clip3 size)).getD k [])=0:=(qjt hs (qmp (by rw [qaj hkm];exact List.getElem_mem hkm))).1
  obtain⟨L,hL⟩:∃ L,L=(sysL t (clip3 size)).getD k []:=⟨_,rfl⟩
  rw [←hL] at he1 hrow
  repeat refine qaa ?_
  refine qac rfl (qff (vp:=vget os k) (L:=L) (ht.at hw) hrow) ?_
  rintro _ w' ⟨cv,ev,gv,rfl,hk'⟩
  rw [he1,qhZ] at hk'
  rw [he1,qaT rfl,qhZ,qnL]
  have hw2:=hw.call hk'
  clear hk' hw
  have hw:=hw2
  clear hw2
  refine⟨_,rfl,?_⟩
  have o1:=(hw.rs 0 rfl).one
  have o2:=(hw.rs 1 rfl).one
  have o3:=(hw.rs 2 rfl).one
  repeat (first|refine qaa ?_|(refine qaf ?_;clear hw;intro p w hw))
  refine qat (n:=5) (p:=p) (vs:=[.int .i64 (cntL t.vars L),.int .i64 (idxL t.vars L t.init),cv,ev,gv]) rfl rfl hw inferInstance rfl rfl (by simp only [List.all_cons,List.all_nil,o1,o2,o3];rfl) ?_
  clear hw
  intro w hw
  repeat (first|refine qaa ?_|(refine qaq ?_;clear hw;intro s w hw))
  obtain⟨ov2,hov2⟩:∃ ov2,ov2=s:=⟨s,rfl⟩
  subst hov2
  rw [←qnb hkl] at hw
  exact⟨k+1,ov2,⟨rfl,rfl,trivial⟩,agr,⟨by omega,by omega,hw.tail.tail.tail.tail.tail⟩,by omega⟩
 repeat refine qaa ?_
 have hke:os.take k=os.take 32:=by rw [List.take_of_length_le (by omega),List.take_of_length_le (by omega)]
 rw [hke] at hw
 exact qav (v:=ov) (v':=.nilIface) rfl rfl rfl ⟨ov,rfl,(Sat.rd (Δ:=[OS tVal 22 ov (os.take 32),RowsAt tInt 3 os (sysL t (clip3 size)),OS tVal 22 lv os,Box pt 26 [a,b,c,d]]) (Γ:=[]) (φ:=fun w=>∃ ss,RLs w ov ss (chsL t size)) (fun _ _ h=>qpC h) hw).only⟩
end Go.Proofs.YtkmbenhffledpaaGreat
