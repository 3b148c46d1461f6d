/-
  Several texts as one: TConnR, WChs, WSatNew, WPat3.
-/
import Derived.Test.YtggdgcmjcahbbaaGreatDoorMW12
import Derived.Test.YtggdgcmjcahbbaaGreatDoorMW5
import Derived.Test.YtggdgcmjcahbbaaGreatDoorMW7
import Derived.Test.YtggdgcmjcahbbaaGreatDoorMW9
import Derived.Test.YtggdgcmjcahbbaaGreatDoorMSlB
import Derived.Test.YtggdgcmjcahbbaaGreatDoorMW11
import Derived.Test.YtggdgcmjcahbbaaGreatDoorMTA
set_option linter.unusedSimpArgs false
set_option linter.unusedVariables false
/-
  The references 'Connected' and 'Systematic', in plain Lean: what is seen from the first variable; lists that grow.
-/
namespace Go.Proofs.YtggdgcmjcahbbaaGreatDoor
open Go.Sl
theorem qpU {n m:Nat}(hn:n≤12) (hm:m≤3):(grL n m).length≤220:=by
 have h:=qmc n (by omega)
 have:m=0∨m=1∨m=2∨m=3:=by omega
 rcases this with rfl|rfl|rfl|rfl
 ·simp [grL]
 ·omega
 ·omega
 ·omega
theorem qlO (t:TTask):sysL t 0=[]:=qbf (by omega)
theorem qlP (t:TTask) (m:Nat):sysL t (m+1)=sysL t m++sysK t (m+1):=by
 unfold sysL;rw [qaz (by omega)]
theorem qgt {t:TTask}(hn:t.vars.length≤12):∀ {m:Nat},m≤3→(sysL t m).length≤m*220
 | 0,_=>by rw [qlO];exact Nat.le_refl _
 | m+1,h=>by
  have ih:=qgt hn (m:=m) (by omega)
  have h1:=qeg (t:=t) (m+1)
  have h2:=qpU hn (m:=m+1) (by omega)
  rw [qlP,List.length_append]
  omega
end Go.Proofs.YtggdgcmjcahbbaaGreatDoor
/-
  The chosen patterns of an estimate: contract of 'estimate.chosen'.
-/
namespace Go.Proofs.YtggdgcmjcahbbaaGreatDoor
open Go.Sl Go
attribute [local irreducible] vc opsW opsD opV opW PureV ReadV Thn Blk
theorem qmH {n:Nat}:∀ {m:Nat}{p:List Int},p∈grL n m→(∀ v∈p,0≤v∧v<(n:Int))∧p.Pairwise (·<·)∧∀ v∈p,v<(frstP p:Int)
 | 0,p,h=>by
  have e:p=[]:=by simpa [grL] using h
  subst e
  exact⟨fun v hv=>absurd hv List.not_mem_nil,List.Pairwise.nil,fun v hv=>absurd hv List.not_mem_nil⟩
 | m+1,p,h=>by
  obtain⟨q,hq,hp⟩:=List.mem_flatMap.1 h
  obtain⟨h1,h2,h3⟩:=qmH hq
  obtain⟨k,k1,k2,hk⟩:=qe4.1 hp
  obtain rfl:=List.mem_singleton.1 hk
  refine⟨fun v hv => ?_,List.pairwise_append.2 ⟨h2,by simp,fun a ha b hb => ?_⟩,fun v hv => ?_⟩
  ·rcases List.mem_append.1 hv with hv|hv
   ·exact h1 v hv
   ·rw [List.mem_singleton.1 hv];omega
  ·rw [List.mem_singleton.1 hb]
   have:=h3 a ha;omega
  ·rw [qcS]
   rcases List.mem_append.1 hv with hv|hv
   ·have:=h3 v hv;omega
   ·rw [List.mem_singleton.1 hv];omega
theorem qgU {t:TTask}{k:Nat}{p:List Int}(h:p∈sysL t k):InV t.vars p:=by
 obtain⟨m,_,_,hm⟩:=qe4.1 h
 have:=qmH (List.mem_filter.1 hm).1
 exact⟨this.1,this.2.1⟩
noncomputable def chsL (t:TTask) (size:Int):List (List Int):=(sysL t (clip3 size)).take 32
theorem qcK (t:TTask) (size:Int):(chsL t size).length≤32:=by unfold chsL;rw [List.length_take];omega
theorem qdx {t:TTask}{size:Int}{i:Nat}(h:i<(chsL t size).length):InV t.vars ((chsL t size).getD i []):=by
 rw [qak h]
 exact qgU (List.mem_of_mem_take (List.getElem_mem h))
theorem qcL {t:TTask}{size:Int}(hs:SmallT t) {i:Nat}(h:i<(chsL t size).length):pErr t ((chsL t size).getD i [])=0:=(qdc hs (qdx h)).1
theorem qpJ {t:TTask}{size:Int}{i:Nat}(h:i<(chsL t size).length):(chsL t size).getD i []=(sysL t (clip3 size)).getD i []:=by
 have h2:i<(sysL t (clip3 size)).length:=by unfold chsL at h;rw [List.length_take] at h;omega
 have h3:i<32:=by have:=qcK t size;omega
 show ((sysL t (clip3 size)).take 32).getD i []=_
 simp only [List.getD]
 rw [List.getElem?_take,if_pos h3]
theorem qmI {os:List Value}{i k:Nat}(h:i<(os.take k).length):vget (os.take k) i=vget os i:=by
 rw [List.length_take] at h
 rw [qay,qay]
 simp only [List.getD]
 rw [List.getElem?_take,if_pos (by omega)]
theorem qf2 {os:List Value}{k:Nat}(h:k<os.length):os.take (k+1)=os.take k++[vget os k]:=by
 rw [qal undef h,qay]
theorem qiS {w0 w:World}{t:TTask}{size:Int}{ov:Value}{os:List Value}{Γ:List HP}(hw:Sat w0 w (OS tVal 22 ov (os.take 32)::RowsAt tInt 3 os (sysL t (clip3 size))::Γ)):∃ ss,RLs w ov ss (chsL t size):=by
 have hl:os.length=(sysL t (clip3 size)).length:=hw.swap.rowsLen
 refine⟨os.take 32,hw.rs 0 rfl,by unfold chsL;rw [List.length_take,List.length_take,hl],fun i hi => ?_⟩
 have h2:i<(sysL t (clip3 size)).length:=by unfold chsL at hi;rw [List.length_take] at hi;omega
 rw [qpJ hi,qmI (by unfold chsL at hi;rw [List.length_take] at hi ⊢;rw [hl];exact hi)]
 exact hw.swap.row h2
set_option maxRecDepth 8000 in
set_option maxHeartbeats 4000000 in
theorem qd2 {w0:World}{a b c d:Value}{vs:List OpV}{t:TTask}{size:Int}(ht:RTask w0 a b c d vs t) (hs:SmallT t) :
  Calls Tryz.prog 25 #[.agg #[a,b,c,d],.int .i64 size] w0 fun e w'=>∃ ov,e=.returned (.tuple #[ov,.nilIface])∧Sat w0 w' [RdH fun w=>∃ ss,RLs w ov ss (chsL t size)]:=by
 have hg:=hs.good
 have hsl:=qgt (t:=t) hs.vars (m:=clip3 size) (by unfold clip3;omega)
 have hw:=Sat.start w0
 refine qab (args:=[.agg #[a,b,c,d],.int .i64 size]) mixed Tryz.func25 rfl (by kernel_rfl) (Nat.le_of_ble_eq_true rfl) ?_
 repeat (first|refine qaa ?_|(refine qaf ?_;clear hw;intro p w hw))
 obtain⟨pt,hpt⟩:∃ pt,pt=p:=⟨p,rfl⟩
 subst hpt
 refine qad rfl (qcl (ht.at hw) hg hs.vars) ?_
 rintro _ w' ⟨lv,os,rfl,hk'⟩
 replace hw:=hw.call2 hk'
 clear hk'
 refine⟨_,rfl,?_⟩
 have hol:os.length=(sysL t (clip3 size)).length:=hw.rowsLen
 replace hw:=hw.nil (T:=tVal) (e:=22)
 repeat refine qaa ?_
 have hw1:Sat w0 w' [OS tVal 22 (.slice none 0 0) (os.take 0),RowsAt tInt 3 os (sysL t (clip3 size)),OS tVal 22 lv os,Box pt 26 [a,b,c,d]]:=hw
 refine qao [8,10,11,12,24,25,26,27,28,29,30,31,32,33,34,35,36,37,38,39,40,41,42,43] (G:=Nat) (H:=Value) (fun k ov=>[(24,.int .i64 k),(8,ov)]) (fun k ov w=>k≤os.length∧k≤32∧Sat w0 w [OS tVal 22 ov (os.take k),RowsAt tInt 3 os (sysL t (clip3 size)),OS tVal 22 lv os,Box pt 26 [a,b,c,d]]) (fun k _=>os.length-k) 0 (.slice none 0 0) (fun _ _=>rfl) ⟨rfl,rfl,trivial⟩ ⟨Nat.zero_le _,by omega,hw1⟩ ?_
 clear hw hw1
 rintro σ k ov w ⟨hk,hk32,hw⟩
 have htl:(os.take k).length=k:=by rw [List.length_take];omega
 repeat refine qaa ?_
 refine go_if (fun h1 => ?_) (fun h1 => ?_)
 ·have hkl:k<os.length:=by omega
  have hkm:k<(sysL t (clip3 size)).length:=by omega
  have hrow:=hw.swap.row hkm
  repeat refine qaa ?_
  refine go_if (fun h2 => ?_) (fun h2 => ?_)
  ·have hke:k=32:=by omega
   subst hke
   repeat refine qaa ?_
   exact qaq (v:=ov) (v':=.nilIface) rfl rfl rfl ⟨ov,rfl,(Sat.rd (Δ:=[OS tVal 22 ov (os.take 32),RowsAt tInt 3 os (sysL t (clip3 size)),OS tVal 22 lv os,Box pt 26 [a,b,c,d]]) (Γ:=[]) (φ:=fun w=>∃ ss,RLs w ov ss (chsL t size)) (fun _ _ h=>qiS h) hw).only⟩
  have he1:pErr t ((sysL t (clip3 size)).getD k [])=0:=(qdc hs (qgU (by rw [qak hkm];exact List.getElem_mem hkm))).1
  obtain⟨L,hL⟩:∃ L,L=(sysL t (clip3 size)).getD k []:=⟨_,rfl⟩
  rw [←hL] at he1 hrow
  repeat refine qaa ?_
  refine qad rfl (qcn (vp:=vget os k) (L:=L) (ht.at hw) hrow) ?_
  rintro _ w' ⟨cv,ev,gv,rfl,hk'⟩
  rw [he1,qdM] at hk'
  rw [he1,qat rfl,qdM,qiP]
  have hw2:=hw.call hk'
  clear hk' hw
  have hw:=hw2
  clear hw2
  refine⟨_,rfl,?_⟩
  have o1:=(hw.rs 0 rfl).one
  have o2:=(hw.rs 1 rfl).one
  have o3:=(hw.rs 2 rfl).one
  repeat (first|refine qaa ?_|(refine qaf ?_;clear hw;intro p w hw))
  refine qaB (n:=5) (p:=p) (vs:=[.int .i64 (cntL t.vars L),.int .i64 (idxL t.vars L t.init),cv,ev,gv]) rfl rfl hw inferInstance rfl rfl (by simp only [List.all_cons,List.all_nil,o1,o2,o3];rfl) ?_
  clear hw
  intro w hw
  repeat (first|refine qaa ?_|(refine qap ?_;clear hw;intro s w hw))
  obtain⟨ov2,hov2⟩:∃ ov2,ov2=s:=⟨s,rfl⟩
  subst hov2
  rw [←qf2 hkl] at hw
  exact⟨k+1,ov2,⟨rfl,rfl,trivial⟩,agr,⟨by omega,by omega,hw.tail.tail.tail.tail.tail⟩,by omega⟩
 repeat refine qaa ?_
 have hke:os.take k=os.take 32:=by rw [List.take_of_length_le (by omega),List.take_of_length_le (by omega)]
 rw [hke] at hw
 exact qaq (v:=ov) (v':=.nilIface) rfl rfl rfl ⟨ov,rfl,(Sat.rd (Δ:=[OS tVal 22 ov (os.take 32),RowsAt tInt 3 os (sysL t (clip3 size)),OS tVal 22 lv os,Box pt 26 [a,b,c,d]]) (Γ:=[]) (φ:=fun w=>∃ ss,RLs w ov ss (chsL t size)) (fun _ _ h=>qiS h) hw).only⟩
end Go.Proofs.YtggdgcmjcahbbaaGreatDoor
/-
  Contract of 'saturate.New'.
-/
namespace Go.Proofs.YtggdgcmjcahbbaaGreatDoor
open Go.Sl Go
attribute [local irreducible] vc opsW opsD opV opW PureV ReadV Thn Blk
def DbF (t:TTask) (Ls:List (List Int)) (qs:List Value) (Ds:List (List Int)) (w:World):Prop:=qs.length=Ds.length∧∀ i,i<Ds.length→∃ q,vget qs i=.pointer (some q)∧RDb w q (dbI t (Ls.getD i []) (Ds.getD i []))
def PaF (ps:List Value) (Ps:List (List Int)) (w:World):Prop:=ps.length=Ps.length∧∀ i,i<Ps.length→RS tInt w (vget ps i) (Ps.getD i [])
def RPt (w:World) (p:Addr) (t:TTask) (Ls Ds Ps:List (List Int)):Prop:=∃ vv dv pv qs ps,BoxR w p [vv,dv,pv]∧RS tInt w vv t.vars∧RS tVal w dv qs∧DbF t Ls qs Ds w∧RS tVal w pv ps∧PaF ps Ps w
theorem DbF.at {w0 w:World}{Γ:List HP}{t:TTask}{Ls:List (List Int)}{qs:List Value}{Ds:List (List Int)}(h:DbF t Ls qs Ds w0) (hw:Sat w0 w Γ):DbF t Ls qs Ds w:=⟨h.1,fun i hi=>let ⟨q,a,b⟩:=h.2 i hi;⟨q,a,b.at hw⟩⟩
theorem PaF.at {w0 w:World}{Γ:List HP}{ps:List Value}{Ps:List (List Int)}(h:PaF ps Ps w0) (hw:Sat w0 w Γ):PaF ps Ps w:=⟨h.1,fun i hi=>(h.2 i hi).at hw⟩
theorem RPt.at {w0 w:World}{Γ:List HP}{p:Addr}{t:TTask}{Ls Ds Ps:List (List Int)}(h:RPt w0 p t Ls Ds Ps) (hw:Sat w0 w Γ):RPt w p t Ls Ds Ps:=by
 obtain⟨vv,dv,pv,qs,ps,h1,h2,h3,h4,h5,h6⟩:=h
 exact⟨vv,dv,pv,qs,ps,h1.at hw,h2.at hw,h3.at hw,h4.at hw,h5.at hw,h6.at hw⟩
theorem qfF {ss:List Value}{v:Value}{i:Nat}(h:i<ss.length):vget (ss++[v]) i=vget ss i:=by simp [qay,List.getD_eq_getElem?_getD,List.getElem?_append_left h]
theorem qey {ss:List Value}{v:Value}{i:Nat}(h:i=ss.length):vget (ss++[v]) i=v:=by subst h;simp [qay,List.getD_eq_getElem?_getD]
theorem DbF.snoc {t:TTask}{Ls:List (List Int)}{qs:List Value}{Ds:List (List Int)}{w:World}{q:Addr}{D:List Int}(h:DbF t Ls qs Ds w) (hq:RDb w q (dbI t (Ls.getD Ds.length []) D)):DbF t Ls (qs++[.pointer (some q)]) (Ds++[D]) w:=by
 have h1:=h.1
 refine⟨by simp [h1],fun i hi => ?_⟩
 simp only [List.length_append,List.length_cons,List.length_nil] at hi
 by_cases e:i<Ds.length
 ·rw [qfF (by omega),qbg e];exact h.2 i e
 ·have e2:i=Ds.length:=by omega
  rw [qey (by omega),qaR e2,e2]
  exact⟨q,rfl,hq⟩
theorem PaF.snoc {ps:List Value}{Ps:List (List Int)}{w:World}{s:Value}{S:List Int}(h:PaF ps Ps w) (hs:RS tInt w s S):PaF (ps++[s]) (Ps++[S]) w:=by
 have h1:=h.1
 refine⟨by simp [h1],fun i hi => ?_⟩
 simp only [List.length_append,List.length_cons,List.length_nil] at hi
 by_cases e:i<Ps.length
 ·rw [qfF (by omega),qbg e];exact h.2 i e
 ·have e2:i=Ps.length:=by omega
  rw [qey (by omega),qaR e2]
  exact hs
open Classical in
noncomputable def nErr (t:TTask) (Ls:List (List Int)):Int:=if checkT t≠0 then checkT t else if ∃ i,i<Ls.length∧¬PatOk t.vars (Ls.getD i []) then 2 else if 32<Ls.length then 5 else 0
def cstK (t:TTask) (k:Nat):List Int:=(List.range t.ops.length).map fun i=>if i<k then (costsT t).getD i tInt.dflt else 0
theorem qnn (t:TTask) (k:Nat):(cstK t k).length=t.ops.length:=by simp [cstK]
theorem qlD (t:TTask):cstK t 0=List.replicate t.ops.length 0:=by
 apply List.ext_getElem (by simp [cstK])
 intro i h1 h2;simp [cstK]
theorem qno (t:TTask):cstK t t.ops.length=costsT t:=by
 apply List.ext_getElem (by simp [cstK,costsT])
 intro i h1 h2
 have hi:i<t.ops.length:=by simpa [cstK] using h1
 simp [cstK,hi,List.getD,h2]
theorem qnp {t:TTask}{k:Nat}:(cstK t k).set k ((costsT t).getD k tInt.dflt)=cstK t (k+1):=by
 apply List.ext_getElem (by simp [cstK])
 intro i h1 h2
 rw [List.getElem_set]
 simp only [cstK,List.getElem_map,List.getElem_range]
 split
 ·rename_i e;subst e;rw [if_pos (by omega)]
 ·by_cases h:i<k
  ·rw [if_pos h,if_pos (by omega)]
  ·rw [if_neg h,if_neg (by omega)]
theorem qpP {t:TTask}{cs:List Int}(h:cs.length=t.ops.length):csU t cs=cs:=by
 unfold csU
 split
 ·rename_i h0
  rw [List.eq_nil_of_length_eq_zero h0]
  exact List.eq_nil_of_length_eq_zero (by simp only [costsT,List.length_map];omega)
 ·rfl
theorem CostOkS.berr {t:TTask}{c L:List Int}(h:CostOkS t c) (hg:GoodT t) (hp:pErr t L=0):bErr t L c=0:=by
 unfold bErr
 rw [if_neg (by rw [(qaM t).2 hg];decide),if_neg (by have:=h.len;omega),if_neg (fun⟨x,hx,hb⟩=>by have:=h.rng x hx;unfold BadC at hb;omega),hp]
set_option maxRecDepth 8000 in
set_option maxHeartbeats 8000000 in
theorem qgW {w0:World}{a b c d s:Value}{vs:List OpV}{t:TTask}{ss:List Value}{Ls:List (List Int)}(ht:RTask w0 a b c d vs t) (hl:RLs w0 s ss Ls) (hP:GoodT t→(∀ i,i<Ls.length→PatOk t.vars (Ls.getD i []))→Ls.length≤32→∀ i,i<Ls.length→pErr t (Ls.getD i [])=0) :
  Calls Tryz.prog 10 #[.agg #[a,b,c,d],s] w0 fun e w' =>
   (nErr t Ls≠0∧e=.returned (.tuple #[.pointer none,errV (nErr t Ls)])∧Sat w0 w' []) ∨
   (nErr t Ls=0∧GoodT t∧Ls.length≤32∧(∀ i,i<Ls.length→pErr t (Ls.getD i [])=0)∧∃ p Ds Ps,e=.returned (.tuple #[.pointer (some p),.nilIface])∧Run t Ls (costsT t) Ds Ps∧Sat w0 w' [RdH fun w=>RPt w p t Ls Ds Ps]):=by
 have ht':=ht
 obtain⟨ha,hb,hc,hd⟩:=ht
 have hrs:=hd.rs
 have hdl:=hd.len
 have hlr:=hl.rs
 have hln:=hl.len
 have hlb:=hlr.big
 have hw:=Sat.start w0
 refine qab (args:=[.agg #[a,b,c,d],s]) mixed Tryz.func10 rfl (by kernel_rfl) (Nat.le_of_ble_eq_true rfl) ?_
 repeat (first|refine qaa ?_|(refine qaf ?_;clear hw;intro p w hw))
 obtain⟨pt,hpt⟩:∃ pt,pt=p:=⟨p,rfl⟩
 subst hpt
 refine qad rfl (qa5 (ht'.at hw)) ?_
 rintro _ w' ⟨rfl,hk'⟩
 replace hw:=hw.call0 hk'
 clear hk'
 refine⟨_,rfl,?_⟩
 by_cases h1:checkT t=0
 rotate_left
 ·have hbe:nErr t Ls=checkT t:=if_pos h1
  rw [qan h1]
  repeat refine qaa ?_
  exact qaq (v:=.pointer none) (v':=.iface 74 (.int .i64 (checkT t))) rfl rfl rfl (.inl ⟨by rw [hbe];exact h1,by rw [hbe,qan h1],hw.sel⟩)
 rw [qat h1]
 have hg:=(qaM t).1 h1
 have hol:=hg.ops
 repeat refine qaa ?_
 refine qad rfl (qkR (ht'.at hw) (boxRO hw) (hl.at hw)) ?_
 rintro _ w' ⟨⟨r,rfl,hr⟩,hk'⟩
 replace hw:=hw.call0 hk'
 clear hk'
 refine⟨_,rfl,?_⟩
 cases r
 rotate_left
 ·have hbe:nErr t Ls=2:=by unfold nErr;rw [if_neg (by simp [h1]),if_pos (hr.1 rfl)]
  repeat refine qaa ?_
  exact qaq (v:=.pointer none) (v':=.iface 74 (.int .i64 2)) rfl rfl rfl (.inl ⟨by rw [hbe];decide,by rw [hbe,qan (by decide)],hw.sel⟩)
 have hpat:∀ i,i<Ls.length→PatOk t.vars (Ls.getD i []):=fun i hi=>by
  by_cases h:PatOk t.vars (Ls.getD i [])
  ·exact h
  ·have:=hr.2 ⟨i,hi,h⟩;cases this
 have hnp:¬∃ i,i<Ls.length∧¬PatOk t.vars (Ls.getD i []):=fun⟨i,hi,h⟩=>h (hpat i hi)
 repeat refine qaa ?_
 refine go_if (fun h2 => ?_) (fun h2 => ?_)
 ·have hbe:nErr t Ls=5:=by unfold nErr;rw [if_neg (by simp [h1]),if_neg hnp,if_pos (by omega)]
  repeat refine qaa ?_
  exact qaq (v:=.pointer none) (v':=.iface 74 (.int .i64 5)) rfl rfl rfl (.inl ⟨by rw [hbe];decide,by rw [hbe,qan (by decide)],hw.sel⟩)
 have hbe:nErr t Ls=0:=by unfold nErr;rw [if_neg (by simp [h1]),if_neg hnp,if_neg (by omega)]
 have hL32:Ls.length≤32:=by omega
 have hpe:=hP hg hpat hL32
 repeat (first|refine qaa ?_|(refine qap ?_;clear hw;intro s w hw))
 obtain⟨lv,hlv⟩:∃ lv,lv=s:=⟨s,rfl⟩
 subst hlv
 rw [show ((vs.length:Int)).toNat=t.ops.length by omega,←qlD t] at hw
 refine qaj [8,9,37,38,39,40,41,42,43,44,45,46,47] (G:=Nat) (fun k=>[(37,.int .i64 k)]) (fun k w=>k≤t.ops.length∧Sat w0 w [OS tInt 3 lv (cstK t k),Box pt 26 [a,b,c,d]]) (fun k=>t.ops.length-k) 0 (fun _=>rfl) ⟨rfl,trivial⟩ ⟨Nat.zero_le _,hw⟩ ?_
 clear hw
 rintro σ k w ⟨hk,hw⟩
 have hcl:=qnn t k
 repeat refine qaa ?_
 refine go_if (fun h3 => ?_) (fun h3 => ?_)
 ·have hkl:k<t.ops.length:=by omega
  have hop:=hd.at_ k hkl
  have hone:=hop.one
  have hco:=hop.cost
  repeat (first|refine qaa ?_|(refine qaf ?_;clear hw;intro p w hw)|(refine qag ?_;clear hw;intro w hw))
  rw [hco,←qhn hkl,qnp] at hw
  exact⟨k+1,⟨rfl,trivial⟩,agr,⟨by omega,hw.sel⟩,by omega⟩
 have hke:k=t.ops.length:=by omega
 subst hke
 rw [qno] at hw
 clear hcl
 have hC:=qn6 hg
 have hvb:t.vars.length≤1099511627776:=by have:=hg.vars;omega
 repeat refine qaa ?_
 refine qad rfl (qaE (ha.at hw) hvb) ?_
 rintro _ w' ⟨vv,rfl,hk'⟩
 replace hw:=hw.call1 hk'
 clear hk'
 refine⟨_,rfl,?_⟩
 have ovv:=(hw.rs 0 rfl).one
 refine qeX (v1:=vv) rfl rfl (by simp only [List.all_cons,List.all_nil,ovv];rfl) ?_
 refine qa1 (vs:=[vv,.slice none 0 0,.slice none 0 0]) rfl hw ?_
 clear hw
 intro pp w hw
 repeat refine qaa ?_
 have hw1:Sat w0 w [OS tInt 3 lv (leftK (costsT t) [] 0),RdH (DbF t Ls [] []),RdH (PaF [] []),OS tVal 67 (.slice none 0 0) [],OS tVal 22 (.slice none 0 0) [],Box pp 76 [vv,.slice none 0 0,.slice none 0 0],OS tInt 3 vv t.vars,Box pt 26 [a,b,c,d]]:=by
  have hw2:Sat w0 w [Box pp 76 [vv,.slice none 0 0,.slice none 0 0],OS tInt 3 vv t.vars,OS tInt 3 lv (costsT t),Box pt 26 [a,b,c,d]]:=hw
  have hw3:=Sat.rd0 (φ:=PaF [] []) (fun w=>⟨rfl,fun i hi=>absurd hi (Nat.not_lt_zero _)⟩) (Sat.rd0 (φ:=DbF t Ls [] []) (fun w=>⟨rfl,fun i hi=>absurd hi (Nat.not_lt_zero _)⟩) ((hw2.nil (T:=tVal) (e:=67)).nil (T:=tVal) (e:=22)))
  rw [qkA]
  exact hw3.sel
 clear hw
 refine qaj [4,5,12,13,14,15,16,55,56,57,58,59,60,61,62,63,64,65,66,67,68,69,70,71,72,73,74,75,76,77,78,79,80,81,82,83,84,85,86,87,88,89,90,91,92,93,94,95,96,97,98,99,100,101,102,103,104,105,106,107] (G:=Nat × Value × Value × List Value × List Value × List (List Int) × List (List Int)) (fun x=>[(55,.int .i64 x.1)]) (fun x w=>x.1≤Ls.length∧Run t (Ls.take x.1) (costsT t) x.2.2.2.2.2.1 x.2.2.2.2.2.2∧x.2.2.2.1.length=x.1∧x.2.2.2.2.1.length=x.1∧Sat w0 w [OS tInt 3 lv (leftK (costsT t) x.2.2.2.2.2.2 x.1),RdH (DbF t Ls x.2.2.2.1 x.2.2.2.2.2.1),RdH (PaF x.2.2.2.2.1 x.2.2.2.2.2.2),OS tVal 67 x.2.1 x.2.2.2.1,OS tVal 22 x.2.2.1 x.2.2.2.2.1,Box pp 76 [vv,x.2.1,x.2.2.1],OS tInt 3 vv t.vars,Box pt 26 [a,b,c,d]]) (fun x=>Ls.length-x.1) (0,.slice none 0 0,.slice none 0 0,[],[],[],[]) (fun _=>rfl) ⟨rfl,trivial⟩ ⟨Nat.zero_le _,Run.nil t _,rfl,rfl,hw1⟩ ?_
 clear hw1
 rintro σ1 ⟨k,dv,pv,qs,ps,Ds,Ps⟩ w ⟨hk,hR,hql,hpl,hw⟩
 simp only at hk hR hql hpl hw
 have htk:(Ls.take k).length=k:=by rw [List.length_take];omega
 have hDsl:Ds.length=k:=by rw [hR.dl,htk]
 have hPsl:Ps.length=k:=by rw [hR.pl,htk]
 repeat refine qaa ?_
 refine go_if (fun h4 => ?_) (fun h4 => ?_)
 ·have hkl:k<Ls.length:=by omega
  have hpk:=hpe k hkl
  have hCk:CostOkS t (leftK (costsT t) Ps k):=hR.cost hC k (by omega)
  repeat refine qaa ?_
  refine qad rfl (qdP (kv:=lv) (vp:=vget ss k) (L:=(Ls.getD k [])) (cs:=leftK (costsT t) Ps k) (ht'.at hw) ((hl.at_ k hkl).at hw) (rsO hw)) ?_
  rintro _ w' (⟨h1',_⟩|⟨_,_,_,_,q,D,rfl,hD,hk'⟩)
  ·exact absurd (hCk.berr hg hpk) h1'
  rw [qpP hCk.len] at hD
  replace hw:=hw.call1 hk'
  clear hk'
  refine⟨_,rfl,?_⟩
  have hdb:=qlu hpk hD
  repeat refine qaa ?_
  refine qad rfl (qfv (rdbO hw) hdb) ?_
  rintro _ w' ⟨sv,rfl,hk'⟩
  replace hw:=hw.call1 hk'
  clear hk'
  refine⟨_,rfl,?_⟩
  obtain⟨hCs,hSr⟩:=hCk.sub hD
  have hm:(dbI t (Ls.getD k []) D).sys.costs.length=t.ops.length:=by show (costsT t).length=_;simp [costsT]
  rw [hm] at hw
  have hSl:(satL (pEdges t (Ls.getD k [])) D t.ops.length).length=t.ops.length:=qnU
  obtain⟨S,hS⟩:∃ S,S=satL (pEdges t (Ls.getD k [])) D t.ops.length:=⟨_,rfl⟩
  have hll:=hCk.len
  have hw1:Sat w0 w' [OS tInt 3 lv (subK (leftK (costsT t) Ps k) S 0),OS tInt 3 sv S,DbO q (dbI t (Ls.getD k []) D),RdH (DbF t Ls qs Ds),RdH (PaF ps Ps),OS tVal 67 dv qs,OS tVal 22 pv ps,Box pp 76 [vv,dv,pv],OS tInt 3 vv t.vars,Box pt 26 [a,b,c,d]]:=by
   have hw2:Sat w0 w' [OS tInt 3 sv (satL (pEdges t (Ls.getD k [])) D t.ops.length),DbO q (dbI t (Ls.getD k []) D),OS tInt 3 lv (leftK (costsT t) Ps k),RdH (DbF t Ls qs Ds),RdH (PaF ps Ps),OS tVal 67 dv qs,OS tVal 22 pv ps,Box pp 76 [vv,dv,pv],OS tInt 3 vv t.vars,Box pt 26 [a,b,c,d]]:=hw
   rw [←hS] at hw2
   rw [qmm]
   exact hw2.sel
  clear hw
  have hw:=hw1
  clear hw1
  rw [←hS] at hCs hSr hSl
  have hl0:=qjO (leftK (costsT t) Ps k) S 0
  repeat refine qaa ?_
  refine qaj [16,73,74,75,76,77,78,79,80,81,82,83,84,85,86] (G:=Nat) (fun j=>[(73,.int .i64 j)]) (fun j w=>j≤t.ops.length∧Sat w0 w [OS tInt 3 lv (subK (leftK (costsT t) Ps k) S j),OS tInt 3 sv S,DbO q (dbI t (Ls.getD k []) D),RdH (DbF t Ls qs Ds),RdH (PaF ps Ps),OS tVal 67 dv qs,OS tVal 22 pv ps,Box pp 76 [vv,dv,pv],OS tInt 3 vv t.vars,Box pt 26 [a,b,c,d]]) (fun j=>t.ops.length-j) 0 (fun _=>rfl) ⟨rfl,trivial⟩ ⟨Nat.zero_le _,hw⟩ ?_
  clear hw
  rintro σ2 j w ⟨hj,hw⟩
  have hlj:=qjO (leftK (costsT t) Ps k) S j
  repeat refine qaa ?_
  refine go_if (fun h5 => ?_) (fun h5 => ?_)
  ·have hjl:j<t.ops.length:=by omega
   have hsj:=hSr j hjl
   have hcj:=hCk.at hjl
   have hat:=qpv (a:=leftK (costsT t) Ps k) (b:=S) (j:=j) (by omega)
   repeat (first|refine qaa ?_|(refine qag ?_;clear hw;intro w hw))
   rw [hat,qn5] at hw
   exact⟨j+1,⟨rfl,trivial⟩,agr,⟨by omega,hw⟩,by omega⟩
  have hje:j=t.ops.length:=by omega
  subst hje
  have hnx:leftK (costsT t) (Ps++[S]) (k+1)=subL (leftK (costsT t) Ps k) S:=by
   rw [qcH (by simp;omega),qhO (by omega),qaR hPsl.symm]
  have hend:subK (leftK (costsT t) Ps k) S t.ops.length=subL (leftK (costsT t) Ps k) S:=by rw [←hll,qn4]
  rw [hend,←hnx] at hw
  have hR2:Run t (Ls.take (k+1)) (costsT t) (Ds++[D]) (Ps++[S]):=by
   rw [qal [] hkl,hS]
   exact hR.snoc (by rw [htk];exact hD)
  have osv:=(rsO (s:=sv) hw).cells1
  repeat refine qaa ?_
  refine qie (.step 0 [.op 0] (.step 1 [.op 1] (.step 2 [.op 2] (.step 3 [.op 3] (.step 4 [.op 4] (.step 6 [.op 6] (.step 9 [.op 9] (.step 10 [.op 10] (.step 11 [.op 11] (.step 13 [.op 13] (.step 5 [.op 5] (.step 12 [.op 12] (.alt 7 [.op 7,.chk 5,.chk 12] (.alt 8 [.op 8,.chk 12] (.step 14 [.op 14,.chk 5,.chk 12] (.step 15 [.op 15] (.step 16 [.op 16] (.step 17 [.op 17] (.step 18 [.op 18] (.step 19 [.op 19] (.step 20 [.op 20] (.step 21 [.op 21] (.lin []))))))))) (.alt 14 [.op 14,.chk 5,.chk 12] (.step 8 [.op 8,.chk 12] (.step 15 [.op 15] (.step 16 [.op 16] (.step 17 [.op 17] (.step 18 [.op 18] (.step 19 [.op 19] (.step 20 [.op 20] (.step 21 [.op 21] (.lin []))))))))) (.stop))) (.alt 14 [.op 14,.chk 5,.chk 12] (.step 7 [.op 7,.chk 5,.chk 12] (.step 8 [.op 8,.chk 12] (.step 15 [.op 15] (.step 16 [.op 16] (.step 17 [.op 17] (.step 18 [.op 18] (.step 19 [.op 19] (.step 20 [.op 20] (.step 21 [.op 21] (.lin [])))))))))) (.stop))))))))))))))) hw (by kernel_rfl) (by kernel_rfl) ?_;clear hw;intro w hw
  repeat' (first
   | refine qaa ?_
   | (refine qas ?_;clear hw;intro w hw)
   | refine qa7 ?_ ?_
   | exact qbM
   | (refine qam tVal (x1:=.pointer (some q)) rfl rfl rfl (Nat.le_of_ble_eq_true rfl) (Nat.zero_lt_succ _) hw ?_;clear hw;intro bq w hw)
   | (refine qam tVal (x1:=sv) rfl osv rfl (Nat.le_of_ble_eq_true rfl) (Nat.zero_lt_succ _) hw ?_;clear hw;intro bs w hw)
   | (refine qaY (s:=dv) (s2:=bq) inferInstance rfl rfl (rsO hw) rfl rfl (fun x hx v hv=>by rw [List.mem_singleton.1 hx] at hv;rw [List.mem_singleton.1 hv];rfl) (by simp only [List.length_cons,List.length_nil];omega) (by unfold big;simp only [List.length_cons,List.length_nil];omega) hw ?_;clear hw;intro dv2 w hw)
   | (refine qaY (s:=pv) (s2:=bs) inferInstance rfl rfl (rsO hw) rfl rfl (fun x hx v hv=>by rw [List.mem_singleton.1 hx] at hv;rw [List.mem_singleton.1 hv];exact RS.one (rsO (s:=sv) hw)) (by simp only [List.length_cons,List.length_nil];omega) (by unfold big;simp only [List.length_cons,List.length_nil];omega) hw ?_;clear hw;intro pv2 w hw))
  all_goals (
   have hw2:Sat w0 w [OS tInt 3 lv (leftK (costsT t) (Ps++[S]) (k+1)),OS tInt 3 sv S,DbO q (dbI t (Ls.getD k []) D),RdH (DbF t Ls qs Ds),RdH (PaF ps Ps),OS tVal 67 dv2 (qs++[.pointer (some q)]),OS tVal 22 pv2 (ps++[sv]),Box pp 76 [vv,dv2,pv2],OS tInt 3 vv t.vars,Box pt 26 [a,b,c,d]]:=hw.tail.tail
   have hw1:Sat w0 w [DbO q (dbI t (Ls.getD k []) D),RdH (DbF t Ls qs Ds),OS tInt 3 sv S,RdH (PaF ps Ps),OS tInt 3 lv (leftK (costsT t) (Ps++[S]) (k+1)),OS tVal 67 dv2 (qs++[.pointer (some q)]),OS tVal 22 pv2 (ps++[sv]),Box pp 76 [vv,dv2,pv2],OS tInt 3 vv t.vars,Box pt 26 [a,b,c,d]]:=hw2.sel
   have hw3:=Sat.rd2 (χ:=DbF t Ls (qs++[.pointer (some q)]) (Ds++[D])) (fun w h1 h2=>h2.snoc (by rw [hDsl];exact h1)) (Sat.rd (Δ:=[DbO q (dbI t (Ls.getD k []) D)]) (φ:=fun w=>RDb w q (dbI t (Ls.getD k []) D)) (fun _ _ h=>satRdb h 0 rfl) hw1)
   have hw4:Sat w0 w [OS tInt 3 sv S,RdH (PaF ps Ps),RdH (DbF t Ls (qs++[.pointer (some q)]) (Ds++[D])),OS tInt 3 lv (leftK (costsT t) (Ps++[S]) (k+1)),OS tVal 67 dv2 (qs++[.pointer (some q)]),OS tVal 22 pv2 (ps++[sv]),Box pp 76 [vv,dv2,pv2],OS tInt 3 vv t.vars,Box pt 26 [a,b,c,d]]:=hw3.sel
   have hw5:=Sat.rd2 (χ:=PaF (ps++[sv]) (Ps++[S])) (fun w h1 h2=>h2.snoc h1) (Sat.rd (Δ:=[OS tInt 3 sv S]) (φ:=fun w=>RS tInt w sv S) (fun _ _ h=>h.rs 0 rfl) hw4)
   exact⟨(k+1,dv2,pv2,qs++[.pointer (some q)],ps++[sv],Ds++[D],Ps++[S]),⟨rfl,trivial⟩,agr,⟨hkl,hR2,by simp [hql],by simp [hpl],hw5.sel⟩,by simp only;omega⟩)
 ·have hke:k=Ls.length:=by omega
  subst hke
  rw [List.take_length] at hR
  repeat refine qaa ?_
  have hw1:Sat w0 w [RdH (DbF t Ls qs Ds),RdH (PaF ps Ps),OS tVal 67 dv qs,OS tVal 22 pv ps,Box pp 76 [vv,dv,pv],OS tInt 3 vv t.vars]:=hw.sel
  have hw2:=Sat.rd (Δ:=[RdH (DbF t Ls qs Ds),RdH (PaF ps Ps),OS tVal 67 dv qs,OS tVal 22 pv ps,Box pp 76 [vv,dv,pv],OS tInt 3 vv t.vars]) (Γ:=[]) (φ:=fun w=>RPt w pp t Ls Ds Ps) (fun _ w h=>⟨vv,dv,pv,qs,ps,h.boxR 4 rfl,h.rs 5 rfl,h.rs 2 rfl,h.rdE 0 rfl,h.rs 3 rfl,h.rdE 1 rfl⟩) hw1
  exact qaq (v:=.pointer (some pp)) (v':=.nilIface) rfl rfl rfl (.inr ⟨hbe,hg,hL32,hpe,pp,Ds,Ps,rfl,hR,hw2⟩)
end Go.Proofs.YtggdgcmjcahbbaaGreatDoor
/-
  Contract of 'patterns.New'.
-/
namespace Go.Proofs.YtggdgcmjcahbbaaGreatDoor
open Go.Sl Go
attribute [local irreducible] vc opsW opsD opV opW PureV ReadV Thn Blk
def RCan (w:World) (p:Addr) (t:TTask) (Ls Ds Cs:List (List Int)):Prop:=∃ vv dv cv qs fs,BoxR w p [vv,dv,cv]∧RS tInt w vv t.vars∧RS tVal w dv qs∧DbF t Ls qs Ds w∧RLs w cv fs Cs
open Classical in
noncomputable def clqErr (t:TTask) (Ls:List (List Int)):Int:=if lErr t Ls≠0 then lErr t Ls else if 32<Ls.length then 5 else if 0<Ls.length∧ClqFull Ls.length (nbA Ls.length (arcP t Ls Ls.length)) then 10 else 0
theorem qm1 {t:TTask}{Ls:List (List Int)}(h:lErr t Ls≠0):clqErr t Ls=lErr t Ls:=by rw [clqErr,if_pos h]
theorem qm2 {t:TTask}{Ls:List (List Int)}(h:lErr t Ls=0) (h1:32<Ls.length):clqErr t Ls=5:=by rw [clqErr,if_neg (by simp [h]),if_pos h1]
theorem qk1 {t:TTask}{Ls:List (List Int)}(h:lErr t Ls=0) (h0:0<Ls.length) (h1:Ls.length≤32) (hf:ClqFull Ls.length (nbA Ls.length (arcP t Ls Ls.length))):clqErr t Ls=10:=by rw [clqErr,if_neg (by simp [h]),if_neg (by omega),if_pos ⟨h0,hf⟩]
theorem qj3 {t:TTask}{Ls:List (List Int)}(h:lErr t Ls=0) (h0:Ls.length=0):clqErr t Ls=0:=by rw [clqErr,if_neg (by simp [h]),if_neg (by omega),if_neg (by omega)]
theorem qg7 {n:Nat}{N:Nat→Nat}{Cs:List (List Int)}(hc:CliqL n N Cs) (hl:Cs.length≤4096):¬ClqFull n N:=by
 rintro⟨M,hd,hml,hm⟩
 have h1:=qfO hd hm
 have h2:=qlM h1 (M:=Cs) fun x hx=>by
  obtain⟨C,hC,rfl⟩:=List.mem_map.1 hx
  exact (hc _).2 ⟨C,hm C hC,rfl⟩
 rw [List.length_map] at h2
 omega
theorem qk2 {t:TTask}{Ls Cs:List (List Int)}(h:lErr t Ls=0) (h1:Ls.length≤32) (hc:CliqL Ls.length (nbA Ls.length (arcP t Ls Ls.length)) Cs) (hl:Cs.length≤4096):clqErr t Ls=0:=by rw [clqErr,if_neg (by simp [h]),if_neg (by omega),if_neg (fun hh=>qg7 hc hl hh.2)]
set_option maxRecDepth 8000 in
set_option maxHeartbeats 8000000 in
theorem qdO {w0:World}{a b c d s:Value}{vs:List OpV}{t:TTask}{ss:List Value}{Ls:List (List Int)}(ht:RTask w0 a b c d vs t) (hl:RLs w0 s ss Ls) (hT:TabB w0) :
  Calls Tryz.prog 9 #[.agg #[a,b,c,d],s] w0 fun e w' =>
   (clqErr t Ls≠0∧e=.returned (.tuple #[.pointer none,errV (clqErr t Ls)])∧Sat w0 w' []) ∨
   (clqErr t Ls=0∧(∃ k,k<Ls.length∧(∀ i,i<k→bErr t (Ls.getD i []) []=0)∧bErr t (Ls.getD k []) []≠0∧e=.returned (.tuple #[.pointer none,errV (bErr t (Ls.getD k []) [])]))∧Sat w0 w' []) ∨
   (clqErr t Ls=0∧lErr t Ls=0∧Ls.length≤32∧(∀ i,i<Ls.length→bErr t (Ls.getD i []) []=0)∧∃ p Ds Cs,e=.returned (.tuple #[.pointer (some p),.nilIface])∧(Ls=[]→Cs=[])∧(Ls≠[]→CliqL Ls.length (nbA Ls.length (arcP t Ls Ls.length)) Cs)∧Cs.length≤4096∧Ds.length=Ls.length∧(∀ i,i<Ls.length→DistOk (pEdges t (Ls.getD i [])) (csU t []) (GoalPK t (Ls.getD i [])) (cntL t.vars (Ls.getD i [])).toNat (Ds.getD i []))∧Sat w0 w' [RdH fun w=>RCan w p t Ls Ds Cs]):=by
 have ht':=ht
 obtain⟨ha,hb,hc,hd⟩:=ht
 have hlr:=hl.rs
 have hln:=hl.len
 have hlb:=hlr.big
 have hw:=Sat.start w0
 refine qab (args:=[.agg #[a,b,c,d],s]) mixed Tryz.func9 rfl (by kernel_rfl) (Nat.le_of_ble_eq_true rfl) ?_
 repeat (first|refine qaa ?_|(refine qaf ?_;clear hw;intro p w hw))
 obtain⟨pt,hpt⟩:∃ pt,pt=p:=⟨p,rfl⟩
 subst hpt
 refine qad rfl (qfu (ht'.at hw) (hl.at hw) (hT.at hw)) ?_
 rintro _ w' hR
 rcases hR with ⟨hk,rfl,hk'⟩|⟨hk,h32,rfl,hk'⟩|⟨hk,hz,rfl,hk'⟩|⟨hk,h0,h32,hF,rfl,hk'⟩|⟨hk,h0,h32,fv,fs,Cs,rfl,hlex,hcl,hcnt,hk'⟩
 ·have hce:=qm1 hk
  replace hw:=hw.call0 hk'
  refine⟨_,rfl,?_⟩
  rw [hce,qan hk]
  repeat refine qaa ?_
  exact qaq (v:=.pointer none) (v':=.iface 74 (.int .i64 (lErr t Ls))) rfl rfl rfl (.inl ⟨hk,rfl,hw.sel⟩)
 ·have hce:=qm2 hk h32
  replace hw:=hw.call0 hk'
  refine⟨_,rfl,?_⟩
  rw [hce]
  repeat refine qaa ?_
  exact qaq (v:=.pointer none) (v':=errV 5) rfl rfl rfl (.inl ⟨by decide,rfl,hw.sel⟩)
 ·have hce:=qj3 hk hz
  have h32:Ls.length≤32:=by omega
  replace hw:=((hw.call0 hk').nil (T:=tVal) (e:=22)).rows0 (T:=tInt) (e:=3)
  clear hk'
  refine⟨_,rfl,?_⟩
  have hg:GoodT t:=(qaM t).1 (by
   by_cases h:checkT t=0
   ·exact h
   ·exact absurd hk (by rw [lErr,if_pos h];exact h))
  have hvb:t.vars.length≤1099511627776:=by have:=hg.vars;omega
  repeat refine qaa ?_
  refine qad rfl (qaE (ha.at hw) hvb) ?_
  rintro _ w' ⟨vv,rfl,hk'⟩
  replace hw:=hw.call1 hk'
  clear hk'
  refine⟨_,rfl,?_⟩
  have ovv:=(hw.rs 0 rfl).one
  have ofv:=(hw.rs 2 rfl).one
  repeat refine qaa ?_
  refine qbT (v1:=vv) (v2:=.slice none 0 0) rfl rfl rfl (by simp only [List.all_cons,List.all_nil,ovv,ofv];rfl) ?_
  refine qa1 (vs:=[vv,.slice none 0 0,.slice none 0 0]) rfl hw ?_
  clear hw
  intro pp w hw
  repeat refine qaa ?_
  have hw1:Sat w0 w [RdH (DbF t Ls [] []),OS tVal 67 (.slice none 0 0) [],Box pp 66 [vv,.slice none 0 0,.slice none 0 0],OS tInt 3 vv t.vars,RowsAt tInt 3 [] [],OS tVal 22 (.slice none 0 0) [],Box pt 26 [a,b,c,d]]:=by
   have hw2:Sat w0 w [Box pp 66 [vv,.slice none 0 0,.slice none 0 0],OS tInt 3 vv t.vars,RowsAt tInt 3 [] [],OS tVal 22 (.slice none 0 0) [],Box pt 26 [a,b,c,d]]:=hw
   have hw3:=Sat.rd0 (φ:=DbF t Ls [] []) (fun w=>⟨rfl,fun i hi=>absurd hi (Nat.not_lt_zero _)⟩) (hw2.nil (T:=tVal) (e:=67))
   exact hw3.sel
  clear hw
  refine qaj [4,5,10,11,12,30,31,32,33,34,35,36,37,38,39,40,41,42,43,44,45,46,47,48,49,50,51,52,53] (G:=Nat × Value × List Value × List (List Int)) (fun x=>[(30,.int .i64 x.1)]) (fun x w=>x.1≤Ls.length∧x.2.2.1.length=x.1∧x.2.2.2.length=x.1∧(∀ i,i<x.1→bErr t (Ls.getD i []) []=0∧DistOk (pEdges t (Ls.getD i [])) (csU t []) (GoalPK t (Ls.getD i [])) (cntL t.vars (Ls.getD i [])).toNat (x.2.2.2.getD i []))∧Sat w0 w [RdH (DbF t Ls x.2.2.1 x.2.2.2),OS tVal 67 x.2.1 x.2.2.1,Box pp 66 [vv,x.2.1,.slice none 0 0],OS tInt 3 vv t.vars,RowsAt tInt 3 [] [],OS tVal 22 (.slice none 0 0) [],Box pt 26 [a,b,c,d]]) (fun x=>Ls.length-x.1) (0,.slice none 0 0,[],[]) (fun _=>rfl) ⟨rfl,trivial⟩ ⟨Nat.zero_le _,rfl,rfl,fun i hi=>absurd hi (Nat.not_lt_zero _),hw1⟩ ?_
  clear hw1
  rintro σ ⟨k,dv,qs,Ds⟩ w ⟨hk1,hql,hDl,hD,hw⟩
  simp only at hk1 hql hDl hD hw
  repeat refine qaa ?_
  refine go_if (fun h1 => ?_) (fun h1 => ?_)
  ·have hkl:k<Ls.length:=by omega
   have hrk:=hl.at_ k hkl
   repeat refine qaa ?_
   refine qad rfl (qdP (kv:=.slice none 0 0) (vp:=vget ss k) (L:=Ls.getD k []) (cs:=[]) (ht'.at hw) (hrk.at hw) RS.nil) ?_
   rintro _ w' (⟨hb,rfl,hk'⟩|⟨hb,hp,_,_,q,D,rfl,hDk,hk'⟩)
   ·replace hw:=hw.call0 hk'
    clear hk'
    refine⟨_,rfl,?_⟩
    rw [qan hb]
    repeat refine qaa ?_
    exact qaq (v:=.pointer none) (v':=.iface 74 (.int .i64 (bErr t (Ls.getD k []) []))) rfl rfl rfl (.inr (.inl ⟨hce,⟨k,hkl,fun i hi=>(hD i hi).1,hb,by rw [qan hb]⟩,hw.sel⟩))
   ·replace hw:=hw.call1 hk'
    clear hk'
    refine⟨_,rfl,?_⟩
    have hqb:qs.length≤32:=by omega
    repeat (first|refine qaa ?_|(refine qag ?_;clear hw;intro w hw)|(refine qap ?_;clear hw;intro s w hw))
    obtain⟨dv2,hdv2⟩:∃ dv2,dv2=s:=⟨s,rfl⟩
    subst hdv2
    have hw1:Sat w0 w [DbO q (dbI t (Ls.getD k []) D),RdH (DbF t Ls qs Ds),OS tVal 67 dv2 (qs++[.pointer (some q)]),Box pp 66 [vv,dv2,.slice none 0 0],OS tInt 3 vv t.vars,RowsAt tInt 3 [] [],OS tVal 22 (.slice none 0 0) [],Box pt 26 [a,b,c,d]]:=hw.tail
    have hw3:=Sat.rd2 (χ:=DbF t Ls (qs++[.pointer (some q)]) (Ds++[D])) (fun w h1 h2=>h2.snoc (by rw [hDl];exact h1)) (Sat.rd (Δ:=[DbO q (dbI t (Ls.getD k []) D)]) (φ:=fun w=>RDb w q (dbI t (Ls.getD k []) D)) (fun _ _ h=>satRdb h 0 rfl) hw1)
    refine⟨(k+1,dv2,qs++[.pointer (some q)],Ds++[D]),⟨rfl,trivial⟩,agr,⟨by omega,by simp [hql],by simp [hDl],fun i hi => ?_,hw3.sel⟩,by simp only;omega⟩
    by_cases h:i=k
    ·subst h
     refine⟨hb,?_⟩
     rw [show (Ds++[D]).getD i []=D by simp [List.getD,List.getElem?_append,hDl]]
     exact hDk
    ·have:=hD i (by omega)
     rw [show (Ds++[D]).getD i []=Ds.getD i [] by simp [List.getD,List.getElem?_append,show i<Ds.length by omega]]
     exact this
  ·have hke:k=Ls.length:=by omega
   subst hke
   repeat refine qaa ?_
   have hw1:Sat w0 w [RdH (DbF t Ls qs Ds),OS tVal 67 dv qs,Box pp 66 [vv,dv,.slice none 0 0],OS tInt 3 vv t.vars,RowsAt tInt 3 [] [],OS tVal 22 (.slice none 0 0) []]:=hw.sel
   have hw2:=Sat.rd (Δ:=[RdH (DbF t Ls qs Ds),OS tVal 67 dv qs,Box pp 66 [vv,dv,.slice none 0 0],OS tInt 3 vv t.vars,RowsAt tInt 3 [] [],OS tVal 22 (.slice none 0 0) []]) (Γ:=[]) (φ:=fun w=>RCan w pp t Ls Ds []) (fun _ w h=>⟨vv,dv,.slice none 0 0,qs,[],h.boxR 2 rfl,h.rs 3 rfl,h.rs 1 rfl,h.rdE 0 rfl,h.rs 5 rfl,(h.focus 4 rfl).rowsLen,fun i hi=>(h.focus 4 rfl).row hi⟩) hw1
   exact qaq (v:=.pointer (some pp)) (v':=.nilIface) rfl rfl rfl (.inr (.inr ⟨hce,hk,h32,fun i hi=>(hD i hi).1,pp,Ds,[],rfl,fun _=>rfl,fun h=>absurd (List.eq_nil_of_length_eq_zero hz) h,Nat.zero_le _,hDl,fun i hi=>(hD i hi).2,hw2⟩))
 ·have hce:=qk1 hk h0 h32 hF
  replace hw:=hw.call0 hk'
  refine⟨_,rfl,?_⟩
  rw [hce]
  repeat refine qaa ?_
  exact qaq (v:=.pointer none) (v':=errV 10) rfl rfl rfl (.inl ⟨by decide,rfl,hw.sel⟩)
 ·have hce:=qk2 hk h32 hcl hcnt
  replace hw:=hw.call2 hk'
  clear hk'
  refine⟨_,rfl,?_⟩
  have hg:GoodT t:=(qaM t).1 (by
   by_cases h:checkT t=0
   ·exact h
   ·exact absurd hk (by rw [lErr,if_pos h];exact h))
  have hvb:t.vars.length≤1099511627776:=by have:=hg.vars;omega
  repeat refine qaa ?_
  refine qad rfl (qaE (ha.at hw) hvb) ?_
  rintro _ w' ⟨vv,rfl,hk'⟩
  replace hw:=hw.call1 hk'
  clear hk'
  refine⟨_,rfl,?_⟩
  have ovv:=(hw.rs 0 rfl).one
  have ofv:=(hw.rs 2 rfl).one
  repeat refine qaa ?_
  refine qbT (v1:=vv) (v2:=fv) rfl rfl rfl (by simp only [List.all_cons,List.all_nil,ovv,ofv];rfl) ?_
  refine qa1 (vs:=[vv,.slice none 0 0,fv]) rfl hw ?_
  clear hw
  intro pp w hw
  repeat refine qaa ?_
  have hw1:Sat w0 w [RdH (DbF t Ls [] []),OS tVal 67 (.slice none 0 0) [],Box pp 66 [vv,.slice none 0 0,fv],OS tInt 3 vv t.vars,RowsAt tInt 3 fs Cs,OS tVal 22 fv fs,Box pt 26 [a,b,c,d]]:=by
   have hw2:Sat w0 w [Box pp 66 [vv,.slice none 0 0,fv],OS tInt 3 vv t.vars,RowsAt tInt 3 fs Cs,OS tVal 22 fv fs,Box pt 26 [a,b,c,d]]:=hw
   have hw3:=Sat.rd0 (φ:=DbF t Ls [] []) (fun w=>⟨rfl,fun i hi=>absurd hi (Nat.not_lt_zero _)⟩) (hw2.nil (T:=tVal) (e:=67))
   exact hw3.sel
  clear hw
  refine qaj [4,5,10,11,12,30,31,32,33,34,35,36,37,38,39,40,41,42,43,44,45,46,47,48,49,50,51,52,53] (G:=Nat × Value × List Value × List (List Int)) (fun x=>[(30,.int .i64 x.1)]) (fun x w=>x.1≤Ls.length∧x.2.2.1.length=x.1∧x.2.2.2.length=x.1∧(∀ i,i<x.1→bErr t (Ls.getD i []) []=0∧DistOk (pEdges t (Ls.getD i [])) (csU t []) (GoalPK t (Ls.getD i [])) (cntL t.vars (Ls.getD i [])).toNat (x.2.2.2.getD i []))∧Sat w0 w [RdH (DbF t Ls x.2.2.1 x.2.2.2),OS tVal 67 x.2.1 x.2.2.1,Box pp 66 [vv,x.2.1,fv],OS tInt 3 vv t.vars,RowsAt tInt 3 fs Cs,OS tVal 22 fv fs,Box pt 26 [a,b,c,d]]) (fun x=>Ls.length-x.1) (0,.slice none 0 0,[],[]) (fun _=>rfl) ⟨rfl,trivial⟩ ⟨Nat.zero_le _,rfl,rfl,fun i hi=>absurd hi (Nat.not_lt_zero _),hw1⟩ ?_
  clear hw1
  rintro σ ⟨k,dv,qs,Ds⟩ w ⟨hk1,hql,hDl,hD,hw⟩
  simp only at hk1 hql hDl hD hw
  repeat refine qaa ?_
  refine go_if (fun h1 => ?_) (fun h1 => ?_)
  ·have hkl:k<Ls.length:=by omega
   have hrk:=hl.at_ k hkl
   repeat refine qaa ?_
   refine qad rfl (qdP (kv:=.slice none 0 0) (vp:=vget ss k) (L:=Ls.getD k []) (cs:=[]) (ht'.at hw) (hrk.at hw) RS.nil) ?_
   rintro _ w' (⟨hb,rfl,hk'⟩|⟨hb,hp,_,_,q,D,rfl,hDk,hk'⟩)
   ·replace hw:=hw.call0 hk'
    clear hk'
    refine⟨_,rfl,?_⟩
    rw [qan hb]
    repeat refine qaa ?_
    exact qaq (v:=.pointer none) (v':=.iface 74 (.int .i64 (bErr t (Ls.getD k []) []))) rfl rfl rfl (.inr (.inl ⟨hce,⟨k,hkl,fun i hi=>(hD i hi).1,hb,by rw [qan hb]⟩,hw.sel⟩))
   ·replace hw:=hw.call1 hk'
    clear hk'
    refine⟨_,rfl,?_⟩
    have hqb:qs.length≤32:=by omega
    repeat (first|refine qaa ?_|(refine qag ?_;clear hw;intro w hw)|(refine qap ?_;clear hw;intro s w hw))
    obtain⟨dv2,hdv2⟩:∃ dv2,dv2=s:=⟨s,rfl⟩
    subst hdv2
    have hw1:Sat w0 w [DbO q (dbI t (Ls.getD k []) D),RdH (DbF t Ls qs Ds),OS tVal 67 dv2 (qs++[.pointer (some q)]),Box pp 66 [vv,dv2,fv],OS tInt 3 vv t.vars,RowsAt tInt 3 fs Cs,OS tVal 22 fv fs,Box pt 26 [a,b,c,d]]:=hw.tail
    have hw3:=Sat.rd2 (χ:=DbF t Ls (qs++[.pointer (some q)]) (Ds++[D])) (fun w h1 h2=>h2.snoc (by rw [hDl];exact h1)) (Sat.rd (Δ:=[DbO q (dbI t (Ls.getD k []) D)]) (φ:=fun w=>RDb w q (dbI t (Ls.getD k []) D)) (fun _ _ h=>satRdb h 0 rfl) hw1)
    refine⟨(k+1,dv2,qs++[.pointer (some q)],Ds++[D]),⟨rfl,trivial⟩,agr,⟨by omega,by simp [hql],by simp [hDl],fun i hi => ?_,hw3.sel⟩,by simp only;omega⟩
    by_cases h:i=k
    ·subst h
     refine⟨hb,?_⟩
     rw [show (Ds++[D]).getD i []=D by simp [List.getD,List.getElem?_append,hDl]]
     exact hDk
    ·have:=hD i (by omega)
     rw [show (Ds++[D]).getD i []=Ds.getD i [] by simp [List.getD,List.getElem?_append,show i<Ds.length by omega]]
     exact this
  ·have hke:k=Ls.length:=by omega
   subst hke
   repeat refine qaa ?_
   have hw1:Sat w0 w [RdH (DbF t Ls qs Ds),OS tVal 67 dv qs,Box pp 66 [vv,dv,fv],OS tInt 3 vv t.vars,RowsAt tInt 3 fs Cs,OS tVal 22 fv fs]:=hw.sel
   have hw2:=Sat.rd (Δ:=[RdH (DbF t Ls qs Ds),OS tVal 67 dv qs,Box pp 66 [vv,dv,fv],OS tInt 3 vv t.vars,RowsAt tInt 3 fs Cs,OS tVal 22 fv fs]) (Γ:=[]) (φ:=fun w=>RCan w pp t Ls Ds Cs) (fun _ w h=>⟨vv,dv,fv,qs,fs,h.boxR 2 rfl,h.rs 3 rfl,h.rs 1 rfl,h.rdE 0 rfl,h.rs 5 rfl,(h.focus 4 rfl).rowsLen,fun i hi=>(h.focus 4 rfl).row hi⟩) hw1
   exact qaq (v:=.pointer (some pp)) (v':=.nilIface) rfl rfl rfl (.inr (.inr ⟨hce,hk,h32,fun i hi=>(hD i hi).1,pp,Ds,Cs,rfl,fun h=>absurd (show Ls.length=0 by rw [h];rfl) (by omega),fun _=>hcl,hcnt,hDl,fun i hi=>(hD i hi).2,hw2⟩))
end Go.Proofs.YtggdgcmjcahbbaaGreatDoor
